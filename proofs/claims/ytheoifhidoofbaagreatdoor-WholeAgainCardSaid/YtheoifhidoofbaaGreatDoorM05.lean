import Derived.Shelf.SlIterI.Nil
import Derived.Shelf.Slices.In.SortNone
import Derived.Test.YtheoifhidoofbaaGreatDoorM04
set_option maxRecDepth 100000
set_option maxHeartbeats 2000000
namespace Go.Cru
open Go Go.Proofs
open Go.Proofs.Tryz renaming prog→P0
def Zx(me n b:Int)(k:DW):Prop:=n<1∨7<n∨me<1∨n<me∨b<1∨k.view<0∨k.normal<0∨k.view<k.normal∨2000<k.log.length
instance (me n b:Int)(k:DW):Decidable (Zx me n b k):=by unfold Zx;infer_instance
def QaQ(me n shard b:Int)(k:DW):CA:=⟨me,n,shard,b,k, !decide (k.view=k.normal),0,0,[],[],[],⟨[],[],[]⟩⟩
abbrev Mm(L:PL)(k:DW)(me n shard f:Int)(g:A_)(h b c d e:Nat)(vs:V_):Mem:=[pool L,sq g k.log.length h 53 1 vs,blk e (.cells (coc (QaQ me n shard f k) (.slice g k.log.length h) b c d (.slice none 0 0) (.slice none 0 0) (.slice none 0 0)).toArray 108 (0,0)),Dm b gI [],Dm c gB [],Dm d gA []]
theorem new_spec(me n shard i:Int)(L:PL)(k:DW)(D:Value)(hlog:EI L D k.log)(hl:k.log.length<=1048576):
  Sp P0 139 [Cs me,Cs n,Cs shard,Cs i,Cs 0,.agg #[Cs k.view,Cs k.normal,D]] [pool L] fun v h=>(Zx me n i k/\v= .tuple #[.pointer none,Cs 1]/\h=[pool L])∨(¬Zx me n i k/\∃p L' S,Le L L'/\v= .tuple #[Cr p,Cs 0]/\h=[cm S (Dr p L' (QaQ me n shard i k)),pool L']):=by
 obtain⟨vs,hns,hps⟩:=hlog.ns
 obtain⟨l,m,rfl,F,G⟩:=hlog.sh
 have hvl:=hns.1
 refine Sq Tryz.func139 fun w0 b_=>?_
 refine OA 2 ?_
 refine O6 YR fun E=>?_
 refine OA 5 ?_
 refine CQ 55 (Zx me n i k) ?_ ?_
 ·refine OA 4 ?_
  refine CJ 16 rfl (fun r=>?_) (fun r=>?_)
  ·refine OA 40 ?_
   exact EW rfl (by unfold Zx;first|exact congrArg Value.bool (AG (by omega)).symm|exact congrArg Value.bool (AN.2 (by omega)))
  refine OA 4 ?_
  refine CJ 20 rfl (fun s=>?_) (fun s=>?_)
  ·refine OA 36 ?_
   exact EW rfl (by unfold Zx;first|exact congrArg Value.bool (AG (by omega)).symm|exact congrArg Value.bool (AN.2 (by omega)))
  refine OA 4 ?_
  refine CJ 24 rfl (fun t=>?_) (fun t=>?_)
  ·refine OA 32 ?_
   exact EW rfl (by unfold Zx;first|exact congrArg Value.bool (AG (by omega)).symm|exact congrArg Value.bool (AN.2 (by omega)))
  refine OA 5 ?_
  refine CJ 29 rfl (fun u=>?_) (fun u=>?_)
  ·refine OA 27 ?_
   exact EW rfl (by unfold Zx;first|exact congrArg Value.bool (AG (by omega)).symm|exact congrArg Value.bool (AN.2 (by omega)))
  refine OA 4 ?_
  refine CJ 33 rfl (fun w=>?_) (fun w=>?_)
  ·refine OA 23 ?_
   exact EW rfl (by unfold Zx;first|exact congrArg Value.bool (AG (by omega)).symm|exact congrArg Value.bool (AN.2 (by omega)))
  refine OA 5 ?_
  refine CJ 38 rfl (fun x=>?_) (fun x=>?_)
  ·refine OA 18 ?_
   exact EW rfl (by unfold Zx;first|exact congrArg Value.bool (AG (by omega)).symm|exact congrArg Value.bool (AN.2 (by omega)))
  refine OA 5 ?_
  refine CJ 43 rfl (fun y=>?_) (fun y=>?_)
  ·refine OA 13 ?_
   exact EW rfl (by unfold Zx;first|exact congrArg Value.bool (AG (by omega)).symm|exact congrArg Value.bool (AN.2 (by omega)))
  refine OA 7 ?_
  refine CJ 50 rfl (fun B=>?_) (fun B=>?_)
  ·refine OA 6 ?_
   exact EW rfl (by unfold Zx;first|exact congrArg Value.bool (AG (by omega)).symm|exact congrArg Value.bool (AN.2 (by omega)))
  refine OA 6 ?_
  exact EW rfl (by unfold Zx;first|exact congrArg Value.bool (AG (by omega)).symm|exact congrArg Value.bool (AN.2 (by omega)))
 refine Cy rfl (fun o=>?_) (fun o=>?_)
 ·refine OA 5 ?_
  exact Cu (Dq rfl rfl rfl (Ax _ (An _)) (.inl ⟨o,rfl,rfl⟩))
 refine OA 2 ?_
 refine CP (fun((c,d,e,b,f,g):Nat×Nat×Nat×Nat×A_×Nat)=>[(12,Cr b),(13,Cs 0)]) (fun(c,d,e,b,f,g)=>(Mm L k me n shard i f g c d e b vs)) (fun _=>True) ?_ ?_
 ·refine Cw (.s (.t .d)) rfl (fun j=>false) ?_
  intro H
  refine DA [0,1,2,3,4,5,6,7,8,9,10,13,14,15,16,17] ?_
  refine Da4 11 18 19 20 ?_ ?_ ?_ ?_
  ·refine DB rfl rfl (en 96) rfl (.p0 .d) (CV l k.log.length m vs _ (Reads.pool hps) (by omega) hns.sh (by omega)) ?_
   rintro _ _ ⟨f,g,rfl,rfl⟩
   refine ys (D1 12 rfl (Xb bt42.h) ?_)
   refine Da3 18 19 20 ?_ ?_ ?_
   ·refine D6 rfl (YS gI) ?_
    rintro _ _ ⟨c,rfl,rfl⟩
    refine ys (Jy 19 20 ?_ ?_)
    ·refine D6 rfl (YS gB) ?_
     rintro _ _ ⟨d,rfl,rfl⟩
     refine ys (Da 20 ?_)
     refine D6 rfl (YS gA) ?_
     rintro _ _ ⟨e,rfl,rfl⟩
     refine ys (D1 21 rfl (Xb bt108.h) ?_)
     refine Da 22 ?_
     refine D6 rfl YR ?_
     rintro _ _ ⟨b,rfl,rfl⟩
     refine ys (DA [23,24] ?_)
     refine Dp (Cv.to (Mm L k me n shard i f g c d e b vs)) ?_;rintro _ rfl
     refine D0 ?_
     exact⟨(c,d,e,b,f,g),trivial,Sb2,.refl _⟩
    refine D6 rfl (YS gA) ?_
    rintro _ _ ⟨e,rfl,rfl⟩
    refine ys (Da 19 ?_)
    refine D6 rfl (YS gB) ?_
    rintro _ _ ⟨d,rfl,rfl⟩
    refine ys (D1 21 rfl (Xb bt108.h) ?_)
    refine Da 22 ?_
    refine D6 rfl YR ?_
    rintro _ _ ⟨b,rfl,rfl⟩
    refine ys (DA [23,24] ?_)
    refine Dp (Cv.to (Mm L k me n shard i f g c d e b vs)) ?_;rintro _ rfl
    refine D0 ?_
    exact⟨(c,d,e,b,f,g),trivial,Sb2,.refl _⟩
   ·refine D6 rfl (YS gB) ?_
    rintro _ _ ⟨d,rfl,rfl⟩
    refine ys (Jy 18 20 ?_ ?_)
    ·refine D6 rfl (YS gI) ?_
     rintro _ _ ⟨c,rfl,rfl⟩
     refine ys (Da 20 ?_)
     refine D6 rfl (YS gA) ?_
     rintro _ _ ⟨e,rfl,rfl⟩
     refine ys (D1 21 rfl (Xb bt108.h) ?_)
     refine Da 22 ?_
     refine D6 rfl YR ?_
     rintro _ _ ⟨b,rfl,rfl⟩
     refine ys (DA [23,24] ?_)
     refine Dp (Cv.to (Mm L k me n shard i f g c d e b vs)) ?_;rintro _ rfl
     refine D0 ?_
     exact⟨(c,d,e,b,f,g),trivial,Sb2,.refl _⟩
    refine D6 rfl (YS gA) ?_
    rintro _ _ ⟨e,rfl,rfl⟩
    refine ys (Da 18 ?_)
    refine D6 rfl (YS gI) ?_
    rintro _ _ ⟨c,rfl,rfl⟩
    refine ys (D1 21 rfl (Xb bt108.h) ?_)
    refine Da 22 ?_
    refine D6 rfl YR ?_
    rintro _ _ ⟨b,rfl,rfl⟩
    refine ys (DA [23,24] ?_)
    refine Dp (Cv.to (Mm L k me n shard i f g c d e b vs)) ?_;rintro _ rfl
    refine D0 ?_
    exact⟨(c,d,e,b,f,g),trivial,Sb2,.refl _⟩
   refine D6 rfl (YS gA) ?_
   rintro _ _ ⟨e,rfl,rfl⟩
   refine ys (Jy 18 19 ?_ ?_)
   ·refine D6 rfl (YS gI) ?_
    rintro _ _ ⟨c,rfl,rfl⟩
    refine ys (Da 19 ?_)
    refine D6 rfl (YS gB) ?_
    rintro _ _ ⟨d,rfl,rfl⟩
    refine ys (D1 21 rfl (Xb bt108.h) ?_)
    refine Da 22 ?_
    refine D6 rfl YR ?_
    rintro _ _ ⟨b,rfl,rfl⟩
    refine ys (DA [23,24] ?_)
    refine Dp (Cv.to (Mm L k me n shard i f g c d e b vs)) ?_;rintro _ rfl
    refine D0 ?_
    exact⟨(c,d,e,b,f,g),trivial,Sb2,.refl _⟩
   refine D6 rfl (YS gB) ?_
   rintro _ _ ⟨d,rfl,rfl⟩
   refine ys (Da 18 ?_)
   refine D6 rfl (YS gI) ?_
   rintro _ _ ⟨c,rfl,rfl⟩
   refine ys (D1 21 rfl (Xb bt108.h) ?_)
   refine Da 22 ?_
   refine D6 rfl YR ?_
   rintro _ _ ⟨b,rfl,rfl⟩
   refine ys (DA [23,24] ?_)
   refine Dp (Cv.to (Mm L k me n shard i f g c d e b vs)) ?_;rintro _ rfl
   refine D0 ?_
   exact⟨(c,d,e,b,f,g),trivial,Sb2,.refl _⟩
  ·refine D6 rfl (YS gI) ?_
   rintro _ _ ⟨c,rfl,rfl⟩
   refine ys (Da3 11 19 20 ?_ ?_ ?_)
   ·refine DB rfl rfl (en 96) rfl (.p0 .d) (CV l k.log.length m vs _ (Reads.pool hps) (by omega) hns.sh (by omega)) ?_
    rintro _ _ ⟨f,g,rfl,rfl⟩
    refine ys (D1 12 rfl (Xb bt42.h) ?_)
    refine Jy 19 20 ?_ ?_
    ·refine D6 rfl (YS gB) ?_
     rintro _ _ ⟨d,rfl,rfl⟩
     refine ys (Da 20 ?_)
     refine D6 rfl (YS gA) ?_
     rintro _ _ ⟨e,rfl,rfl⟩
     refine ys (D1 21 rfl (Xb bt108.h) ?_)
     refine Da 22 ?_
     refine D6 rfl YR ?_
     rintro _ _ ⟨b,rfl,rfl⟩
     refine ys (DA [23,24] ?_)
     refine Dp (Cv.to (Mm L k me n shard i f g c d e b vs)) ?_;rintro _ rfl
     refine D0 ?_
     exact⟨(c,d,e,b,f,g),trivial,Sb2,.refl _⟩
    refine D6 rfl (YS gA) ?_
    rintro _ _ ⟨e,rfl,rfl⟩
    refine ys (Da 19 ?_)
    refine D6 rfl (YS gB) ?_
    rintro _ _ ⟨d,rfl,rfl⟩
    refine ys (D1 21 rfl (Xb bt108.h) ?_)
    refine Da 22 ?_
    refine D6 rfl YR ?_
    rintro _ _ ⟨b,rfl,rfl⟩
    refine ys (DA [23,24] ?_)
    refine Dp (Cv.to (Mm L k me n shard i f g c d e b vs)) ?_;rintro _ rfl
    refine D0 ?_
    exact⟨(c,d,e,b,f,g),trivial,Sb2,.refl _⟩
   ·refine D6 rfl (YS gB) ?_
    rintro _ _ ⟨d,rfl,rfl⟩
    refine ys (Jy 11 20 ?_ ?_)
    ·refine DB rfl rfl (en 96) rfl (.p0 .d) (CV l k.log.length m vs _ (Reads.pool hps) (by omega) hns.sh (by omega)) ?_
     rintro _ _ ⟨f,g,rfl,rfl⟩
     refine ys (D1 12 rfl (Xb bt42.h) ?_)
     refine Da 20 ?_
     refine D6 rfl (YS gA) ?_
     rintro _ _ ⟨e,rfl,rfl⟩
     refine ys (D1 21 rfl (Xb bt108.h) ?_)
     refine Da 22 ?_
     refine D6 rfl YR ?_
     rintro _ _ ⟨b,rfl,rfl⟩
     refine ys (DA [23,24] ?_)
     refine Dp (Cv.to (Mm L k me n shard i f g c d e b vs)) ?_;rintro _ rfl
     refine D0 ?_
     exact⟨(c,d,e,b,f,g),trivial,Sb2,.refl _⟩
    refine D6 rfl (YS gA) ?_
    rintro _ _ ⟨e,rfl,rfl⟩
    refine ys (Da 11 ?_)
    refine DB rfl rfl (en 96) rfl (.p0 .d) (CV l k.log.length m vs _ (Reads.pool hps) (by omega) hns.sh (by omega)) ?_
    rintro _ _ ⟨f,g,rfl,rfl⟩
    refine ys (DA [12,21] ?_)
    refine Da 22 ?_
    refine D6 rfl YR ?_
    rintro _ _ ⟨b,rfl,rfl⟩
    refine ys (DA [23,24] ?_)
    refine Dp (Cv.to (Mm L k me n shard i f g c d e b vs)) ?_;rintro _ rfl
    refine D0 ?_
    exact⟨(c,d,e,b,f,g),trivial,Sb2,.refl _⟩
   refine D6 rfl (YS gA) ?_
   rintro _ _ ⟨e,rfl,rfl⟩
   refine ys (Jy 11 19 ?_ ?_)
   ·refine DB rfl rfl (en 96) rfl (.p0 .d) (CV l k.log.length m vs _ (Reads.pool hps) (by omega) hns.sh (by omega)) ?_
    rintro _ _ ⟨f,g,rfl,rfl⟩
    refine ys (D1 12 rfl (Xb bt42.h) ?_)
    refine Da 19 ?_
    refine D6 rfl (YS gB) ?_
    rintro _ _ ⟨d,rfl,rfl⟩
    refine ys (D1 21 rfl (Xb bt108.h) ?_)
    refine Da 22 ?_
    refine D6 rfl YR ?_
    rintro _ _ ⟨b,rfl,rfl⟩
    refine ys (DA [23,24] ?_)
    refine Dp (Cv.to (Mm L k me n shard i f g c d e b vs)) ?_;rintro _ rfl
    refine D0 ?_
    exact⟨(c,d,e,b,f,g),trivial,Sb2,.refl _⟩
   refine D6 rfl (YS gB) ?_
   rintro _ _ ⟨d,rfl,rfl⟩
   refine ys (Da 11 ?_)
   refine DB rfl rfl (en 96) rfl (.p0 .d) (CV l k.log.length m vs _ (Reads.pool hps) (by omega) hns.sh (by omega)) ?_
   rintro _ _ ⟨f,g,rfl,rfl⟩
   refine ys (DA [12,21] ?_)
   refine Da 22 ?_
   refine D6 rfl YR ?_
   rintro _ _ ⟨b,rfl,rfl⟩
   refine ys (DA [23,24] ?_)
   refine Dp (Cv.to (Mm L k me n shard i f g c d e b vs)) ?_;rintro _ rfl
   refine D0 ?_
   exact⟨(c,d,e,b,f,g),trivial,Sb2,.refl _⟩
  ·refine D6 rfl (YS gB) ?_
   rintro _ _ ⟨d,rfl,rfl⟩
   refine ys (Da3 11 18 20 ?_ ?_ ?_)
   ·refine DB rfl rfl (en 96) rfl (.p0 .d) (CV l k.log.length m vs _ (Reads.pool hps) (by omega) hns.sh (by omega)) ?_
    rintro _ _ ⟨f,g,rfl,rfl⟩
    refine ys (D1 12 rfl (Xb bt42.h) ?_)
    refine Jy 18 20 ?_ ?_
    ·refine D6 rfl (YS gI) ?_
     rintro _ _ ⟨c,rfl,rfl⟩
     refine ys (Da 20 ?_)
     refine D6 rfl (YS gA) ?_
     rintro _ _ ⟨e,rfl,rfl⟩
     refine ys (D1 21 rfl (Xb bt108.h) ?_)
     refine Da 22 ?_
     refine D6 rfl YR ?_
     rintro _ _ ⟨b,rfl,rfl⟩
     refine ys (DA [23,24] ?_)
     refine Dp (Cv.to (Mm L k me n shard i f g c d e b vs)) ?_;rintro _ rfl
     refine D0 ?_
     exact⟨(c,d,e,b,f,g),trivial,Sb2,.refl _⟩
    refine D6 rfl (YS gA) ?_
    rintro _ _ ⟨e,rfl,rfl⟩
    refine ys (Da 18 ?_)
    refine D6 rfl (YS gI) ?_
    rintro _ _ ⟨c,rfl,rfl⟩
    refine ys (D1 21 rfl (Xb bt108.h) ?_)
    refine Da 22 ?_
    refine D6 rfl YR ?_
    rintro _ _ ⟨b,rfl,rfl⟩
    refine ys (DA [23,24] ?_)
    refine Dp (Cv.to (Mm L k me n shard i f g c d e b vs)) ?_;rintro _ rfl
    refine D0 ?_
    exact⟨(c,d,e,b,f,g),trivial,Sb2,.refl _⟩
   ·refine D6 rfl (YS gI) ?_
    rintro _ _ ⟨c,rfl,rfl⟩
    refine ys (Jy 11 20 ?_ ?_)
    ·refine DB rfl rfl (en 96) rfl (.p0 .d) (CV l k.log.length m vs _ (Reads.pool hps) (by omega) hns.sh (by omega)) ?_
     rintro _ _ ⟨f,g,rfl,rfl⟩
     refine ys (D1 12 rfl (Xb bt42.h) ?_)
     refine Da 20 ?_
     refine D6 rfl (YS gA) ?_
     rintro _ _ ⟨e,rfl,rfl⟩
     refine ys (D1 21 rfl (Xb bt108.h) ?_)
     refine Da 22 ?_
     refine D6 rfl YR ?_
     rintro _ _ ⟨b,rfl,rfl⟩
     refine ys (DA [23,24] ?_)
     refine Dp (Cv.to (Mm L k me n shard i f g c d e b vs)) ?_;rintro _ rfl
     refine D0 ?_
     exact⟨(c,d,e,b,f,g),trivial,Sb2,.refl _⟩
    refine D6 rfl (YS gA) ?_
    rintro _ _ ⟨e,rfl,rfl⟩
    refine ys (Da 11 ?_)
    refine DB rfl rfl (en 96) rfl (.p0 .d) (CV l k.log.length m vs _ (Reads.pool hps) (by omega) hns.sh (by omega)) ?_
    rintro _ _ ⟨f,g,rfl,rfl⟩
    refine ys (DA [12,21] ?_)
    refine Da 22 ?_
    refine D6 rfl YR ?_
    rintro _ _ ⟨b,rfl,rfl⟩
    refine ys (DA [23,24] ?_)
    refine Dp (Cv.to (Mm L k me n shard i f g c d e b vs)) ?_;rintro _ rfl
    refine D0 ?_
    exact⟨(c,d,e,b,f,g),trivial,Sb2,.refl _⟩
   refine D6 rfl (YS gA) ?_
   rintro _ _ ⟨e,rfl,rfl⟩
   refine ys (Jy 11 18 ?_ ?_)
   ·refine DB rfl rfl (en 96) rfl (.p0 .d) (CV l k.log.length m vs _ (Reads.pool hps) (by omega) hns.sh (by omega)) ?_
    rintro _ _ ⟨f,g,rfl,rfl⟩
    refine ys (D1 12 rfl (Xb bt42.h) ?_)
    refine Da 18 ?_
    refine D6 rfl (YS gI) ?_
    rintro _ _ ⟨c,rfl,rfl⟩
    refine ys (D1 21 rfl (Xb bt108.h) ?_)
    refine Da 22 ?_
    refine D6 rfl YR ?_
    rintro _ _ ⟨b,rfl,rfl⟩
    refine ys (DA [23,24] ?_)
    refine Dp (Cv.to (Mm L k me n shard i f g c d e b vs)) ?_;rintro _ rfl
    refine D0 ?_
    exact⟨(c,d,e,b,f,g),trivial,Sb2,.refl _⟩
   refine D6 rfl (YS gI) ?_
   rintro _ _ ⟨c,rfl,rfl⟩
   refine ys (Da 11 ?_)
   refine DB rfl rfl (en 96) rfl (.p0 .d) (CV l k.log.length m vs _ (Reads.pool hps) (by omega) hns.sh (by omega)) ?_
   rintro _ _ ⟨f,g,rfl,rfl⟩
   refine ys (DA [12,21] ?_)
   refine Da 22 ?_
   refine D6 rfl YR ?_
   rintro _ _ ⟨b,rfl,rfl⟩
   refine ys (DA [23,24] ?_)
   refine Dp (Cv.to (Mm L k me n shard i f g c d e b vs)) ?_;rintro _ rfl
   refine D0 ?_
   exact⟨(c,d,e,b,f,g),trivial,Sb2,.refl _⟩
  refine D6 rfl (YS gA) ?_
  rintro _ _ ⟨e,rfl,rfl⟩
  refine ys (Da3 11 18 19 ?_ ?_ ?_)
  ·refine DB rfl rfl (en 96) rfl (.p0 .d) (CV l k.log.length m vs _ (Reads.pool hps) (by omega) hns.sh (by omega)) ?_
   rintro _ _ ⟨f,g,rfl,rfl⟩
   refine ys (D1 12 rfl (Xb bt42.h) ?_)
   refine Jy 18 19 ?_ ?_
   ·refine D6 rfl (YS gI) ?_
    rintro _ _ ⟨c,rfl,rfl⟩
    refine ys (Da 19 ?_)
    refine D6 rfl (YS gB) ?_
    rintro _ _ ⟨d,rfl,rfl⟩
    refine ys (D1 21 rfl (Xb bt108.h) ?_)
    refine Da 22 ?_
    refine D6 rfl YR ?_
    rintro _ _ ⟨b,rfl,rfl⟩
    refine ys (DA [23,24] ?_)
    refine Dp (Cv.to (Mm L k me n shard i f g c d e b vs)) ?_;rintro _ rfl
    refine D0 ?_
    exact⟨(c,d,e,b,f,g),trivial,Sb2,.refl _⟩
   refine D6 rfl (YS gB) ?_
   rintro _ _ ⟨d,rfl,rfl⟩
   refine ys (Da 18 ?_)
   refine D6 rfl (YS gI) ?_
   rintro _ _ ⟨c,rfl,rfl⟩
   refine ys (D1 21 rfl (Xb bt108.h) ?_)
   refine Da 22 ?_
   refine D6 rfl YR ?_
   rintro _ _ ⟨b,rfl,rfl⟩
   refine ys (DA [23,24] ?_)
   refine Dp (Cv.to (Mm L k me n shard i f g c d e b vs)) ?_;rintro _ rfl
   refine D0 ?_
   exact⟨(c,d,e,b,f,g),trivial,Sb2,.refl _⟩
  ·refine D6 rfl (YS gI) ?_
   rintro _ _ ⟨c,rfl,rfl⟩
   refine ys (Jy 11 19 ?_ ?_)
   ·refine DB rfl rfl (en 96) rfl (.p0 .d) (CV l k.log.length m vs _ (Reads.pool hps) (by omega) hns.sh (by omega)) ?_
    rintro _ _ ⟨f,g,rfl,rfl⟩
    refine ys (D1 12 rfl (Xb bt42.h) ?_)
    refine Da 19 ?_
    refine D6 rfl (YS gB) ?_
    rintro _ _ ⟨d,rfl,rfl⟩
    refine ys (D1 21 rfl (Xb bt108.h) ?_)
    refine Da 22 ?_
    refine D6 rfl YR ?_
    rintro _ _ ⟨b,rfl,rfl⟩
    refine ys (DA [23,24] ?_)
    refine Dp (Cv.to (Mm L k me n shard i f g c d e b vs)) ?_;rintro _ rfl
    refine D0 ?_
    exact⟨(c,d,e,b,f,g),trivial,Sb2,.refl _⟩
   refine D6 rfl (YS gB) ?_
   rintro _ _ ⟨d,rfl,rfl⟩
   refine ys (Da 11 ?_)
   refine DB rfl rfl (en 96) rfl (.p0 .d) (CV l k.log.length m vs _ (Reads.pool hps) (by omega) hns.sh (by omega)) ?_
   rintro _ _ ⟨f,g,rfl,rfl⟩
   refine ys (DA [12,21] ?_)
   refine Da 22 ?_
   refine D6 rfl YR ?_
   rintro _ _ ⟨b,rfl,rfl⟩
   refine ys (DA [23,24] ?_)
   refine Dp (Cv.to (Mm L k me n shard i f g c d e b vs)) ?_;rintro _ rfl
   refine D0 ?_
   exact⟨(c,d,e,b,f,g),trivial,Sb2,.refl _⟩
  refine D6 rfl (YS gB) ?_
  rintro _ _ ⟨d,rfl,rfl⟩
  refine ys (Jy 11 18 ?_ ?_)
  ·refine DB rfl rfl (en 96) rfl (.p0 .d) (CV l k.log.length m vs _ (Reads.pool hps) (by omega) hns.sh (by omega)) ?_
   rintro _ _ ⟨f,g,rfl,rfl⟩
   refine ys (D1 12 rfl (Xb bt42.h) ?_)
   refine Da 18 ?_
   refine D6 rfl (YS gI) ?_
   rintro _ _ ⟨c,rfl,rfl⟩
   refine ys (D1 21 rfl (Xb bt108.h) ?_)
   refine Da 22 ?_
   refine D6 rfl YR ?_
   rintro _ _ ⟨b,rfl,rfl⟩
   refine ys (DA [23,24] ?_)
   refine Dp (Cv.to (Mm L k me n shard i f g c d e b vs)) ?_;rintro _ rfl
   refine D0 ?_
   exact⟨(c,d,e,b,f,g),trivial,Sb2,.refl _⟩
  refine D6 rfl (YS gI) ?_
  rintro _ _ ⟨c,rfl,rfl⟩
  refine ys (Da 11 ?_)
  refine DB rfl rfl (en 96) rfl (.p0 .d) (CV l k.log.length m vs _ (Reads.pool hps) (by omega) hns.sh (by omega)) ?_
  rintro _ _ ⟨f,g,rfl,rfl⟩
  refine ys (DA [12,21] ?_)
  refine Da 22 ?_
  refine D6 rfl YR ?_
  rintro _ _ ⟨b,rfl,rfl⟩
  refine ys (DA [23,24] ?_)
  refine Dp (Cv.to (Mm L k me n shard i f g c d e b vs)) ?_;rintro _ rfl
  refine D0 ?_
  exact⟨(c,d,e,b,f,g),trivial,Sb2,.refl _⟩
 rintro⟨c,d,e,b,f,g⟩ -
 refine Cx (Zg (.p0 (.p0 .d))) ?_
 rintro _ ⟨L2,q,C,rfl⟩
 refine Tp (.t0 (.t0 (.t0 (.t0 (.n (T:=119) (sz:=4) (.n (T:=138) (sz:=12) (.n (T:=53) (sz:=1) (.t0 .e)))))))) (Ti (Zb (.p0 (.p0 (.p0 (.p0 (.p0 (.p0 (.p0 .d))))))) (A:=Dr b L2 (QaQ me n shard i k)) ⟨f,none,none,none,g,0,0,0,c,d,e,[],[],[],[],rfl,EI.of C rfl (hns.le q),.nil,.nil,Dz.nil _,.nil⟩) (Tp (.t1 (.t0 .e)) ?_))
 exact Cu (Dq rfl rfl rfl (.refl _) (.inr ⟨o,b,L2,_,q,rfl,rfl⟩))
theorem FO(p:Nat)(S:N_)(L:PL)(c:CA)(b:Nat)(hf:c.Fit b):
  Sp P0 10 [Cr p] [cm S (Dr p L c),pool L] fun v h=>∃L' y w,Le L L'/\EI L' w c.keep.log/\v= .agg #[Cs c.keep.view,Cs c.keep.normal,w]/\h=[cm y (Dr p L' c),pool L']:=by
 have hll:=hf.log;have hle:=hf.entry
 refine Sq Tryz.func10 fun w0 b_=>?_
 refine Cx (Cv.op (.p0 .d)) ?_
 rintro _ ⟨_,⟨t,Q,O,I,u,R,P,K,hb,F,J,s,mcs,l,al,rfl,hlog,hrc,n,hdn,hdo⟩,rfl⟩
 obtain⟨vs,hns,hps⟩:=hlog.ns
 have hvl:=hns.1
 refine OA 2 ?_
 refine O6 (YQ Ve) fun b2=>?_
 refine OA 10 ?_
 refine Cw (.s (.t .d)) rfl (fun j=>Nat.beq j 12) ?_
 intro r
 refine DA [0,1,2,3,4,5,6,7,8,9,10] ?_
 refine Da 11 ?_
 refine D6 rfl (YQ Ve) ?_
 rintro _ _ ⟨b3,rfl,rfl⟩
 refine ys (Da 12 ?_)
 refine D8 rfl YO ?_
 refine OA 12 ?_
 refine Tx (YL (.p1 (.p1 (.p1 (.p1 (.p1 (.p1 (.p1 .d))))))) (A:=Dr p L c) ⟨t,Q,O,I,u,R,P,K,hb,F,J,s,mcs,l,al,rfl,hlog,hrc,n,hdn,hdo⟩) fun C=>Tp (.t0 (.t0 (.t0 (.n (T:=53) (sz:=1) (.t0 .e))))) (Tb (CD (fun((i,L2,oa,oc,d):Nat×PL×A_×Nat×V_)=>[(0,Cr p),(2,Cr b2),(3,Cr b3),(24,.slice t c.keep.log.length u),(25,Cs c.keep.log.length),(26,Cs i)]) (fun(i,L2,oa,oc,d)=>[pool L2,blk b2 (.cells #[Cs 0,Cs 0,.slice none 0 0] 42 (0,0)),blk b3 (.cells #[Cs c.keep.view,Cs c.keep.normal,.slice oa d.length oc] 42 (0,0)),sq oa d.length oc 53 1 d,cm C (Dr p L c)]) (fun(i,L2,oa,oc,d)=>Le L L2/\i<=c.keep.log.length/\d.length=i/\Dz L2 d (c.keep.log.take i)) (fun(i,_)=>c.keep.log.length-i) (0,L,none,0,[]) ?_ ?_))
 ·exact⟨⟨.refl _,Af _,rfl,Dz.nil _⟩,Sb6,.refl _⟩
 rintro⟨i,L2,oa,oc,d⟩ ⟨hL,hi,o,ho⟩
 conv=>arg 7;dsimp only
 conv=>arg 8;dsimp only
 refine OA 5 ?_
 refine Cy rfl (fun k=>?_) (fun k=>?_)
 ·obtain⟨x,hx⟩:∃x,c.keep.log[i]? =some x:=⟨_,Ae (by omega)⟩
  obtain⟨E,G,hv,hB,M⟩:=(hns.le hL).at hx
  have hxl:=hle x (Aj hx)
  refine CM at0 (Reads.pool (hps.le hL)) hv fun ad m=>?_
  subst m
  refine OA 5 ?_
  refine O1 (GO (i) u40) ?_
  refine O1 (Ct.reads (j:=i) rfl rfl at0 (Reads.pool (hps.le hL)) u53 rfl hv) ?_
  refine OA 2 ?_
  refine Cw (.s2 (.t .d)) rfl (fun j=>Nat.beq j 7) ?_
  intro r
  refine DA [0,1,2] ?_
  refine Da 3 ?_
  refine DB rfl rfl (en 36) rfl (.p0 .d) (Gd E x.length G (x.map u8) _ (Reads.pool hB.1) (by simp) (EU _) (by omega)) ?_
  rintro _ _ ⟨a2,c2,rfl,rfl⟩
  refine ys (Da 4 ?_)
  refine D6 rfl (YY u40) ?_
  rintro _ _ ⟨D,rfl,rfl⟩
  refine ys (Da 5 ?_)
  refine D6 rfl (LO.app (ao:=oa) KR) ?_
  rintro _ _ ⟨a3,H,rfl,rfl⟩
  refine ys (D1 6 rfl (Ct.fld 2 2 2 u42) ?_)
  refine Da 7 ?_
  refine D8 rfl YO ?_
  refine D0 (Cx (Zg (.p4 (.p4 .d))) ?_)
  rintro _ ⟨f,e,g,rfl⟩
  have hB2:Bs f (.slice a2 x.length c2) x:=⟨g,hB.2⟩
  rw[show d.length+1=(d++[Value.slice a2 x.length c2]).length from by rw[Ac];rfl]
  refine Tp (.t5 (.t0 (.t0 (.t0 (.t0 .e))))) (OA 4 ?_)
  exact⟨(i+1,f,a3,H,d++[.slice a2 x.length c2]),⟨⟨hL.trans e,by omega,by rw[Ac,o];rfl,by rw[Dg hx];exact(ho.le e).snoc hB2⟩,Sb6,.refl _⟩,by simp only;omega⟩
 have N:i=c.keep.log.length:=by omega
 rw[AU (by omega)]at ho
 refine OA 6 ?_
 refine Cx (Zg (.p0 (.p2 .d))) ?_
 rintro _ ⟨f,e,q,rfl⟩
 refine Ti (Cv.up (B:=Dr p f c) s2 (Dr.le (hL.trans e))) (Tp (.t2 (.t2 (.t0 .e))) ?_)
 exact Cu (Em u42 (Ax _ (Ax _ (An _))) ⟨f,_,_,hL.trans e,EI.of q (by omega) (ho.le e),rfl,rfl⟩)
section
theorem Jb{β:Type}(k:Int):∀al:List (Int×β),(∃v,alk k al=some v)↔k∈al.map (·.1)
 |[]=>by simp[alk]
 |p::l=>by
  unfold alk
  by_cases h:p.1=k
  ·simp[h]
  ·simp only[h,if_false,List.map_cons,List.mem_cons,Jb k l,Ne.symm h,false_or]
theorem KN.nodup{β:Type}:∀ {al:List (Int×β)},KN al->(al.map (·.1)).Nodup
 |[],_=>.nil
 |p::l,h=>List.nodup_cons.2 ⟨fun hm=>(by obtain⟨v,hv⟩:=(Jb p.1 l).2 hm;rw[h.1]at hv;cases hv),KN.nodup h.2⟩
def Qr:Value->Int
 |.int _ k=>k
 |_=>0
theorem WQ{β:Type}{g:β->Value}{al:List (Int×β)}(hn:KN al){b:List MapEntry}(hm:Mp (GB .i64) b fun k=>(alk k al).map g):(b.map fun e=>Qr e.key).Perm (al.map (·.1)):=by
 have hk:∀e∈b,e.key=GB .i64 (Qr e.key):=fun e he=>by obtain⟨k,h⟩:=hm.1 e he;rw[h];rfl
 refine(List.perm_ext_iff_of_nodup ?_ hn.nodup).2 fun x=>?_
 ·refine List.pairwise_map.2 (hm.2.1.imp_of_mem fun {p q} hp hq hne e=>hne ?_)
  rw[hk p hp,hk q hq,e]
 ·rw[<-Jb,AZ]
  constructor
  ·rintro⟨e,he,rfl⟩
   have:(alk (Qr e.key) al).map g=some e.val:=(hm.2.2 (Qr e.key) e.val).2 ⟨e,he,hk e he,rfl⟩
   cases h:alk (Qr e.key) al with
   |none=>rw[h]at this;cases this
   |some v=>exact⟨v,rfl⟩
  ·rintro⟨v,hv⟩
   obtain⟨e,he,h1,_⟩:=(hm.2.2 x (g v)).1 (show(alk x al).map g=some (g v) by rw[hv];rfl)
   exact⟨e,he,by rw[h1];rfl⟩
theorem CX.belowB{w0 w w':World}{b_:N_}{h:Mem}(o:CX w0 b_ h w)(hb:Go.RowKit.Below w.heap.size w w'):CX w0 b_ h w':=by
 have hlt:=o.lt
 exact⟨hb.os.trans o.os,hb.tape.trans o.tape,hb.output.trans o.output,AA o.size hb.size,fun k hk b=>by rw[hb.block k (Nat.lt_of_lt_of_le hk o.size)];exact o.old k hk b,
  fun s hs=>s.loc _ _ (fun i hi=>hb.block i (hlt s hs i hi)) (o.mine s hs),o.nd,o.fr⟩
open Go.Cru Go.Deep Go.Shelf Go.Maps Go.RowKit Go.Sort
def Vk:Go.Shelf.Ren:={f:=fun x=>match x with|7=>170|10=>210|n=>n,t:=fun x=>match x with|23=>272|26=>3|3=>201|28=>270|0=>0|27=>269|33=>234|4=>4|n=>n,g:=fun x=>x}
theorem zk:Go.Proofs.SlLaysZI.n7 P0 Vk:=
{mixed:=rfl,f7:=⟨Tryz.f170.name,by kernel_rfl,Tryz.func170⟩,f10:=⟨Tryz.f210.name,by kernel_rfl,Tryz.func210⟩,
 t0:=u0,a0:=Tryz.isAgg0,z0:=Tryz.sizeOf0,v0:=Tryz.zeroValue0,t4:=u4,a4:=Tryz.isAgg4,z4:=Tryz.sizeOf4,v4:=Tryz.zeroValue4,t23:=u272,a23:=Tryz.isAgg272,
 z23:=Tryz.sizeOf272,v23:=Tryz.zeroValue272,t26:=u3,a26:=Tryz.isAgg3,z26:=Tryz.sizeOf3,v26:=Tryz.zeroValue3,t27:=u269,a27:=Tryz.isAgg269,z27:=Tryz.sizeOf269,
 v27:=Tryz.zeroValue269,t28:=u270,a28:=Tryz.isAgg270,z28:=Tryz.sizeOf270,v28:=Tryz.zeroValue270,t33:=u234,a33:=Tryz.isAgg234,z33:=Tryz.sizeOf234,v33:=Tryz.zeroValue234}
def VB:Go.Shelf.Ren:={f:=fun x=>match x with|6=>169|8=>209|9=>164|11=>247|n=>n,t:=fun x=>match x with|26=>3|28=>270|24=>28|0=>0|33=>234|4=>4|n=>n,g:=fun x=>x}
theorem zs:Go.Proofs.SlLaysZI.n6 P0 VB:=
{mixed:=rfl,f6:=⟨Tryz.f169.name,by kernel_rfl,Tryz.func169⟩,f8:=⟨Tryz.f209.name,by kernel_rfl,Tryz.func209⟩,f11:=⟨Tryz.f247.name,by kernel_rfl,Tryz.func247⟩,
 t0:=u0,a0:=Tryz.isAgg0,z0:=Tryz.sizeOf0,v0:=Tryz.zeroValue0,t24:=u28,a24:=Tryz.isAgg28,z24:=Tryz.sizeOf28,v24:=Tryz.zeroValue28,t26:=u3,a26:=Tryz.isAgg3,z26:=Tryz.sizeOf3,v26:=Tryz.zeroValue3,t28:=u270,a28:=Tryz.isAgg270,z28:=Tryz.sizeOf270,v28:=Tryz.zeroValue270,i26:=rfl}
theorem Ng(b:Nat):Sp P0 170 [.map (some b)] [] fun v h=>∃g,v= .func (.func 210) #[] #[.pointer (some ⟨g,0,none⟩)]/\h=[blk g (.cells #[.map (some b)] 272 (0,0))]:=by
 intro w ho
 refine Calls.mono ((callsIn_wide (n:=1)).1 (AnyZI.keys_in (ρ:=Vk) zk Fence.wide 1 trivial rfl (some b) w)) fun e w' ⟨he,hw⟩=>?_
 subst he hw
 exact⟨_,_,rfl,⟨_,rfl,rfl⟩,ho.new _ _ rfl (show(w.heap.push _)[w.heap.size]? =_ from BE)⟩
theorem Ko{β:Type}(b g:Nat)(A:β->Value)(al:List (Int×β))(hn:KN al)(hl:al.length<1099511627776)(hk:∀p∈al,(Lit.int .i64 p.1).wf=true):
  Sp P0 169 [.func (.func 210) #[] #[.pointer (some ⟨g,0,none⟩)]] [blk g (.cells #[.map (some b)] 272 (0,0)),Dm b A al] fun v h=>∃a c,v= .slice a al.length c/\h=[Dm b A al,sq a al.length c 3 1 ((srtI (al.map (·.1))).map gI)]:=by
 intro w ho
 have hg:w.heap[g]? =some (.cells #[.map (some b)] 272 (0,0)):=ho.mine _ Ar
 obtain⟨j,c_,hb,hm,hst⟩:=ho.mine _ (Aw _ Ar)
 have q:w.heap[b]? =some (.map j c_):=hb
 have hlen:j.size=al.length:=by have:=Mp.len hn hm;rwa [Bg]at this
 have hkp:=WQ hn hm
 have f:∀x∈j.toList,keyOf P0 3 x.key=some (.int .i64 (Qr x.key)):=fun x hx=>by
  obtain⟨k,h⟩:=hm.1 x hx
  have hmem:Qr x.key∈al.map (·.1):=hkp.mem_iff.1 (AZ.2 ⟨x,hx,rfl⟩)
  obtain⟨p,hp,t⟩:=AZ.1 hmem
  have hw:=hk p hp
  rw[t,h]at hw
  rw[h]
  simp only[GB,Qr]at hw ⊢
  simp[keyOf,Tryz.underlying3,mapKey,hw]
 have F:Go.WideElems.Fit P0 3 (fun _=>some ((.lit (.bool false),[]):DataW Unit×List MemPlace)) j c_:=
  ⟨by rw[hlen];unfold maxLen;omega,hst,fun x hx=>⟨_,Go.WideElems.rd_mk (key:=x.key) (val:=x.val) (born:=x.born) (f x hx) rfl⟩⟩
 have i:w.ownsMap P0 3 (fun _=>some ((.lit (.bool false),[]):DataW Unit×List MemPlace)) b j.size _:=⟨j,c_,q,F,Al _,rfl⟩
 have hgl:g<w.heap.size:=(Bb.1 hg).1
 have hseq:=AnyZI.keys_gives (ρ:=Vk) {zk with} Fence.wide 2 trivial rfl (by omega) g b j.size _ w hgl (by simp[World.cell?,hg]) i
 have hsz:=i.size_le
 have l:AnyZI.SortsIn P0 VB Fence.wide 4:=⟨fun blk off cap ss W B m hz=>callsIn_wide.2 (Any.slices_Sort_int (ρ:=CN) PU blk off cap ss W B m hz),fun p cap W=>callsIn_wide.2 (Any.slices_Sort_int_none (ρ:=CN) PU p cap W)⟩
 have cS:=AnyZI.sorted_in (ρ:=VB) zs Fence.wide 5 trivial trivial trivial trivial rfl (by omega) l (enters_of Tryz.func164 (by kernel_rfl) rfl) 210 #[.pointer (some ⟨g,0,none⟩)] trivial (enters_of Tryz.func210 (by kernel_rfl) rfl) _ _ (by unfold maxLen;omega) (by omega) w hseq
 refine Calls.mono ((callsIn_wide (n:=5)).1 cS) fun e w' ⟨v,ss,he,hS,hrow,_,hbl⟩=>?_
 subst he
 have d:ss.Perm (al.map (·.1)):=by
  refine hS.trans (List.Perm.trans ?_ hkp)
  show List.Perm (List.map _ _) _
  refine((Go.WideShapes.sorted_perm _).map _).trans ?_
  rw[List.map_map]
  refine List.Perm.of_eq (List.map_congr_left fun x hx=>?_)
  show _root_.Go.intOf (Go.WideElems.rg _ _ _ x).1=Qr x.key
  rw[Go.WideElems.rg_of (Go.WideElems.rd_mk (key:=x.key) (val:=x.val) (born:=x.born) (f x hx) rfl)]
  rfl
 have hsl:ss.length=al.length:=by rw[d.length_eq,AP]
 have he:ss.mergeSort (fun x y=>decide (x<=y))=srtI (al.map (·.1)):=mergeSort_of_perm_i d
 rw[he,hsl]at hrow
 have ho1:=ho.belowB hbl
 obtain⟨h1,h2⟩:=hrow
 rcases h2 with ⟨rfl,hz⟩|⟨o,cap,cur,rfl,s,r⟩
 ·have u:srtI (al.map (·.1))=[]:=by
   refine Bv ?_
   show(List.mergeSort _ _).length=0
   rw[(Bq _ _).length_eq,AP];exact hz
  rw[hz,u]
  exact⟨_,_,rfl,⟨none,0,rfl,rfl⟩,(ho1.nil 3 1).drop (Cj ..)⟩
 ·refine⟨_,_,rfl,⟨_,cap,rfl,rfl⟩,?_⟩
  have r':w'.heap[o]? =some (.cells cur 3)/\al.length<=cap/\cap<=maxLen/\cur.size=cap*1/\cur.toList.take (al.length*1)=(srtI (al.map (·.1))).map gI:=r
  have:=ho.grown (r:=sq (some ⟨o,0,none⟩) al.length cap 3 1 ((srtI (al.map fun x:Int×β=>x.1)).map gI)) (g:=o) ⟨hbl.os,hbl.tape,hbl.output,hbl.size,fun k hk _=>hbl.block k hk⟩ rfl s ⟨h1,.inr ⟨o,cur,rfl,r'⟩⟩
  exact this.drop (Cj ..)
end
structure Es where
 kind:Int
 key:Int
 val:Int
 deriving DecidableEq
structure Ge where
 txn:Int
 home:Int
 start:Int
 writes:List Es
 reads:List Int
structure NY where
 txn:Int
 commit:Bool
 at_:Int
structure Hq where
 at_:Int
 val:Int
structure Fj where
 serial:Bool
 keys:List (Int×List Hq)
 ready:List (Int×Ge)
 ends:List (Int×NY)
def Hx:Ge:=⟨0,0,0,[],[]⟩
def Fj.vs(s:Fj)(key:Int):List Hq:=(alk key s.keys).getD []
def Fj.later(s:Fj)(key at_:Int):Bool:=match (s.vs key).getLast? with
 |none=>false
 |some v=>decide (at_<v.at_)
def Ge.wr(r:Ge)(key:Int):Bool:=r.writes.any fun o=>decide (o.key=key)
def HL(b:Ge->Bool)(c:Int)(ready:List (Int×Ge)):List Int->Int×Bool
 |[]=>(0,false)
 |id::ids=>if id≠c/\b ((alk id ready).getD Hx)=true then (id,true)else HL b c ready ids
def Fj.blocks(s:Fj)(c:Int)(b:Ge->Bool):Int×Bool:=HL b c s.ready (srtI (s.ready.map (·.1)))
def rdV(at_:Int):List Hq->Int
 |[]=>0
 |v::vs=>if v.at_<=at_ then v.val else rdV at_ vs
def Fj.read(s:Fj)(txn key at_:Int):Int×Int×Int:=
 if(s.blocks txn fun r=>r.wr key && decide (r.start<at_)).2 then (0,(s.blocks txn fun r=>r.wr key && decide (r.start<at_)).1,60)else (rdV at_ (s.vs key).reverse,0,0)
abbrev Et(o:Es):V_:=[Cs o.kind,Cs o.key,Cs o.val]
abbrev Jg(r:Ge)(c b:Value):V_:=[Cs r.txn,Cs r.home,Cs r.start,c,b]
abbrev env(e:NY):V_:=[Cs e.txn,.bool e.commit,Cs e.at_]
abbrev Gi(v:Hq):V_:=[Cs v.at_,Cs v.val]
abbrev zv(z:Int):V_:=[Cs z]
abbrev gO(o:Es):Value:=.agg (Et o).toArray
abbrev gE(e:NY):Value:=.agg (env e).toArray
abbrev gV(v:Hq):Value:=.agg (Gi v).toArray
def TO(L:PL)(c:V_)(r:Ge):Prop:=∃d b,c=Jg r d b/\Dx L d Et r.writes/\Dx L b zv r.reads
theorem TO.le{L L':PL}(k:Le L L'){c:V_}{r:Ge}(h:TO L c r):TO L' c r:=by
 obtain⟨d,b,e,h1,h2⟩:=h
 exact⟨d,b,e,h1.le k,h2.le k⟩
def VsR(L:PL)(c:Value)(vs:List Hq):Prop:=Dx L c Gi vs
abbrev stc(s:Fj)(b c eb:Nat):V_:=[.bool s.serial,Cs 0,.map (some b),.map (some c),.map (some eb)]
abbrev Ut(p:Nat)(s:Fj)(b c eb:Nat):CW:=blk p (.cells (stc s b c eb).toArray 275 (0,0))
def Hr(p:Nat)(L:PL)(s:Fj)(rs:Mem):Prop:=∃(d e eb:Nat) (b:List (Int×Value)) (c:List (Int×V_)),
 rs=[Ut p s d e eb,Dm d id b,Dm e gA c,Dm eb gE s.ends]/\AR (VsR L) b s.keys/\AR (TO L) c s.ready
theorem Hr.le{p:Nat}{L L':PL}{s:Fj}(k:Le L L'):∀rs,Hr p L s rs->Hr p L' s rs:=by
 rintro rs ⟨d,f,eb,b,c,e,h1,h2⟩
 exact⟨d,f,eb,b,c,e,h1.mono fun _ _ h=>Dx.le k h,h2.mono fun _ _ h=>h.le k⟩
theorem ixO_spec(e:Value)(A:Mem->Prop)(L:PL)(S:N_)(a:A_)(c:Nat)(xs:List Es)(q:Es->Bool)(f:Dx L (.slice a xs.length c) Et xs)(hq:∀x∈xs,Tst P0 e gO L A q x):
  Sp P0 232 [.slice a xs.length c,e] [pool L,cm S A] fun v h=>v= Cs (Uq q 0 xs)/\∃n,h=[pool L,cm n A]:=by
 have hm:=f.sh;obtain⟨_,_,_,_,hm⟩:=hm;unfold maxLen at hm
 refine Sq Tryz.func232 fun w0 b_=>?_
 refine OA 12 ?_
 refine CD (fun((i,d):Nat×N_)=>[(0,.slice a xs.length c),(1,e),(7,Cs xs.length),(8,Cs i)]) (fun(_,d)=>[pool L,cm d A]) (fun(i,_)=>i<=xs.length/\Uq q i (xs.drop i)=Uq q 0 xs) (fun(i,_)=>xs.length-i) (0,S) ?_ ?_
 ·exact⟨⟨Af _,rfl⟩,Sb4,.refl _⟩
 rintro⟨i,d⟩ ⟨hi,he⟩
 conv=>arg 7;dsimp only
 conv=>arg 8;dsimp only
 refine OA 5 ?_
 refine Cy rfl (fun m=>?_) (fun m=>?_)
 ·obtain⟨x,hx⟩:∃x,xs[i]? =some x:=⟨_,Ae (by omega)⟩
  have hc:∀k u,(Et x)[k]? =some u->(xs.flatMap Et)[i*3+k]? =some u:=ED (g:=Et) (s:=3) (fun _=>rfl) hx
  rw[Nj hx]at he
  refine CM at0 f.rd (hc 0 _ rfl) fun ad l=>?_
  subst l
  refine OA 13 ?_
  refine O1 (Jt i u60) ?_
  refine O1 (YW (j:=i*3) u64 f.rd hc rfl) ?_
  refine O2 (LO.cl (ys:=[.tmp 15]) (vs:=[gO x]) rfl rfl rfl (.p0 (.p0 .d)) (hq x (Aj hx) d)) ?_
  rintro _ _ ⟨_,⟨rfl,o,rfl⟩,rfl⟩
  refine On (CE rfl (fun b=>?_) (fun b=>?_))
  ·rw[Ah b]at he
   refine OA 5 ?_
   exact Cu (CB rfl (CT rfl (by rw[he])) (.refl _) ⟨rfl,_,rfl⟩)
  rw[Aa (by rw[b];exact AS)]at he
  refine OA 5 ?_
  exact⟨(i+1,o),⟨⟨by omega,he⟩,Sb4,.refl _⟩,by simp only;omega⟩
 rw[AM (by omega)]at he
 refine OA 5 ?_
 exact Cu (CB rfl (CT rfl (by rw[<-he];rfl)) (.refl _) ⟨rfl,_,rfl⟩)
theorem JS(b:Value)(A:Mem->Prop)(L:PL)(S:N_)(a:A_)(c:Nat)(xs:List Es)(q:Es->Bool)(e:Dx L (.slice a xs.length c) Et xs)(hq:∀x∈xs,Tst P0 b gO L A q x):
  Sp P0 199 [.slice a xs.length c,b] [pool L,cm S A] fun v h=>v= .bool (xs.any q)/\∃d,h=[pool L,cm d A]:=by
 refine Sq Tryz.func199 fun w0 b_=>?_
 refine OA 8 ?_
 refine Oc rfl (en 232) rfl (.p0 (.p0 .d)) (ixO_spec b A L S a c xs q e hq) ?_
 rintro _ _ ⟨rfl,f,rfl⟩
 refine OA 3 ?_
 exact Cu (CB rfl (CT rfl (by rw[Mw q xs 0 (AK 0)])) (.refl _) ⟨rfl,_,rfl⟩)
theorem ixZ_spec(e:Value)(A:Mem->Prop)(L:PL)(S:N_)(a:A_)(c:Nat)(xs:List Int)(q:Int->Bool)(f:Dx L (.slice a xs.length c) zv xs)(hq:∀x∈xs,Tst P0 e gI L A q x):
  Sp P0 234 [.slice a xs.length c,e] [pool L,cm S A] fun v h=>v= Cs (Uq q 0 xs)/\∃m,h=[pool L,cm m A]:=by
 have hm:=f.sh;obtain⟨_,_,_,_,hm⟩:=hm;unfold maxLen at hm
 refine Sq Tryz.func234 fun w0 b_=>?_
 refine OA 12 ?_
 refine CD (fun((i,d):Nat×N_)=>[(0,.slice a xs.length c),(1,e),(7,Cs xs.length),(8,Cs i)]) (fun(_,d)=>[pool L,cm d A]) (fun(i,_)=>i<=xs.length/\Uq q i (xs.drop i)=Uq q 0 xs) (fun(i,_)=>xs.length-i) (0,S) ?_ ?_
 ·exact⟨⟨Af _,rfl⟩,Sb4,.refl _⟩
 rintro⟨i,d⟩ ⟨hi,he⟩
 conv=>arg 7;dsimp only
 conv=>arg 8;dsimp only
 refine OA 5 ?_
 refine Cy rfl (fun l=>?_) (fun l=>?_)
 ·obtain⟨x,hx⟩:∃x,xs[i]? =some x:=⟨_,Ae (by omega)⟩
  have hc:(xs.flatMap zv)[i]? =some (gI x):=by have:=ED (g:=zv) (fun _=>rfl) hx 0 _ rfl;rwa [Bm]at this
  rw[Nj hx]at he
  refine CM at0 f.rd hc fun ad k=>?_
  subst k
  refine OA 13 ?_
  refine O1 (GO (i) u28) ?_
  refine O1 (Ct.reads (j:=i) rfl rfl at0 f.rd u3 rfl hc) ?_
  refine O2 (LO.cl (ys:=[.tmp 15]) (vs:=[gI x]) rfl rfl rfl (.p0 (.p0 .d)) (hq x (Aj hx) d)) ?_
  rintro _ _ ⟨_,⟨rfl,n,rfl⟩,rfl⟩
  refine On (CE rfl (fun b=>?_) (fun b=>?_))
  ·rw[Ah b]at he
   refine OA 5 ?_
   exact Cu (CB rfl (CT rfl (by rw[he])) (.refl _) ⟨rfl,_,rfl⟩)
  rw[Aa (by rw[b];exact AS)]at he
  refine OA 5 ?_
  exact⟨(i+1,n),⟨⟨by omega,he⟩,Sb4,.refl _⟩,by simp only;omega⟩
 rw[AM (by omega)]at he
 refine OA 5 ?_
 exact Cu (CB rfl (CT rfl (by rw[<-he];rfl)) (.refl _) ⟨rfl,_,rfl⟩)
theorem ctZ_spec(b:Value)(A:Mem->Prop)(L:PL)(S:N_)(a:A_)(c:Nat)(xs:List Int)(q:Int->Bool)(e:Dx L (.slice a xs.length c) zv xs)(hq:∀x∈xs,Tst P0 b gI L A q x):
  Sp P0 202 [.slice a xs.length c,b] [pool L,cm S A] fun v h=>v= .bool (xs.any q)/\∃d,h=[pool L,cm d A]:=by
 refine Sq Tryz.func202 fun w0 b_=>?_
 refine OA 8 ?_
 refine Oc rfl (en 234) rfl (.p0 (.p0 .d)) (ixZ_spec b A L S a c xs q e hq) ?_
 rintro _ _ ⟨rfl,f,rfl⟩
 refine OA 3 ?_
 exact Cu (CB rfl (CT rfl (by rw[Mw q xs 0 (AK 0)])) (.refl _) ⟨rfl,_,rfl⟩)
theorem ixI_spec(z:Int)(a:A_)(c:Nat)(xs:List Int)(r:CW)(hr:Reads r a (xs.flatMap zv))(hm:xs.length<9223372036854775807):
  Sp P0 233 [.slice a xs.length c,Cs z] [r] fun v h=>v= Cs (Uq (fun x=>decide (z=x)) 0 xs)/\h=[r]:=by
 refine Sq Tryz.func233 fun w0 b_=>?_
 refine OA 12 ?_
 refine CD (fun(i:Nat)=>[(0,.slice a xs.length c),(1,Cs z),(7,Cs xs.length),(8,Cs i)]) (fun _=>[r]) (fun i=>i<=xs.length/\Uq (fun x=>decide (z=x)) i (xs.drop i)=Uq (fun x=>decide (z=x)) 0 xs) (fun i=>xs.length-i) 0 ?_ ?_
 ·exact⟨⟨Af _,rfl⟩,Sb4,.refl _⟩
 rintro i ⟨hi,he⟩
 refine OA 5 ?_
 refine Cy rfl (fun e=>?_) (fun e=>?_)
 ·obtain⟨x,hx⟩:∃x,xs[i]? =some x:=⟨_,Ae (by omega)⟩
  have hc:(xs.flatMap zv)[i]? =some (gI x):=by have:=ED (g:=zv) (fun _=>rfl) hx 0 _ rfl;rwa [Bm]at this
  rw[Nj hx]at he
  refine CM at0 hr hc fun ad d=>?_
  subst d
  refine OA 13 ?_
  refine O1 (GO (i) u28) ?_
  refine O1 (Ct.reads (j:=i) rfl rfl at0 hr u3 rfl hc) ?_
  refine OA 2 ?_
  refine Cy rfl (fun b=>?_) (fun b=>?_)
  ·rw[Ah (AG b)]at he
   refine OA 5 ?_
   exact Cu (CB rfl (CT rfl (by rw[he])) (.refl _) ⟨rfl,rfl⟩)
  rw[Aa (by rw[AX b];exact AS)]at he
  refine OA 5 ?_
  exact⟨i+1,⟨⟨by omega,he⟩,Sb4,.refl _⟩,by omega⟩
 rw[AM (by omega)]at he
 refine OA 5 ?_
 exact Cu (CB rfl (CT rfl (by rw[<-he];rfl)) (.refl _) ⟨rfl,rfl⟩)
theorem TL(z:Int)(a:A_)(c:Nat)(xs:List Int)(r:CW)(hr:Reads r a (xs.flatMap zv))(hm:xs.length<9223372036854775807):
  Sp P0 201 [.slice a xs.length c,Cs z] [r] fun v h=>v= .bool (xs.any fun x=>decide (z=x))/\h=[r]:=by
 refine Sq Tryz.func201 fun w0 b_=>?_
 refine OA 8 ?_
 refine O8 (Zd rfl (en 233) rfl (.p0 .d) (ixI_spec z a c xs r hr hm)) ?_
 refine OA 3 ?_
 exact Cu (CB rfl (CT rfl (by rw[Mw _ xs 0 (AK 0)])) (.refl _) ⟨rfl,rfl⟩)
theorem KJ{L:PL}{b:List (Int×Value)}{ks:List (Int×List Hq)}(h:AR (VsR L) b ks)(k:Int):Dx L (((alk k b).map id).getD (.slice none 0 0)) Gi ((alk k ks).getD []):=by
 rcases h.alk k with ⟨h1,h2⟩|⟨c,x,h1,h2,h3⟩
 ·rw[h1,h2];exact Dx.nil _ _
 ·rw[h1,h2];exact h3
theorem GH{α:Type}{g:α->V_}(hg:∀x,(g x).all EL=true){xs:List α}:∀u∈xs.flatMap g,EL u=true:=fun u b=>by
 obtain⟨x,_,h⟩:=Ba.1 b
 exact BD.1 (hg x) u h
section
variable {γ α:Type}{R:γ->α->Prop}{xs:List (Int×γ)}{ys:List (Int×α)}
theorem AR.keys(h:AR R xs ys):xs.map (·.1)=ys.map (·.1):=by
 induction h with
 |nil=>rfl
 |cons _ _ ih=>simp only[List.map_cons,ih]
theorem AR.wf(h:AR R xs ys)(hw:∀p∈ys,(Lit.int .i64 p.1).wf=true):∀p∈xs,(Lit.int .i64 p.1).wf=true:=fun p hp=>by
 have:p.1∈ys.map (·.1):=h.keys▸AZ.2 ⟨p,hp,rfl⟩
 obtain⟨q,hq,e⟩:=AZ.1 this
 exact e▸hw q hq
end
theorem AR.got{γ α:Type}{R:γ->α->Prop}{xs:List (Int×γ)}{ys:List (Int×α)}(h:AR R xs ys){d:Int}(hd:d∈srtI (xs.map (·.1))):∃c x,Cru.alk d xs=some c/\Cru.alk d ys=some x/\R c x:=by
 obtain⟨c,hc⟩:=(Jb d xs).2 ((Bq _ _).mem_iff.1 hd)
 rcases h.alk d with ⟨h1,_⟩|h
 ·rw[h1]at hc;cases hc
 ·exact h
def Fj.waits(s:Fj):List Ge:=(srtI (s.ready.map (·.1))).map fun d=>(alk d s.ready).getD Hx
structure Ge.Fit(r:Ge):Prop where
 writes:r.writes.length<=16777216
 reads:r.reads.length<=16777216
structure Fj.Fit(s:Fj):Prop where
 ready:KN s.ready
 readyL:s.ready.length<1099511627776
 readyW:∀p∈s.ready,(Lit.int .i64 p.1).wf=true
 readyF:∀d r,alk d s.ready=some r->r.Fit
 ends:KN s.ends
 keys:KN s.keys
 keysL:∀k vs,alk k s.keys=some vs->vs.length<1099511627776
theorem MY(p:Nat)(L:PL)(s:Fj)(f k eb:Nat)(b:List (Int×Value))(hk:AR (VsR L) b s.keys)(key at_:Int):
  Sp P0 197 [Cr p,Cs key,Cs at_] [Ut p s f k eb,Dm f id b,pool L] fun v h=>v= .bool (s.later key at_)/\h=[Ut p s f k eb,Dm f id b,pool L]:=by
 obtain⟨a,c,hv,hc,hm⟩:=(KJ hk key).sh
 have i:Dx L (.slice a (s.vs key).length c) Gi (s.vs key):=hv▸KJ hk key
 change _=Value.slice a (s.vs key).length c at hv
 change (s.vs key).length<=c at hc
 change (s.vs key).length<=maxLen at hm
 unfold maxLen at hm
 refine Sq Tryz.func197 fun w0 b_=>?_
 refine OA 11 ?_
 refine O1 (YK (ZF (g:=id) (z:=.slice none 0 0) key u273 u3) hv) ?_
 refine OA 8 ?_
 refine CJ 17 rfl (fun e=>?_) (fun e=>?_)
 ·obtain⟨x,hx⟩:∃x,(s.vs key)[(s.vs key).length-1]? =some x:=⟨_,Ae (by omega)⟩
  have d:((s.vs key).flatMap Gi)[((s.vs key).length-1)*2+0]? =some (Cs x.at_):=ED (g:=Gi) (s:=2) (fun _=>rfl) hx 0 _ rfl
  have hl:s.later key at_=decide (at_<x.at_):=by unfold Fj.later;rw[List.getLast?_eq_getElem?,hx]
  refine Mz (fun w hw=>i.rd.some (hw.mine _ (Aj at2.at)) d) fun⟨ad,had⟩=>?_
  subst had
  refine OA 4 ?_
  refine O1 (Qab ((s.vs key).length-1) rfl rfl rfl u307 rfl (by omega) (by omega)) ?_
  refine O1 (Qah (m:=((s.vs key).length-1)*2) 0 rfl rfl u309 rfl rfl) ?_
  refine O1 (Ct.reads (j:=((s.vs key).length-1)*2+0) rfl rfl at2 i.rd u3 rfl d) ?_
  refine OA 5 ?_
  exact Cu (CB rfl (CT rfl (by rw[hl])) (.refl _) ⟨rfl,rfl⟩)
 have hl:s.later key at_=false:=by unfold Fj.later;rw[Bv (l:=s.vs key) (by omega)];rfl
 refine OA 12 ?_
 exact Cu (CB rfl (CT rfl (by rw[hl])) (.refl _) ⟨rfl,rfl⟩)
theorem wr1_spec(b:Nat)(key:Int)(L:PL)(o:Es)(S:N_):
  Sp P0 230 [gO o,Cr b] [pool L,cm S fun rs=>rs=[blk b (.cells #[Cs key] 3 (0,0))]] fun v h=>v= .bool (decide (o.key=key))/\∃c,h=[pool L,cm c fun rs=>rs=[blk b (.cells #[Cs key] 3 (0,0))]]:=by
 refine Sq Tryz.func230 fun w0 b_=>?_
 refine Cx (Cv.op (.p1 .d)) ?_
 rintro _ ⟨_,rfl,rfl⟩
 refine OA 2 ?_
 refine O6 YR fun b2=>?_
 refine OA 10 ?_
 refine Tx (YL (.p1 .d) (A:=fun rs=>rs=[blk b (.cells #[Cs key] 3 (0,0))]) rfl) fun d=>Tp (.t0 (.t1 .e)) ?_
 exact Cu (Rr ⟨rfl,_,rfl⟩)
theorem Qi(L:PL)(r:Ge)(b e:Value)(hw:Dx L b Et r.writes)(key:Int):
  Sp P0 195 [.agg (Jg r b e).toArray,Cs key] [pool L] fun v h=>v= .bool (r.wr key)/\h=[pool L]:=by
 obtain⟨a,c,rfl,hc,hm⟩:=hw.sh
 refine Sq Tryz.func195 fun w0 b_=>?_
 refine OA 2 ?_
 refine O6 YR fun b2=>?_
 refine O6 YR fun b3=>?_
 refine OA 6 ?_
 refine O1 (Qaa (ys:=[.tmp 3]) (vs:=[_]) rfl rfl) ?_
 refine CL (YL (.p2 .d) (A:=fun rs=>rs=[blk b3 (.cells #[Cs key] 3 (0,0))]) rfl) ?_
 rintro _ ⟨d,rfl⟩
 refine Oc rfl (en 199) rfl (.p0 (.p1 .d)) (JS _ (fun rs=>rs=[blk b3 (.cells #[Cs key] 3 (0,0))]) L d a c r.writes (fun o=>decide (o.key=key)) hw (fun x _ S=>⟨230,[],[_],rfl,(en 230),wr1_spec b3 key L x S⟩)) ?_
 rintro _ _ ⟨rfl,f,rfl⟩
 refine OA 2 ?_
 refine Tp (.t1 .e) ?_
 exact Cu (Rr ⟨rfl,rfl⟩)
theorem wr_tst(L:PL)(A:Mem->Prop)(r:Ge)(b c:Value)(hw:Dx L b Et r.writes)(key:Int):Tst P0 (.func (.func 195) #[.agg (Jg r b c).toArray] #[]) gI L A r.wr key:=fun S=>
 ⟨195,[_],[],rfl,(en 195),(Sp.frame (.p0 .d) (Qi L r b c hw key)).imp fun _ _ v h ⟨_,⟨h1,h2⟩,h3⟩=>by subst h1 h2 h3;exact Cv.then (YN (.t1 (.t0 .e))) fun _ e=>YM ⟨rfl,S,e⟩⟩
theorem MJ(p:Nat)(S:N_)(L:PL)(s:Fj)(hf:s.Fit):
  Sp P0 117 [Cr p] [cm S (Hr p L s),pool L] fun v h=>∃L' K cs,Le L L'/\PSl L' v s.waits.length cs/\Rws (TO L') cs s.waits/\h=[cm K (Hr p L' s),pool L']:=by
 refine Sq Tryz.func117 fun w0 b_=>?_
 refine Cx (Cv.op (.p0 .d)) ?_
 rintro _ ⟨_,⟨F,t,eb,r,b,rfl,C,e⟩,rfl⟩
 have hrl:=e.len;have hrk:=e.keys;have hkn:=e.kn hf.ready;have hrn:=hf.readyL
 have m:(srtI (b.map (·.1))).length=b.length:=by rw[srtI,(Bq _ _).length_eq,AP]
 refine OA 21 ?_
 refine O2 (YP rfl (en 170) rfl (.d) (Ng t)) ?_
 rintro _ _ ⟨_,⟨g,rfl,rfl⟩,rfl⟩
 refine Oc rfl (en 169) rfl (.p5 (.p3 .d)) (Ko t g gA b hkn (by omega) (e.wf hf.readyW)) ?_
 rintro _ _ ⟨E,I,rfl,rfl⟩
 refine OA 3 ?_
 refine Tp (.t1 (.t1 (.t2 (.t1 (.t0 (.t0 (.n (T:=201) (sz:=5) .e))))))) (Tb (CD (fun((i,L2,oa,oc,cs):Nat×PL×A_×Nat×V_)=>[(0,Cr p),(3,.slice oa i oc),(14,.slice E b.length I),(15,Cs b.length),(16,Cs i)]) (fun(i,L2,oa,oc,cs)=>[Ut p s F t eb,Dm F id r,Dm t gA b,Dm eb gE s.ends,pool L2,sq E b.length I 3 1 ((srtI (b.map (·.1))).map gI),sq oa i oc 201 5 cs]) (fun(i,L2,oa,oc,cs)=>Le L L2/\i<=b.length/\Rws (TO L2) cs (s.waits.take i)) (fun(i,_)=>b.length-i) (0,L,none,0,[]) ?_ ?_))
 ·exact⟨⟨.refl _,Af _,.nil⟩,Sb5,.refl _⟩
 rintro⟨i,L2,oa,oc,cs⟩ ⟨hL,hi,ho⟩
 conv=>arg 7;dsimp only
 conv=>arg 8;dsimp only
 refine OA 5 ?_
 refine Cy rfl (fun o=>?_) (fun o=>?_)
 ·obtain⟨d,hd⟩:∃d,(srtI (b.map (·.1)))[i]? =some d:=⟨_,Ae (by omega)⟩
  have y:((srtI (b.map (·.1))).map gI)[i]? =some (gI d):=by rw[Aq,hd];rfl
  obtain⟨c,x,hc,hx,N⟩:=e.got (Aj hd)
  have hw:s.waits[i]? =some x:=by unfold Fj.waits;rw[Aq,<-hrk,hd];simp[hx]
  obtain⟨wv,rv,rfl,q,n⟩:=N
  obtain⟨X,wc,rfl,P,Q⟩:=q.sh
  obtain⟨R,V,rfl,hrc,hrm⟩:=n.sh
  have hfw:=(hf.readyF d x hx).writes;have hfr:=(hf.readyF d x hx).reads
  refine CO (fun w hw=>hw.sqNN (ao:=E) at5 (by omega)) fun⟨g,hg⟩=>?_
  subst hg
  refine OA 5 ?_
  refine O1 (Km i u28) ?_
  refine O1 (YV u3 y) ?_
  refine OA 9 ?_
  refine O1 (YK (ZF (g:=gA) (z:=.agg #[Cs 0,Cs 0,Cs 0,.slice none 0 0,.slice none 0 0]) d u272 u3) (by rw[hc])) ?_
  refine O6 (YQ Lx) fun b6=>?_
  refine OA 2 ?_
  refine Cw (.s7 (.t .d)) rfl (fun j=>false) ?_
  intro O
  refine DA [0,1,2,3,4,5,6,7,8,10,11] ?_
  refine Da 9 ?_
  refine DB rfl rfl (en 49) rfl (.p4 .d) (GX X x.writes.length wc (x.writes.flatMap Et) _ (q.le hL).rd (Ft (g:=Et) (s:=3) (fun _=>rfl) _) (GH fun _=>rfl) (by omega)) ?_
  rintro _ _ ⟨Y,Z,rfl,rfl⟩
  refine ys (Da 12 ?_)
  refine DB rfl rfl (en 171) rfl (.p7 .d) (LB R x.reads.length V (x.reads.flatMap zv) _ (n.le hL).rd (Ft (g:=zv) (s:=1) (fun _=>rfl) _) (GH fun _=>rfl) (by omega)) ?_
  rintro _ _ ⟨U,W,rfl,rfl⟩
  refine ys (D1 13 rfl (Xb bt201.h) ?_)
  refine Da 14 ?_
  refine D6 rfl (YY u206) ?_
  rintro _ _ ⟨M,rfl,rfl⟩
  refine ys (Da 15 ?_)
  refine D6 rfl (LO.app (ao:=oa) el206) ?_
  rintro _ _ ⟨G,H,rfl,rfl⟩
  refine ys (D1 16 rfl FC ?_)
  refine D0 (Cx (Zg (.p8 (.p7 .d))) ?_)
  rintro _ ⟨u,f,l,rfl⟩
  refine Cx (Zg (.p9 (.p7 .d))) ?_
  rintro _ ⟨J,k,D,rfl⟩
  refine Tp (.t0 (.t0 (.t0 (.t0 (.t4 (.t0 (.t0 .e))))))) (OA 4 ?_)
  exact⟨(i+1,J,G,H,_),⟨⟨(hL.trans f).trans k,by omega,by rw[Dg hw];exact(ho.mono fun _ _ h=>(h.le f).le k).snoc ⟨_,_,rfl,l.le k,D⟩⟩,Sb5,.refl _⟩,by simp only;omega⟩
 have B:i=b.length:=by omega
 have hwl:s.waits.length=b.length:=by unfold Fj.waits;rw[AP,<-hrk];exact m
 rw[AU (by omega)]at ho
 subst B
 refine OA 6 ?_
 refine Cx (Zg (.p4 (.p5 .d))) ?_
 rintro _ ⟨u,f,l,rfl⟩
 have hL03:=hL.trans f
 refine Tx (YL (.p0 (.p0 (.p0 (.p0 .d)))) (A:=Hr p u s) ⟨F,t,eb,r,b,rfl,C.mono fun _ _ h=>Dx.le hL03 h,e.mono fun _ _ h=>h.le hL03⟩) fun S3=>Tp (.t2 (.t1 .e)) ?_
 exact Cu (CB rfl rfl (.refl _) ⟨u,_,_,hL03,hwl▸l,ho.mono fun _ _ h=>h.le f,rfl⟩)
theorem PV{b:Ge->Bool}{c:Int}{ready:List (Int×Ge)}{ids:List Int}{i:Nat}{d:Int}(h:ids[i]? =some d):HL b c ready (ids.drop i)=if d≠c/\b ((alk d ready).getD Hx)=true then (d,true)else HL b c ready (ids.drop (i+1)):=by
 have hl:=(Ab.1 h).1
 rw[Ay hl,(Ab.1 h).2];rfl
def Lk(P:Program)(f:Value)(L:PL)(A:Mem->Prop)(b:Ge->Bool)(s:Fj):Prop:=∀c r,TO L c r->(∃d,alk d s.ready=some r)->∀S,Cl P f [gA c] [pool L,cm S A] fun v h=>v= .bool (b r)/\∃e,h=[pool L,cm e A]
theorem Ly(p:Nat)(L:PL)(s:Fj)(u m eb:Nat)(b:List (Int×V_))(j:AR (TO L) b s.ready)(hf:s.Fit)(f:Int)(q:Value)(A:Mem->Prop)(S:N_)(e:Ge->Bool)(hq:Lk P0 q L A e s):
  Sp P0 193 [Cr p,Cs f,q] [Ut p s u m eb,Dm m gA b,pool L,cm S A] fun v h=>v= .tuple #[Cs (s.blocks f e).1,.bool (s.blocks f e).2]/\∃C,h=[Ut p s u m eb,Dm m gA b,pool L,cm C A]:=by
 have hrl:=j.len;have hrk:=j.keys;have hkn:=j.kn hf.ready;have hrn:=hf.readyL
 have y:(srtI (b.map (·.1))).length=b.length:=by rw[srtI,(Bq _ _).length_eq,AP]
 have hB:s.blocks f e=HL e f s.ready (srtI (b.map (·.1))):=by unfold Fj.blocks;rw[hrk]
 rw[hB]
 refine Sq Tryz.func193 fun w0 b_=>?_
 refine OA 12 ?_
 refine O2 (YP rfl (en 170) rfl (.d) (Ng m)) ?_
 rintro _ _ ⟨_,⟨g,rfl,rfl⟩,rfl⟩
 refine Oc rfl (en 169) rfl (.p4 (.p1 .d)) (Ko m g gA b hkn (by omega) (j.wf hf.readyW)) ?_
 rintro _ _ ⟨t,B,rfl,rfl⟩
 refine OA 3 ?_
 refine Tp (.t0 (.t2 (.t0 (.t0 (.t0 .e))))) (Tb (CD (fun((i,n):Nat×N_)=>[(0,Cr p),(1,Cs f),(2,q),(15,.slice t b.length B),(16,Cs b.length),(17,Cs i)]) (fun(i,n)=>[Ut p s u m eb,Dm m gA b,pool L,cm n A,sq t b.length B 3 1 ((srtI (b.map (·.1))).map gI)]) (fun(i,_)=>i<=b.length/\HL e f s.ready ((srtI (b.map (·.1))).drop i)=HL e f s.ready (srtI (b.map (·.1)))) (fun(i,_)=>b.length-i) (0,S) ?_ ?_))
 ·exact⟨⟨Af _,rfl⟩,Sb6,.refl _⟩
 rintro⟨i,n⟩ ⟨hi,he⟩
 conv=>arg 7;dsimp only
 conv=>arg 8;dsimp only
 refine OA 5 ?_
 refine Cy rfl (fun o=>?_) (fun o=>?_)
 ·obtain⟨d,hd⟩:∃d,(srtI (b.map (·.1)))[i]? =some d:=⟨_,Ae (by omega)⟩
  have r:((srtI (b.map (·.1))).map gI)[i]? =some (gI d):=by rw[Aq,hd];rfl
  obtain⟨c,x,hc,hx,E⟩:=j.got (Aj hd)
  rw[PV hd,hx]at he
  refine CO (fun w hw=>hw.sqNN (ao:=t) at4 (by omega)) fun⟨g,hg⟩=>?_
  subst hg
  refine OA 5 ?_
  refine O1 (Km i u28) ?_
  refine O1 (YV u3 r) ?_
  refine OA 8 ?_
  refine IQ 24 rfl (fun k=>?_) (fun k=>?_)
  ·refine OA 6 ?_
   refine O1 (YK (ZF (g:=gA) (z:=.agg #[Cs 0,Cs 0,Cs 0,.slice none 0 0,.slice none 0 0]) d u272 u3) (by rw[hc])) ?_
   refine O2 (LO.cl (ys:=[.tmp 31]) (vs:=[gA c]) rfl rfl rfl (.p2 (.p2 .d)) (hq c x E ⟨d,hx⟩ n)) ?_
   rintro _ _ ⟨_,⟨rfl,D,rfl⟩,rfl⟩
   refine OA 2 ?_
   refine CE rfl (fun l=>?_) (fun l=>?_)
   ·rw[Ah ⟨k,l⟩]at he
    refine OA 6 ?_
    refine Tp (.t0 (.t0 (.t1 (.t1 .e)))) ?_
    exact Cu (Dq rfl (CT rfl (by rw[<-he])) (CT rfl (by rw[<-he])) (.refl _) ⟨rfl,_,rfl⟩)
   rw[Aa (fun h=>AS (l.symm.trans h.2))]at he
   refine Tp (.t0 (.t0 (.t1 (.t1 (.t0 .e))))) (OA 5 ?_)
   exact⟨(i+1,D),⟨⟨by omega,he⟩,Sb6,.refl _⟩,by simp only;omega⟩
  rw[Aa (fun h=>h.1 k)]at he
  refine OA 16 ?_
  exact⟨(i+1,n),⟨⟨by omega,he⟩,Sb6,.refl _⟩,by simp only;omega⟩
 rw[AM (by omega)]at he
 refine OA 6 ?_
 refine Tp (.t0 (.t0 (.t0 (.t0 .e)))) ?_
 exact Cu (Dq rfl (CT rfl (by rw[<-he];rfl)) (CT rfl (by rw[<-he];rfl)) (.refl _) ⟨rfl,_,rfl⟩)
theorem TU(d e:Nat)(key at_:Int)(L:PL)(c:V_)(r:Ge)(k:TO L c r)(S:N_):
  Sp P0 194 [gA c,Cr d,Cr e] [pool L,cm S (fun rs=>rs=[blk d (.cells #[Cs key] 3 (0,0)),blk e (.cells #[Cs at_] 3 (0,0))])] fun v h=>v= .bool (r.wr key && decide (r.start<at_))/\∃i,h=[pool L,cm i (fun rs=>rs=[blk d (.cells #[Cs key] 3 (0,0)),blk e (.cells #[Cs at_] 3 (0,0))])]:=by
 obtain⟨p,n,rfl,f,g⟩:=k
 obtain⟨l,m,rfl,_,_⟩:=g.sh
 obtain⟨o,wc,rfl,_,_⟩:=f.sh
 refine Sq Tryz.func194 fun w0 b_=>?_
 refine Cx (Cv.op (.p1 .d)) ?_
 rintro _ ⟨_,rfl,rfl⟩
 refine OA 2 ?_
 refine O6 YR fun b3=>?_
 refine OA 6 ?_
 refine O8 (Zd rfl (en 195) rfl (.p0 .d) (Qi L r _ _ f key)) ?_
 refine O1 DC ?_
 refine Df 8 rfl (fun b=>?_) (fun b=>?_)
 ·refine OA 7 ?_
  refine Tx (YL (.p0 (.p0 .d)) (A:=(fun rs=>rs=[blk d (.cells #[Cs key] 3 (0,0)),blk e (.cells #[Cs at_] 3 (0,0))])) rfl) fun j=>Tp (.t1 (.t1 .e)) ?_
  exact Cu (CB rfl (CT rfl (by rw[b];rfl)) (.refl _) ⟨rfl,_,rfl⟩)
 refine OA 7 ?_
 refine Tx (YL (.p0 (.p0 .d)) (A:=(fun rs=>rs=[blk d (.cells #[Cs key] 3 (0,0)),blk e (.cells #[Cs at_] 3 (0,0))])) rfl) fun j=>Tp (.t1 (.t1 .e)) ?_
 exact Cu (CB rfl (CT rfl (by rw[b];rfl)) (.refl _) ⟨rfl,_,rfl⟩)
def Vs(xs:List Int)(k:Int):Bool:=xs.any fun x=>decide (k=x)
def Ge.hits(b:Bool)(x:Ge)(o:Es):Bool:=x.wr o.key || (b && Vs x.reads o.key)
def Ge.bars(b:Bool)(r x:Ge):Bool:=r.writes.any (x.hits b) || (b && r.reads.any x.wr)
theorem TO.got{L:PL}{b:List (Int×V_)}{rs:List (Int×Ge)}(h:AR (TO L) b rs)(k:Int):∃r f i wc d g e,(alk k b).getD (Jg Hx (.slice none 0 0) (.slice none 0 0))=Jg r (.slice f i wc) (.slice d g e):=by
 rcases h.alk k with ⟨h1,_⟩|⟨c,x,h1,_,l,j,h3,hw,hr⟩
 ·exact⟨Hx,_,_,_,_,_,_,by rw[h1];rfl⟩
 ·obtain⟨f,wc,rfl,_⟩:=hw.sh
  obtain⟨d,e,rfl,_⟩:=hr.sh
  exact⟨x,f,_,wc,d,_,e,by rw[h1];exact h3⟩
theorem AR.some{γ α:Type}{R:γ->α->Prop}{xs:List (Int×γ)}{ys:List (Int×α)}(h:AR R xs ys)(k:Int):(Cru.alk k xs).isSome=(Cru.alk k ys).isSome:=by
 rcases h.alk k with ⟨h1,h2⟩|⟨_,_,h1,h2,_⟩<;>rw[h1,h2]<;>rfl
theorem QZ{α:Type}{q:α->Bool}{xs:List α}{i:Nat}{x:α}(h:xs[i]? =some x):(xs.drop i).any q=(q x || (xs.drop (i+1)).any q):=by
 have hl:=(Ab.1 h).1
 rw[Ay hl,(Ab.1 h).2];rfl
def Fj.prepare(s:Fj)(r:Ge):Fj×Int×Int:=
 if(alk r.txn s.ends).isSome then (s,0,62)
 else if(alk r.txn s.ready).isSome then (s,0,0)
 else if r.writes.any fun o=>s.later o.key r.start then (s,0,61)
 else if s.serial && r.reads.any fun k=>s.later k r.start then (s,0,61)
 else if(s.blocks r.txn (r.bars s.serial)).2 then (s,(s.blocks r.txn (r.bars s.serial)).1,60)
 else ({s with ready:=aset r.txn r s.ready},0,0)
theorem Tf(i g:Nat)(b:Bool)(L:PL)(x:Ge)(j e:A_)(wc f:Nat)(hw:Dx L (.slice j x.writes.length wc) Et x.writes)(hr:Dx L (.slice e x.reads.length f) zv x.reads)(hl:x.reads.length<=16777216)(o:Es)(S:N_):
  Sp P0 200 [gO o,Cr i,Cr g] [pool L,cm S (fun rs=>rs=[blk i (.cells (Jg x (.slice j x.writes.length wc) (.slice e x.reads.length f)).toArray 201 (0,0)),blk g (.cells #[.bool b] 4 (0,0))])] fun v h=>v= .bool (x.hits b o)/\∃l,h=[pool L,cm l (fun rs=>rs=[blk i (.cells (Jg x (.slice j x.writes.length wc) (.slice e x.reads.length f)).toArray 201 (0,0)),blk g (.cells #[.bool b] 4 (0,0))])]:=by
 refine Sq Tryz.func200 fun w0 b_=>?_
 refine Cx (Cv.op (.p1 .d)) ?_
 rintro _ ⟨_,rfl,rfl⟩
 refine OA 2 ?_
 refine O6 YR fun b3=>?_
 refine OA 7 ?_
 refine O8 (Zd rfl (en 195) rfl (.p0 .d) (Qi L x _ _ hw o.key)) ?_
 refine O1 DC ?_
 refine Df 9 rfl (fun d=>?_) (fun d=>?_)
 ·refine OA 11 ?_
  refine Tx (YL (.p0 (.p0 .d)) (A:=(fun rs=>rs=[blk i (.cells (Jg x (.slice j x.writes.length wc) (.slice e x.reads.length f)).toArray 201 (0,0)),blk g (.cells #[.bool b] 4 (0,0))])) rfl) fun k=>Tp (.t1 (.t1 .e)) ?_
  exact Cu (CB rfl (CT rfl (by unfold Ge.hits;rw[d];rfl)) (.refl _) ⟨rfl,_,rfl⟩)
 refine OA 2 ?_
 refine Df 11 rfl (fun c=>?_) (fun c=>?_)
 ·refine OA 4 ?_
  refine O8 (Zd rfl (en 201) rfl (.p3 .d) (TL o.key e f x.reads _ hr.rd (by omega))) ?_
  refine OA 4 ?_
  refine Tx (YL (.p0 (.p0 .d)) (A:=(fun rs=>rs=[blk i (.cells (Jg x (.slice j x.writes.length wc) (.slice e x.reads.length f)).toArray 201 (0,0)),blk g (.cells #[.bool b] 4 (0,0))])) rfl) fun k=>Tp (.t1 (.t1 .e)) ?_
  exact Cu (CB rfl (CT rfl (by unfold Ge.hits;rw[d,c];rfl)) (.refl _) ⟨rfl,_,rfl⟩)
 refine OA 9 ?_
 refine Tx (YL (.p0 (.p0 .d)) (A:=(fun rs=>rs=[blk i (.cells (Jg x (.slice j x.writes.length wc) (.slice e x.reads.length f)).toArray 201 (0,0)),blk g (.cells #[.bool b] 4 (0,0))])) rfl) fun k=>Tp (.t1 (.t1 .e)) ?_
 exact Cu (CB rfl (CT rfl (by unfold Ge.hits;rw[d,c];rfl)) (.refl _) ⟨rfl,_,rfl⟩)
theorem Uy(i f:Nat)(b:Bool)(L:PL)(r:Ge)(m j:A_)(wc l:Nat)(hw:Dx L (.slice m r.writes.length wc) Et r.writes)(hr:Dx L (.slice j r.reads.length l) zv r.reads)(s:Fj)(hf:s.Fit):Lk P0 (.func (.func 198) #[] #[Cr i,Cr f]) L (fun rs=>rs=[blk i (.cells (Jg r (.slice m r.writes.length wc) (.slice j r.reads.length l)).toArray 201 (0,0)),blk f (.cells #[.bool b] 4 (0,0))]) (r.bars b) s:=by
 rintro c x ⟨F,E,rfl,h,n⟩ ⟨d,hd⟩ S
 have hxl:=(hf.readyF d x hd).reads
 obtain⟨q,t,rfl,_,_⟩:=h.sh
 obtain⟨u,w,rfl,_,_⟩:=n.sh
 refine⟨198,[],[_,_],rfl,(en 198),?_⟩
 refine Wa (vs:=[gA _,Cr i,Cr f]) Tryz.func198 rfl rfl rfl fun w0 b_=>?_
 refine Cx (Cv.op (.p1 .d)) ?_
 rintro _ ⟨_,rfl,rfl⟩
 refine OA 2 ?_
 refine O6 YR fun b3=>?_
 refine OA 7 ?_
 refine O1 (Qaa (ys:=[.tmp 3,.tmp 2]) (vs:=[_,_]) rfl rfl) ?_
 refine CL (YL (.p3 (.p2 .d)) (A:=(fun rs=>rs=[blk b3 (.cells (Jg x (.slice q x.writes.length t) (.slice u x.reads.length w)).toArray 201 (0,0)),blk f (.cells #[.bool b] 4 (0,0))])) rfl) ?_
 rintro _ ⟨y,rfl⟩
 refine Oc rfl (en 199) rfl (.p0 (.p1 .d)) (JS _ (fun rs=>rs=[blk b3 (.cells (Jg x (.slice q x.writes.length t) (.slice u x.reads.length w)).toArray 201 (0,0)),blk f (.cells #[.bool b] 4 (0,0))]) L y m wc r.writes (x.hits b) hw (fun o _ S=>⟨200,[],[_,_],rfl,(en 200),Tf b3 f b L x q u t w h n hxl o S⟩)) ?_
 rintro _ _ ⟨rfl,B,rfl⟩
 refine On (Cx (Cv.op (.p2 .d)) ?_)
 rintro _ ⟨_,rfl,rfl⟩
 refine CE rfl (fun g=>?_) (fun g=>?_)
 ·refine OA 4 ?_
  refine Tx (YL (.p0 (.p2 .d)) (A:=(fun rs=>rs=[blk i (.cells (Jg r (.slice m r.writes.length wc) (.slice j r.reads.length l)).toArray 201 (0,0)),blk f (.cells #[.bool b] 4 (0,0))])) rfl) fun p=>Tp (.t0 (.t1 .e)) ?_
  exact Cu (CB rfl (CT rfl (by unfold Ge.bars;rw[g];rfl)) (.refl _) ⟨rfl,_,rfl⟩)
 refine OA 5 ?_
 refine Df 10 rfl (fun e=>?_) (fun e=>?_)
 ·refine OA 3 ?_
  refine O1 (Qa2 (xs:=[.tmp 13]) (ys:=[]) (us:=[_]) (vs:=[]) rfl rfl rfl) ?_
  refine CL (YL .d (A:=fun rs=>rs=[]) rfl) ?_
  rintro _ ⟨p,rfl⟩
  refine Oc rfl (en 202) rfl (.p1 (.p3 .d)) (ctZ_spec _ (fun rs=>rs=[]) L p j l r.reads x.wr hr (fun k _=>wr_tst L _ x _ _ h k)) ?_
  rintro _ _ ⟨rfl,C,rfl⟩
  refine OA 3 ?_
  refine Tx (YL (.p0 (.p1 .d)) (A:=(fun rs=>rs=[blk i (.cells (Jg r (.slice m r.writes.length wc) (.slice j r.reads.length l)).toArray 201 (0,0)),blk f (.cells #[.bool b] 4 (0,0))])) rfl) fun D=>Tp (.t1 (.t2 .e)) ?_
  exact Cu (CB rfl (CT rfl (by unfold Ge.bars;rw[g,e];rfl)) (.refl _) ⟨rfl,_,rfl⟩)
 refine OA 8 ?_
 refine Tx (YL (.p0 (.p2 .d)) (A:=(fun rs=>rs=[blk i (.cells (Jg r (.slice m r.writes.length wc) (.slice j r.reads.length l)).toArray 201 (0,0)),blk f (.cells #[.bool b] 4 (0,0))])) rfl) fun p=>Tp (.t0 (.t1 .e)) ?_
 exact Cu (CB rfl (CT rfl (by unfold Ge.bars;rw[g,e];rfl)) (.refl _) ⟨rfl,_,rfl⟩)
theorem Qh(p:Nat)(S:N_)(L:PL)(s:Fj)(hf:s.Fit)(r:Ge)(J:r.Fit)(wv rv:Value)(hw:Dx L wv Et r.writes)(hr:Dx L rv zv r.reads):
  Sp P0 157 [Cr p,.agg (Jg r wv rv).toArray] [cm S (Hr p L s),pool L] fun v h=>v= .tuple #[Cs (s.prepare r).2.1,Cs (s.prepare r).2.2]/\∃L' S',Le L L'/\h=[cm S' (Hr p L' (s.prepare r).1),pool L']:=by
 obtain⟨F,wc,rfl,a2,a3⟩:=hw.sh
 obtain⟨D,E,rfl,hrc,hrm⟩:=hr.sh
 have hwl:=J.writes;have hrl:=J.reads
 refine Sq Tryz.func157 fun w0 b_=>?_
 refine Cx (Cv.op (.p0 .d)) ?_
 rintro _ ⟨_,⟨n,q,eb,c,d,rfl,f,e⟩,rfl⟩
 refine Cx (YN (.t1 (.t1 (.t1 (.t1 (.t0 .e)))))) ?_
 rintro _ rfl
 obtain⟨r',W,a0,Y,Q,V,T,e'⟩:=TO.got e r.txn
 refine OA 2 ?_
 refine O6 YR fun b3=>?_
 refine OA 13 ?_
 refine Cw (.t (.s2 (.t (.s (.t .d))))) rfl (fun j=>Nat.beq j 11) ?_
 intro K
 refine DA [0,1,2,3,4,5] ?_
 refine D1 6 rfl (YK (v':=.tuple [gE ((alk r.txn s.ends).getD ⟨0,false,0⟩),.bool (alk r.txn s.ends).isSome].toArray) (Qan (g:=gE) (z:=gE ⟨0,false,0⟩) r.txn u254 u3) (by cases alk r.txn s.ends<;>rfl)) ?_
 refine DA [7,8] ?_
 refine D2 9 rfl (fun _=>Yo) ?_
 refine Da 10 ?_
 refine D6 rfl (YQ zr98) ?_
 rintro _ _ ⟨b6,rfl,rfl⟩
 refine ys (Da 11 ?_)
 refine D8 rfl YO ?_
 refine D2 12 rfl (fun _=>FC) ?_
 refine D0 (Tp (.t0 (.t0 (.t0 (.t0 (.t0 (.t0 .e)))))) (OA 4 ?_))
 refine CE rfl (fun t=>?_) (fun t=>?_)
 ·rw[show s.prepare r=(s,0,62) by unfold Fj.prepare;rw[Ah t]]
  refine OA 5 ?_
  refine Tx (YL (.p0 (.p0 (.p0 (.p0 .d)))) (A:=Hr p L s) ⟨n,q,eb,c,d,rfl,f,e⟩) fun I=>Tp (.t2 (.t0 .e)) ?_
  exact Cu (Dq rfl rfl rfl (.refl _) ⟨rfl,L,_,.refl _,rfl⟩)
 have h1:¬(alk r.txn s.ends).isSome=true:=(by rw[t];exact AS)
 refine OA 3 ?_
 refine Cw (.t (.s (.t (.s2 (.t .d))))) rfl (fun j=>Nat.beq j 11) ?_
 intro K
 refine DA [0,1,2,3,4,5] ?_
 refine D1 6 rfl (YK (v':=.tuple [gA (Jg r' (.slice W a0 Y) (.slice Q V T)),.bool (alk r.txn s.ready).isSome].toArray) (Qan (g:=gA) (z:=gA (Jg Hx (.slice none 0 0) (.slice none 0 0))) r.txn u272 u3) (by rw[<-e',<-e.some];cases alk r.txn d<;>rfl)) ?_
 refine DA [7,8] ?_
 refine D2 9 rfl (fun _=>Yo) ?_
 refine Da 10 ?_
 refine D6 rfl (YQ Lx) ?_
 rintro _ _ ⟨b8,rfl,rfl⟩
 refine ys (Da 11 ?_)
 refine D8 rfl YO ?_
 refine D2 12 rfl (fun _=>FC) ?_
 refine D0 (Tp (.t0 (.t0 (.t0 (.t0 (.t0 (.t0 .e)))))) (OA 4 ?_))
 refine CE rfl (fun w=>?_) (fun w=>?_)
 ·rw[show s.prepare r=(s,0,0) by unfold Fj.prepare;rw[Aa h1,Ah w]]
  refine OA 5 ?_
  refine Tx (YL (.p0 (.p0 (.p0 (.p0 .d)))) (A:=Hr p L s) ⟨n,q,eb,c,d,rfl,f,e⟩) fun I=>Tp (.t2 (.t0 .e)) ?_
  exact Cu (Dq rfl rfl rfl (.refl _) ⟨rfl,L,_,.refl _,rfl⟩)
 have h2:¬(alk r.txn s.ready).isSome=true:=(by rw[w];exact AS)
 refine OA 10 ?_
 refine CD (fun(i:Nat)=>[(0,Cr p),(3,Cr b3),(42,.slice F r.writes.length wc),(43,Cs r.writes.length),(44,Cs i)]) (fun _=>[Ut p s n q eb,Dm n id c,Dm q gA d,Dm eb gE s.ends,pool L,blk b3 (.cells (Jg r (.slice F r.writes.length wc) (.slice D r.reads.length E)).toArray 201 (0,0))]) (fun i=>i<=r.writes.length/\(r.writes.drop i).any (fun o:Es=>s.later o.key r.start)=r.writes.any (fun o:Es=>s.later o.key r.start)) (fun i=>r.writes.length-i) 0 ?_ ?_
 ·exact⟨⟨Af _,rfl⟩,Sb5,.refl _⟩
 rintro i ⟨hi,he⟩
 refine OA 5 ?_
 refine Cy rfl (fun M=>?_) (fun M=>?_)
 ·obtain⟨o,ho⟩:∃o,r.writes[i]? =some o:=⟨_,Ae (by omega)⟩
  have hc:∀k u,(Et o)[k]? =some u->(r.writes.flatMap Et)[i*3+k]? =some u:=ED (g:=Et) (s:=3) (fun _=>rfl) ho
  refine CM at4 hw.rd (hc 0 _ rfl) fun ad H=>?_
  subst H
  rw[QZ ho]at he
  refine OA 5 ?_
  refine O1 (Jt i u60) ?_
  refine O1 (YW (j:=i*3) u64 hw.rd hc rfl) ?_
  refine O6 (YQ XP) fun a1=>?_
  refine OA 9 ?_
  refine O8 (Zd rfl (en 197) rfl (.p0 (.p0 (.p2 .d))) (MY p L s n q eb c f o.key r.start)) ?_
  refine O1 DC ?_
  refine Df 54 rfl (fun x=>?_) (fun x=>?_)
  ·rw[x,Bool.true_or]at he
   rw[show s.prepare r=(s,0,61) by unfold Fj.prepare;rw[Aa h1,Aa h2,Ah he.symm]]
   refine OA 4 ?_
   refine O1 (YK (v':=Cs 0) (Za rfl rfl rfl) rfl) ?_
   refine O1 Rv ?_
   refine OA 8 ?_
   refine Tx (YL (.p4 (.p4 (.p0 (.p0 .d)))) (A:=Hr p L s) ⟨n,q,eb,c,d,rfl,f,e⟩) fun I=>Tp (.t3 (.t2 .e)) ?_
   exact Cu (Dq rfl rfl rfl (.refl _) ⟨rfl,L,_,.refl _,rfl⟩)
  rw[x,Co]at he
  refine Oi (YN (.t4 (.t4 (.t0 (.t0 (.t2 (.t0 .e))))))) ?_
  refine OA 14 ?_
  exact⟨i+1,⟨⟨by omega,he⟩,Sb5,.refl _⟩,by omega⟩
 rw[AM (by omega)]at he
 have h3:¬r.writes.any (fun o:Es=>s.later o.key r.start)=true:=(by rw[<-he];exact AS)
 refine OA 2 ?_
 refine CP (fun(b:Nat)=>[(0,Cr p),(3,Cr b3),(12,Cr b)]) (fun b=>[Ut p s n q eb,Dm n id c,Dm q gA d,Dm eb gE s.ends,pool L,blk b3 (.cells (Jg r (.slice F r.writes.length wc) (.slice D r.reads.length E)).toArray 201 (0,0)),blk b (.cells #[.bool s.serial] 4 (0,0))]) (fun _=>True) ?_ ?_
 ·refine OA 6 ?_
  refine Df 67 rfl (fun y=>?_) (fun y=>?_)
  ·refine OA 4 ?_
   refine O1 (YK (v':=Cs 0) (Za rfl rfl rfl) rfl) ?_
   refine O1 Rv ?_
   refine O1 Xp1 ?_
   refine O6 (YQ zr4) fun b=>?_
   refine OA 2 ?_
   exact⟨b,trivial,Sb3,by rw[y];exact .refl _⟩
  refine OA 7 ?_
  refine O6 (YQ zr4) fun b=>?_
  refine OA 2 ?_
  exact⟨b,trivial,Sb3,by rw[y];exact .refl _⟩
 rintro b -
 refine OA 9 ?_
 refine CD (fun(i:Nat)=>[(0,Cr p),(3,Cr b3),(12,Cr b),(76,.slice D r.reads.length E),(77,Cs r.reads.length),(78,Cs i)]) (fun _=>[Ut p s n q eb,Dm n id c,Dm q gA d,Dm eb gE s.ends,pool L,blk b3 (.cells (Jg r (.slice F r.writes.length wc) (.slice D r.reads.length E)).toArray 201 (0,0)),blk b (.cells #[.bool s.serial] 4 (0,0))]) (fun i=>i<=r.reads.length/\(s.serial && (r.reads.drop i).any (fun k:Int=>s.later k r.start))=(s.serial && r.reads.any (fun k:Int=>s.later k r.start))) (fun i=>r.reads.length-i) 0 ?_ ?_
 ·exact⟨⟨Af _,rfl⟩,Sb6,.refl _⟩
 rintro i ⟨hi,he⟩
 refine OA 5 ?_
 refine Cy rfl (fun N=>?_) (fun N=>?_)
 ·obtain⟨o,ho⟩:∃o,r.reads[i]? =some o:=⟨_,Ae (by omega)⟩
  have hc:(r.reads.flatMap zv)[i]? =some (gI o):=by have:=ED (g:=zv) (fun _=>rfl) ho 0 _ rfl;rwa [Bm]at this
  refine CM at4 hr.rd hc fun ad H=>?_
  subst H
  rw[QZ ho]at he
  refine OA 5 ?_
  refine O1 (GO (i) u28) ?_
  refine O1 (Ct.reads (j:=i) rfl rfl at4 hr.rd u3 rfl hc) ?_
  refine OA 6 ?_
  refine Df 83 rfl (fun l=>?_) (fun l=>?_)
  ·refine OA 4 ?_
   refine O8 (Zd rfl (en 197) rfl (.p0 (.p0 (.p2 .d))) (MY p L s n q eb c f o r.start)) ?_
   refine OA 2 ?_
   refine CE rfl (fun B=>?_) (fun B=>?_)
   ·rw[l,B,Bool.true_or,Bool.true_and,<-l]at he
    rw[show s.prepare r=(s,0,61) by unfold Fj.prepare;rw[Aa h1,Aa h2,Aa h3,Ah (he.symm.trans l)]]
    refine OA 5 ?_
    refine Tx (YL (.p4 (.p4 (.p0 (.p0 .d)))) (A:=Hr p L s) ⟨n,q,eb,c,d,rfl,f,e⟩) fun I=>Tp (.t3 (.t2 .e)) ?_
    exact Cu (Dq rfl rfl rfl (.refl _) ⟨rfl,L,_,.refl _,rfl⟩)
   rw[B,Co]at he
   refine Tp (.t4 (.t4 (.t0 (.t0 (.t2 (.t0 (.t0 .e))))))) (OA 5 ?_)
   exact⟨i+1,⟨⟨by omega,he⟩,Sb6,.refl _⟩,by omega⟩
  refine OA 13 ?_
  exact⟨i+1,⟨⟨by omega,by rw[l];rfl⟩,Sb6,.refl _⟩,by omega⟩
 rw[AM (by omega)]at he
 have h4:¬(s.serial && r.reads.any (fun k:Int=>s.later k r.start))=true:=by rw[<-he];simp
 refine OA 6 ?_
 refine O1 (Qaa (ys:=[.tmp 3,.tmp 12]) (vs:=[_,_]) rfl rfl) ?_
 refine CL (YL (.p5 (.p5 .d)) (A:=(fun rs=>rs=[blk b3 (.cells (Jg r (.slice F r.writes.length wc) (.slice D r.reads.length E)).toArray 201 (0,0)),blk b (.cells #[.bool s.serial] 4 (0,0))])) rfl) ?_
 rintro _ ⟨S2,rfl⟩
 refine Oc rfl (en 193) rfl (.p0 (.p1 (.p2 (.p2 .d)))) (Ly p L s n q eb d e hf r.txn _ (fun rs=>rs=[blk b3 (.cells (Jg r (.slice F r.writes.length wc) (.slice D r.reads.length E)).toArray 201 (0,0)),blk b (.cells #[.bool s.serial] 4 (0,0))]) S2 (r.bars s.serial) (Uy b3 b s.serial L r F D wc E hw hr s hf)) ?_
 rintro _ _ ⟨rfl,I,rfl⟩
 refine OA 6 ?_
 refine Cx (Cv.op (.p5 .d)) ?_
 rintro _ ⟨_,rfl,rfl⟩
 refine Tp (.t2 (.t0 (.t1 (.t0 (.t0 (.t0 .e)))))) (OA 5 ?_)
 refine Df 100 rfl (fun m=>?_) (fun m=>?_)
 ·rw[show s.prepare r=(s,(s.blocks r.txn (r.bars s.serial)).1,60) by unfold Fj.prepare;rw[Aa h1,Aa h2,Aa h3,Aa h4,Ah m]]
  refine OA 4 ?_
  refine O1 (YK (v':=Cs 0) (Za rfl rfl rfl) rfl) ?_
  refine O1 Rv ?_
  refine OA 9 ?_
  refine Tx (YL (.p0 (.p0 (.p0 (.p0 .d)))) (A:=Hr p L s) ⟨n,q,eb,c,d,rfl,f,e⟩) fun I=>Tp (.t2 (.t0 .e)) ?_
  exact Cu (Dq rfl rfl rfl (.refl _) ⟨rfl,L,_,.refl _,rfl⟩)
 rw[show s.prepare r=({s with ready:=aset r.txn r s.ready},0,0) by unfold Fj.prepare;rw[Aa h1,Aa h2,Aa h3,Aa h4,Aa (by rw[m];exact AS)]]
 refine OA 11 ?_
 refine Cw (.t (.s4 (.t .d))) rfl (fun j=>Nat.beq j 19) ?_
 intro K
 refine DA [0,1,2,3,4,5,6,7,8,9,10,11,12,13,15,16] ?_
 refine Da 14 ?_
 refine DB rfl rfl (en 49) rfl (.p4 .d) (GX F r.writes.length wc (r.writes.flatMap Et) _ hw.rd (Ft (g:=Et) (s:=3) (fun _=>rfl) _) (GH fun _=>rfl) (by omega)) ?_
 rintro _ _ ⟨X,Z,rfl,rfl⟩
 refine ys (Da 17 ?_)
 refine DB rfl rfl (en 171) rfl (.p5 .d) (LB D r.reads.length E (r.reads.flatMap zv) _ hr.rd (Ft (g:=zv) (s:=1) (fun _=>rfl) _) (GH fun _=>rfl) (by omega)) ?_
 rintro _ _ ⟨R,U,rfl,rfl⟩
 refine ys (D1 18 rfl (Xb bt201.h) ?_)
 refine Da 19 ?_
 refine D8 rfl (ZK (g:=gA) r.txn (Jg r (.slice X r.writes.length Z) (.slice R r.reads.length U)) u272 u3) ?_
 refine D0 (Cx (Zg (.p6 (.p5 .d))) ?_)
 rintro _ ⟨L3,G,O,rfl⟩
 refine Cx (Zg (.p6 (.p5 .d))) ?_
 rintro _ ⟨L4,C,P,rfl⟩
 refine OA 5 ?_
 refine Tx (YL (.p0 (.p0 (.p0 (.p0 .d)))) (A:=Hr p L4 {s with ready:=aset r.txn r s.ready}) ⟨n,q,eb,c,_,rfl,f.mono fun _ _ h=>Dx.le (G.trans C) h,(e.mono fun _ _ h=>h.le (G.trans C)).aset r.txn ⟨_,_,rfl,PSl.le C O,P⟩⟩) fun I=>Tp (.t2 (.t1 .e)) ?_
 exact Cu (Dq rfl rfl rfl (.refl _) ⟨rfl,L4,_,G.trans C,rfl⟩)
theorem CX.bor{w0 w:World}{b_ b_':N_}{h:Mem}(o:CX w0 b_ h w)(hb:∀i,i∈b_↔i∈b_'):CX w0 b_' h w:=
 ⟨o.os,o.tape,o.output,o.size,fun k hk hn=>o.old k hk fun h=>hn ((hb k).1 h),o.mine,o.nd,fun r hr i hi=>(o.fr r hr i hi).imp id (hb i).1⟩
theorem Qa6{P:Program}{f:FuncId}{vs:V_}{b:Mem}{S:N_}{A:Mem->Prop}{R:Value->Mem->Prop}(hg:∀rs,A rs->Sp P f vs (rs++b) R):Sp P f vs (cm S A::b) R:=fun w ho=>by
 obtain⟨rs,d,hp,hr⟩:=ho.mine _ Ar
 have c:((rs++b).flatMap CW.ids).Perm ((cm S A::b).flatMap CW.ids):=by
  simp only[List.flatMap_append,List.flatMap_cons]
  exact hp.append_right _
 have o2:CX w ((rs++b).flatMap CW.ids) (rs++b) w:=⟨rfl,rfl,rfl,Al _,fun _ _ _=>rfl,fun r hm=>by
  rcases AC.1 hm with hm|hm
  ·exact hr r hm
  ·exact ho.mine r (Aw _ hm),c.nodup_iff.2 ho.nd,fun r hm i hi=>.inr (Ba.2 ⟨r,hm,hi⟩)⟩
 exact Calls.mono (hg rs d w o2) fun _ _ ⟨v,h1,he,hR,ho1⟩=>⟨v,h1,he,hR,ho1.bor fun i=>c.mem_iff⟩
def Mt(p:Nat)(w:CF)(rs:Mem):Prop:=∃ao cap,rs=TS p ao cap w
def HR(p:Nat)(r:CC)(rs:Mem):Prop:=∃ao cap,rs=Oa p ao cap r
theorem Sp.wr{P:Program}{f:FuncId}{vs:V_}{p:Nat}{w w':CF}{u:Value}(S:N_)(hg:∀ao cap,Sp P f vs (TS p ao cap w) fun v h=>v=u/\∃ao cap,h=TS p ao cap w'):Sp P f vs [cm S (Mt p w)] fun v h=>v=u/\∃b,h=[cm b (Mt p w')]:=
 Qa6 fun _ ⟨ao,cap,e⟩=>by
  subst e
  exact(hg ao cap).imp fun _ _ v h ⟨h1,ao',cap',h2⟩=>by subst h1 h2;exact Cv.then (YL (.p0 (.p0 .d)) (A:=Mt p w') ⟨_,_,rfl⟩) fun _ ⟨c,e⟩=>YM ⟨rfl,c,e⟩
theorem Sp.rd{P:Program}{f:FuncId}{vs:V_}{p:Nat}{r r':CC}{u:Value}(S:N_)(hg:∀ao cap,Sp P f vs (Oa p ao cap r) fun v h=>v=u/\h=Oa p ao cap r'):Sp P f vs [cm S (HR p r)] fun v h=>v=u/\∃b,h=[cm b (HR p r')]:=
 Qa6 fun _ ⟨ao,cap,e⟩=>by
  subst e
  exact(hg ao cap).imp fun _ _ v h ⟨h1,h2⟩=>by subst h1 h2;exact Cv.then (YL (.p0 (.p0 .d)) (A:=HR p r') ⟨_,_,rfl⟩) fun _ ⟨c,e⟩=>YM ⟨rfl,c,e⟩
theorem CF.int_ok{w:CF}(h:w.Ok)(x:Int):(w.int x).Ok:=CF.num_ok h _
theorem YU(w:CF)(x:Int):w.n<=(w.int x).n/\(w.int x).n<=w.n+129:=ZA (Wn x)
theorem CC.int_ok{r:CC}(h:r.Ok):r.int.2.Ok:=CC.num_ok h
theorem Ec{P:Program}{n:Nat}{w0:World}{b_:N_}{l:Dh}{h:Mem}{c:Func}{R:Value->Mem->Prop}{h0:Mem}{t u T:Nat}{d:TypeDesc}{s b i:Nat}{cs:V_}{v2:Value}{T':TypeId}{e:Nat×Nat}(g:P.underlying T=some d)(hs:h0.Sublist h)(f:R (.tuple #[.agg cs.toArray,v2]) h0)(hr:c.results= #[.cell t T,.tmp u]:=by rfl)(ht:fnd l t=some (.pointer (some ⟨b,0,none⟩)):=by rfl)(j:fnd l u=some v2:=by rfl)
  (hi:FG h i (blk b (.cells cs.toArray T' e)):=by first|exact at0|exact at1|exact at2|exact at3|exact at4|exact at5|exact at6|exact at7|exact at8|exact at9) (hd:ET d=true:=by rfl) (hsz:(P.info? T).map (·.size)=some s:=by rfl) (hc:cs.length=s:=by rfl):Hb P n w0 b_ c R .ret l h:=
 retCT i hr ht j hi.at ⟨g,hsz⟩ hd (by simpa using hc) hs f
section
variable (p:Nat)(S:N_)(w:CF)(hw:w.Ok)(r:CC)(hr:r.Ok)
include hw in
theorem oput(hn:w.n<281474976710656)(x:Nat)(hx:x<18446744073709551616)(n:Int)(k:Nat)(b:n=k)(hk:k<=64):Sp P0 122 [.pointer (some ⟨p,0,none⟩),.int .u64 x,.int .i64 n] [cm S (Mt p w)] fun v h=>v= .tuple #[]/\∃c,h=[cm c (Mt p (w.put x k))]:=Sp.wr S fun ao cap=>Gv p ao cap w hw hn x hx n k b hk
include hw in
theorem Vt(hn:w.n<140737488355328)(x:Nat)(hx:x<18446744073709551616):Sp P0 121 [.pointer (some ⟨p,0,none⟩),.int .u64 x] [cm S (Mt p w)] fun v h=>v= .tuple #[]/\∃b,h=[cm b (Mt p (w.num x))]:=Sp.wr S fun ao cap=>JP p ao cap w hw hn x hx
include hw in
theorem HM(hn:w.n<140737488355328)(x:Int):Sp P0 152 [.pointer (some ⟨p,0,none⟩),.int .i64 x] [cm S (Mt p w)] fun v h=>v= .tuple #[]/\∃b,h=[cm b (Mt p (w.int x))]:=Sp.wr S fun ao cap=>int_spec p ao cap w hw hn x
theorem PR(hn:w.b.length<17592186044416):Sp P0 123 [.pointer (some ⟨p,0,none⟩)] [cm S (Mt p w)] fun v h=>∃a c,v= .slice a w.b.length c/\h=[sq a w.b.length c 5 1 (w.b.map u8)]:=
 Qa6 fun _ ⟨ao,cap,e⟩=>by
  subst e
  exact(LS p ao cap w hn).imp fun _ _ v h ⟨a,c,h1,h2⟩=>by subst h1 h2;exact Cv.then (YN (.t2 .e)) fun _ e=>YM ⟨a,c,rfl,e⟩
include hr in
theorem MW:Sp P0 82 [.pointer (some ⟨p,0,none⟩)] [cm S (HR p r)] fun v h=>v= .int .u64 r.num.1/\∃b,h=[cm b (HR p r.num.2)]:=Sp.rd S fun ao cap=>IX p ao cap r hr
include hr in
theorem FH:Sp P0 93 [.pointer (some ⟨p,0,none⟩)] [cm S (HR p r)] fun v h=>v= .int .i64 r.int.1/\∃b,h=[cm b (HR p r.int.2)]:=Sp.rd S fun ao cap=>Xh p ao cap r hr
include hr in
theorem ogetr(n:Nat)(hn:n<=64):Sp P0 142 [.pointer (some ⟨p,0,none⟩),.int .i64 n] [cm S (HR p r)] fun v h=>v= .int .u64 (r.get n).1/\∃b,h=[cm b (HR p (r.get n).2)]:=Sp.rd S fun ao cap=>JU p ao cap r hr n hn
theorem Xo:Sp P0 94 [.pointer (some ⟨p,0,none⟩)] [cm S (HR p r)] fun v h=>v= .int .i64 r.bad/\∃b,h=[cm b (HR p r)]:=Sp.rd S fun ao cap=>XF p ao cap r
include hr in
theorem oendr:Sp P0 83 [.pointer (some ⟨p,0,none⟩)] [cm S (HR p r)] fun v h=>v= .int .i64 r.end_/\∃b,h=[cm b (HR p r)]:=Sp.rd S fun ao cap=>Pv p ao cap r hr
theorem oFail(e:Int):Sp P0 181 [.pointer (some ⟨p,0,none⟩),.int .i64 e] [cm S (HR p r)] fun v h=>v= .tuple #[]/\∃b,h=[cm b (HR p (r.fail e))]:=Sp.rd S fun ao cap=>UF p ao cap r e
end
def CF.ops(w:CF)(os:List Es):CF:=os.foldl (fun w o=>(w.int o.key).int o.val) w
def CF.ints(w:CF)(zs:List Int):CF:=zs.foldl CF.int w
def CF.ry(w:CF)(r:Ge):CF:=(((((((w.int r.txn).int r.home).int r.start).num r.writes.length).ops r.writes).num r.reads.length).ints r.reads)
def CF.en(w:CF)(e:NY):CF:=((w.int e.txn).put (if e.commit then 1 else 0) 1).int e.at_
theorem Qa4:∀(os:List Es) {w:CF},w.Ok->(w.ops os).Ok/\w.n<=(w.ops os).n/\(w.ops os).n<=w.n+258*os.length
 |[],w,h=>⟨h,Al _,Al _⟩
 |o::os,w,h=>by
  obtain⟨h1,h2,h3⟩:=Qa4 os (CF.int_ok (CF.int_ok h o.key) o.val)
  have a1:=YU w o.key;have a2:=YU (w.int o.key) o.val
  exact⟨h1,by show w.n<=(CF.ops ((w.int o.key).int o.val) os).n;omega,by show(CF.ops ((w.int o.key).int o.val) os).n<=_;simp only[List.length_cons];omega⟩
theorem Qac:∀(os:List Int) {w:CF},w.Ok->(w.ints os).Ok/\w.n<=(w.ints os).n/\(w.ints os).n<=w.n+129*os.length
 |[],w,h=>⟨h,Al _,Al _⟩
 |o::os,w,h=>by
  obtain⟨h1,h2,h3⟩:=Qac os (CF.int_ok h o)
  have a1:=YU w o
  exact⟨h1,by show w.n<=(CF.ints (w.int o) os).n;omega,by show(CF.ints (w.int o) os).n<=_;simp only[List.length_cons];omega⟩
theorem CF.ry_ok(r:Ge){w:CF}(h:w.Ok)(h1:r.writes.length<=16777216)(h2:r.reads.length<=16777216):(w.ry r).Ok/\w.n<=(w.ry r).n/\(w.ry r).n<=w.n+258*r.writes.length+129*r.reads.length+645:=by
 have a1:=YU w r.txn;have a2:=YU (w.int r.txn) r.home;have a3:=YU ((w.int r.txn).int r.home) r.start
 have k1:=CF.int_ok (CF.int_ok (CF.int_ok h r.txn) r.home) r.start
 have a4:=ZA (w:=((w.int r.txn).int r.home).int r.start) (x:=r.writes.length) (by omega)
 obtain⟨k2,a5,a6⟩:=Qa4 r.writes (CF.num_ok k1 r.writes.length)
 have a7:=ZA (w:=((((w.int r.txn).int r.home).int r.start).num r.writes.length).ops r.writes) (x:=r.reads.length) (by omega)
 obtain⟨k3,b,c⟩:=Qac r.reads (CF.num_ok k2 r.reads.length)
 exact⟨k3,by show w.n<=(CF.ints _ r.reads).n;omega,by show(CF.ints _ r.reads).n<=_;omega⟩
theorem CF.en_ok(e:NY){w:CF}(h:w.Ok):(w.en e).Ok/\w.n<=(w.en e).n/\(w.en e).n<=w.n+259:=by
 have a1:=YU w e.txn;have a2:=ZT (w:=w.int e.txn) (if e.commit then 1 else 0) 1
 have a3:=YU ((w.int e.txn).put (if e.commit then 1 else 0) 1) e.at_
 exact⟨CF.int_ok (Zu (CF.int_ok h _) _ _) _,by show w.n<=(CF.int _ _).n;omega,by show(CF.int _ _).n<=_;omega⟩
theorem Rs(q:Nat)(S:N_)(L:PL)(w:CF)(hw:w.Ok)(r:Ge)(f:r.Fit)(hn:w.n+258*r.writes.length+129*r.reads.length<140737488350000)(C B:Value)(e:Dx L C Et r.writes)(d:Dx L B zv r.reads):
  Sp P0 168 [.agg (Jg r C B).toArray,Cr q] [pool L,cm S (Mt q w)] fun v h=>v= .tuple #[]/\∃D,h=[pool L,cm D (Mt q (w.ry r))]:=by
 obtain⟨A,wc,rfl,J,K⟩:=e.sh
 obtain⟨t,y,rfl,hrc,hrm⟩:=d.sh
 have hwl:=f.writes;have hrl:=f.reads
 have a1:=YU w r.txn;have a2:=YU (w.int r.txn) r.home;have a3:=YU ((w.int r.txn).int r.home) r.start
 have k1:=CF.int_ok (CF.int_ok (CF.int_ok hw r.txn) r.home) r.start
 have a4:=ZA (w:=((w.int r.txn).int r.home).int r.start) (x:=r.writes.length) (by omega)
 have k2:=CF.num_ok k1 r.writes.length
 refine Sq Tryz.func168 fun w0 b_=>?_
 refine OA 2 ?_
 refine O6 YR fun b2=>?_
 refine OA 6 ?_
 refine Oc rfl (en 152) rfl (.p1 .d) (HM q S w hw (by omega) r.txn) ?_
 rintro _ _ ⟨rfl,E,rfl⟩
 refine OA 6 ?_
 refine Oc rfl (en 152) rfl (.p2 .d) (HM q E _ (CF.int_ok hw _) (by omega) r.home) ?_
 rintro _ _ ⟨rfl,F,rfl⟩
 refine OA 6 ?_
 refine Oc rfl (en 152) rfl (.p2 .d) (HM q F _ (CF.int_ok (CF.int_ok hw _) _) (by omega) r.start) ?_
 rintro _ _ ⟨rfl,G,rfl⟩
 refine OA 7 ?_
 refine O1 (YK (v':=.int .u64 ((r.writes.length:Nat):Int)) (Ze rfl rfl u3 u22) (by rw[DJ (by omega) (by omega)])) ?_
 refine Oc rfl (en 121) rfl (.p2 .d) (Vt q G _ k1 (by omega) r.writes.length (by omega)) ?_
 rintro _ _ ⟨rfl,H,rfl⟩
 refine OA 10 ?_
 refine CD (fun((i,b):Nat×N_)=>[(1,Cr q),(2,Cr b2),(27,.slice A r.writes.length wc),(28,Cs r.writes.length),(29,Cs i)]) (fun(i,b)=>[pool L,blk b2 (.cells (Jg r (.slice A r.writes.length wc) (.slice t r.reads.length y)).toArray 201 (0,0)),cm b (Mt q ((((w.int r.txn).int r.home).int r.start).num r.writes.length |>.ops (r.writes.take i)))]) (fun(i,_)=>i<=r.writes.length) (fun(i,_)=>r.writes.length-i) (0,H) ?_ ?_
 ·exact⟨Af _,Sb5,.refl _⟩
 rintro⟨i,b⟩ hi
 change i<=r.writes.length at hi
 conv=>arg 7;dsimp only
 conv=>arg 8;dsimp only
 obtain⟨k3,a5,a6⟩:=Qa4 (r.writes.take i) k2
 rw[AF]at a6
 refine OA 5 ?_
 refine Cy rfl (fun l=>?_) (fun l=>?_)
 ·obtain⟨o,ho⟩:∃o,r.writes[i]? =some o:=⟨_,Ae (by omega)⟩
  have hc:∀k u,(Et o)[k]? =some u->(r.writes.flatMap Et)[i*3+k]? =some u:=ED (g:=Et) (s:=3) (fun _=>rfl) ho
  refine CM at0 e.rd (hc 0 _ rfl) fun ad c=>?_
  subst c
  have hs:CF.ops ((((w.int r.txn).int r.home).int r.start).num r.writes.length) (r.writes.take (i+1))=((CF.ops ((((w.int r.txn).int r.home).int r.start).num r.writes.length) (r.writes.take i)).int o.key).int o.val:=by unfold CF.ops;rw[Dg ho,BP];rfl
  refine OA 5 ?_
  refine O1 (Jt i u60) ?_
  refine O1 (YW (j:=i*3) u64 e.rd hc rfl) ?_
  refine O6 (YQ XP) fun O=>?_
  refine OA 7 ?_
  refine Oc rfl (en 152) rfl (.p2 .d) (HM q b _ k3 (by omega) o.key) ?_
  rintro _ _ ⟨rfl,n,rfl⟩
  refine OA 5 ?_
  refine Oc rfl (en 152) rfl (.p3 .d) (HM q n _ (CF.int_ok k3 _) (by have:=YU (CF.ops ((((w.int r.txn).int r.home).int r.start).num r.writes.length) (r.writes.take i)) o.key;omega) o.val) ?_
  rintro _ _ ⟨rfl,p,rfl⟩
  refine OA 5 ?_
  exact⟨(i+1,p),⟨show i+1<=_ by omega,Sb5,by rw[<-hs];exact .cons_cons _ (.cons_cons _ (.cons _ (.refl _)))⟩,by simp only;omega⟩
 rw[AU (by omega)]at k3 a5 a6 ⊢
 have a7:=ZA (w:=CF.ops ((((w.int r.txn).int r.home).int r.start).num r.writes.length) r.writes) (x:=r.reads.length) (by omega)
 have k4:=CF.num_ok k3 r.reads.length
 refine OA 7 ?_
 refine O1 (YK (v':=.int .u64 ((r.reads.length:Nat):Int)) (Ze rfl rfl u3 u22) (by rw[DJ (by omega) (by omega)])) ?_
 refine Oc rfl (en 121) rfl (.p2 .d) (Vt q b _ k3 (by omega) r.reads.length (by omega)) ?_
 rintro _ _ ⟨rfl,n,rfl⟩
 refine OA 9 ?_
 refine CD (fun((i,b):Nat×N_)=>[(1,Cr q),(2,Cr b2),(49,.slice t r.reads.length y),(50,Cs r.reads.length),(51,Cs i)]) (fun(i,b)=>[pool L,blk b2 (.cells (Jg r (.slice A r.writes.length wc) (.slice t r.reads.length y)).toArray 201 (0,0)),cm b (Mt q (((((w.int r.txn).int r.home).int r.start).num r.writes.length |>.ops r.writes).num r.reads.length |>.ints (r.reads.take i)))]) (fun(i,_)=>i<=r.reads.length) (fun(i,_)=>r.reads.length-i) (0,n) ?_ ?_
 ·exact⟨Af _,Sb5,.refl _⟩
 rintro⟨i,b⟩ hi
 change i<=r.reads.length at hi
 conv=>arg 7;dsimp only
 conv=>arg 8;dsimp only
 obtain⟨M,N,I⟩:=Qac (r.reads.take i) k4
 rw[AF]at I
 refine OA 5 ?_
 refine Cy rfl (fun m=>?_) (fun m=>?_)
 ·obtain⟨o,ho⟩:∃o,r.reads[i]? =some o:=⟨_,Ae (by omega)⟩
  have hc:(r.reads.flatMap zv)[i]? =some (gI o):=by have:=ED (g:=zv) (fun _=>rfl) ho 0 _ rfl;rwa [Bm]at this
  refine CM at0 d.rd hc fun ad c=>?_
  subst c
  have hs:CF.ints ((CF.ops ((((w.int r.txn).int r.home).int r.start).num r.writes.length) r.writes).num r.reads.length) (r.reads.take (i+1))=(CF.ints ((CF.ops ((((w.int r.txn).int r.home).int r.start).num r.writes.length) r.writes).num r.reads.length) (r.reads.take i)).int o:=by unfold CF.ints;rw[Dg ho,BP];rfl
  refine OA 5 ?_
  refine O1 (GO (i) u28) ?_
  refine O1 (Ct.reads (j:=i) rfl rfl at0 d.rd u3 rfl hc) ?_
  refine OA 5 ?_
  refine Oc rfl (en 152) rfl (.p2 .d) (HM q b _ M (by omega) o) ?_
  rintro _ _ ⟨rfl,p,rfl⟩
  refine OA 5 ?_
  exact⟨(i+1,p),⟨show i+1<=_ by omega,Sb5,by rw[<-hs];exact .refl _⟩,by simp only;omega⟩
 rw[AU (by omega)]
 refine Te ?_
 exact Ef rfl (.cons_cons _ (.cons _ (.refl _))) ⟨rfl,_,rfl⟩
theorem RT(q:Nat)(S:N_)(w:CF)(hw:w.Ok)(hn:w.n<140737488350000)(e:NY):
  Sp P0 159 [Cr q,gE e] [cm S (Mt q w)] fun v h=>v= .tuple #[]/\∃f,h=[cm f (Mt q (w.en e))]:=by
 have a1:=YU w e.txn
 have a2:=ZT (w:=w.int e.txn) (if e.commit then 1 else 0) 1
 refine Sq Tryz.func159 fun w0 b_=>?_
 refine OA 2 ?_
 refine O6 YR fun b3=>?_
 refine OA 6 ?_
 refine Oc rfl (en 152) rfl (.p0 .d) (HM q S w hw (by omega) e.txn) ?_
 rintro _ _ ⟨rfl,d,rfl⟩
 refine OA 11 ?_
 refine CE rfl (fun b=>?_) (fun b=>?_)
 ·rw[b]at a2
  refine OA 7 ?_
  refine Oc rfl (en 122) rfl (.p1 .d) (oput q d _ (CF.int_ok hw _) (by omega) 1 (by decide) 1 1 rfl (by decide)) ?_
  rintro _ _ ⟨rfl,c,rfl⟩
  refine OA 5 ?_
  refine Oc rfl (en 152) rfl (.p1 .d) (HM q c _ (Zu (CF.int_ok hw _) _ _) (by rw[Ah rfl]at a2;omega) e.at_) ?_
  rintro _ _ ⟨rfl,g,rfl⟩
  refine On ?_
  exact Ef rfl (.cons _ (.refl _)) ⟨rfl,_,by unfold CF.en;rw[b];rfl⟩
 rw[b]at a2
 refine OA 5 ?_
 refine Oc rfl (en 122) rfl (.p1 .d) (oput q d _ (CF.int_ok hw _) (by omega) 0 (by decide) 1 1 rfl (by decide)) ?_
 rintro _ _ ⟨rfl,c,rfl⟩
 refine OA 5 ?_
 refine Oc rfl (en 152) rfl (.p1 .d) (HM q c _ (Zu (CF.int_ok hw _) _ _) (by rw[Aa AS]at a2;omega) e.at_) ?_
 rintro _ _ ⟨rfl,g,rfl⟩
 refine On ?_
 exact Ef rfl (.cons _ (.refl _)) ⟨rfl,_,by unfold CF.en;rw[b];rfl⟩
structure CC.On(r r':CC)(k:Nat):Prop where
 b:r'.b=r.b
 at_:r.at_<=r'.at_
 bad:r'.bad=0->r.bad=0/\r.at_+k<=r'.at_
theorem CC.On.trans{r r' r2:CC}{k m:Nat}(h:r.On r' k)(h2:r'.On r2 m):r.On r2 (k+m):=
 ⟨h2.b.trans h.b,AA h.at_ h2.at_,fun hb=>by obtain⟨a1,a2⟩:=h2.bad hb;obtain⟨a3,a4⟩:=h.bad a1;exact⟨a3,by omega⟩⟩
theorem CC.On.less{r r':CC}{k m:Nat}(h:r.On r' k)(hm:m<=k):r.On r' m:=⟨h.b,h.at_,fun hb=>⟨(h.bad hb).1,by have:=(h.bad hb).2;omega⟩⟩
theorem Qax(r:CC)(e:Int)(he:e≠0)(k:Nat):r.On (r.fail e) k:=by
 unfold CC.fail
 split
 ·exact⟨rfl,Al _,fun h=>absurd h he⟩
 ·rename_i hb;exact⟨rfl,Al _,fun h=>absurd h hb⟩
theorem Qas{r:CC}(h:r.Ok)(n:Nat):r.On (r.get n).2 n:=by
 unfold CC.get
 split
 ·exact Qax r 10 (by decide) n
 ·rename_i hl
  have ha:=h.at_
  cases n with
  |zero=>exact⟨rfl,Al _,fun hb=>⟨hb,Al _⟩⟩
  |succ n=>
   unfold CC.left at hl
   split at hl
   ·rename_i hb
    obtain⟨_,h2,h3,h4⟩:=CC.bits_ok (k:=n+1) (x:=0) h (by omega)
    exact⟨h2,by omega,fun _=>⟨hb,by omega⟩⟩
   ·omega
theorem CC.numL_on:∀(k:Nat) (r:CC) (n:Nat),r.Ok->r.On (CC.numL (k+1) r n).2 1
 |k,r,n,h=>by
  have h1:=ZE h 1
  have g1:=Qas h 1
  unfold CC.numL
  split
  ·exact g1
  ·split
   ·exact g1
   ·split
    ·exact(g1.trans (Qax _ 11 (by decide) 0))
    ·cases k with
     |zero=>exact g1
     |succ k=>exact(g1.trans (CC.numL_on k _ _ h1)).less (by omega)
theorem CC.numE_on{r:CC}(h:r.Ok)(n:Nat):r.On (r.numE n).2 0:=by
 have g1:=(Qas h 64).less (Af _)
 have g2:=(Qas h n).less (Af _)
 unfold CC.numE
 repeat' split
 all_goals first|exact(g1.trans (Qax _ 11 (by decide) 0))|exact g1|exact g2
theorem ZU{r:CC}(h:r.Ok):r.On r.num.2 1:=by
 have h1:=CC.numL_on 64 r 0 h
 have h2:=QaK 65 r 0 h
 unfold CC.num
 split
 ·rename_i r1 e;rw[e]at h1;exact h1
 ·rename_i n r1 e;rw[e]at h1 h2;exact h1.trans (CC.numE_on h2 n)
theorem Zn{r:CC}(h:r.Ok):r.On r.int.2 1:=ZU h
def Sj:Nat->List Es->CC->List Es×CC
 |0,os,r=>(os,r)
 |n+1,os,r=>if r.bad=0 then Sj n (os++[⟨2,r.int.1,r.int.2.int.1⟩]) r.int.2.int.2 else (os,r)
def TP:Nat->List Int->CC->List Int×CC
 |0,os,r=>(os,r)
 |n+1,os,r=>if r.bad=0 then TP n (os++[r.int.1]) r.int.2 else (os,r)
theorem Wg{n:Nat}{os:List Es}{r:CC}(h:¬r.bad=0):Sj n os r=(os,r):=by cases n with
 |zero=>rfl
 |succ n=>unfold Sj;rw[Aa h]
theorem PT{n:Nat}{os:List Int}{r:CC}(h:¬r.bad=0):TP n os r=(os,r):=by cases n with
 |zero=>rfl
 |succ n=>unfold TP;rw[Aa h]
theorem rdW_go{n:Nat}{os:List Es}{r:CC}(h:r.bad=0):Sj (n+1) os r=Sj n (os++[⟨2,r.int.1,r.int.2.int.1⟩]) r.int.2.int.2:=Ah h
theorem Vx{n:Nat}{os:List Int}{r:CC}(h:r.bad=0):TP (n+1) os r=TP n (os++[r.int.1]) r.int.2:=Ah h
def CC.ry(r:CC):Ge×CC:=
 let w:=Sj r.int.2.int.2.int.2.num.1 [] r.int.2.int.2.int.2.num.2
 let z:=TP w.2.num.1 [] w.2.num.2
 (⟨r.int.1,r.int.2.int.1,r.int.2.int.2.int.1,w.1,z.1⟩,z.2)
def CC.en(r:CC):NY×CC:=(⟨r.int.1,decide (((r.int.2.get 1).1:Int)=1),(r.int.2.get 1).2.int.1⟩,(r.int.2.get 1).2.int.2)
theorem CC.en_ok{r:CC}(h:r.Ok):r.en.2.Ok/\r.On r.en.2 0:=
 ⟨CC.int_ok (ZE (CC.int_ok h) 1),(((Zn h).trans (Qas (CC.int_ok h) 1)).trans (Zn (ZE (CC.int_ok h) 1))).less (Af _)⟩
theorem SA(q:Nat)(S:N_)(L:PL)(r:CC)(hr:r.Ok)(hb:r.b.length<=1048576):
  Sp P0 191 [Cr q] [cm S (HR q r),pool L] fun v h=>∃L' N c,Le L L'/\v=gA c/\TO L' c r.ry.1/\r.ry.2.Ok/\r.ry.2.b=r.b/\r.ry.1.Fit/\h=[cm N (HR q r.ry.2),pool L']:=by
 obtain⟨r1,e1⟩:∃x,x=r.int.2:=⟨_,rfl⟩
 have k1:r1.Ok:=e1▸CC.int_ok hr
 obtain⟨r2,e2⟩:∃x,x=r1.int.2:=⟨_,rfl⟩
 have k2:r2.Ok:=e2▸CC.int_ok k1
 obtain⟨g,e3⟩:∃x,x=r2.int.2:=⟨_,rfl⟩
 have k3:g.Ok:=e3▸CC.int_ok k2
 have s:g.num.2.b=r.b:=by rw[(ZU k3).b,e3,(Zn k2).b,e2,(Zn k1).b,e1,(Zn hr).b]
 obtain⟨x,ex⟩:∃x,x=r.int.1:=⟨_,rfl⟩
 obtain⟨y,I⟩:∃x,x=r1.int.1:=⟨_,rfl⟩
 obtain⟨z,J⟩:∃x,x=r2.int.1:=⟨_,rfl⟩
 obtain⟨ws,i⟩:∃ws,ws=(Sj g.num.1 [] g.num.2).1:=⟨_,rfl⟩
 obtain⟨D,h5⟩:∃x,x=(Sj g.num.1 [] g.num.2).2:=⟨_,rfl⟩
 have t:r.ry=(⟨x,y,z,ws,(TP D.num.1 [] D.num.2).1⟩,(TP D.num.1 [] D.num.2).2):=by subst ex I J i h5 e1 e2 e3;rfl
 rw[t]
 refine Sq Tryz.func191 fun w0 b_=>?_
 refine OA 2 ?_
 refine O6 (YQ Lx) fun b2=>?_
 refine OA 4 ?_
 refine Oc rfl (en 93) rfl (.p0 .d) (FH q S r hr) ?_
 rintro _ _ ⟨rfl,O,rfl⟩
 refine O1 DC ?_
 rw[<-e1]
 refine Oc rfl (en 93) rfl (.p2 .d) (FH q O r1 k1) ?_
 rintro _ _ ⟨rfl,P,rfl⟩
 refine O1 DC ?_
 rw[<-e2]
 refine Oc rfl (en 93) rfl (.p2 .d) (FH q P r2 k2) ?_
 rintro _ _ ⟨rfl,Q,rfl⟩
 refine O1 (Xb bt201.h) ?_
 refine O6 (YQ Lx) fun b3=>?_
 refine OA 2 ?_
 rw[<-e3,<-ex,<-I,<-J]
 refine OA 4 ?_
 refine Oc rfl (en 82) rfl (.p2 .d) (MW q Q g k3) ?_
 rintro _ _ ⟨rfl,d,rfl⟩
 refine OA 2 ?_
 refine Tp (.t0 (.t0 (.t0 (.n (T:=64) (sz:=3) (.t0 .e))))) (CP (fun((os,b,d,oa,oc):List Es×CC×N_×A_×Nat)=>[(0,Cr q),(2,Cr b2),(3,Cr b3)]) (fun((os,b,d,oa,oc):List Es×CC×N_×A_×Nat)=>[pool L,blk b2 (.cells #[Cs 0,Cs 0,Cs 0,.slice none 0 0,.slice none 0 0] 201 (0,0)),blk b3 (.cells #[Cs x,Cs y,Cs z,.slice oa os.length oc,.slice none 0 0] 201 (0,0)),sq oa os.length oc 64 3 (os.flatMap Et),cm d (HR q b)]) (fun((os,b,d,oa,oc):List Es×CC×N_×A_×Nat)=>os=ws/\b=D/\b.b=r.b/\b.Ok/\b.b.length<=1048576/\(b.bad=0->os.length<=b.at_)/\os.length<=8*b.b.length+1) ?_ ?_)
 ·refine Tb (CD (fun((n,os,b,d,oa,oc):Nat×List Es×CC×N_×A_×Nat)=>[(0,Cr q),(2,Cr b2),(3,Cr b3),(4,.int .u64 n)]) (fun(n,os,b,d,oa,oc)=>[pool L,blk b2 (.cells #[Cs 0,Cs 0,Cs 0,.slice none 0 0,.slice none 0 0] 201 (0,0)),blk b3 (.cells #[Cs x,Cs y,Cs z,.slice oa os.length oc,.slice none 0 0] 201 (0,0)),sq oa os.length oc 64 3 (os.flatMap Et),cm d (HR q b)]) (fun(n,os,b,d,oa,oc)=>n<18446744073709551616/\Sj n os b=Sj g.num.1 [] g.num.2/\b.b=r.b/\b.Ok/\b.b.length<=1048576/\(b.bad=0->os.length<=b.at_)/\os.length<=8*b.b.length+1) (fun(n,_)=>n) (g.num.1,[],g.num.2,d,none,0) ?_ ?_)
  ·exact⟨⟨Qaj g,rfl,s,CC.num_ok k3,by rw[s];exact hb,fun _=>Af _,Af _⟩,Sb4,.refl _⟩
  rintro⟨n,os,b,d,oa,oc⟩ ⟨hn,he,hbb,k4,hbl,hob,hol⟩
  conv=>arg 7;dsimp only
  conv=>arg 8;dsimp only
  refine OA 6 ?_
  refine CJ 17 rfl (fun A=>?_) (fun A=>?_)
  ·refine O1 DC ?_
   refine Oc rfl (en 94) rfl (.p4 .d) (Xo q d b) ?_
   rintro _ _ ⟨rfl,l,rfl⟩
   refine OA 3 ?_
   refine Cy rfl (fun f=>?_) (fun f=>?_)
   ·obtain⟨m,rfl⟩:∃m,n=m+1:=⟨n-1,by omega⟩
    have ha:=k4.at_
    have o1:=Zn k4
    have o2:=Zn (CC.int_ok k4)
    have o12:=o1.trans o2
    have hob':=hob f
    rw[rdW_go f]at he
    refine OA 3 ?_
    refine Cw (.s2 (.t .d)) rfl (fun j=>Nat.beq j 10) ?_
    intro H
    refine DA [0,1,2,4] ?_
    refine Da 3 ?_
    refine DB rfl rfl (en 93) rfl (.p4 .d) (FH q l b k4) ?_
    rintro _ _ ⟨rfl,E,rfl⟩
    refine ys (Da 5 ?_)
    refine DB rfl rfl (en 93) rfl (.p4 .d) (FH q E _ (CC.int_ok k4)) ?_
    rintro _ _ ⟨rfl,R,rfl⟩
    refine ys (D1 6 rfl (Xb bt64.h) ?_)
    refine Da 7 ?_
    refine D6 rfl (YY u60) ?_
    rintro _ _ ⟨U,rfl,rfl⟩
    refine ys (Da 8 ?_)
    refine D6 rfl (LO.app (ao:=oa) Qn) ?_
    rintro _ _ ⟨o,p,rfl,rfl⟩
    refine ys (D1 9 rfl (Ct.fld 3 3 3 u201) ?_)
    refine Da 10 ?_
    refine D8 rfl YO ?_
    refine D0 (Tp (.t0 (.t0 (.t0 (.t0 (.t0 .e))))) (OA 2 ?_))
    refine O1 (YK (v':=.int .u64 ((m:Nat):Int)) (ZM rfl rfl rfl) (by rw[show((m+1:Nat):Int)-1=m by omega,DJ (by omega) (by omega)])) ?_
    refine OA 2 ?_
    exact⟨(m,os++[⟨2,b.int.1,b.int.2.int.1⟩],b.int.2.int.2,R,o,p),⟨⟨by omega,he,o12.b.trans hbb,CC.int_ok (CC.int_ok k4),by rw[o12.b];exact hbl,fun h=>by have:=(o12.bad h).2;simp only[List.length_append,List.length_cons,List.length_nil];omega,by rw[o12.b];simp only[List.length_append,List.length_cons,List.length_nil];omega⟩,Sb4,by simp only[List.length_append,List.length_cons,List.length_nil,List.flatMap_append,List.flatMap_cons,List.flatMap_nil];exact .refl _⟩,by simp only;omega⟩
   refine Te ?_
   rw[Wg f]at he
   exact⟨(os,b,l,oa,oc),⟨by rw[i,<-he],by rw[h5,<-he],hbb,k4,hbl,hob,hol⟩,Sb3,.refl _⟩
  refine OA 7 ?_
  obtain rfl:n=0:=by omega
  exact⟨(os,b,d,oa,oc),⟨by rw[i,<-he];rfl,by rw[h5,<-he];rfl,hbb,k4,hbl,hob,hol⟩,Sb3,.refl _⟩
 rintro⟨os,b,d,K,wc⟩ ⟨rfl,rfl,hbb,k4,hbl,hob,hol⟩
 conv=>arg 4;dsimp only
 conv=>arg 5;dsimp only
 refine Cx (Zg (.p0 (.p2 .d))) ?_
 rintro _ ⟨L2,F,w,rfl⟩
 have W:b.num.2.b=r.b:=(ZU k4).b.trans hbb
 clear i h5
 obtain⟨ws,C⟩:∃x,x=os:=⟨_,rfl⟩
 rw[<-C]at w hol ⊢
 have hwl:ws.length<=16777216:=by omega
 clear hob C t
 refine OA 4 ?_
 refine Oc rfl (en 82) rfl (.p2 .d) (MW q d b k4) ?_
 rintro _ _ ⟨rfl,l,rfl⟩
 refine OA 2 ?_
 refine Tp (.t2 (.t0 (.t0 (.n (T:=3) (sz:=1) (.t0 .e))))) (CP (fun((os,b,d,oa,oc):List Int×CC×N_×A_×Nat)=>[(0,Cr q),(2,Cr b2),(3,Cr b3)]) (fun(os,e,d,oa,oc)=>[pool L2,blk b2 (.cells #[Cs 0,Cs 0,Cs 0,.slice none 0 0,.slice none 0 0] 201 (0,0)),blk b3 (.cells #[Cs x,Cs y,Cs z,.slice K ws.length wc,.slice oa os.length oc] 201 (0,0)),sq oa os.length oc 3 1 (os.flatMap zv),cm d (HR q e)]) (fun(os,e,d,oa,oc)=>(os,e)=TP b.num.1 [] b.num.2/\e.b=r.b/\e.Ok/\os.length<=16777216) ?_ ?_)
 ·refine Tb (CD (fun((n,os,e,d,oa,oc):Nat×List Int×CC×N_×A_×Nat)=>[(0,Cr q),(2,Cr b2),(3,Cr b3),(5,.int .u64 n)]) (fun(n,os,e,d,oa,oc)=>[pool L2,blk b2 (.cells #[Cs 0,Cs 0,Cs 0,.slice none 0 0,.slice none 0 0] 201 (0,0)),blk b3 (.cells #[Cs x,Cs y,Cs z,.slice K ws.length wc,.slice oa os.length oc] 201 (0,0)),sq oa os.length oc 3 1 (os.flatMap zv),cm d (HR q e)]) (fun(n,os,e,d,oa,oc)=>n<18446744073709551616/\TP n os e=TP b.num.1 [] b.num.2/\e.b=r.b/\e.Ok/\(e.bad=0->os.length<=e.at_)/\os.length<=8*e.b.length+1) (fun(n,_)=>n) (b.num.1,[],b.num.2,l,none,0) ?_ ?_)
  ·exact⟨⟨Qaj b,rfl,W,CC.num_ok k4,fun _=>Af _,Af _⟩,Sb4,.refl _⟩
  rintro⟨n,os,e,d,oa,oc⟩ ⟨hn,he,hbb,k,hob,hol⟩
  conv=>arg 7;dsimp only
  conv=>arg 8;dsimp only
  have hbl:e.b.length<=1048576:=by rw[hbb];exact hb
  refine OA 6 ?_
  refine CJ 38 rfl (fun B=>?_) (fun B=>?_)
  ·refine O1 DC ?_
   refine Oc rfl (en 94) rfl (.p4 .d) (Xo q d e) ?_
   rintro _ _ ⟨rfl,l,rfl⟩
   refine OA 3 ?_
   refine Cy rfl (fun ht42=>?_) (fun ht42=>?_)
   ·obtain⟨m,rfl⟩:∃m,n=m+1:=⟨n-1,by omega⟩
    have ha:=k.at_
    have o1:=Zn k
    have hob':=hob ht42
    rw[Vx ht42]at he
    refine OA 3 ?_
    refine Cw (.s2 (.t .d)) rfl (fun j=>Nat.beq j 7) ?_
    intro H
    refine DA [0,1,2] ?_
    refine Da 3 ?_
    refine DB rfl rfl (en 93) rfl (.p4 .d) (FH q l e k) ?_
    rintro _ _ ⟨rfl,E,rfl⟩
    refine ys (Da 4 ?_)
    refine D6 rfl (YY u28) ?_
    rintro _ _ ⟨V,rfl,rfl⟩
    refine ys (Da 5 ?_)
    refine D6 rfl (LO.app (ao:=oa) Yq) ?_
    rintro _ _ ⟨o,p,rfl,rfl⟩
    refine ys (D1 6 rfl (Ct.fld 4 4 4 u201) ?_)
    refine Da 7 ?_
    refine D8 rfl YO ?_
    refine D0 (Tp (.t0 (.t0 (.t0 (.t0 (.t0 .e))))) (OA 2 ?_))
    refine O1 (YK (v':=.int .u64 ((m:Nat):Int)) (ZM rfl rfl rfl) (by rw[show((m+1:Nat):Int)-1=m by omega,DJ (by omega) (by omega)])) ?_
    refine OA 2 ?_
    exact⟨(m,os++[e.int.1],e.int.2,E,o,p),⟨⟨by omega,he,o1.b.trans hbb,CC.int_ok k,fun h=>by have:=(o1.bad h).2;simp only[List.length_append,List.length_cons,List.length_nil];omega,by rw[o1.b];simp only[List.length_append,List.length_cons,List.length_nil];omega⟩,Sb4,by simp only[List.length_append,List.length_cons,List.length_nil,List.flatMap_append,List.flatMap_cons,List.flatMap_nil];exact .refl _⟩,by simp only;omega⟩
   refine Te ?_
   rw[PT ht42]at he
   exact⟨(os,e,l,oa,oc),⟨he,hbb,k,by omega⟩,Sb3,.refl _⟩
  refine OA 7 ?_
  obtain rfl:n=0:=by omega
  exact⟨(os,e,d,oa,oc),⟨he,hbb,k,by omega⟩,Sb3,.refl _⟩
 rintro⟨os,e,d,oa,oc⟩ ⟨he,hbb,k,hol⟩
 conv=>arg 4;dsimp only
 conv=>arg 5;dsimp only
 rw[<-he]
 refine Cx (Zg (.p0 (.p2 .d))) ?_
 rintro _ ⟨M,u,G,rfl⟩
 refine OA 5 ?_
 refine Tp (.t2 (.t2 (.t0 .e))) ?_
 exact Cu (Em u201 (.cons_cons _ (.cons_cons _ (An _))) ⟨M,_,_,F.trans u,rfl,⟨_,_,rfl,PSl.le u w,G⟩,k,hbb,⟨hwl,hol⟩,rfl⟩)
theorem Kn(q:Nat)(S:N_)(r:CC)(hr:r.Ok):
  Sp P0 192 [Cr q] [cm S (HR q r)] fun v h=>v=gE r.en.1/\∃b,h=[cm b (HR q r.en.2)]:=by
 refine Sq Tryz.func192 fun w0 b_=>?_
 refine OA 2 ?_
 refine O6 (YQ zr98) fun b2=>?_
 refine OA 4 ?_
 refine Oc rfl (en 93) rfl (.p0 .d) (FH q S r hr) ?_
 rintro _ _ ⟨rfl,c,rfl⟩
 refine O1 DC ?_
 refine Oc rfl (en 142) rfl (.p1 .d) (ogetr q c _ (CC.int_ok hr) 1 (by decide)) ?_
 rintro _ _ ⟨rfl,d,rfl⟩
 refine OA 2 ?_
 refine Oc rfl (en 93) rfl (.p1 .d) (FH q d _ (ZE (CC.int_ok hr) 1)) ?_
 rintro _ _ ⟨rfl,e,rfl⟩
 refine OA 3 ?_
 refine Tp (.t1 (.t0 .e)) ?_
 exact Cu (Em u98 (.cons_cons _ (An _)) ⟨rfl,_,rfl⟩)
structure KM where
 kind:Int
 ready:Ge
 fin:NY
structure Jd where
 err:Int
 vals:List Int
 at_:Int
 by_:Int
 home:Int
 fin:NY
def Ma:NY:=⟨0,false,0⟩
def cm0:KM:=⟨0,Hx,Ma⟩
def Kv:Jd:=⟨0,[],0,0,0,Ma⟩
abbrev cmv(m:KM)(c b:Value):V_:=[Cs m.kind,Cs m.ready.txn,Cs m.ready.home,Cs m.ready.start,c,b,Cs m.fin.txn,.bool m.fin.commit,Cs m.fin.at_]
abbrev Ue(m:Jd)(b:Value):V_:=[Cs m.err,b,Cs m.at_,Cs m.by_,Cs m.home,Cs m.fin.txn,.bool m.fin.commit,Cs m.fin.at_]
def CmR(L:PL)(c:V_)(m:KM):Prop:=∃d b,c=cmv m d b/\Dx L d Et m.ready.writes/\Dx L b zv m.ready.reads
def AnR(L:PL)(c:V_)(m:Jd):Prop:=∃b,c=Ue m b/\Dx L b zv m.vals
def EV:CF:=⟨[],0⟩
theorem FL:EV.Ok:=⟨rfl,fun _ h=>by cases h⟩
def KM.wr(m:KM):CF:=((EV.int m.kind).ry m.ready).en m.fin
def Jd.wr(m:Jd):CF:=(((((((EV.int m.err).num m.vals.length).ints m.vals).int m.at_).int m.by_).int m.home).en m.fin)
theorem KM.wr_ok{m:KM}(h:m.ready.Fit):m.wr.Ok/\m.wr.n<=387*16777216+1033:=by
 have a1:=YU EV m.kind
 obtain⟨k1,a2,a3⟩:=CF.ry_ok m.ready (CF.int_ok FL m.kind) h.writes h.reads
 obtain⟨k2,a4,a5⟩:=CF.en_ok m.fin k1
 have h1:=h.writes;have h2:=h.reads
 have h0:EV.n=0:=rfl
 exact⟨k2,by unfold KM.wr;omega⟩
def GJ(k:Int)(y:Ge×CC)(f:NY×CC):KM×Int:=
 if f.2.end_=0 then if k<1∨5<k then (cm0,14)else (⟨k,y.1,f.1⟩,0)else (cm0,f.2.end_)
def Fa(b:N_):KM×Int:=GJ (⟨b,0,0⟩:CC).int.1 (⟨b,0,0⟩:CC).int.2.ry (⟨b,0,0⟩:CC).int.2.ry.2.en
theorem LT(L:PL)(c:V_)(m:KM)(i:CmR L c m)(hf:m.ready.Fit):
  Sp P0 114 [gA c] [pool L] fun v h=>∃a c,v= .slice a m.wr.b.length c/\h=[pool L,sq a m.wr.b.length c 5 1 (m.wr.b.map u8)]:=by
 obtain⟨o,l,rfl,hw,hr⟩:=i
 obtain⟨n,wc,rfl,_,_⟩:=hw.sh
 obtain⟨j,k,rfl,_,_⟩:=hr.sh
 have hwl:=hf.writes;have hrl:=hf.reads
 have a1:=YU EV m.kind
 obtain⟨k1,a2,a3⟩:=CF.ry_ok m.ready (CF.int_ok FL m.kind) hf.writes hf.reads
 obtain⟨k2,a4⟩:=KM.wr_ok hf
 have h0:EV.n=0:=rfl
 have k3:=k2.len
 refine Sq Tryz.func114 fun w0 b_=>?_
 refine OA 2 ?_
 refine O6 YR fun b1=>?_
 refine OA 5 ?_
 refine O6 YR fun b=>?_
 refine OA 2 ?_
 refine Tp (.t0 (.t0 (.t0 (.n (T:=5) (sz:=1) .e)))) (Tx (YL (.p2 (.p2 .d)) (A:=Mt b EV) ⟨none,0,rfl⟩) fun d=>OA 5 ?_)
 refine Oc rfl (en 152) rfl (.p2 .d) (HM b d EV FL (by omega) m.kind) ?_
 rintro _ _ ⟨rfl,e,rfl⟩
 refine OA 6 ?_
 refine Oc rfl (en 168) rfl (.p0 (.p1 .d)) (Rs b e L _ (CF.int_ok FL m.kind) m.ready hf (by omega) _ _ hw hr) ?_
 rintro _ _ ⟨rfl,f,rfl⟩
 refine OA 6 ?_
 refine Oc rfl (en 159) rfl (.p2 .d) (RT b f _ k1 (by omega) m.fin) ?_
 rintro _ _ ⟨rfl,g,rfl⟩
 refine OA 4 ?_
 refine Oc rfl (en 123) rfl (.p2 .d) (PR b g m.wr (by omega)) ?_
 rintro _ _ ⟨a,c,rfl,rfl⟩
 refine OA 2 ?_
 refine Tp (.t1 (.t1 .e)) ?_
 exact Cu (CB rfl rfl (.refl _) ⟨a,c,rfl,rfl⟩)
theorem UJ(a:A_)(cap:Nat)(b:N_)(L:PL)(hB:Bs L (.slice a b.length cap) b)(hb:b.length<=1048576):
  Sp P0 154 [.slice a b.length cap] [pool L] fun v h=>∃L' c,Le L L'/\v= .tuple #[gA c,Cs (Fa b).2]/\CmR L' c (Fa b).1/\(Fa b).1.ready.Fit/\h=[pool L']:=by
 have l:cm0.ready.Fit:=⟨by decide,by decide⟩
 have k0:(⟨b,0,0⟩:CC).Ok:=⟨hB.2,by show b.length<_;omega,Af _⟩
 have k1:=CC.int_ok k0
 have j:(⟨b,0,0⟩:CC).int.2.b.length<=1048576:=by rw[(Zn k0).b];exact hb
 obtain⟨r0,e0⟩:∃x:CC,x=⟨b,0,0⟩:=⟨_,rfl⟩
 unfold Fa
 rw[<-e0]at k0 k1 j ⊢
 obtain⟨k,p⟩:∃x,x=r0.int.1:=⟨_,rfl⟩
 obtain⟨r1,e1⟩:∃x,x=r0.int.2:=⟨_,rfl⟩
 rw[<-p,<-e1]
 rw[<-e1]at k1 j
 obtain⟨y,r⟩:∃x,x=r1.ry:=⟨_,rfl⟩
 rw[<-r]
 obtain⟨f,o⟩:∃x,x=y.2.en:=⟨_,rfl⟩
 rw[<-o]
 obtain⟨z,m⟩:∃x,x=f.2.end_:=⟨_,rfl⟩
 refine Sq Tryz.func154 fun w0 b_=>?_
 refine OA 2 ?_
 refine O6 (YQ zr203) fun b2=>?_
 refine OA 5 ?_
 refine Oc rfl (en 81) rfl (.p0 .d) (Hi a cap b _ (Reads.pool hB.1) (by omega)) ?_
 rintro _ _ ⟨q,D,E,rfl,rfl⟩
 refine OA 2 ?_
 refine Tx (YL (.p2 (.p2 .d)) (A:=HR q r0) ⟨D,E,by rw[e0]⟩) fun u=>OA 3 ?_
 refine Oc rfl (en 93) rfl (.p2 .d) (FH q u _ k0) ?_
 rintro _ _ ⟨rfl,w,rfl⟩
 refine O1 DC ?_
 rw[<-e1,<-p]
 refine Oc rfl (en 191) rfl (.p2 (.p1 .d)) (SA q w L _ k1 j) ?_
 rintro _ _ ⟨L2,B,c,i,rfl,t,k2,n,s,rfl⟩
 refine O1 DC ?_
 rw[<-r]at t k2 n s ⊢
 refine Oc rfl (en 192) rfl (.p1 .d) (Kn q B _ k2) ?_
 rintro _ _ ⟨rfl,C,rfl⟩
 obtain⟨k3,_⟩:=CC.en_ok k2
 rw[<-o]at k3 ⊢
 obtain⟨M,J,rfl,hw,hr⟩:=t
 obtain⟨K,wc,rfl,_,_⟩:=hw.sh
 obtain⟨H,I,rfl,_,_⟩:=hr.sh
 refine O1 (Xb bt203.h) ?_
 refine O6 (YQ zr203) fun G=>?_
 refine OA 6 ?_
 refine Oc rfl (en 83) rfl (.p2 .d) (oendr q C _ k3) ?_
 rintro _ _ ⟨rfl,F,rfl⟩
 refine OA 2 ?_
 rw[<-m]
 refine OA 5 ?_
 refine CH rfl (fun d=>?_) (fun d=>?_)
 ·rw[show GJ k y f=(cm0,z) by unfold GJ;rw[<-m,Aa d]]
  refine OA 7 ?_
  refine Tp (.t1 (.t0 .e)) ?_
  exact Cu (Ec u203 (.cons_cons _ (An _)) ⟨L2,_,i,rfl,⟨_,_,rfl,Dx.nil _ _,Dx.nil _ _⟩,l,rfl⟩)
 refine OA 8 ?_
 refine CJ 25 rfl (fun e=>?_) (fun e=>?_)
 ·rw[show GJ k y f=(cm0,14) by unfold GJ;rw[<-m,Ah d,Ah (.inl e)]]
  refine OA 12 ?_
  refine Tp (.t1 (.t0 .e)) ?_
  exact Cu (Ec u203 (.cons_cons _ (An _)) ⟨L2,_,i,rfl,⟨_,_,rfl,Dx.nil _ _,Dx.nil _ _⟩,l,rfl⟩)
 refine OA 5 ?_
 refine Cy rfl (fun g=>?_) (fun g=>?_)
 ·rw[show GJ k y f=(cm0,14) by unfold GJ;rw[<-m,Ah d,Ah (.inr g)]]
  refine OA 6 ?_
  refine Tp (.t1 (.t0 .e)) ?_
  exact Cu (Ec u203 (.cons_cons _ (An _)) ⟨L2,_,i,rfl,⟨_,_,rfl,Dx.nil _ _,Dx.nil _ _⟩,l,rfl⟩)
 rw[show GJ k y f=(⟨k,y.1,f.1⟩,0) by unfold GJ;rw[<-m,Ah d,Aa (fun h=>h.elim e g)]]
 refine OA 7 ?_
 refine Tp (.t1 (.t0 .e)) ?_
 exact Cu (Ec u203 (.cons_cons _ (An _)) ⟨L2,_,i,rfl,⟨_,_,rfl,hw,hr⟩,s,rfl⟩)
theorem Jd.wr_ok(m:Jd)(h:m.vals.length<=16777216):m.wr.Ok/\m.wr.n<=129*16777216+904:=by
 have a1:=YU EV m.err
 have a2:=ZA (w:=EV.int m.err) (x:=m.vals.length) (by omega)
 obtain⟨k1,a3,a4⟩:=Qac m.vals (CF.num_ok (CF.int_ok FL m.err) m.vals.length)
 have a5:=YU (((EV.int m.err).num m.vals.length).ints m.vals) m.at_
 have a6:=YU ((((EV.int m.err).num m.vals.length).ints m.vals).int m.at_) m.by_
 have a7:=YU (((((EV.int m.err).num m.vals.length).ints m.vals).int m.at_).int m.by_) m.home
 obtain⟨k2,b,c⟩:=CF.en_ok m.fin (CF.int_ok (CF.int_ok (CF.int_ok k1 m.at_) m.by_) m.home)
 have h0:EV.n=0:=rfl
 exact⟨k2,by unfold Jd.wr;omega⟩
def NG(err:Int)(vs:List Int×CC)(x y z:Int)(f:NY×CC):Jd×Int:=if f.2.end_=0 then (⟨err,vs.1,x,y,z,f.1⟩,0)else (Kv,f.2.end_)
def Md(b:N_):Jd×Int:=
 let r1:=(⟨b,0,0⟩:CC).int.2
 let vs:=TP r1.num.1 [] r1.num.2
 NG (⟨b,0,0⟩:CC).int.1 vs vs.2.int.1 vs.2.int.2.int.1 vs.2.int.2.int.2.int.1 vs.2.int.2.int.2.int.2.en
theorem ST(L:PL)(c:V_)(m:Jd)(B:AnR L c m)(hf:m.vals.length<=16777216):
  Sp P0 106 [gA c] [pool L] fun v h=>∃a c,v= .slice a m.wr.b.length c/\h=[pool L,sq a m.wr.b.length c 5 1 (m.wr.b.map u8)]:=by
 obtain⟨E,rfl,hv⟩:=B
 obtain⟨l,n,rfl,_,_⟩:=hv.sh
 have a1:=YU EV m.err
 have a2:=ZA (w:=EV.int m.err) (x:=m.vals.length) (by omega)
 have k0:=CF.num_ok (CF.int_ok FL m.err) m.vals.length
 obtain⟨k1,a3,a4⟩:=Qac m.vals k0
 have a5:=YU (((EV.int m.err).num m.vals.length).ints m.vals) m.at_
 have a6:=YU ((((EV.int m.err).num m.vals.length).ints m.vals).int m.at_) m.by_
 have a7:=YU (((((EV.int m.err).num m.vals.length).ints m.vals).int m.at_).int m.by_) m.home
 have h0:EV.n=0:=rfl
 obtain⟨k2,k3⟩:=Jd.wr_ok m hf
 have k4:=k2.len
 refine Sq Tryz.func106 fun w0 b_=>?_
 refine OA 2 ?_
 refine O6 YR fun b1=>?_
 refine OA 5 ?_
 refine O6 YR fun b=>?_
 refine OA 2 ?_
 refine Tp (.t0 (.t0 (.t0 (.n (T:=5) (sz:=1) .e)))) (Tx (YL (.p2 (.p2 .d)) (A:=Mt b EV) ⟨none,0,rfl⟩) fun p=>OA 5 ?_)
 refine Oc rfl (en 152) rfl (.p2 .d) (HM b p EV FL (by omega) m.err) ?_
 rintro _ _ ⟨rfl,q,rfl⟩
 refine OA 7 ?_
 refine O1 (YK (v':=.int .u64 ((m.vals.length:Nat):Int)) (Ze rfl rfl u3 u22) (by rw[DJ (by omega) (by omega)])) ?_
 refine Oc rfl (en 121) rfl (.p2 .d) (Vt b q _ (CF.int_ok FL _) (by omega) m.vals.length (by omega)) ?_
 rintro _ _ ⟨rfl,r,rfl⟩
 refine OA 10 ?_
 refine CD (fun((i,d):Nat×N_)=>[(1,Cr b1),(3,Cr b),(19,.slice l m.vals.length n),(20,Cs m.vals.length),(21,Cs i)]) (fun(i,d)=>[pool L,blk b1 (.cells (Ue m (.slice l m.vals.length n)).toArray 193 (0,0)),cm d (Mt b (((EV.int m.err).num m.vals.length).ints (m.vals.take i)))]) (fun(i,_)=>i<=m.vals.length) (fun(i,_)=>m.vals.length-i) (0,r) ?_ ?_
 ·exact⟨Af _,Sb5,.refl _⟩
 rintro⟨i,d⟩ hi
 change i<=m.vals.length at hi
 conv=>arg 7;dsimp only
 conv=>arg 8;dsimp only
 obtain⟨C,D,y⟩:=Qac (m.vals.take i) k0
 rw[AF]at y
 refine OA 5 ?_
 refine Cy rfl (fun e=>?_) (fun e=>?_)
 ·obtain⟨o,ho⟩:∃o,m.vals[i]? =some o:=⟨_,Ae (by omega)⟩
  have hc:(m.vals.flatMap zv)[i]? =some (gI o):=by have:=ED (g:=zv) (fun _=>rfl) ho 0 _ rfl;rwa [Bm]at this
  refine CM at0 hv.rd hc fun ad k=>?_
  subst k
  have hs:CF.ints ((EV.int m.err).num m.vals.length) (m.vals.take (i+1))=(CF.ints ((EV.int m.err).num m.vals.length) (m.vals.take i)).int o:=by unfold CF.ints;rw[Dg ho,BP];rfl
  refine OA 5 ?_
  refine O1 (GO (i) u28) ?_
  refine O1 (Ct.reads (j:=i) rfl rfl at0 hv.rd u3 rfl hc) ?_
  refine OA 5 ?_
  refine Oc rfl (en 152) rfl (.p2 .d) (HM b d _ C (by omega) o) ?_
  rintro _ _ ⟨rfl,f,rfl⟩
  refine OA 5 ?_
  exact⟨(i+1,f),⟨show i+1<=_ by omega,Sb5,by rw[<-hs];exact .refl _⟩,by simp only;omega⟩
 rw[AU (by omega)]
 refine OA 6 ?_
 refine Oc rfl (en 152) rfl (.p2 .d) (HM b d _ k1 (by omega) m.at_) ?_
 rintro _ _ ⟨rfl,s,rfl⟩
 refine OA 6 ?_
 refine Oc rfl (en 152) rfl (.p2 .d) (HM b s _ (CF.int_ok k1 _) (by omega) m.by_) ?_
 rintro _ _ ⟨rfl,f,rfl⟩
 refine OA 6 ?_
 refine Oc rfl (en 152) rfl (.p2 .d) (HM b f _ (CF.int_ok (CF.int_ok k1 _) _) (by omega) m.home) ?_
 rintro _ _ ⟨rfl,t,rfl⟩
 refine OA 6 ?_
 refine Oc rfl (en 159) rfl (.p2 .d) (RT b t _ (CF.int_ok (CF.int_ok (CF.int_ok k1 _) _) _) (by omega) m.fin) ?_
 rintro _ _ ⟨rfl,u,rfl⟩
 refine OA 4 ?_
 refine Oc rfl (en 123) rfl (.p2 .d) (PR b u m.wr (by omega)) ?_
 rintro _ _ ⟨a,c,rfl,rfl⟩
 refine OA 2 ?_
 refine Tp (.t0 (.t1 .e)) ?_
 exact Cu (CB rfl rfl (.refl _) ⟨a,c,rfl,rfl⟩)
theorem Qv(a:A_)(cap:Nat)(b:N_)(L:PL)(hB:Bs L (.slice a b.length cap) b)(hb:b.length<=1048576):
  Sp P0 224 [.slice a b.length cap] [pool L] fun v h=>∃L' c,Le L L'/\v= .tuple #[gA c,Cs (Md b).2]/\AnR L' c (Md b).1/\(Md b).1.vals.length<=16777216/\h=[pool L']:=by
 have k0:(⟨b,0,0⟩:CC).Ok:=⟨hB.2,by show b.length<_;omega,Af _⟩
 obtain⟨r0,e0⟩:∃x:CC,x=⟨b,0,0⟩:=⟨_,rfl⟩
 have F:r0.b=b:=by rw[e0]
 unfold Md
 rw[<-e0]at k0 ⊢
 obtain⟨x,ex⟩:∃x,x=r0.int.1:=⟨_,rfl⟩
 obtain⟨r1,e1⟩:∃x,x=r0.int.2:=⟨_,rfl⟩
 have k1:r1.Ok:=e1▸CC.int_ok k0
 have G:r1.num.2.b=b:=by rw[(ZU k1).b,e1,(Zn k0).b,F]
 rw[<-ex,<-e1]
 obtain⟨vs,evs⟩:∃x,x=TP r1.num.1 [] r1.num.2:=⟨_,rfl⟩
 simp only[<-evs]
 refine Sq Tryz.func224 fun w0 b_=>?_
 refine OA 2 ?_
 refine O6 (YQ Ib) fun b2=>?_
 refine OA 5 ?_
 refine Oc rfl (en 81) rfl (.p0 .d) (Hi a cap b _ (Reads.pool hB.1) (by omega)) ?_
 rintro _ _ ⟨q,Y,c',rfl,rfl⟩
 refine OA 2 ?_
 refine Tx (YL (.p2 (.p2 .d)) (A:=HR q r0) ⟨Y,c',by rw[e0]⟩) fun S=>OA 3 ?_
 refine Oc rfl (en 93) rfl (.p2 .d) (FH q S _ k0) ?_
 rintro _ _ ⟨rfl,U,rfl⟩
 rw[<-e1,<-ex]
 refine O1 (Xb bt193.h) ?_
 refine O6 (YQ Ib) fun y=>?_
 refine OA 6 ?_
 refine Oc rfl (en 82) rfl (.p2 .d) (MW q U _ k1) ?_
 rintro _ _ ⟨rfl,V,rfl⟩
 refine OA 2 ?_
 refine Tp (.t1 (.t0 (.t0 (.n (T:=3) (sz:=1) (.t0 .e))))) (CP (fun((os,d,g,oa,oc):List Int×CC×N_×A_×Nat)=>[(2,Cr b2),(4,Cr q),(5,Cr y)]) (fun(os,d,g,oa,oc)=>[pool L,blk b2 (.cells #[Cs 0,.slice none 0 0,Cs 0,Cs 0,Cs 0,Cs 0,.bool false,Cs 0] 193 (0,0)),blk y (.cells #[Cs x,.slice oa os.length oc,Cs 0,Cs 0,Cs 0,Cs 0,.bool false,Cs 0] 193 (0,0)),sq oa os.length oc 3 1 (os.flatMap zv),cm g (HR q d)]) (fun(os,d,g,oa,oc)=>(os,d)=vs/\d.b=b/\d.Ok/\os.length<=16777216) ?_ ?_)
 ·refine Tb (CD (fun((n,os,d,g,oa,oc):Nat×List Int×CC×N_×A_×Nat)=>(6,.int .u64 n)::[(2,Cr b2),(4,Cr q),(5,Cr y)]) (fun(n,os,d,g,oa,oc)=>[pool L,blk b2 (.cells #[Cs 0,.slice none 0 0,Cs 0,Cs 0,Cs 0,Cs 0,.bool false,Cs 0] 193 (0,0)),blk y (.cells #[Cs x,.slice oa os.length oc,Cs 0,Cs 0,Cs 0,Cs 0,.bool false,Cs 0] 193 (0,0)),sq oa os.length oc 3 1 (os.flatMap zv),cm g (HR q d)]) (fun(n,os,d,g,oa,oc)=>n<18446744073709551616/\TP n os d=vs/\d.b=b/\d.Ok/\(d.bad=0->os.length<=d.at_)/\os.length<=8*d.b.length+1) (fun(n,_)=>n) (r1.num.1,[],r1.num.2,V,none,0) ?_ ?_)
  ·exact⟨⟨Qaj r1,evs.symm,G,CC.num_ok k1,fun _=>Af _,Af _⟩,Sb4,.refl _⟩
  rintro⟨n,os,d,g,oa,oc⟩ ⟨hn,he,hbb,k,hob,hol⟩
  conv=>arg 7;dsimp only
  conv=>arg 8;dsimp only
  have hbl:d.b.length<=1048576:=by rw[hbb];exact hb
  refine OA 6 ?_
  refine CJ 17 rfl (fun u=>?_) (fun u=>?_)
  ·refine O1 DC ?_
   refine Oc rfl (en 94) rfl (.p4 .d) (Xo q g d) ?_
   rintro _ _ ⟨rfl,w,rfl⟩
   refine OA 3 ?_
   refine Cy rfl (fun e=>?_) (fun e=>?_)
   ·obtain⟨m,rfl⟩:∃m,n=m+1:=⟨n-1,by omega⟩
    have ha:=k.at_
    have o1:=Zn k
    have hob':=hob e
    rw[Vx e]at he
    refine OA 3 ?_
    refine Cw (.s2 (.t .d)) rfl (fun j=>Nat.beq j 7) ?_
    intro a0
    refine DA [0,1,2] ?_
    refine Da 3 ?_
    refine DB rfl rfl (en 93) rfl (.p4 .d) (FH q w d k) ?_
    rintro _ _ ⟨rfl,B,rfl⟩
    refine ys (Da 4 ?_)
    refine D6 rfl (YY u28) ?_
    rintro _ _ ⟨Z,rfl,rfl⟩
    refine ys (Da 5 ?_)
    refine D6 rfl (LO.app (ao:=oa) Yq) ?_
    rintro _ _ ⟨I,J,rfl,rfl⟩
    refine ys (D1 6 rfl (Ct.fld 1 1 1 u193) ?_)
    refine Da 7 ?_
    refine D8 rfl YO ?_
    refine D0 (Tp (.t0 (.t0 (.t0 (.t0 (.t0 .e))))) (OA 2 ?_))
    refine O1 (YK (v':=.int .u64 ((m:Nat):Int)) (ZM rfl rfl rfl) (by rw[show((m+1:Nat):Int)-1=m by omega,DJ (by omega) (by omega)])) ?_
    refine OA 2 ?_
    exact⟨(m,os++[d.int.1],d.int.2,B,I,J),⟨⟨by omega,he,o1.b.trans hbb,CC.int_ok k,fun h=>by have:=(o1.bad h).2;simp only[List.length_append,List.length_cons,List.length_nil];omega,by rw[o1.b];simp only[List.length_append,List.length_cons,List.length_nil];omega⟩,Sb4,by simp only[List.length_append,List.length_cons,List.length_nil,List.flatMap_append,List.flatMap_cons,List.flatMap_nil];exact .refl _⟩,by simp only;omega⟩
   refine Te ?_
   rw[PT e]at he
   exact⟨(os,d,w,oa,oc),⟨he,hbb,k,by omega⟩,Sb3,.refl _⟩
  refine OA 7 ?_
  obtain rfl:n=0:=by omega
  exact⟨(os,d,g,oa,oc),⟨he,hbb,k,by omega⟩,Sb3,.refl _⟩
 rintro⟨os,d,g,oa,oc⟩ ⟨he,hbb,k,hol⟩
 conv=>arg 4;dsimp only
 conv=>arg 5;dsimp only
 rw[<-he]
 clear he evs
 obtain⟨y1,r⟩:∃x,x=d.int.1:=⟨_,rfl⟩
 obtain⟨g1,l⟩:∃x,x=d.int.2:=⟨_,rfl⟩
 have O:g1.Ok:=l▸CC.int_ok k
 obtain⟨K,s⟩:∃x,x=g1.int.1:=⟨_,rfl⟩
 obtain⟨g2,o⟩:∃x,x=g1.int.2:=⟨_,rfl⟩
 have P:g2.Ok:=o▸CC.int_ok O
 obtain⟨M,t⟩:∃x,x=g2.int.1:=⟨_,rfl⟩
 obtain⟨N,p⟩:∃x,x=g2.int.2:=⟨_,rfl⟩
 have Q:N.Ok:=p▸CC.int_ok P
 obtain⟨f,C⟩:∃x,x=N.en:=⟨_,rfl⟩
 have l4:f.2.Ok:=C▸(CC.en_ok Q).1
 obtain⟨z,D⟩:∃x,x=f.2.end_:=⟨_,rfl⟩
 rw[<-r,<-l,<-s,<-o,<-t,<-p,<-C]
 refine OA 3 ?_
 refine Oc rfl (en 93) rfl (.p4 .d) (FH q g _ k) ?_
 rintro _ _ ⟨rfl,w,rfl⟩
 rw[<-r,<-l]
 refine O1 DC ?_
 refine Oc rfl (en 93) rfl (.p4 .d) (FH q w _ O) ?_
 rintro _ _ ⟨rfl,B,rfl⟩
 rw[<-s,<-o]
 refine O1 DC ?_
 refine Oc rfl (en 93) rfl (.p4 .d) (FH q B _ P) ?_
 rintro _ _ ⟨rfl,W,rfl⟩
 rw[<-t,<-p]
 refine O1 DC ?_
 refine Oc rfl (en 192) rfl (.p4 .d) (Kn q W _ Q) ?_
 rintro _ _ ⟨rfl,X,rfl⟩
 rw[<-C]
 refine Oi (YN (.t0 (.t0 (.t0 (.t0 (.t0 .e)))))) ?_
 refine OA 13 ?_
 refine Oc rfl (en 83) rfl (.p4 .d) (oendr q X _ l4) ?_
 rintro _ _ ⟨rfl,S9,rfl⟩
 refine OA 2 ?_
 rw[<-D]
 refine OA 5 ?_
 refine CH rfl (fun i=>?_) (fun i=>?_)
 ·rw[show NG x (os,d) y1 K M f=(Kv,z) by unfold NG;rw[<-D,Aa i]]
  refine OA 7 ?_
  refine Tp (.t0 (.t0 .e)) ?_
  exact Cu (Ec u193 (.cons_cons _ (An _)) ⟨L,_,.refl _,rfl,⟨_,rfl,Dx.nil _ _⟩,Af _,rfl⟩)
 rw[show NG x (os,d) y1 K M f=(⟨x,os,y1,K,M,f.1⟩,0) by unfold NG;rw[<-D,Ah i]]
 refine OA 7 ?_
 refine Cx (Zg (.p0 (.p2 .d))) ?_
 rintro _ ⟨R,E,H,rfl⟩
 refine Tp (.t3 (.t0 .e)) ?_
 exact Cu (Ec u193 (.cons_cons _ (An _)) ⟨R,_,E,rfl,⟨_,rfl,H⟩,hol,rfl⟩)
structure AkM where
 shard:Int
 cmd:KM
structure Du where
 me:Int
 nodes:Int
 patience:Int
 id:Int
 open_:Bool
 ask:AkM
 to:Int
 age:Int
 lead:List (Int×Int)
 out:List Db
abbrev akv(a:AkM)(c b:Value):V_:=Cs a.shard::cmv a.cmd c b
def AkR(L:PL)(c:V_)(a:AkM):Prop:=∃d b,c=akv a d b/\Dx L d Et a.cmd.ready.writes/\Dx L b zv a.cmd.ready.reads
abbrev poc(c:Du)(e d:Value)(lb:Nat)(b:Value):V_:=
 [Cs c.me,Cs c.nodes,Cs c.patience,Cs c.id,.bool c.open_,Cs c.ask.shard,Cs c.ask.cmd.kind,Cs c.ask.cmd.ready.txn,Cs c.ask.cmd.ready.home,Cs c.ask.cmd.ready.start,e,d,Cs c.ask.cmd.fin.txn,.bool c.ask.cmd.fin.commit,Cs c.ask.cmd.fin.at_,Cs c.to,Cs c.age,.map (some lb),b]
abbrev PoB(p:Nat)(c:Du)(e d:Value)(lb:Nat)(b:Value):CW:=blk p (.cells (poc c e d lb b).toArray 214 (0,0))
def DV(p:Nat)(L:PL)(c:Du)(rs:Mem):Prop:=∃(e b oa:A_) (wc d oc lb:Nat) (mcs:V_),
 rs=[PoB p c (.slice e c.ask.cmd.ready.writes.length wc) (.slice b c.ask.cmd.ready.reads.length d) lb (.slice oa c.out.length oc),Dm lb gI c.lead,sq oa c.out.length oc 138 12 mcs]/\
 Dx L (.slice e c.ask.cmd.ready.writes.length wc) Et c.ask.cmd.ready.writes/\Dx L (.slice b c.ask.cmd.ready.reads.length d) zv c.ask.cmd.ready.reads/\Rws (Gu L) mcs c.out
theorem DV.le{p:Nat}{L L':PL}{c:Du}(k:Le L L'):∀rs,DV p L c rs->DV p L' c rs:=by
 rintro rs ⟨f,b,oa,wc,d,oc,lb,mcs,e,h1,h2,h3⟩
 exact⟨f,b,oa,wc,d,oc,lb,mcs,e,h1.le k,h2.le k,h3.mono fun _ _ h=>Gu.le k h⟩
structure Du.Fit(c:Du)(b:Nat):Prop where
 nodes:1<=c.nodes/\c.nodes<=7
 patience:0<=c.patience/\c.patience<=1099511627776
 id:0<=c.id/\c.id<=b
 to:0<=c.to/\c.to<=1099511627776
 toO:c.open_=true->1<=c.to
 age:0<=c.age/\c.age<=c.patience
 lead:KN c.lead
 leadV:∀k v,alk k c.lead=some v->0<=v/\v<=1099511627776
 ready:c.ask.cmd.ready.Fit
 out:c.out.length<=b
def Du.new(me c b:Int):Du:=⟨me,max c 1,b,0,false,⟨0,cm0⟩,0,0,[],[]⟩
def Du.drop(c:Du):Du:={c with open_:=false}
def Du.send(c:Du):Du:={c with age:=0,out:=c.out++[{CY 6 with from_:=c.me,to:=c.to,shard:=c.ask.shard,id:=c.id,data:=c.ask.cmd.wr.b}]}
def Du.tick(c:Du):Du:=if c.open_=true then if c.patience<c.age+1 then ({c with age:=c.age+1,to:=c.to%c.nodes+1}:Du).send else {c with age:=c.age+1}else c
def Du.askA(c:Du)(a:AkM):Du:=({c with id:=c.id+1,open_:=true,ask:=a,to:=max 1 ((alk a.shard c.lead).getD 0)}:Du).send
theorem Du.send_fit{c:Du}{b:Nat}(h:c.Fit b):c.send.Fit (b+1):=
 ⟨h.nodes,h.patience,by have:=h.id;exact⟨this.1,by show c.id<=_;omega⟩,h.to,h.toO,⟨AK 0,h.patience.1⟩,h.lead,h.leadV,h.ready,by have:=h.out;show(c.out++[_]).length<=_;rw[Ac];exact Ci this⟩
theorem Pf(me c b:Int):Sp P0 100 [Cs me,Cs c,Cs b] [] fun v h=>∃p S,v= .pointer (some ⟨p,0,none⟩)/\h=[cm S fun rs=>∀L,DV p L (Du.new me c b) rs]:=by
 refine Sq Tryz.func100 fun w0 b_=>?_
 refine OA 8 ?_
 refine O1 (Zq rfl rfl rfl) ?_
 refine O1 DC ?_
 refine O6 (YS gI) fun e=>?_
 refine O1 (Xb bt214.h) ?_
 refine O6 YR fun d=>?_
 refine OA 2 ?_
 refine Tp (.t1 (.t0 (.n (T:=138) (sz:=12) .e))) (Tx (YL (.p0 (.p0 (.p0 .d))) (A:=fun rs=>∀L,DV d L (Du.new me c b) rs) fun L=>⟨none,none,none,0,0,0,e,[],rfl,Dx.nil _ _,Dx.nil _ _,.nil⟩) fun S=>?_)
 exact Cu (CB rfl rfl (.refl _) ⟨d,S,rfl,rfl⟩)
theorem UO(p:Nat)(S:N_)(L:PL)(c:Du):Sp P0 130 [Cr p] [cm S (DV p L c)] fun v h=>v= .bool c.open_/\∃b,h=[cm b (DV p L c)]:=by
 refine Sq Tryz.func130 fun w0 b_=>?_
 refine Cx (Cv.op (.p0 .d)) ?_
 rintro _ ⟨_,⟨f,d,oa,wc,e,oc,lb,mcs,rfl,hw,hr,hm⟩,rfl⟩
 refine OA 16 ?_
 refine Tx (YL (.p0 (.p0 (.p0 .d))) (A:=DV p L c) ⟨f,d,oa,wc,e,oc,lb,mcs,rfl,hw,hr,hm⟩) fun g=>?_
 exact Cu (Rr ⟨rfl,_,rfl⟩)
theorem Vl(p:Nat)(S:N_)(L:PL)(c:Du):Sp P0 60 [Cr p] [cm S (DV p L c)] fun v h=>v= .tuple #[]/\∃b,h=[cm b (DV p L c.drop)]:=by
 refine Sq Tryz.func60 fun w0 b_=>?_
 refine Cx (Cv.op (.p0 .d)) ?_
 rintro _ ⟨_,⟨f,d,oa,wc,e,oc,lb,mcs,rfl,hw,hr,hm⟩,rfl⟩
 refine OA 12 ?_
 refine Dk rfl (Cv.then (YL (.p0 (.p0 (.p0 .d))) (A:=DV p L c.drop) ⟨f,d,oa,wc,e,oc,lb,mcs,rfl,hw,hr,hm⟩) ?_)
 rintro _ ⟨g,rfl⟩
 exact YM ⟨rfl,_,rfl⟩
theorem Nu(p:Nat)(S:N_)(L:PL)(c:Du):Sp P0 55 [Cr p] [cm S (DV p L c)] fun v h=>∃b oa oc mcs,v= .slice oa c.out.length oc/\Rws (Gu L) mcs c.out/\h=[cm b (DV p L {c with out:=[]}),sq oa c.out.length oc 138 12 mcs]:=by
 refine Sq Tryz.func55 fun w0 b_=>?_
 refine Cx (Cv.op (.p0 .d)) ?_
 rintro _ ⟨_,⟨f,d,oa,wc,e,oc,lb,mcs,rfl,hw,hr,hm⟩,rfl⟩
 refine OA 32 ?_
 refine Tp (.t0 (.t0 (.n (T:=138) (sz:=12) (.t0 .e)))) (Tx (YL (.p0 (.p0 (.p0 .d))) (A:=DV p L {c with out:=[]}) ⟨f,d,none,wc,e,0,lb,[],rfl,hw,hr,.nil⟩) fun g=>Tp (.t1 (.t0 .e)) ?_)
 exact Cu (CB rfl rfl (.refl _) ⟨_,oa,oc,mcs,rfl,hm,rfl⟩)
theorem JG(p:Nat)(S:N_)(L:PL)(c:Du)(b:Nat)(hf:c.ask.cmd.ready.Fit)(q1:c.out.length<=b)(hb:b<1073741824):Sp P0 119 [Cr p] [cm S (DV p L c),pool L] fun v h=>v= .tuple #[]/\∃L' l,Le L L'/\h=[cm l (DV p L' c.send),pool L']:=by
 refine Sq Tryz.func119 fun w0 b_=>?_
 refine Cx (Cv.op (.p0 .d)) ?_
 rintro _ ⟨_,⟨s,q,oa,wc,r,oc,lb,mcs,rfl,hw,hr,hm⟩,rfl⟩
 refine OA 7 ?_
 refine Cw (.s (.t .d)) rfl (fun j=>Nat.beq j 33) ?_
 intro o
 refine DA [0,1,2,3,4,5,6,7,8,9,10,11,12,13,14,15,16,17,18,19,20,21,22,23,24,25,26] ?_
 refine Da 27 ?_
 refine DB rfl rfl (en 114) rfl (.p0 .d) (LT L _ c.ask.cmd ⟨_,_,rfl,hw,hr⟩ hf) ?_
 rintro _ _ ⟨a2,c2,rfl,rfl⟩
 refine ys (D1 28 rfl (Xb bt138.h) ?_)
 refine Da 29 ?_
 refine D6 rfl (YY u73) ?_
 rintro _ _ ⟨n,rfl,rfl⟩
 refine ys (Da 30 ?_)
 refine D6 rfl (LO.app (ao:=oa) YB) ?_
 rintro _ _ ⟨i,k,rfl,rfl⟩
 refine ys (D2 31 rfl (fun _=>Hl) ?_)
 refine D1 32 rfl (Ct.fld 9 18 18 u214) ?_
 refine Da 33 ?_
 refine D8 rfl YO ?_
 refine D0 (Dk rfl (Cv.then (Zg (.p3 (.p3 .d))) ?_))
 rintro _ ⟨L2,d,g,rfl⟩
 have f:Bs L2 (.slice a2 c.ask.cmd.wr.b.length c2) c.ask.cmd.wr.b:=⟨g,(KM.wr_ok hf).1.byt⟩
 have hrl:c.send.out.length=c.out.length+1:=by show(c.out++[_]).length=_;rw[Ac];rfl
 refine Cv.then (YL (.p0 (.p0 (.p0 .d))) (A:=DV p L2 c.send) ⟨s,q,i,wc,r,k,lb,_,by rw[hrl];rfl,hw.le d,hr.le d,(hm.mono fun _ _ h=>Gu.le d h).snoc ⟨_,_,rfl,EI.nil _,f⟩⟩) ?_
 rintro _ ⟨m,rfl⟩
 exact Cv.then (YN (.t2 (.t1 .e))) fun _ e=>YM ⟨rfl,L2,m,d,e⟩
def Du.go(c:Du)(m:Db):Int:=if 1<=m.view/\m.view<=c.nodes/\m.view≠m.from_ then m.view else c.to%c.nodes+1
def Du.away(c:Du)(m:Db):Du:={c with to:=if c.go m=m.from_ then c.go m else (c.go m+c.nodes-2)%c.nodes+1,age:=max c.age (c.patience-1)}
def Du.not(c:Du)(m:Db):Prop:=c.open_=false∨m.kind≠7∨m.id≠c.id∨m.shard≠c.ask.shard
instance (c:Du)(m:Db):Decidable (c.not m):=by unfold Du.not;infer_instance
def Du.in_(c:Du)(m:Db):Du×Jd×Bool:=
 if c.not m then (c,Kv,false)
 else if m.err=0 then if(Md m.data).2=0 then ({c with open_:=false,lead:=aset c.ask.shard m.from_ c.lead},(Md m.data).1,true)else (c,Kv,false)
 else if m.from_=c.to then (c.away m,Kv,false)
 else (c,Kv,false)
theorem JF(p:Nat)(S:N_)(L:PL)(c:Du)(b:Nat)(hf:c.Fit b)(hb:b<1073741824):Sp P0 54 [Cr p] [cm S (DV p L c),pool L] fun v h=>v= .tuple #[]/\∃L' o,Le L L'/\h=[cm o (DV p L' c.tick),pool L']:=by
 have q1:=hf.nodes;have q2:=hf.age;have q3:=hf.to;have q4:=hf.patience
 have m1:=BR c.to (show c.nodes≠0 by omega);have m2:=BI c.to (show 0<c.nodes by omega)
 refine Sq Tryz.func54 fun w0 b_=>?_
 refine Cx (Cv.op (.p0 .d)) ?_
 rintro _ ⟨_,⟨n,l,oa,wc,m,oc,lb,mcs,rfl,hw,hr,hm⟩,rfl⟩
 refine OA 13 ?_
 refine CE rfl (fun d=>?_) (fun d=>?_)
 ·have ho:c.open_=false:=by simpa using d
  have e:c.tick=c:=by unfold Du.tick;rw[Aa (by rw[ho];exact AS)]
  rw[e]
  refine Tx (YL (.p1 (.p1 (.p1 .d))) (A:=DV p L c) ⟨n,l,oa,wc,m,oc,lb,mcs,rfl,hw,hr,hm⟩) fun g=>Tp (.t1 (.t0 .e)) ?_
  exact Cu (JY rfl (.refl _) ⟨rfl,L,_,.refl _,rfl⟩)
 have ho:c.open_=true:=by simpa using d
 refine OA 13 ?_
 refine Cw (.s (.t .d)) rfl (fun j=>false) ?_
 intro k
 refine DA [0,1,2,3,4,5,6,7,8] ?_
 refine D0 (Cy rfl (fun f=>?_) (fun f=>?_))
 ·have e:c.tick=({c with age:=c.age+1,to:=c.to%c.nodes+1}:Du).send:=by unfold Du.tick;rw[Ah ho,Ah f]
  refine Ts (Cw (.s (.t .d)) rfl (fun j=>Nat.beq j 13) ?_)
  intro k
  refine DA [0,1,2,3,4,5,6,7,8] ?_
  refine D1 9 rfl (Ct.rem rfl rfl rfl (by omega) (by omega)) ?_
  refine D1 10 rfl SX ?_
  refine D2 11 rfl (fun _=>Hl) ?_
  refine D1 12 rfl (Ct.fld 6 15 15 u214) ?_
  refine Da 13 ?_
  refine D8 rfl YO ?_
  refine OA 3 ?_
  refine CL (YL (.p1 (.p1 (.p1 .d))) (A:=DV p L {c with age:=c.age+1,to:=c.to%c.nodes+1}) ⟨n,l,oa,wc,m,oc,lb,mcs,rfl,hw,hr,hm⟩) ?_
  rintro _ ⟨g,rfl⟩
  refine Oc rfl (en 119) rfl (.p1 (.p0 .d)) (JG p g L _ b hf.ready hf.out hb) ?_
  rintro _ _ ⟨rfl,L2,q,i,rfl⟩
  refine On ?_
  exact Ef rfl (.refl _) ⟨rfl,L2,q,i,by rw[e];rfl⟩
 have e:c.tick= {c with age:=c.age+1}:=by unfold Du.tick;rw[Ah ho,Aa f]
 refine Tk (Dk rfl (Cv.then (YL (.p1 (.p1 (.p1 .d))) (A:=DV p L {c with age:=c.age+1}) ⟨n,l,oa,wc,m,oc,lb,mcs,rfl,hw,hr,hm⟩) ?_))
 rintro _ ⟨g,rfl⟩
 exact Cv.then (YN (.t1 (.t0 .e))) fun _ h=>YM ⟨rfl,L,g,.refl _,by rw[e,h]⟩
theorem Pp(p:Nat)(S:N_)(L:PL)(c:Du)(b:Nat)(hf:c.Fit b)(hb:b<1073741824)(a:AkM)(cs:V_)(q:AkR L cs a)(e:a.cmd.ready.Fit):Sp P0 118 [Cr p,gA cs] [cm S (DV p L c),pool L] fun v h=>v= .tuple #[]/\∃L' o,Le L L'/\h=[cm o (DV p L' (c.askA a)),pool L']:=by
 have q1:=hf.id
 obtain⟨u,w,rfl,hx,hy⟩:=q
 obtain⟨k,l,rfl,_,_⟩:=hx.sh
 obtain⟨m,n,rfl,_,_⟩:=hy.sh
 refine Sq Tryz.func118 fun w0 b_=>?_
 refine Cx (Cv.op (.p0 .d)) ?_
 rintro _ ⟨_,⟨t,r,oa,wc,s,oc,lb,mcs,rfl,hw,hr,hm⟩,rfl⟩
 refine OA 2 ?_
 refine O6 YR fun b3=>?_
 refine OA 21 ?_
 refine Cw (.s4 (.t .d)) rfl (fun j=>Nat.beq j 5 || Nat.beq j 8) ?_
 intro f
 refine D1 0 rfl DC ?_
 refine DP [1,3] ?_
 refine D1 4 rfl (Ct.fld 4 4 4 u214) ?_
 refine Jy 2 5 ?_ ?_
 ·refine Gz rfl (YX (ZX 10 u212)) ?_
  refine Da 5 ?_
  refine D8 rfl YO ?_
  refine DP [6,7] ?_
  refine Da 8 ?_
  refine D8 rfl YO ?_
  refine OA 2 ?_
  refine Cw (.s (.t (.t (.s (.t .d))))) rfl (fun j=>Nat.beq j 11) ?_
  intro f
  refine DA [0,1,2,3,4,5,6] ?_
  refine D1 7 rfl (YK (ZF (z:=Cs 0) a.shard u96 u3) EB) ?_
  refine D1 8 rfl (Zq rfl rfl rfl) ?_
  refine D2 9 rfl (fun _=>Hl) ?_
  refine D1 10 rfl (Ct.fld 6 15 15 u214) ?_
  refine Da 11 ?_
  refine D8 rfl YO ?_
  refine OA 3 ?_
  refine CL (YL (.p1 (.p1 (.p1 .d))) (A:=DV p L {c with id:=c.id+1,open_:=true,ask:=a,to:=max 1 ((alk a.shard c.lead).getD 0)}) ⟨k,m,oa,l,n,oc,lb,mcs,rfl,hx,hy,hm⟩) ?_
  rintro _ ⟨g,rfl⟩
  refine Oc rfl (en 119) rfl (.p2 (.p0 .d)) (JG p g L _ b e hf.out hb) ?_
  rintro _ _ ⟨rfl,L2,i,d,rfl⟩
  refine On ?_
  exact Ef rfl (.cons _ (.refl _)) ⟨rfl,L2,i,d,rfl⟩
 refine D8 rfl YO ?_
 refine Da 2 ?_
 refine Gz rfl (YX (ZX 10 u212)) ?_
 refine DP [6,7] ?_
 refine Da 8 ?_
 refine D8 rfl YO ?_
 refine OA 2 ?_
 refine Cw (.s (.t (.t (.s (.t .d))))) rfl (fun j=>Nat.beq j 11) ?_
 intro f
 refine DA [0,1,2,3,4,5,6] ?_
 refine D1 7 rfl (YK (ZF (z:=Cs 0) a.shard u96 u3) EB) ?_
 refine D1 8 rfl (Zq rfl rfl rfl) ?_
 refine D2 9 rfl (fun _=>Hl) ?_
 refine D1 10 rfl (Ct.fld 6 15 15 u214) ?_
 refine Da 11 ?_
 refine D8 rfl YO ?_
 refine OA 3 ?_
 refine CL (YL (.p1 (.p1 (.p1 .d))) (A:=DV p L {c with id:=c.id+1,open_:=true,ask:=a,to:=max 1 ((alk a.shard c.lead).getD 0)}) ⟨k,m,oa,l,n,oc,lb,mcs,rfl,hx,hy,hm⟩) ?_
 rintro _ ⟨g,rfl⟩
 refine Oc rfl (en 119) rfl (.p2 (.p0 .d)) (JG p g L _ b e hf.out hb) ?_
 rintro _ _ ⟨rfl,L2,i,d,rfl⟩
 refine On ?_
 exact Ef rfl (.cons _ (.refl _)) ⟨rfl,L2,i,d,rfl⟩
theorem Np(p:Nat)(S:N_)(L:PL)(c:Du)(b:Nat)(hf:c.Fit b)(m:Db)(P N:Value)(hl:EI L P m.list)(hd:Bs L N m.data)(hdl:m.data.length<=1048576)(hv:m.view<=1099511627776):
  Sp P0 183 [Cr p,.agg (GL m P N).toArray] [cm S (DV p L c),pool L] fun v h=>∃L' T cs,Le L L'/\v= .tuple #[gA cs,.bool (c.in_ m).2.2]/\AnR L' cs (c.in_ m).2.1/\(c.in_ m).2.1.vals.length<=16777216/\h=[cm T (DV p L' (c.in_ m).1),pool L']:=by
 obtain⟨U,V,rfl,_,_⟩:=hl.sh
 obtain⟨Q,R,rfl,_,_⟩:=hd.sh
 have q1:=hf.nodes;have q2:=hf.age;have q3:=hf.to;have q4:=hf.patience
 have m1:=BR c.to (show c.nodes≠0 by omega);have m2:=BI c.to (show 0<c.nodes by omega)
 refine Sq Tryz.func183 fun w0 b_=>?_
 refine Cx (Cv.op (.p0 .d)) ?_
 rintro _ ⟨_,⟨C,y,oa,wc,B,oc,lb,mcs,rfl,hw,hr,hm⟩,rfl⟩
 refine OA 2 ?_
 refine O6 YR fun b3=>?_
 refine O6 (YQ Ib) fun b4=>?_
 refine OA 4 ?_
 refine CQ 40 (c.not m) ?_ ?_
 ·refine Cw (.s (.t (.s2 (.t .d)))) rfl (fun j=>false) ?_
  intro r
  refine DA [0,1,2,3,4,5,6,7,8,9] ?_
  refine Fo 17 rfl (fun f=>?_) (fun f=>?_)
  ·refine DA [10,11,12,13,14,15,16,17,18,19,20,21,22,23,24,25,26,27,28,29,30,31,32] ?_
   refine D0 ?_
   first|exact EW rfl (congrArg Value.bool (AG (Or.inl (by simpa using f))).symm)|exact EW rfl (congrArg Value.bool (by unfold Du.not;first|(simp[e,i];done)|(simp[e];done)|(have q:c.open_=true:=(by simpa using f);simp[q,e,i])))
  refine DA [10,11,12,13,14] ?_
  refine IN 22 rfl (fun e=>?_) (fun e=>?_)
  ·refine DA [15,16,17,18,19,20,21,22,23,24,25,26,27,28,29,30,31,32] ?_
   refine D0 ?_
   first|exact EW rfl (congrArg Value.bool (AG (Or.inl (by simpa using f))).symm)|exact EW rfl (congrArg Value.bool (by unfold Du.not;first|(simp[e,i];done)|(simp[e];done)|(have q:c.open_=true:=(by simpa using f);simp[q,e,i])))
  refine DA [15,16,17,18,19,20,21,22,23] ?_
  refine IN 31 rfl (fun i=>?_) (fun i=>?_)
  ·refine DA [24,25,26,27,28,29,30,31,32] ?_
   refine D0 ?_
   first|exact EW rfl (congrArg Value.bool (AG (Or.inl (by simpa using f))).symm)|exact EW rfl (congrArg Value.bool (by unfold Du.not;first|(simp[e,i];done)|(simp[e];done)|(have q:c.open_=true:=(by simpa using f);simp[q,e,i])))
  refine DA [24,25,26,27,28,29,30,31,32] ?_
  refine D0 ?_
  first|exact EW rfl (congrArg Value.bool (AG (Or.inl (by simpa using f))).symm)|exact EW rfl (congrArg Value.bool (by unfold Du.not;first|(simp[e,i];done)|(simp[e];done)|(have q:c.open_=true:=(by simpa using f);simp[q,e,i])))
 refine Cy rfl (fun k=>?_) (fun k=>?_)
 ·rw[show c.in_ m=(c,Kv,false) by unfold Du.in_;rw[Ah k]]
  refine OA 6 ?_
  refine Tx (YL (.p1 (.p1 (.p1 .d))) (A:=DV p L c) ⟨C,y,oa,wc,B,oc,lb,mcs,rfl,hw,hr,hm⟩) fun D=>Tp (.t3 (.t0 (.t1 .e))) ?_
  exact Cu (Ec u193 (.cons_cons _ (.cons_cons _ (An _))) ⟨L,_,_,.refl _,rfl,⟨_,rfl,Dx.nil _ _⟩,Af _,rfl⟩)
 have ho:c.open_=true:=by
  cases h:c.open_ with
  |true=>rfl
  |false=>exact absurd (.inl h) k
 have ho1:=hf.toO ho
 refine OA 8 ?_
 refine CH rfl (fun o=>?_) (fun o=>?_)
 ·skip
  refine OA 2 ?_
  refine Cw (.s (.t (.s2 (.t .d)))) rfl (fun j=>false) ?_
  intro r
  refine DA [0,1,2,3,4,5,6] ?_
  refine D0 (Cy rfl (fun u=>?_) (fun u=>?_))
  ·rw[show c.in_ m=(c.away m,Kv,false) by unfold Du.in_;rw[Aa k,Aa o,Ah u]]
   refine Ts (Cw (.s (.t .d)) rfl (fun j=>Nat.beq j 13) ?_)
   intro r
   refine DA [0,1,2,3,4,5,6,7,8] ?_
   refine D1 9 rfl (Ct.rem rfl rfl rfl (by omega) (by omega)) ?_
   refine D1 10 rfl SX ?_
   refine D2 11 rfl (fun _=>Hl) ?_
   refine D1 12 rfl (Ct.fld 6 15 15 u214) ?_
   refine Da 13 ?_
   refine D8 rfl YO ?_
   refine OA 3 ?_
   refine CQ 83 (1<=m.view/\m.view<=c.nodes/\m.view≠m.from_) ?_ ?_
   ·refine Cw (.s (.t (.s2 (.t .d)))) rfl (fun j=>false) ?_
    intro r
    refine DA [0,1,2,3] ?_
    refine Dy 68 rfl (fun H=>?_) (fun H=>?_)
    ·refine DA [4,5,6,7,8,9,10,11,12] ?_
     refine Dy 77 rfl (fun I=>?_) (fun I=>?_)
     ·refine DA [13,14,15,16,17,18] ?_
      refine D0 ?_
      exact Ex
     refine DA [13,14,15,16,17,18] ?_
     refine D0 ?_
     exact Ex
    refine DA [4,5,6,7,8,9,10,11,12,13,14,15,16,17,18] ?_
    refine D0 ?_
    exact Ex
   refine CP (fun(_:Du)=>[(0,Cr p),(3,Cr b3),(4,Cr b4)]) (fun d=>[pool L,PoB p d (.slice C d.ask.cmd.ready.writes.length wc) (.slice y d.ask.cmd.ready.reads.length B) lb (.slice oa d.out.length oc),Dm lb gI d.lead,sq oa d.out.length oc 138 12 mcs,blk b3 (.cells (GL m (.slice U m.list.length V) (.slice Q m.data.length R)).toArray 138 (0,0)),blk b4 (.cells #[Cs 0,.slice none 0 0,Cs 0,Cs 0,Cs 0,Cs 0,.bool false,Cs 0] 193 (0,0))]) (fun d=>d= {c with to:=c.go m}) ?_ ?_
   ·refine Cy rfl (fun w=>?_) (fun w=>?_)
    ·refine OA 8 ?_
     exact⟨{c with to:=m.view},by unfold Du.go;rw[Ah w],Sb3,.refl _⟩
    refine Tk ?_
    exact⟨{c with to:=c.to%c.nodes+1},by unfold Du.go;rw[Aa w],Sb3,.refl _⟩
   intro d l
   have hg:1<=c.go m/\c.go m<=1099511627776:=by
    unfold Du.go
    split<;>omega
   have X:d.patience=c.patience:=by rw[l]
   have d2:d.nodes=c.nodes:=by rw[l]
   have d3:d.to=c.go m:=by rw[l]
   have Y:d.age=c.age:=by rw[l]
   have K:Dx L (.slice C d.ask.cmd.ready.writes.length wc) Et d.ask.cmd.ready.writes:=by rw[l];exact hw
   have hrd:Dx L (.slice y d.ask.cmd.ready.reads.length B) zv d.ask.cmd.ready.reads:=by rw[l];exact hr
   have G:Rws (Gu L) mcs d.out:=by rw[l];exact hm
   have m3:=BR (d.to+d.nodes-2) (show d.nodes≠0 by omega);have m4:=BI (d.to+d.nodes-2) (show 0<d.nodes by omega)
   refine Ts (Cw (.s (.t .d)) rfl (fun j=>Nat.beq j 13) ?_)
   intro r
   refine DA [0,1,2,3,4,5,6,7,8,9] ?_
   refine D1 10 rfl (Zq rfl rfl rfl) ?_
   refine D2 11 rfl (fun _=>Hl) ?_
   refine D1 12 rfl (Ct.fld 7 16 16 u214) ?_
   refine Da 13 ?_
   refine D8 rfl YO ?_
   refine OA 2 ?_
   refine Cw (.s (.t (.s2 (.t .d)))) rfl (fun j=>false) ?_
   intro r
   refine DA [0,1,2,3,4,5,6] ?_
   refine D0 (CH rfl (fun s=>?_) (fun s=>?_))
   ·rw[show c.away m= {d with to:=(d.to+d.nodes-2)%d.nodes+1,age:=max d.age (d.patience-1)} by unfold Du.away;rw[Aa (d3▸s),l]]
    refine Cw (.s (.t .d)) rfl (fun j=>Nat.beq j 19) ?_
    intro r
    refine DA [0,1,2,3,4,5,6,7,8,9,10,11,12,13,14] ?_
    refine D1 15 rfl (Ct.rem rfl rfl rfl (by omega) (by omega)) ?_
    refine D1 16 rfl SX ?_
    refine D2 17 rfl (fun _=>Hl) ?_
    refine D1 18 rfl (Ct.fld 6 15 15 u214) ?_
    refine Da 19 ?_
    refine D8 rfl YO ?_
    refine OA 7 ?_
    refine Tx (YL (.p1 (.p1 (.p1 .d))) (A:=DV p L {d with to:=(d.to+d.nodes-2)%d.nodes+1,age:=max d.age (d.patience-1)}) ⟨C,y,oa,wc,B,oc,lb,mcs,rfl,K,hrd,G⟩) fun D=>Tp (.t3 (.t0 (.t1 .e))) ?_
    exact Cu (Ec u193 (.cons_cons _ (.cons_cons _ (An _))) ⟨L,_,_,.refl _,rfl,⟨_,rfl,Dx.nil _ _⟩,Af _,rfl⟩)
   rw[show c.away m= {d with age:=max d.age (d.patience-1)} by unfold Du.away;rw[Ah (d3▸s),l]]
   refine OA 7 ?_
   refine Tx (YL (.p1 (.p1 (.p1 .d))) (A:=DV p L {d with age:=max d.age (d.patience-1)}) ⟨C,y,oa,wc,B,oc,lb,mcs,rfl,K,hrd,G⟩) fun D=>Tp (.t3 (.t0 (.t1 .e))) ?_
   exact Cu (Ec u193 (.cons_cons _ (.cons_cons _ (An _))) ⟨L,_,_,.refl _,rfl,⟨_,rfl,Dx.nil _ _⟩,Af _,rfl⟩)
  rw[show c.in_ m=(c,Kv,false) by unfold Du.in_;rw[Aa k,Aa o,Aa u]]
  refine OA 7 ?_
  refine Tx (YL (.p1 (.p1 (.p1 .d))) (A:=DV p L c) ⟨C,y,oa,wc,B,oc,lb,mcs,rfl,hw,hr,hm⟩) fun D=>Tp (.t3 (.t0 (.t1 .e))) ?_
  exact Cu (Ec u193 (.cons_cons _ (.cons_cons _ (An _))) ⟨L,_,_,.refl _,rfl,⟨_,rfl,Dx.nil _ _⟩,Af _,rfl⟩)
 refine OA 5 ?_
 refine Oc rfl (en 224) rfl (.p0 .d) (Qv Q R m.data L hd hdl) ?_
 rintro _ _ ⟨L2,cs,n,rfl,O,F,rfl⟩
 obtain⟨z,M⟩:∃x,x=(Md m.data).2:=⟨_,rfl⟩
 rw[<-M]
 obtain⟨an,E⟩:∃x,x=(Md m.data).1:=⟨_,rfl⟩
 rw[<-E]at O F
 obtain⟨vv,rfl,J⟩:=O
 obtain⟨Z,vc,rfl,_,_⟩:=J.sh
 refine OA 3 ?_
 refine O6 (YQ Ib) fun W=>?_
 refine OA 9 ?_
 refine CH rfl (fun t=>?_) (fun t=>?_)
 ·rw[show c.in_ m=(c,Kv,false) by unfold Du.in_;rw[Aa k,Ah o,<-M,Aa t]]
  refine OA 6 ?_
  refine Tx (YL (.p0 (.p0 (.p0 .d))) (A:=DV p L2 c) ⟨C,y,oa,wc,B,oc,lb,mcs,rfl,hw.le n,hr.le n,hm.mono fun _ _ h=>Gu.le n h⟩) fun D=>Tp (.t4 (.t2 (.t1 .e))) ?_
  exact Cu (Ec u193 (.cons_cons _ (.cons_cons _ (An _))) ⟨L2,_,_,n,rfl,⟨_,rfl,Dx.nil _ _⟩,Af _,rfl⟩)
 rw[show c.in_ m=({c with open_:=false,lead:=aset c.ask.shard m.from_ c.lead},an,true) by unfold Du.in_;rw[Aa k,Ah o,<-M,Ah t,<-E]]
 refine OA 9 ?_
 refine Cw (.t (.s2 (.t .d))) rfl (fun j=>Nat.beq j 11) ?_
 intro r
 refine DA [0,1,2,3,4,5,6,7,8,9,10] ?_
 refine Da 11 ?_
 refine D8 rfl (ZK (g:=gI) c.ask.shard m.from_ u96 u3) ?_
 refine OA 7 ?_
 refine Tx (YL (.p0 (.p0 (.p0 .d))) (A:=DV p L2 {c with open_:=false,lead:=aset c.ask.shard m.from_ c.lead}) ⟨C,y,oa,wc,B,oc,lb,mcs,rfl,hw.le n,hr.le n,hm.mono fun _ _ h=>Gu.le n h⟩) fun D=>Tp (.t4 (.t2 (.t1 .e))) ?_
 exact Cu (Ec u193 (.cons_cons _ (.cons_cons _ (An _))) ⟨L2,_,_,n,rfl,⟨_,rfl,J⟩,F,rfl⟩)
structure CG where
 id:Int
 ops:List Es
 serial:Bool
 shards:Int
 patience:Int
 stage:Int
 start:Int
 fin:NY
 at_:Int
 wait:Bool
 waited:Int
 by_:NY
 home:Int
 values:List (Int×Int)
 result:Int
 doubt:Bool
abbrev txc(c:CG)(b:Value)(d:Nat):V_:=
 [Cs c.id,b,.bool c.serial,Cs c.shards,Cs c.patience,Cs c.stage,Cs c.start,Cs c.fin.txn,.bool c.fin.commit,Cs c.fin.at_,Cs c.at_,.bool c.wait,Cs c.waited,Cs c.by_.txn,.bool c.by_.commit,Cs c.by_.at_,Cs c.home,.map (some d),Cs c.result,.bool c.doubt]
abbrev Io(p:Nat)(c:CG)(oa:A_)(oc b:Nat):CW:=blk p (.cells (txc c (.slice oa c.ops.length oc) b).toArray 222 (0,0))
def Ev(p:Nat)(L:PL)(c:CG)(rs:Mem):Prop:=∃(oa:A_) (oc b:Nat),rs=[Io p c oa oc b,Dm b gI c.values]/\Dx L (.slice oa c.ops.length oc) Et c.ops
theorem Ev.le{p:Nat}{L L':PL}{c:CG}(k:Le L L'):∀rs,Ev p L c rs->Ev p L' c rs:=by
 rintro rs ⟨oa,oc,b,e,h⟩
 exact⟨oa,oc,b,e,h.le k⟩
structure CG.Fit(c:CG):Prop where
 ops:c.ops.length<=1048576
 key:∀o∈c.ops,0<=o.key/\o.key<=1099511627776
 shards:1<=c.shards/\c.shards<=4
 patience:0<=c.patience/\c.patience<=1099511627776
 at_:0<=c.at_/\c.at_<=5
 waited:0<=c.waited/\c.waited<=c.patience+1
 values:KN c.values
def CG.mod(c:CG)(key:Int):Int:=(key%c.shards+c.shards)%c.shards
def CG.rdsL(c:CG)(at_:Int):List Es->List Int->List (Int×Bool)->List Int
 |[],out,_=>out
 |o::os,out,wr=>if o.kind=2 then c.rdsL at_ os out (aset o.key true wr)
  else c.rdsL at_ os (if(alk o.key wr).getD false=false/\c.mod o.key=at_/\Vs out o.key=false then out++[o.key]else out) wr
def CG.reads(c:CG)(at_:Int):List Int:=c.rdsL at_ c.ops [] []
def Yn(o p:Es):Bool:=decide (p.kind=2) && decide (p.key=o.key)
def CG.wrsL(c:CG)(at_:Int):List Es->List Es
 |[]=>[]
 |o::os=>if o.kind=2/\c.mod o.key=at_/\os.any (Yn o)=false then o::c.wrsL at_ os else c.wrsL at_ os
def CG.writes(c:CG)(at_:Int):List Es:=c.wrsL at_ c.ops
def CG.conc(c:CG)(at_:Int):Bool:=decide (0<(c.writes at_).length) || (c.serial && decide (0<(c.reads at_).length))
def IG(q:Int->Bool):Nat->Int->Int
 |0,i=>i
 |k+1,i=>if q i then i else IG q k (i+1)
def CG.first(c:CG)(at_:Int)(q:Int->Bool):Int:=IG q (c.shards-at_).toNat at_
def CG.where_(c:CG):Int:=c.first 0 c.conc
def CG.new(id:Int)(ops:List Es)(c:Bool)(d b:Int):CG:=⟨id,ops,c,min (max d 1) 4,b,0,0,Ma,0,false,0,Ma,0,[],0,false⟩
def CG.tick(c:CG):CG:=if c.wait=true then {c with wait:=false,waited:=c.waited+1}else c
theorem QaG(c:CG)(at_:Int):∀os:List Es,(c.wrsL at_ os).length<=os.length
 |[]=>Al _
 |o::os=>by
  have:=QaG c at_ os
  unfold CG.wrsL
  split<;>simp only[List.length_cons]<;>omega
theorem Qap(c:CG)(at_:Int):∀(os:List Es) (out:List Int) (wr:List (Int×Bool)),(c.rdsL at_ os out wr).length<=out.length+os.length
 |[],out,wr=>Al _
 |o::os,out,wr=>by
  unfold CG.rdsL
  split
  ·have:=Qap c at_ os out (aset o.key true wr);simp only[List.length_cons];omega
  ·have:=Qap c at_ os (if(alk o.key wr).getD false=false/\c.mod o.key=at_/\Vs out o.key=false then out++[o.key]else out) wr
   have h2:(if(alk o.key wr).getD false=false/\c.mod o.key=at_/\Vs out o.key=false then out++[o.key]else out).length<=out.length+1:=by
    split
    ·rw[Ac];exact Al _
    ·omega
   simp only[List.length_cons];omega
theorem Dx.drop{α:Type}{L:PL}{a:A_}{c s:Nat}{g:α->V_}{xs:List α}(h:Dx L (.slice a xs.length c) g xs)(hg:∀x,(g x).length=s){j:Nat}(hj:j<=xs.length):Dx L (.slice (EH a c j s) (xs.drop j).length (c-j)) g (xs.drop j):=by
 obtain⟨f,d,e,h1,h2,h3⟩:=h
 cases e
 refine⟨_,_,rfl,by rw[AD];omega,by rw[AD];omega,fun i u b=>?_⟩
 have hd:(xs.drop j).flatMap g=(xs.flatMap g).drop (j*s):=by
  have e1:xs.flatMap g=(xs.take j).flatMap g++(xs.drop j).flatMap g:=by rw[<-AI,List.take_append_drop]
  have e2:((xs.take j).flatMap g).length=j*s:=by rw[Ft hg,AF,BC hj]
  rw[e1,<-e2,List.drop_left]
 rw[hd,BW]at b
 obtain⟨x,hx,hp⟩:=h3 _ u b
 subst hx
 have hlt:j*s+i<(xs.flatMap g).length:=(Ab.1 b).1
 rw[Ft hg]at hlt
 have hc:¬c=j:=fun e=>by
  subst e
  have:xs.length=c:=by omega
  rw[this]at hlt;omega
 refine⟨x.add (j*s),by unfold EH;rw[Aa hc];rfl,?_⟩
 rw[add_add];exact hp
theorem TG(p:Nat)(c:CG)(hf:c.Fit)(oa:A_)(oc b:Nat)(key:Int)(hk:0<=key/\key<=1099511627776):Sp P0 211 [Cr p,Cs key] [Io p c oa oc b] fun v h=>v= Cs (c.mod key)/\h=[Io p c oa oc b]:=by
 have q1:=hf.shards
 have m1:=BR key (show c.shards≠0 by omega);have m2:=BI key (show 0<c.shards by omega)
 refine Sq Tryz.func211 fun w0 b_=>?_
 refine OA 5 ?_
 refine Cw (.t .d) rfl (fun j=>false) ?_
 intro d
 refine DA [0,1,2,3,4] ?_
 refine D1 5 rfl (Ct.rem rfl rfl rfl (by omega) (by omega)) ?_
 refine DA [6,7,8,9,10,11,12,13,14] ?_
 refine D1 15 rfl (Ct.rem rfl rfl rfl (by omega) (by omega)) ?_
 refine D1 16 rfl FC ?_
 refine D0 ?_
 exact Cu (Rr ⟨rfl,rfl⟩)
theorem Yl(b:Nat)(o x:Es)(L:PL)(S:N_):
  Sp P0 214 [gO x,Cr b] [pool L,cm S fun rs=>rs=[blk b (.cells (Et o).toArray 64 (0,0))]] fun v h=>v= .bool (Yn o x)/\∃d,h=[pool L,cm d fun rs=>rs=[blk b (.cells (Et o).toArray 64 (0,0))]]:=by
 refine Sq Tryz.func214 fun w0 b_=>?_
 refine Cx (Cv.op (.p1 .d)) ?_
 rintro _ ⟨_,rfl,rfl⟩
 refine OA 2 ?_
 refine O6 YR fun b2=>?_
 refine OA 8 ?_
 refine CJ 7 rfl (fun c=>?_) (fun c=>?_)
 ·refine OA 8 ?_
  refine Tx (YL (.p1 .d) (A:=fun rs=>rs=[blk b (.cells (Et o).toArray 64 (0,0))]) rfl) fun e=>Tp (.t0 (.t1 .e)) ?_
  exact Cu (CB rfl (CT rfl (by unfold Yn;rw[AG c];rfl)) (.refl _) ⟨rfl,_,rfl⟩)
 refine OA 8 ?_
 refine Tx (YL (.p1 .d) (A:=fun rs=>rs=[blk b (.cells (Et o).toArray 64 (0,0))]) rfl) fun e=>Tp (.t0 (.t1 .e)) ?_
 exact Cu (CB rfl (CT rfl (by unfold Yn;rw[AX c];rfl)) (.refl _) ⟨rfl,_,rfl⟩)
theorem Jm(p:Nat)(c:CG)(hf:c.Fit)(oa:A_)(oc q:Nat)(L:PL)(ho:Dx L (.slice oa c.ops.length oc) Et c.ops)(at_:Int):Sp P0 177 [Cr p,Cs at_] [Io p c oa oc q,pool L] fun v h=>∃b l,v= .slice b (c.writes at_).length l/\h=[Io p c oa oc q,pool L,sq b (c.writes at_).length l 64 3 ((c.writes at_).flatMap Et)]:=by
 have q1:=hf.ops
 have C:c.ops.length<=oc:=by obtain⟨_,_,e,h1,_⟩:=ho.sh;cases e;exact h1
 refine Sq Tryz.func177 fun w0 b_=>?_
 refine OA 18 ?_
 refine Ti (Cv.nil 64 3) (Tb (CD (fun((i,out,b,l):Nat×List Es×A_×Nat)=>[(0,Cr p),(1,Cs at_),(5,.slice b out.length l),(12,.slice oa c.ops.length oc),(13,Cs c.ops.length),(14,Cs i)]) (fun(i,out,b,l)=>[Io p c oa oc q,pool L,sq b out.length l 64 3 (out.flatMap Et)]) (fun(i,out,_)=>i<=c.ops.length/\out.length<=i/\out++c.wrsL at_ (c.ops.drop i)=c.writes at_) (fun(i,_)=>c.ops.length-i) (0,[],none,0) ?_ ?_))
 ·exact⟨⟨Af _,Al _,rfl⟩,Sb6,.refl _⟩
 rintro⟨i,out,b,l⟩ ⟨hi,hol,he⟩
 conv=>arg 7;dsimp only
 conv=>arg 8;dsimp only
 refine OA 5 ?_
 refine Cy rfl (fun n=>?_) (fun n=>?_)
 ·obtain⟨o,hx⟩:∃o,c.ops[i]? =some o:=⟨_,Ae (by omega)⟩
  have hc:∀k u,(Et o)[k]? =some u->(c.ops.flatMap Et)[i*3+k]? =some u:=ED (g:=Et) (s:=3) (fun _=>rfl) hx
  have hil:=(Ab.1 hx).1
  have w:c.ops.drop i=o::c.ops.drop (i+1):=by rw[Ay hil,(Ab.1 hx).2]
  rw[w]at he
  have hwl:c.wrsL at_ (o::c.ops.drop (i+1))=if o.kind=2/\c.mod o.key=at_/\(c.ops.drop (i+1)).any (Yn o)=false then o::c.wrsL at_ (c.ops.drop (i+1))else c.wrsL at_ (c.ops.drop (i+1)):=rfl
  rw[hwl]at he
  have hok:=hf.key o (Aj hx)
  have hrd:=ho.drop (s:=3) (fun _=>rfl) (j:=i+1) (by omega)
  refine CM at1 ho.rd (hc 0 _ rfl) fun ad t=>?_
  subst t
  refine OA 6 ?_
  refine O1 (Jt i u60) ?_
  refine O1 (YW (j:=i*3) u64 ho.rd hc rfl) ?_
  refine O6 (YQ XP) fun r=>?_
  refine OA 5 ?_
  refine O1 (Qaa (ys:=[.tmp 7]) (vs:=[_]) rfl rfl) ?_
  refine OA 8 ?_
  refine CJ 23 rfl (fun d=>?_) (fun d=>?_)
  ·refine OA 3 ?_
   refine O8 (Zd rfl (en 211) rfl (.p0 .d) (TG p c hf (some ad) oc q o.key hok)) ?_
   refine OA 4 ?_
   refine CJ 31 rfl (fun f=>?_) (fun f=>?_)
   ·refine OA 6 ?_
    refine O1 (YK (ZB 3 (i+1) u60) (by rw[<-AD])) ?_
    refine O1 DC ?_
    refine CL (YL (.p2 .d) (A:=fun rs=>rs=[blk r (.cells (Et o).toArray 64 (0,0))]) rfl) ?_
    rintro _ ⟨D,rfl⟩
    refine Oc rfl (en 199) rfl (.p0 (.p2 .d)) (JS _ (fun rs=>rs=[blk r (.cells (Et o).toArray 64 (0,0))]) L D _ _ (c.ops.drop (i+1)) (Yn o) hrd (fun x _ S=>⟨214,[],[_],rfl,(en 214),Yl r o x L S⟩)) ?_
    rintro _ _ ⟨rfl,F,rfl⟩
    refine OA 3 ?_
    refine CE rfl (fun ht42=>?_) (fun ht42=>?_)
    ·rw[Ah ⟨d,f,by simpa using ht42⟩]at he
     refine Cx (Cv.op (.p3 .d)) ?_
     rintro _ ⟨_,rfl,rfl⟩
     refine OA 3 ?_
     refine O6 (YY u60) fun E=>?_
     refine O2 (LO.app (ao:=b) Qn) ?_
     rintro _ _ ⟨y,B,rfl,rfl⟩
     refine OA 2 ?_
     refine Tp (.t1 (.t1 (.t0 .e))) (OA 4 ?_)
     exact⟨(i+1,out++[o],y,B),⟨⟨by omega,by simp only[List.length_append,List.length_cons,List.length_nil];omega,by rw[List.append_assoc];exact he⟩,⟨rfl,rfl,by simp only[List.length_append,List.length_cons,List.length_nil];exact rfl,rfl,rfl,rfl,trivial⟩,by simp only[List.length_append,List.length_cons,List.length_nil,List.flatMap_append,List.flatMap_cons,List.flatMap_nil];exact .refl _⟩,by simp only;omega⟩
    rw[Aa (fun h=>by rw[h.2.2]at ht42;cases ht42)]at he
    refine Tp (.t1 (.t1 (.t0 .e))) (OA 5 ?_)
    exact⟨(i+1,out,b,l),⟨⟨by omega,by omega,he⟩,Sb6,.refl _⟩,by simp only;omega⟩
   rw[Aa (fun h=>f h.2.1)]at he
   refine Oi (YN (.t3 (.t0 (.t0 .e)))) ?_
   refine OA 18 ?_
   exact⟨(i+1,out,b,l),⟨⟨by omega,by omega,he⟩,Sb6,.refl _⟩,by simp only;omega⟩
  rw[Aa (fun h=>d h.1)]at he
  refine OA 26 ?_
  exact⟨(i+1,out,b,l),⟨⟨by omega,by omega,he⟩,Sb6,.cons_cons _ (.cons_cons _ (.cons_cons _ (An _)))⟩,by simp only;omega⟩
 rw[AM (by omega)]at he
 have m:out=c.writes at_:=by rw[<-he];exact(AH _).symm
 refine OA 6 ?_
 exact Cu (CB rfl rfl (.refl _) ⟨b,l,by rw[m],by rw[m]⟩)
theorem Ps.all:∀h:Mem,Ps h h []
 |[]=>.d
 |_::h=>.p (.t .d) (Ps.all h)
theorem Fv(p:Nat)(c:CG)(hf:c.Fit)(oa:A_)(oc r:Nat)(L:PL)(ho:Dx L (.slice oa c.ops.length oc) Et c.ops)(at_:Int):Sp P0 175 [Cr p,Cs at_] [Io p c oa oc r,pool L] fun v h=>∃e f,v= .slice e (c.reads at_).length f/\h=[Io p c oa oc r,pool L,sq e (c.reads at_).length f 3 1 ((c.reads at_).flatMap zv)]:=by
 have q1:=hf.ops
 refine Sq Tryz.func175 fun w0 b_=>?_
 refine OA 10 ?_
 refine O6 (YS gB) fun A=>?_
 refine OA 12 ?_
 refine Ti (Cv.nil 3 1) (Tb (CD (fun((i,out,wr,e,f):Nat×List Int×List (Int×Bool)×A_×Nat)=>[(0,Cr p),(1,Cs at_),(5,.slice e out.length f),(6,.map (some A)),(13,.slice oa c.ops.length oc),(14,Cs c.ops.length),(15,Cs i)]) (fun(i,out,wr,e,f)=>[Io p c oa oc r,pool L,Dm A gB wr,sq e out.length f 3 1 (out.flatMap zv)]) (fun(i,out,wr,_)=>i<=c.ops.length/\out.length<=i/\c.rdsL at_ (c.ops.drop i) out wr=c.reads at_) (fun(i,_)=>c.ops.length-i) (0,[],[],none,0) ?_ ?_))
 ·exact⟨⟨Af _,Al _,rfl⟩,Sb7,.refl _⟩
 rintro⟨i,out,wr,e,f⟩ ⟨hi,hol,he⟩
 conv=>arg 7;dsimp only
 conv=>arg 8;dsimp only
 refine OA 5 ?_
 refine Cy rfl (fun q=>?_) (fun q=>?_)
 ·obtain⟨o,hx⟩:∃o,c.ops[i]? =some o:=⟨_,Ae (by omega)⟩
  have hc:∀k u,(Et o)[k]? =some u->(c.ops.flatMap Et)[i*3+k]? =some u:=ED (g:=Et) (s:=3) (fun _=>rfl) hx
  have hil:=(Ab.1 hx).1
  have w:c.ops.drop i=o::c.ops.drop (i+1):=by rw[Ay hil,(Ab.1 hx).2]
  rw[w]at he
  have hrl:c.rdsL at_ (o::c.ops.drop (i+1)) out wr=if o.kind=2 then c.rdsL at_ (c.ops.drop (i+1)) out (aset o.key true wr)else c.rdsL at_ (c.ops.drop (i+1)) (if(alk o.key wr).getD false=false/\c.mod o.key=at_/\Vs out o.key=false then out++[o.key]else out) wr:=rfl
  rw[hrl]at he
  have hok:=hf.key o (Aj hx)
  refine CM at1 ho.rd (hc 0 _ rfl) fun ad t=>?_
  subst t
  refine OA 5 ?_
  refine O1 (Jt i u60) ?_
  refine O1 (YW (j:=i*3) u64 ho.rd hc rfl) ?_
  refine O6 (YQ XP) fun C=>?_
  refine OA 8 ?_
  refine Cy rfl (fun l=>?_) (fun l=>?_)
  ·rw[Ah l]at he
   refine OA 4 ?_
   refine O4 (ZK (g:=gB) o.key true u102 u3) ?_
   refine OA 5 ?_
   exact⟨(i+1,out,aset o.key true wr,e,f),⟨⟨by omega,by omega,he⟩,Sb7,.cons_cons _ (.cons_cons _ (.cons_cons _ (.cons_cons _ (An _))))⟩,by simp only;omega⟩
  rw[Aa l]at he
  refine OA 5 ?_
  refine O1 (YK (v':=.bool ((alk o.key wr).getD false)) (ZF (g:=gB) (z:=.bool false) o.key u102 u3) (by cases alk o.key wr<;>rfl)) ?_
  refine OA 2 ?_
  refine Df 30 rfl (fun b=>?_) (fun b=>?_)
  ·refine OA 3 ?_
   refine O8 (Zd rfl (en 211) rfl (.p0 .d) (TG p c hf (some ad) oc r o.key hok)) ?_
   refine OA 4 ?_
   refine CJ 38 rfl (fun m=>?_) (fun m=>?_)
   ·refine OA 3 ?_
    refine O8 (Zd rfl (en 201) rfl (.p2 .d) (TL o.key e f out _ Reads.sq (by omega))) ?_
    refine OA 3 ?_
    refine CE rfl (fun d=>?_) (fun d=>?_)
    ·rw[Ah ⟨by simpa using b,m,by unfold Vs;simpa using d⟩]at he
     refine OA 4 ?_
     refine O6 (YY u28) fun B=>?_
     refine O2 (LO.app (ao:=e) Yq) ?_
     rintro _ _ ⟨x,y,rfl,rfl⟩
     refine OA 2 ?_
     refine Tp (.t3 (.t0 (.t0 (.t1 .e)))) (OA 4 ?_)
     exact⟨(i+1,out++[o.key],wr,x,y),⟨⟨by omega,by simp only[List.length_append,List.length_cons,List.length_nil];omega,he⟩,⟨rfl,rfl,by simp only[List.length_append,List.length_cons,List.length_nil];exact rfl,rfl,rfl,rfl,rfl,trivial⟩,by simp only[List.length_append,List.length_cons,List.length_nil,List.flatMap_append,List.flatMap_cons,List.flatMap_nil];exact .refl _⟩,by simp only;omega⟩
    rw[Aa (fun h=>by have h3:=h.2.2;unfold Vs at h3;rw[h3]at d;cases d)]at he
    refine Tp (.t3 (.t0 (.t0 (.t1 .e)))) (OA 5 ?_)
    exact⟨(i+1,out,wr,e,f),⟨⟨by omega,by omega,he⟩,Sb7,.refl _⟩,by simp only;omega⟩
   rw[Aa (fun h=>m h.2.1)]at he
   refine Oi (YN (.t4 (.t0 (.t0 (.t0 .e))))) ?_
   refine OA 13 ?_
   exact⟨(i+1,out,wr,e,f),⟨⟨by omega,by omega,he⟩,Sb7,.refl _⟩,by simp only;omega⟩
  rw[Aa (fun h=>by rw[h.1]at b;cases b)]at he
  refine OA 21 ?_
  exact⟨(i+1,out,wr,e,f),⟨⟨by omega,by omega,he⟩,Sb7,.cons_cons _ (.cons_cons _ (.cons_cons _ (.cons_cons _ (An _))))⟩,by simp only;omega⟩
 rw[AM (by omega)]at he
 have n:out=c.reads at_:=he
 refine OA 6 ?_
 refine Tp (.t0 (.t0 (.t1 .e))) ?_
 exact Cu (CB rfl rfl (.refl _) ⟨e,f,by rw[n],by rw[n]⟩)
theorem Pe(p:Nat)(c:CG)(hf:c.Fit)(oa:A_)(oc e:Nat)(L:PL)(ho:Dx L (.slice oa c.ops.length oc) Et c.ops)(at_:Int):Sp P0 213 [Cr p,Cs at_] [Io p c oa oc e,pool L] fun v h=>v= .bool (c.conc at_)/\h=[Io p c oa oc e,pool L]:=by
 refine Sq Tryz.func213 fun w0 b_=>?_
 refine OA 8 ?_
 refine Oc rfl (en 177) rfl (.p0 (.p0 .d)) (Jm p c hf oa oc e L ho at_) ?_
 rintro _ _ ⟨f,g,rfl,rfl⟩
 refine OA 3 ?_
 refine CJ 10 rfl (fun d=>?_) (fun d=>?_)
 ·refine OA 14 ?_
  exact Cu (CB rfl (CT rfl (by unfold CG.conc;rw[AG (show 0<(c.writes at_).length by omega)];rfl)) (.cons_cons _ (.cons_cons _ (An _))) ⟨rfl,rfl⟩)
 refine OA 5 ?_
 refine Df 15 rfl (fun b=>?_) (fun b=>?_)
 ·refine OA 2 ?_
  refine Oc rfl (en 175) rfl (.p0 (.p0 .d)) (Fv p c hf oa oc e L ho at_) ?_
  rintro _ _ ⟨i,j,rfl,rfl⟩
  refine OA 6 ?_
  refine Tp (.t1 (.t1 .e)) ?_
  exact Cu (CB rfl (CT rfl (by unfold CG.conc;rw[AX (show ¬0<(c.writes at_).length by omega),b,Co,Bool.true_and];exact congrArg Value.bool (AN.2 (by omega)))) (.refl _) ⟨rfl,rfl⟩)
 refine OA 9 ?_
 exact Cu (CB rfl (CT rfl (by unfold CG.conc;rw[AX (show ¬0<(c.writes at_).length by omega),b];rfl)) (.cons_cons _ (.cons_cons _ (An _))) ⟨rfl,rfl⟩)
theorem MR(p:Nat)(c:CG)(hf:c.Fit)(oa:A_)(oc f:Nat)(L:PL)(at_:Int)(h0:0<=at_/\at_<=1000)(g:Value)(q:Int->Bool)(d:Mem)(hq:∀i,Cl P0 g [gI i] (Io p c oa oc f::pool L::d) fun v h=>v= .bool (q i)/\h=Io p c oa oc f::pool L::d):Sp P0 212 [Cr p,Cs at_,g] (Io p c oa oc f::pool L::d) fun v h=>v= Cs (c.first at_ q)/\h=Io p c oa oc f::pool L::d:=by
 have q1:=hf.shards
 refine Sq Tryz.func212 fun w0 b_=>?_
 refine OA 6 ?_
 refine CD (fun(i:Int)=>[(0,Cr p),(1,Cs i),(2,g)]) (fun _=>Io p c oa oc f::pool L::d) (fun i=>0<=i/\i<=1000/\IG q (c.shards-i).toNat i=c.first at_ q) (fun i=>(c.shards-i).toNat) at_ ?_ ?_
 ·exact⟨⟨h0.1,h0.2,rfl⟩,Sb3,.refl _⟩
 rintro i ⟨hi,EQ,he⟩
 refine OA 10 ?_
 refine CJ 13 rfl (fun e=>?_) (fun e=>?_)
 ·obtain⟨k,hk⟩:∃k,(c.shards-i).toNat=k+1:=⟨(c.shards-i).toNat-1,by omega⟩
  have l:(c.shards-(i+1)).toNat=k:=by omega
  rw[hk]at he
  have j:IG q (k+1) i=if q i=true then i else IG q k (i+1):=rfl
  rw[j]at he
  refine OA 2 ?_
  refine O8 (LO.cl (ys:=[.tmp 15]) (vs:=[gI i]) rfl rfl rfl (Ps.all _) (hq i)) ?_
  refine OA 3 ?_
  refine CE rfl (fun b=>?_) (fun b=>?_)
  ·rw[Aa (by simpa using b)]at he
   refine OA 7 ?_
   exact⟨i+1,⟨⟨by omega,by omega,by rw[l];exact he⟩,Sb3,.refl _⟩,by omega⟩
  rw[Ah (by simpa using b)]at he
  refine OA 6 ?_
  exact Cu (CB rfl (CT rfl (by rw[he])) (.refl _) ⟨rfl,rfl⟩)
 rw[show(c.shards-i).toNat=0 by omega]at he
 refine OA 13 ?_
 exact Cu (CB rfl (CT rfl (by rw[<-he];rfl)) (.refl _) ⟨rfl,rfl⟩)
theorem JJ(p:Nat)(c:CG)(hf:c.Fit)(oa:A_)(oc b:Nat)(L:PL)(ho:Dx L (.slice oa c.ops.length oc) Et c.ops):Sp P0 176 [Cr p] [Io p c oa oc b,pool L] fun v h=>v= Cs c.where_/\h=[Io p c oa oc b,pool L]:=by
 refine Sq Tryz.func176 fun w0 b_=>?_
 refine OA 8 ?_
 refine O1 (Qa2 (xs:=[.tmp 4]) (ys:=[]) (us:=[_]) (vs:=[]) rfl rfl rfl) ?_
 refine O8 (Zd rfl (en 212) rfl (.p0 (.p0 .d)) (MR p c hf oa oc b L 0 ⟨AK 0,by decide⟩ _ c.conc [] (fun i=>⟨213,[_],[],rfl,(en 213),Pe p c hf oa oc b L ho i⟩))) ?_
 refine OA 2 ?_
 exact Cu (Rr ⟨rfl,rfl⟩)
theorem YA(p:Nat)(c:CG)(oa:A_)(oc b:Nat):Sp P0 128 [Cr p] [Io p c oa oc b] fun v h=>v= .bool (decide (c.stage=8))/\h=[Io p c oa oc b]:=by
 refine Sq Tryz.func128 fun w0 b_=>?_
 refine OA 17 ?_
 exact Cu (Rr ⟨rfl,rfl⟩)
theorem Vb(p:Nat)(c:CG)(oa:A_)(oc d:Nat):Sp P0 61 [Cr p] [Io p c oa oc d] fun v h=>v= .bool (c.doubt && decide (c.result=0))/\h=[Io p c oa oc d]:=by
 refine Sq Tryz.func61 fun w0 b_=>?_
 refine OA 15 ?_
 refine Df 11 rfl (fun b=>?_) (fun b=>?_)
 ·refine OA 8 ?_
  exact Cu (CB rfl (CT rfl (by rw[b];rfl)) (.refl _) ⟨rfl,rfl⟩)
 refine OA 8 ?_
 exact Cu (CB rfl (CT rfl (by rw[b];rfl)) (.refl _) ⟨rfl,rfl⟩)
theorem Tz(p:Nat)(S:N_)(L:PL)(c:CG)(hf:c.Fit):Sp P0 58 [Cr p] [cm S (Ev p L c)] fun v h=>v= .tuple #[]/\∃f,h=[cm f (Ev p L c.tick)]:=by
 have q1:=hf.waited;have q2:=hf.patience
 refine Sq Tryz.func58 fun w0 b_=>?_
 refine Cx (Cv.op (.p0 .d)) ?_
 rintro _ ⟨_,⟨oa,oc,e,rfl,ho⟩,rfl⟩
 refine OA 11 ?_
 refine CE rfl (fun b=>?_) (fun b=>?_)
 ·rw[show c.tick= {c with wait:=false,waited:=c.waited+1} by unfold CG.tick;rw[Ah b]]
  refine OA 17 ?_
  refine Dk rfl (Cv.then (YL (.p0 (.p0 .d)) (A:=Ev p L {c with wait:=false,waited:=c.waited+1}) ⟨oa,oc,e,rfl,ho⟩) ?_)
  rintro _ ⟨d,rfl⟩
  exact YM ⟨rfl,d,rfl⟩
 rw[show c.tick=c by unfold CG.tick;rw[Aa (by rw[b];exact AS)]]
 refine Tk (Dk rfl (Cv.then (YL (.p0 (.p0 .d)) (A:=Ev p L c) ⟨oa,oc,e,rfl,ho⟩) ?_))
 rintro _ ⟨d,rfl⟩
 exact YM ⟨rfl,d,rfl⟩

/- Parts of the proof: FoldF FoldG FoldH ShA ShB ShC StkZ -/
import Derived.Test.YtmecmlpoallpcaaGreatDoorM16
import Derived.Deep.RegionHeld3
import Derived.StillTailTactics
import Derived.Laws.Closers25b
import Derived.ScopeJumps
import Derived.WalkMore
import Derived.Test.YtmecmlpoallpcaaGreatDoorM18
set_option linter.all false
set_option maxHeartbeats 8000000
namespace Go.Proofs.YtmecmlpoallpcaaGreatDoor
open Go.Proofs.Tryz
section
open Go.RowKit Go.Proofs.PeepPlain
def Lr{w0 w:World}{j g a gl f d c:Nat}{S:cU}(i:St w0 j g a gl f d c S w)(o:S.l.length<=100000)(n:Nat)(m:n<=2)(b:Bool):
 Calls prog 90 #[.pointer (some ⟨a,0,none⟩),.int .i64 n,.bool b] w λe w'=>e= .returned (eD S n b)∧St w0 j g a gl f d c S w'∧zz w w':=by
 obtain⟨k,p⟩:=i.at_;refine(xB w g a gl f d c k S p o n m b).mono ?_;rintro e w' ⟨rfl,h,rfl⟩;exact⟨rfl,i.next (ae (zZ _ _) h),ae (zZ _ _) h⟩
def lZ{w0 w:World}{j i d gl h g f:Nat}{S:cU}(a:St w0 j i d gl h g f S w)(q:S.l.length<=100000){z:Int}{k:Value}(n:Nat)(b:Bool)(m:(n:Int)=z)(p:n<=2)(o:eD S n b=k):Hid (∀(c:World),St w0 j i d gl h g f S c->Calls prog 90 #[.pointer (some ⟨d,0,none⟩),.int .i64 z,.bool b] c λe w'=>e= .returned k∧St w0 j i d gl h g f S w'∧zz c w'):=
 za λc r=>m ▸ o ▸ Lr r q n p b
def NZ{w0 w:World}{i h b gl g f d:Nat}{S:cU}(a:St w0 i h b gl g f d S w)(m:S.l.length<=100000){top k j:Nat}{r:List Nat}(n:S.ks=top::k::j::r):Hid (∀(c:World),St w0 i h b gl g f d S c->Calls prog 90 #[.pointer (some ⟨b,0,none⟩),.int .i64 2,.bool false] c λe w'=>e= .returned (.tuple #[.int .i64 (j:Nat),.bool true])∧St w0 i h b gl g f d S w'∧zz c w'):=
 lZ a m 2 false rfl (by omega) (by unfold eD;rw[n];rfl)
def FV{w0 w:World}{i h b gl g f d:Nat}{S:cU}(a:St w0 i h b gl g f d S w)(m:S.l.length<=100000){top k:Nat}{r:List Nat}(n:S.ks=top::k::r)(j:S.mark.getD k false=false):Hid (∀(c:World),St w0 i h b gl g f d S c->Calls prog 90 #[.pointer (some ⟨b,0,none⟩),.int .i64 1,.bool true] c λe w'=>e= .returned (.tuple #[.int .i64 (k:Nat),.bool true])∧St w0 i h b gl g f d S w'∧zz c w'):=
 lZ a m 1 true rfl (by omega) (by unfold eD;rw[n];show(if(true&&S.mark.getD k false)=true then _ else _)=_;rw[j];rfl)
set_option maxRecDepth 200000 in
def qD(w0 w:World)(bt bq P gl bb a8 a7:Nat)(S:cU)(d:St w0 bt bq P gl bb a8 a7 S w)(y:S.l.length<=100000)(top k:Nat)(f:S.ks=[top,k])(a4:S.mark.getD top false=false)(bp:∀i,i<S.l.length->dg (S.l.getD i default))(a:gD)(O:cm (S.l.getD k default)=some a)(M:(S.l.getD top default).op=19)(a3:S.mark.getD k false=true):Calls prog 58 #[.pointer (some ⟨P,0,none⟩)] w λe w'=>e= .returned (.bool false)∧St w0 bt bq P gl bb a8 a7 S w':=by
 have a2:top<S.l.length:=d.ks top (by rw[f];simp);have N:k<S.l.length:=d.ks k (by rw[f];simp);have cd:=za d;have bk:=gw d y f a4;have bj:=pA d y f;obtain⟨o,L⟩:∃o,S.l.getD top default=o:=⟨_,rfl⟩
 obtain⟨t,x⟩:∃t,S.l.getD k default=t:=⟨_,rfl⟩
 have a1:dg t:=x ▸ bp k N;have bo:=cJ d a2 L;have bl:=cJ d N x;rw[x]at O;rw[L]at M;obtain⟨ba,a5⟩:∃b8,aO a=b8:=⟨_,rfl⟩
 have R:=za (λK=>(show Calls prog 91 #[br t] K λe w'=>e= .returned (.tuple #[ba.val,.bool true])∧zz K w' from by have:=bn t a1 K;rw[O]at this;rw[<-a5];exact this));have bi:=lZ d y (z:=2) 2 false rfl (by omega) (show eD S 2 false= .tuple #[.int .i64 0,.bool false]from by unfold eD;rw[f];rfl);have be:=lZ d y (z:=1) 1 true rfl (by omega) (show eD S 1 true= .tuple #[.int .i64 0,.bool false]from by unfold eD;rw[f];show(if(true&&S.mark.getD k false)=true then _ else _)=_;rw[a3];rfl);obtain⟨ap,W,ao,a9,X,Y,aa,Z,ab,an,ad,af,av,a0,ar⟩:=ba;simp only[br,aH.val]at R;rw[M]at bo;have cj:(0:Int)<=(top:Int)∧(top:Int)<(S.l.length:Int):=by omega
 have ck:(0:Int)<=(k:Int)∧(k:Int)<(S.l.length:Int):=by omega
 clear d f a4 O a1 bp L x a2 N a5 M a3;go_enter func58,ntmps58;go_wp2_with (first
  |(go_at_call 90;(with_reducible refine(bk.out _ cd.out).mono ?_);rintro C ci ⟨rfl,a6⟩;have cc:=za a6;clear a6 bk)
  |(go_at_call 90;(with_reducible refine(bj.out _ cc.out).mono ?_);rintro C V ⟨rfl,p⟩
    have cb:=za p;obtain⟨s,r,q⟩:=p.row;obtain⟨b4,b3,b2,b1,b0⟩:=bo.out _ p;obtain⟨J,I,H,G,F⟩:=bl.out _ p;obtain⟨n,m,j,h,_⟩:=p.size;clear p bj)
  |(go_at_call 91;(with_reducible refine(R.out _).mono ?_);rintro C U ⟨rfl,c⟩
    have D:=za ((cb.alloc _).next c);have g:=za ((ah.made V 50 [.int .i64 19,.int .i64 o.a,.int .i64 o.b,.string o.text,.int .i64 o.pos]).below c (ah.made V 50 _).lt);clear s r q b4 b3 b2 b1 b0 J I H G F n m j h;obtain⟨s,r,q⟩:=D.row;obtain⟨J,I,H,G,F⟩:=bl.out _ D.out;obtain⟨n,m,j,h,_⟩:=D.size;have u:=g.lt;have b7:=g.cell 0;have b6:=g.cell 1;have v:=g.cell 3;have b5:=g.cell 4;clear c R)
  |(go_at_call 90;(with_reducible refine(bi.out _ (D.out.alloc _)).mono ?_);rintro C ch ⟨rfl,B,c⟩
    have ca:=za B;have E:=za ((g.alloc _).below c (g.alloc _).lt);have Q:=za ((ah.made U 131 [.int .i64 ap,.string W,.int .i64 ao,.int .u64 a9,.string X,.int .i64 Y,.int .i64 aa,.int .i64 Z,.int .i64 ab,.slice an ad af,.slice av a0 ar]).below c (ah.made U 131 [.int .i64 ap,.string W,.int .i64 ao,.int .u64 a9,.string X,.int .i64 Y,.int .i64 aa,.int .i64 Z,.int .i64 ab,.slice an ad af,.slice av a0 ar]).lt);clear s r q J I H G F n m j h u b7 b6 v b5;obtain⟨s,r,q⟩:=B.row;obtain⟨n,m,j,h,_⟩:=B.size;have u:=E.lt;have T:=Q.lt;have v:=E.cell 3;skip;clear B c bi)
  |(go_at_call 90;(with_reducible refine(be.out _ ca.out).mono ?_);rintro C cg ⟨rfl,A,c⟩
    have b9:=za A;have bc:=za ((E.out).below c (E.out).lt);have cf:=za ((Q.out).below c (Q.out).lt);clear s r q n m j h u T v;obtain⟨s,r,q⟩:=A.row;obtain⟨n,m,j,h,_⟩:=A.size;have u:=bc.lt;have T:=cf.lt;have v:=bc.cell 3;skip;clear A c be))
 go_ret;exact⟨rfl,b9⟩
set_option maxRecDepth 200000 in
def pT(w0 w:World)(bt bq P gl bb a8 a7:Nat)(S:cU)(d:St w0 bt bq P gl bb a8 a7 S w)(y:S.l.length<=100000)(top k:Nat)(f:S.ks=[top,k])(a4:S.mark.getD top false=false)(bp:∀i,i<S.l.length->dg (S.l.getD i default))(a:gD)(O:cm (S.l.getD k default)=some a)(M:(S.l.getD top default).op=19)(a3:S.mark.getD k false=false):Calls prog 58 #[.pointer (some ⟨P,0,none⟩)] w λe w'=>e= .returned (.bool false)∧St w0 bt bq P gl bb a8 a7 S w':=by
 have a2:top<S.l.length:=d.ks top (by rw[f];simp);have N:k<S.l.length:=d.ks k (by rw[f];simp);have cd:=za d;have bk:=gw d y f a4;have bj:=pA d y f;obtain⟨o,L⟩:∃o,S.l.getD top default=o:=⟨_,rfl⟩
 obtain⟨t,x⟩:∃t,S.l.getD k default=t:=⟨_,rfl⟩
 have a1:dg t:=x ▸ bp k N;have bo:=cJ d a2 L;have bl:=cJ d N x;rw[x]at O;rw[L]at M;obtain⟨ba,a5⟩:∃b8,aO a=b8:=⟨_,rfl⟩
 have R:=za (λK=>(show Calls prog 91 #[br t] K λe w'=>e= .returned (.tuple #[ba.val,.bool true])∧zz K w' from by have:=bn t a1 K;rw[O]at this;rw[<-a5];exact this));have bi:=lZ d y (z:=2) 2 false rfl (by omega) (show eD S 2 false= .tuple #[.int .i64 0,.bool false]from by unfold eD;rw[f];rfl);have be:=FV d y f a3;obtain⟨ap,W,ao,a9,X,Y,aa,Z,ab,an,ad,af,av,a0,ar⟩:=ba;simp only[br,aH.val]at R;rw[M]at bo;have cj:(0:Int)<=(top:Int)∧(top:Int)<(S.l.length:Int):=by omega
 have ck:(0:Int)<=(k:Int)∧(k:Int)<(S.l.length:Int):=by omega
 clear d f a4 O a1 bp L x a2 N a5 M a3;go_enter func58,ntmps58;go_wp2_with (first
  |(go_at_call 90;(with_reducible refine(bk.out _ cd.out).mono ?_);rintro C ci ⟨rfl,a6⟩;have cc:=za a6;clear a6 bk)
  |(go_at_call 90;(with_reducible refine(bj.out _ cc.out).mono ?_);rintro C V ⟨rfl,p⟩
    have cb:=za p;obtain⟨s,r,q⟩:=p.row;obtain⟨b4,b3,b2,b1,b0⟩:=bo.out _ p;obtain⟨J,I,H,G,F⟩:=bl.out _ p;obtain⟨n,m,j,h,_⟩:=p.size;clear p bj)
  |(go_at_call 91;(with_reducible refine(R.out _).mono ?_);rintro C U ⟨rfl,c⟩
    have D:=za ((cb.alloc _).next c);have g:=za ((ah.made V 50 [.int .i64 19,.int .i64 o.a,.int .i64 o.b,.string o.text,.int .i64 o.pos]).below c (ah.made V 50 _).lt);clear s r q b4 b3 b2 b1 b0 J I H G F n m j h;obtain⟨s,r,q⟩:=D.row;obtain⟨J,I,H,G,F⟩:=bl.out _ D.out;obtain⟨n,m,j,h,_⟩:=D.size;have u:=g.lt;have b7:=g.cell 0;have b6:=g.cell 1;have v:=g.cell 3;have b5:=g.cell 4;clear c R)
  |(go_at_call 90;(with_reducible refine(bi.out _ (D.out.alloc _)).mono ?_);rintro C ch ⟨rfl,B,c⟩
    have ca:=za B;have E:=za ((g.alloc _).below c (g.alloc _).lt);have Q:=za ((ah.made U 131 [.int .i64 ap,.string W,.int .i64 ao,.int .u64 a9,.string X,.int .i64 Y,.int .i64 aa,.int .i64 Z,.int .i64 ab,.slice an ad af,.slice av a0 ar]).below c (ah.made U 131 [.int .i64 ap,.string W,.int .i64 ao,.int .u64 a9,.string X,.int .i64 Y,.int .i64 aa,.int .i64 Z,.int .i64 ab,.slice an ad af,.slice av a0 ar]).lt);clear s r q J I H G F n m j h u b7 b6 v b5;obtain⟨s,r,q⟩:=B.row;obtain⟨n,m,j,h,_⟩:=B.size;have u:=E.lt;have T:=Q.lt;have v:=E.cell 3;skip;clear B c bi)
  |(go_at_call 90;(with_reducible refine(be.out _ ca.out).mono ?_);rintro C cg ⟨rfl,A,c⟩
    have b9:=za A;have bc:=za ((E.out).below c (E.out).lt);have cf:=za ((Q.out).below c (Q.out).lt);clear s r q n m j h u T v;obtain⟨s,r,q⟩:=A.row;obtain⟨n,m,j,h,_⟩:=A.size;have u:=bc.lt;have T:=cf.lt;have v:=bc.cell 3;skip;clear A c be))
 go_ret;exact⟨rfl,b9⟩
set_option maxRecDepth 200000 in
def wa(w0 w:World)(ca b9 V gl b0 bp bo:Nat)(S:cU)(c:St w0 ca b9 V gl b0 bp bo S w)(D:S.l.length<=100000)(top k j:Nat)(r:List Nat)(f:S.ks=top::k::j::r)(bj:S.mark.getD top false=false)(Y:∀i,i<S.l.length->dg (S.l.getD i default))(a:gD)(U:cm (S.l.getD k default)=some a)(Q:(S.l.getD top default).op=19)(bi:S.mark.getD k false=true):Calls prog 58 #[.pointer (some ⟨V,0,none⟩)] w λe w'=>e= .returned (.bool false)∧St w0 ca b9 V gl b0 bp bo S w':=by
 have be:top<S.l.length:=c.ks top (by rw[f];simp);have R:k<S.l.length:=c.ks k (by rw[f];simp);have ct:=za c;have b5:=gw c D f bj;have b4:=pA c D f;obtain⟨p,O⟩:∃p,S.l.getD top default=p:=⟨_,rfl⟩
 obtain⟨v,C⟩:∃v,S.l.getD k default=v:=⟨_,rfl⟩
 have bc:dg v:=C ▸ Y k R;have b7:=cJ c be O;have b6:=cJ c R C;rw[C]at U;rw[O]at Q;obtain⟨bt,bk⟩:∃cl,aO a=cl:=⟨_,rfl⟩
 have X:=za (λM=>(show Calls prog 91 #[br v] M λe w'=>e= .returned (.tuple #[bt.val,.bool true])∧zz M w' from by have:=bn v bc M;rw[U]at this;rw[<-bk];exact this));have T:j<S.l.length:=c.ks j (by rw[f];simp);obtain⟨N,P⟩:∃N,S.l.getD j default=N:=⟨_,rfl⟩
 have ck:dg N:=P ▸ Y j T;have b8:=cJ c T P;have c3:(0:Int)<=(j:Int)∧(j:Int)<(S.l.length:Int):=by omega
 have b3:=NZ c D f;have b2:=lZ c D (z:=1) 1 true rfl (by omega) (show eD S 1 true= .tuple #[.int .i64 0,.bool false]from by unfold eD;rw[f];show(if(true&&S.mark.getD k false)=true then _ else _)=_;rw[bi];rfl);obtain⟨a3,ad,a2,bq,af,an,ap,ao,ar,a1,av,a0,ba,bb,a9⟩:=bt;simp only[br,aH.val]at X;rw[Q]at b7;have c1:(0:Int)<=(top:Int)∧(top:Int)<(S.l.length:Int):=by omega
 have c2:(0:Int)<=(k:Int)∧(k:Int)<(S.l.length:Int):=by omega
 clear c f bj U bc Y O C be R bk Q bi T P ck;go_enter func58,ntmps58;go_wp2_with (first
  |(go_at_call 90;(with_reducible refine(b5.out _ ct.out).mono ?_);rintro E c0 ⟨rfl,bl⟩;have cs:=za bl;clear bl b5)
  |(go_at_call 90;(with_reducible refine(b4.out _ cs.out).mono ?_);rintro E ab ⟨rfl,q⟩
    have cp:=za q;obtain⟨u,t,s⟩:=q.row;obtain⟨cg,cf,cd,cc,cb⟩:=b7.out _ q;obtain⟨L,K,J,I,H⟩:=b6.out _ q;obtain⟨o,n,m,h,_⟩:=q.size;clear q b4)
  |(go_at_call 91;(with_reducible refine(X.out _).mono ?_);rintro E aa ⟨rfl,d⟩
    have F:=za ((cp.alloc _).next d);have g:=za ((ah.made ab 50 [.int .i64 19,.int .i64 p.a,.int .i64 p.b,.string p.text,.int .i64 p.pos]).below d (ah.made ab 50 _).lt);clear u t s cg cf cd cc cb L K J I H o n m h;obtain⟨u,t,s⟩:=F.row;obtain⟨L,K,J,I,H⟩:=b6.out _ F.out;obtain⟨o,n,m,h,_⟩:=F.size;have A:=g.lt;have cj:=g.cell 0;have ci:=g.cell 1;have B:=g.cell 3;have ch:=g.cell 4;clear d X)
  |(go_at_call 90;(with_reducible refine(b3.out _ (F.out.alloc _)).mono ?_);rintro E cT ⟨rfl,y,d⟩
    have co:=za y;have G:=za ((g.alloc _).below d (g.alloc _).lt);have W:=za ((ah.made aa 131 [.int .i64 a3,.string ad,.int .i64 a2,.int .u64 bq,.string af,.int .i64 an,.int .i64 ap,.int .i64 ao,.int .i64 ar,.slice a1 av a0,.slice ba bb a9]).below d (ah.made aa 131 [.int .i64 a3,.string ad,.int .i64 a2,.int .u64 bq,.string af,.int .i64 an,.int .i64 ap,.int .i64 ao,.int .i64 ar,.slice a1 av a0,.slice ba bb a9]).lt);clear u t s L K J I H o n m h A cj ci B ch;obtain⟨u,t,s⟩:=y.row;obtain⟨o,n,m,h,_⟩:=y.size;have A:=G.lt;have Z:=W.lt;have B:=G.cell 3;obtain⟨a8,a7,a6,a5,a4⟩:=b8.out _ y;clear y d b3)
  |(go_at_call 90;(with_reducible refine(b2.out _ co.out).mono ?_);rintro E cC ⟨rfl,x,d⟩
    have cn:=za x;have b1:=za ((G.out).below d (G.out).lt);have cv:=za ((W.out).below d (W.out).lt);clear u t s o n m h A Z B a8 a7 a6 a5 a4;obtain⟨u,t,s⟩:=x.row;obtain⟨o,n,m,h,_⟩:=x.size;have A:=b1.lt;have Z:=cv.lt;have B:=b1.cell 3;obtain⟨a8,a7,a6,a5,a4⟩:=b8.out _ x;clear x d b2))
 go_ret;exact⟨rfl,cn⟩
set_option maxRecDepth 200000 in
def uE(w0 w:World)(cg cf ad gl b4 b1 b0:Nat)(S:cU)(d:St w0 cg cf ad gl b4 b1 b0 S w)(H:S.l.length<=100000)(top k j:Nat)(r:List Nat)(f:S.ks=top::k::j::r)(bp:S.mark.getD top false=false)(ar:∀i,i<S.l.length->dg (S.l.getD i default))(a:gD)(ab:cm (S.l.getD k default)=some a)(X:(S.l.getD top default).op=19)(bo:S.mark.getD k false=false)(aa:cm (S.l.getD j default)=none):Calls prog 58 #[.pointer (some ⟨ad,0,none⟩)] w λe w'=>e= .returned (.bool false)∧St w0 cg cf ad gl b4 b1 b0 S w':=by
 have bl:top<S.l.length:=d.ks top (by rw[f];simp);have Y:k<S.l.length:=d.ks k (by rw[f];simp);have c1:=za d;have ca:=gw d H f bp;have b9:=pA d H f;obtain⟨v,W⟩:∃v,S.l.getD top default=v:=⟨_,rfl⟩
 obtain⟨z,F⟩:∃z,S.l.getD k default=z:=⟨_,rfl⟩
 have bj:dg z:=F ▸ ar k Y;have cc:=cJ d bl W;have cb:=cJ d Y F;rw[F]at ab;rw[W]at X;obtain⟨b3,bq⟩:∃cs,aO a=cs:=⟨_,rfl⟩
 have ap:=za (λo=>(show Calls prog 91 #[br z] o λe w'=>e= .returned (.tuple #[b3.val,.bool true])∧zz o w' from by have:=bn z bj o;rw[ab]at this;rw[<-bq];exact this));have Z:j<S.l.length:=d.ks j (by rw[f];simp);obtain⟨A,G⟩:∃A,S.l.getD j default=A:=⟨_,rfl⟩
 have bk:dg A:=G ▸ ar j Z;have cd:=cJ d Z G;have d2:(0:Int)<=(j:Int)∧(j:Int)<(S.l.length:Int):=by omega
 rw[G]at aa;have ao:=za (λo=>(show Calls prog 91 #[br A] o λe w'=>e= .returned (.tuple #[aS.val,.bool false])∧zz o w' from by have:=bn A bk o;rw[aa]at this;exact this));have b8:=NZ d H f;have b7:=FV d H f bo;obtain⟨bb,a1,ba,b2,a2,a3,a5,a4,a6,a9,a7,a8,be,bi,bc⟩:=b3;simp only[br,aH.val,aS,mk]at ap ao;rw[X]at cc;have d0:(0:Int)<=(top:Int)∧(top:Int)<(S.l.length:Int):=by omega
 have d1:(0:Int)<=(k:Int)∧(k:Int)<(S.l.length:Int):=by omega
 clear d f bp ab bj ar W F bl Y bq X bo Z G bk aa;go_enter func58,ntmps58;go_wp2_with (first
  |(go_at_call 90;(with_reducible refine(ca.out _ c1.out).mono ?_);rintro D c5 ⟨rfl,bt⟩;have c0:=za bt;clear bt ca)
  |(go_at_call 90;(with_reducible refine(b9.out _ c0.out).mono ?_);rintro D a0 ⟨rfl,y⟩
    have cT:=za y;obtain⟨s,q,p⟩:=y.row;obtain⟨cl,ck,cj,ci,ch⟩:=cc.out _ y;obtain⟨P,O,N,M,L⟩:=cb.out _ y;obtain⟨n,m,h,g,_⟩:=y.size;clear y b9)
  |(go_at_call 91;(with_reducible refine(ap.out _).mono ?_);rintro D av ⟨rfl,c⟩
    have I:=za ((cT.alloc _).next c);have t:=za ((ah.made a0 50 [.int .i64 19,.int .i64 v.a,.int .i64 v.b,.string v.text,.int .i64 v.pos]).below c (ah.made a0 50 _).lt);clear s q p cl ck cj ci ch P O N M L n m h g;obtain⟨s,q,p⟩:=I.row;obtain⟨P,O,N,M,L⟩:=cb.out _ I.out;obtain⟨n,m,h,g,_⟩:=I.size;have u:=t.lt;have cp:=t.cell 0;have co:=t.cell 1;have x:=t.cell 3;have cn:=t.cell 4;clear c ap)
  |(go_at_call 90;(with_reducible refine(b8.out _ (I.out.alloc _)).mono ?_);rintro D c4 ⟨rfl,C,c⟩
    have cC:=za C;have K:=za ((t.alloc _).below c (t.alloc _).lt);have an:=za ((ah.made av 131 [.int .i64 bb,.string a1,.int .i64 ba,.int .u64 b2,.string a2,.int .i64 a3,.int .i64 a5,.int .i64 a4,.int .i64 a6,.slice a9 a7 a8,.slice be bi bc]).below c (ah.made av 131 [.int .i64 bb,.string a1,.int .i64 ba,.int .u64 b2,.string a2,.int .i64 a3,.int .i64 a5,.int .i64 a4,.int .i64 a6,.slice a9 a7 a8,.slice be bi bc]).lt);clear s q p P O N M L n m h g u cp co x cn;obtain⟨s,q,p⟩:=C.row;obtain⟨n,m,h,g,_⟩:=C.size;have u:=K.lt;have E:=an.lt;have x:=K.cell 3;obtain⟨V,U,T,R,Q⟩:=cd.out _ C;clear C c b8)
  |(go_at_call 90;(with_reducible refine(b7.out _ cC.out).mono ?_);rintro D c3 ⟨rfl,B,c⟩
    have cv:=za B;have J:=za ((K.out).below c (K.out).lt);have af:=za ((an.out).below c (an.out).lt);clear s q p n m h g u E x V U T R Q;obtain⟨s,q,p⟩:=B.row;obtain⟨n,m,h,g,_⟩:=B.size;have u:=J.lt;have E:=af.lt;have x:=J.cell 3;obtain⟨V,U,T,R,Q⟩:=cd.out _ B;clear B c b7)
  |(go_at_call 91;(with_reducible refine(ao.out _).mono ?_);rintro D c2 ⟨rfl,c⟩
    have ct:=za (cv.next c);have b5:=za (J.below c J.lt);have b6:=za (af.below c af.lt);clear s q p n m h g u E x V U T R Q;have u:=b5.lt;have E:=b6.lt;have x:=b5.cell 3;obtain⟨dC,dB,ds,dn,dl,df,c9,c8,c7,c6,dA,_⟩:=aA b6.out;clear c ao))
 go_ret;exact⟨rfl,ct.alloc _⟩
end
section
set_option maxRecDepth 200000
open Go.RowKit Go.Proofs.PeepPlain
def AZ(w0 w:World)(N cs a0 gl cd cb ca:Nat)(S:cU)(d:St w0 N cs a0 gl cd cb ca S w)(H:S.l.length<=100000)(top k j:Nat)(r:List Nat)(g:S.ks=top::k::j::r)(b6:S.mark.getD top false=false)(a8:∀i,i<S.l.length->dg (S.l.getD i default))(a:gD)(J:cm (S.l.getD k default)=some a)(b:gD)(I:cm (S.l.getD j default)=some b)(ad:(S.l.getD top default).op=19)(b5:S.mark.getD k false=false)(ab:(S.l.getD top default).text.size<=2000000)(av:∀c,Below N w0 c->aX c∧fT c)(ar:iF (S.l.getD top default).text b a=none):Calls prog 58 #[.pointer (some ⟨a0,0,none⟩)] w λe w'=>e= .returned (.bool false)∧St w0 N cs a0 gl cd cb ca S w':=by
 have b4:top<S.l.length:=d.ks top (by rw[g];simp);have af:k<S.l.length:=d.ks k (by rw[g];simp);have df:=za d;have cl:=gw d H g b6;have ck:=pA d H g;obtain⟨f,B⟩:∃f,S.l.getD top default=f:=⟨_,rfl⟩
 obtain⟨z,F⟩:∃z,S.l.getD k default=z:=⟨_,rfl⟩
 have Z:dg z:=F ▸ a8 k af;have co:=cJ d b4 B;have cn:=cJ d af F;rw[F]at J;rw[B]at ad;obtain⟨a2,ap⟩:∃a3,aO a=a3:=⟨_,rfl⟩
 have a7:=za (λc=>(show Calls prog 91 #[br z] c λe w'=>e= .returned (.tuple #[a2.val,.bool true])∧zz c w' from by have:=bn z Z c;rw[J]at this;rw[<-ap];exact this));have an:j<S.l.length:=d.ks j (by rw[g];simp);obtain⟨A,G⟩:∃A,S.l.getD j default=A:=⟨_,rfl⟩
 have aa:dg A:=G ▸ a8 j an;have cp:=cJ d an G;have fr:(0:Int)<=(j:Int)∧(j:Int)<(S.l.length:Int):=by omega
 rw[G]at I;rw[B]at ab;obtain⟨a1,ao⟩:∃e,aO b=e:=⟨_,rfl⟩
 have a6:=za (λc=>(show Calls prog 91 #[br A] c λe w'=>e= .returned (.tuple #[a1.val,.bool true])∧zz c w' from by have:=bn A aa c;rw[I]at this;rw[<-ao];exact this));have b8:=pQ Z J;have b7:=pQ aa I;rw[B]at ar;have a9:=za (λc (hb:Below N w0 c)=>(show Calls prog 95 #[.string f.text,a1.val,a2.val] c λe w'=>(∃a3:aH,e= .returned (.tuple #[a3.val,.bool false]))∧zz c w' from by have:=sF f.text ab b a b7 b8 c (av c hb).1 (av c hb).2;rw[ar,ap,ao]at this;exact this));have cj:=NZ d H g;have ci:=FV d H g b5;obtain⟨b0,bc,bt,cc,be,bi,bk,bj,bl,bq,bo,bp,b2,b3,b1⟩:=a2;obtain⟨e9,d0,e7,fm,d2,d4,d8,d6,ea,e5,e1,e3,fi,fk,ff⟩:=a1;simp only[br,aH.val]at a7 a6 a9;rw[ad]at co;have fn:(0:Int)<=(top:Int)∧(top:Int)<(S.l.length:Int):=by omega
 have fo:(0:Int)<=(k:Int)∧(k:Int)<(S.l.length:Int):=by omega
 clear d g b6 J Z a8 B F b4 af ap ad b5 an G aa I ab ao b8 b7 av ar;go_enter func58,ntmps58;go_wp2_with (first
  |(go_at_call 90;(with_reducible refine(cl.out _ df.out).mono ?_);rintro y dB ⟨rfl,b9⟩;have c9:=za b9;clear b9 cl)
  |(go_at_call 90;(with_reducible refine(ck.out _ c9.out).mono ?_);rintro y bb ⟨rfl,x⟩
    have c8:=za x;obtain⟨s,q,p⟩:=x.row;obtain⟨c0,cT,cC,cv,ct⟩:=co.out _ x;obtain⟨T,R,Q,P,O⟩:=cn.out _ x;obtain⟨o,n,m,h,_⟩:=x.size;clear x ck)
  |(go_at_call 91;(with_reducible refine(a7.out _).mono ?_);rintro y ba ⟨rfl,hb⟩
    have K:=za ((c8.alloc _).next hb);have t:=za ((ah.made bb 50 [.int .i64 19,.int .i64 f.a,.int .i64 f.b,.string f.text,.int .i64 f.pos]).below hb (ah.made bb 50 _).lt);clear s q p c0 cT cC cv ct T R Q P O o n m h;obtain⟨s,q,p⟩:=K.row;obtain⟨T,R,Q,P,O⟩:=cn.out _ K.out;obtain⟨o,n,m,h,_⟩:=K.size;have u:=t.lt;have c3:=t.cell 0;have c2:=t.cell 1;have v:=t.cell 3;have c1:=t.cell 4;clear hb a7)
  |(go_at_call 90;(with_reducible refine(cj.out _ (K.out.alloc _)).mono ?_);rintro y dA ⟨rfl,D,hb⟩
    have c7:=za D;have M:=za ((t.alloc _).below hb (t.alloc _).lt);have a5:=za ((ah.made ba 131 [.int .i64 b0,.string bc,.int .i64 bt,.int .u64 cc,.string be,.int .i64 bi,.int .i64 bk,.int .i64 bj,.int .i64 bl,.slice bq bo bp,.slice b2 b3 b1]).below hb (ah.made ba 131 [.int .i64 b0,.string bc,.int .i64 bt,.int .u64 cc,.string be,.int .i64 bi,.int .i64 bk,.int .i64 bj,.int .i64 bl,.slice bq bo bp,.slice b2 b3 b1]).lt);clear s q p T R Q P O o n m h u c3 c2 v c1;obtain⟨s,q,p⟩:=D.row;obtain⟨o,n,m,h,_⟩:=D.size;have u:=M.lt;have E:=a5.lt;have v:=M.cell 3;obtain⟨Y,X,W,V,U⟩:=cp.out _ D;clear D hb cj)
  |(go_at_call 90;(with_reducible refine(ci.out _ c7.out).mono ?_);rintro y ds ⟨rfl,C,hb⟩
    have c6:=za C;have L:=za ((M.out).below hb (M.out).lt);have a4:=za ((a5.out).below hb (a5.out).lt);clear s q p o n m h u E v Y X W V U;obtain⟨s,q,p⟩:=C.row;obtain⟨o,n,m,h,_⟩:=C.size;have u:=L.lt;have E:=a4.lt;have v:=L.cell 3;obtain⟨Y,X,W,V,U⟩:=cp.out _ C;clear C hb ci)
  |(go_at_call 91;(with_reducible refine(a6.out _).mono ?_);rintro y dn ⟨rfl,hb⟩
    have cf:=za (c6.next hb);have cg:=za (L.below hb L.lt);have ch:=za (a4.below hb a4.lt);clear s q p o n m h u E v Y X W V U;have u:=cg.lt;have E:=ch.lt;have v:=cg.cell 3;obtain⟨ew,ev,en,em,ek,ej,ef,ee,ed,ec,es,_⟩:=aA ch.out;clear hb a6)
  |(go_at_call 95;(with_reducible refine(a9.out _ ?hb).mono ?_)
    case hb=>exact(cf.alloc _).below
    rintro y dl ⟨⟨c4,rfl⟩,hb⟩;obtain⟨e8,dC,e6,fl,d1,d3,d7,d5,d9,e4,e0,e2,fh,fj,fc⟩:=c4;have c5:=za ((cf.alloc _).next hb);clear hb a9))
 go_ret;exact⟨rfl,c5.alloc _⟩
def Ad(w0 w:World)(G a3 x gl ab a2 a1:Nat)(S:cU)(m:St w0 G a3 x gl ab a2 a1 S w)(ar:S.l.length<=100000)(top k j:Nat)(r:List Nat)(v:S.ks=top::k::j::r)(d8:S.mark.getD top false=false)(c3:∀i,i<S.l.length->dg (S.l.getD i default))(a:gD)(a8:cm (S.l.getD k default)=some a)(b:gD)(a7:cm (S.l.getD j default)=some b)(ci:(S.l.getD top default).op=19)(d7:S.mark.getD k false=false)(ch:(S.l.getD top default).text.size<=2000000)(a9:∀c,Below G w0 c->aX c∧fT c)(d:gD)(e8:fv d)(cp:iF (S.l.getD top default).text b a=some d):Calls prog 58 #[.pointer (some ⟨x,0,none⟩)] w λe w'=>e= .returned (.bool true)∧St w0 G a3 x gl ab a2 a1 ⟨S.l.set j (gQ d (S.l.getD j default).pos),S.mark,(S.out.set top true).set k true,j::r⟩ w':=by
 have d5:top<S.l.length:=m.ks top (by rw[v];simp);have cj:k<S.l.length:=m.ks k (by rw[v];simp);have fi:=za m;have en:=gw m ar v d8;have em:=pA m ar v;obtain⟨D,ao⟩:∃D,S.l.getD top default=D:=⟨_,rfl⟩
 obtain⟨af,a5⟩:∃af,S.l.getD k default=af:=⟨_,rfl⟩
 have cf:dg af:=a5 ▸ c3 k cj;have ev:=cJ m d5 ao;have es:=cJ m cj a5;rw[a5]at a8;rw[ao]at ci;obtain⟨cC,co⟩:∃d,aO a=d:=⟨_,rfl⟩
 have c2:=za (λc=>(show Calls prog 91 #[br af] c λe w'=>e= .returned (.tuple #[cC.val,.bool true])∧zz c w' from by have:=bn af cf c;rw[a8]at this;rw[<-co];exact this));have a6:j<S.l.length:=m.ks j (by rw[v];simp);obtain⟨u,ap⟩:∃u,S.l.getD j default=u:=⟨_,rfl⟩
 have cg:dg u:=ap ▸ c3 j a6;have bi:=cJ m a6 ap;have gt:(0:Int)<=(j:Int)∧(j:Int)<(S.l.length:Int):=by omega
 rw[ap]at a7;rw[ao]at ch;obtain⟨cv,cn⟩:∃e,aO b=e:=⟨_,rfl⟩
 have c1:=za (λc=>(show Calls prog 91 #[br u] c λe w'=>e= .returned (.tuple #[cv.val,.bool true])∧zz c w' from by have:=bn u cg c;rw[a7]at this;rw[<-cn];exact this));have ea:=pQ cf a8;have d9:=pQ cg a7;rw[ao]at cp;rw[ap];obtain⟨ct,cl⟩:∃e,aO d=e:=⟨_,rfl⟩
 obtain⟨q,a4⟩:∃q,gQ d u.pos=q:=⟨_,rfl⟩
 have c4:=za (λc (hb:Below G w0 c)=>(show Calls prog 95 #[.string D.text,cv.val,cC.val] c λe w'=>e= .returned (.tuple #[ct.val,.bool true])∧zz c w' from by have:=sF D.text ch b a d9 ea c (a9 c hb).1 (a9 c hb).2;rw[cp,co,cn]at this;rw[<-cl];exact this));have bj:=za (λc (hb:Below G w0 c)=>(show Calls prog 93 #[ct.val,.int .i64 u.pos] c λe w'=>e= .returned (br q)∧zz c w' from by have:=xn d e8 u.pos c (a9 c hb).1;rw[cl,a4]at this;exact this));have fl:=za (λ(c:World) (h:St w0 G a3 x gl ab a2 a1 ⟨S.l.set j q,S.mark,S.out,S.ks⟩ c)=>qT h (by show(S.l.set j q).length<=_;rw[zN];exact ar) 2 (by show 2<=S.ks.length;rw[v];simp));have fk:Hid (ii 2 ⟨S.l.set j q,S.mark,S.out,S.ks⟩=⟨S.l.set j q,S.mark,(S.out.set top true).set k true,j::r⟩):=za (by rw[v];rfl);have ew:=za a6;have ek:=NZ m ar v;have ej:=FV m ar v d7;rw[a4];have cd:q.pos=u.pos:=by rw[<-a4];cases d<;>rfl
 have fj:=za cd;obtain⟨d1,c8,d0,ee,c9,df,dn,dl,ds,dC,dA,dB,d3,d4,d2⟩:=cC;obtain⟨f9,fr,f5,gq,fs,ft,f0,fx,f1,f4,f2,f3,gb,gc,ga⟩:=cv;obtain⟨b4,bk,b3,cs,bl,bo,bq,bp,bt,b2,b0,b1,cb,cc,ca⟩:=ct;simp only[br,aH.val]at c2 c1 c4 bj;rw[cd]at bj;rw[ci]at ev;have gr:(0:Int)<=(top:Int)∧(top:Int)<(S.l.length:Int):=by omega
 have gs:(0:Int)<=(k:Int)∧(k:Int)<(S.l.length:Int):=by omega
 clear m v d8 a8 cf c3 ao a5 d5 cj co ci d7 a6 ap cg a7 ch cn ea d9 a9 cp cl a4 cd;go_enter func58,ntmps58;go_wp2_with (first
  |(go_at_call 90;(with_reducible refine(en.out _ fi.out).mono ?_);rintro E fo ⟨rfl,ed⟩;have fh:=za ed;clear ed en)
  |(go_at_call 90;(with_reducible refine(em.out _ fh.out).mono ?_);rintro E c7 ⟨rfl,aa⟩
    have ff:=za aa;obtain⟨g,t,s⟩:=aa.row;obtain⟨e4,e3,e2,e1,e0⟩:=ev.out _ aa;obtain⟨L,K,J,I,C⟩:=es.out _ aa;obtain⟨B,A,z,y,_⟩:=aa.size;clear aa em)
  |(go_at_call 91;(with_reducible refine(c2.out _).mono ?_);rintro E c6 ⟨rfl,hb⟩
    have bb:=za ((ff.alloc _).next hb);have Z:=za ((ah.made c7 50 [.int .i64 19,.int .i64 D.a,.int .i64 D.b,.string D.text,.int .i64 D.pos]).below hb (ah.made c7 50 _).lt);clear g t s e4 e3 e2 e1 e0 L K J I C B A z y;obtain⟨g,t,s⟩:=bb.row;obtain⟨L,K,J,I,C⟩:=es.out _ bb.out;obtain⟨B,A,z,y,_⟩:=bb.size;have H:=Z.lt;have e7:=Z.cell 0;have e6:=Z.cell 1;have Y:=Z.cell 3;have e5:=Z.cell 4;clear hb c2)
  |(go_at_call 90;(with_reducible refine(ek.out _ (bb.out.alloc _)).mono ?_);rintro E fn ⟨rfl,a0,hb⟩
    have fc:=za a0;have be:=za ((Z.alloc _).below hb (Z.alloc _).lt);have c0:=za ((ah.made c6 131 [.int .i64 d1,.string c8,.int .i64 d0,.int .u64 ee,.string c9,.int .i64 df,.int .i64 dn,.int .i64 dl,.int .i64 ds,.slice dC dA dB,.slice d3 d4 d2]).below hb (ah.made c6 131 [.int .i64 d1,.string c8,.int .i64 d0,.int .u64 ee,.string c9,.int .i64 df,.int .i64 dn,.int .i64 dl,.int .i64 ds,.slice dC dA dB,.slice d3 d4 d2]).lt);clear g t s L K J I C B A z y H e7 e6 Y e5;obtain⟨g,t,s⟩:=a0.row;obtain⟨B,A,z,y,_⟩:=a0.size;have H:=be.lt;have ad:=c0.lt;have Y:=be.cell 3;obtain⟨b9,b8,b7,b6,b5⟩:=bi.out _ a0;clear a0 hb ek)
  |(go_at_call 90;(with_reducible refine(ej.out _ fc.out).mono ?_);rintro E an ⟨rfl,av,hb⟩
    have o:=za av;have p:=za ((be.out).below hb (be.out).lt);have cT:=za ((c0.out).below hb (c0.out).lt);clear g t s B A z y H ad Y b9 b8 b7 b6 b5;obtain⟨g,t,s⟩:=av.row;obtain⟨B,A,z,y,_⟩:=av.size;have H:=p.lt;have ad:=cT.lt;have Y:=p.cell 3;obtain⟨b9,b8,b7,b6,b5⟩:=bi.out _ av;clear av hb ej)
  |(go_at_call 91;(with_reducible refine(c1.out _).mono ?_);rintro E c5 ⟨rfl,hb⟩
    have F:=za (o.next hb);have bc:=za (p.below hb p.lt);have ef:=za (cT.below hb cT.lt);clear g t s B A z y H ad Y b9 b8 b7 b6 b5;have H:=bc.lt;have ad:=ef.lt;have Y:=bc.cell 3;obtain⟨X,W,U,T,R,Q,P,O,N,M,V,_⟩:=aA ef.out;clear hb c1)
  |(go_at_call 95;(with_reducible refine(c4.out _ ?hb).mono ?_)
    case hb=>exact(F.alloc _).below
    rintro E f ⟨rfl,hb⟩;have ba:=za ((F.alloc _).next hb);clear hb c4 H ad Y X W U T R Q P O N M V))
 obtain⟨an,p,o,e⟩:∃an,ah an f.heap.size 131 [.int .i64 b4,.string bk,.int .i64 b3,.int .u64 cs,.string bl,.int .i64 bo,.int .i64 bq,.int .i64 bp,.int .i64 bt,.slice b2 b0 b1,.slice cb cc ca]∧St w0 G a3 x gl ab a2 a1 S an∧f.alloc (.cells #[.int .i64 b4,.string bk,.int .i64 b3,.int .u64 cs,.string bl,.int .i64 bo,.int .i64 bq,.int .i64 bp,.int .i64 bt,.slice b2 b0 b1,.slice cb cc ca] 131)=an:=⟨_,ah.made f 131 _,ba.alloc _,rfl⟩
 rw[e];clear e;obtain⟨g,t,s⟩:=o.row;obtain⟨L,K,J,I,C⟩:=bi.out _ o;obtain⟨B,A,z,y,_⟩:=o.size;have gh:=p.lt;have d6:x≠gl:=o.apart;have n:f.heap.size≠gl:=by have:=ba.size;omega
 have go:gl≠x:=Ne.symm d6;have gm:gl≠f.heap.size:=Ne.symm n;obtain⟨X,W,U,T,R,Q,P,O,N,M,V,kf⟩:=aA p;have ck:=o.free;replace o:=za o;replace p:=za p;go_region_held3 (λw'=>w'.cell? ⟨x,0,none⟩=some (.slice (some ⟨gl,0,none⟩) S.l.length ab)∧w'.cell? ⟨gl,j * 5+4,none⟩=some (.int .i64 u.pos)∧w'.cell? ⟨f.heap.size,0,none⟩=some (.int .i64 b4)∧w'.cell? ⟨f.heap.size,1,none⟩=some (.string bk)∧w'.cell? ⟨f.heap.size,2,none⟩=some (.int .i64 b3)∧w'.cell? ⟨f.heap.size,3,none⟩=some (.int .u64 cs)∧w'.cell? ⟨f.heap.size,4,none⟩=some (.string bl)∧w'.cell? ⟨f.heap.size,5,none⟩=some (.int .i64 bo)∧w'.cell? ⟨f.heap.size,6,none⟩=some (.int .i64 bq)∧w'.cell? ⟨f.heap.size,7,none⟩=some (.int .i64 bp)∧w'.cell? ⟨f.heap.size,8,none⟩=some (.int .i64 bt)∧w'.cell? ⟨f.heap.size,9,none⟩=some (.slice b2 b0 b1)∧w'.cell? ⟨f.heap.size,10,none⟩=some (.slice cb cc ca))
  (first|(with_reducible exact⟨g,C,X,W,U,T,R,Q,P,O,N,M,V⟩)|(with_reducible exact⟨jB (i:=j * 5) d6 g,St.pos5 F.out ew.out _ _ _ _ _,jB (i:=j * 5) n X,jB (i:=j * 5) n W,jB (i:=j * 5) n U,jB (i:=j * 5) n T,jB (i:=j * 5) n R,jB (i:=j * 5) n Q,jB (i:=j * 5) n P,jB (i:=j * 5) n O,jB (i:=j * 5) n N,jB (i:=j * 5) n M,jB (i:=j * 5) n V⟩)|go_keep)
  (first
  |(go_at_call 93;(with_reducible refine(bj.out _ ?hb).mono ?_)
    case hb=>exact o.drew.below
    rintro E c5 ⟨rfl,hb⟩;have F:=za (o.drew.next hb);have bc:=za (p.drew.below hb p.drew.lt);clear g t s L K J I C X W U T R Q P O N M V kf ck;obtain⟨g,t,s⟩:=F.row;obtain⟨L,K,J,I,C⟩:=bi.out _ F.out;obtain⟨X,W,U,T,R,Q,P,O,N,M,V,kf⟩:=aA bc.out;have ck:=F.free;clear hb bj o p))
 obtain⟨f,ba,e⟩:∃f,Hid (St w0 G a3 x gl ab a2 a1 ⟨S.l.set j q,S.mark,S.out,S.ks⟩ f)∧sa c5 gl (j * 5) q=f:=⟨_,za (F.put ew.out q),rfl⟩
 unfold sa at e;rw[fj.out]at e;rw[e];clear e g t s L K J I C X W U T R Q P O N M V kf ck;go_wp2_with (go_at_call 94;refine(fl.out _ ba.out).mono ?_;rintro E fm ⟨rfl,ec⟩;have e9:=za ec;clear ec);go_ret;exact⟨rfl,by rw[<-fk.out];exact e9.out⟩
end
section
open Go.RowKit Go.Proofs.PeepPlain
def s5(op:BinOp)(n m:Int):fv (.int (bits op .i64 n m)):=⟨bits_lo_i64 op n m,bits_hi_i64 op n m⟩
def yW{op:ByteArray}{a d:gD}(b:mV op a=some d):fv d:=by
 cases a with
 |int n=>
  have b:(if op.toList=[43,43]then some (gD.int (wrap64 (n+1)))else if op.toList=[45,45]then some (.int (wrap64 (n - 1)))else if op.toList=[45]then some (.int (wrap64 (-n)))else if op.toList=[94]then some (.int (bits BinOp.xor .i64 (-1) n))else none)=some d:=b;by_cases f:op.toList=[43,43]
  ·rw[zn f]at b;injection b with b;subst b;exact ip _
  rw[zm f]at b;by_cases e:op.toList=[45,45]
  ·rw[zn e]at b;injection b with b;subst b;exact ip _
  rw[zm e]at b;by_cases c:op.toList=[45]
  ·rw[zn c]at b;injection b with b;subst b;exact ip _
  rw[zm c]at b;by_cases g:op.toList=[94]
  ·rw[zn g]at b;injection b with b;subst b;exact s5 _ _ _
  rw[zm g]at b
  cases b
 |flag n=>
  have b:(if op.toList=[43,43]then none else if op.toList=[45,45]then none else if op.toList=[33]then some (gD.flag (if n=0 then 1 else 0))else none)=some d:=b;by_cases f:op.toList=[43,43]
  ·rw[zn f]at b;cases b
  rw[zm f]at b;by_cases e:op.toList=[45,45]
  ·rw[zn e]at b;cases b
  rw[zm e]at b;by_cases c:op.toList=[33]
  ·rw[zn c]at b;injection b with b;subst b;by_cases h:n=0
   ·rw[zn h];exact .inr rfl
   ·rw[zm h];exact .inl rfl
  rw[zm c]at b
  cases b
def OX{n m:Int}(d:fv (.int n))(k:Nat):fv (.int (n / 2 ^ k)):=by
 obtain⟨f,e⟩:=d;have a:(0:Int)<2 ^ k:=Int.pow_pos (by omega);have b:(1:Int)<=2 ^ k:=a;refine⟨?_,?_⟩
 ·have: -9223372036854775808 * 2 ^ k<=n:=by
   have:(-9223372036854775808:Int) * 2 ^ k<= -9223372036854775808 * 1:=Int.mul_le_mul_of_nonpos_left (by omega) b;omega
  exact(Int.le_ediv_iff_mul_le a).2 this
 ·by_cases c:0<=n
  ·exact Int.le_trans (Int.ediv_le_self _ c) e
  ·have:=Int.ediv_neg_of_neg_of_pos (show n<0 by omega) a;omega
def JL{op:ByteArray}{n m:Int}{d:gD}(f:fv (.int n))(a:bg op n m=some d):fv d:=by
 unfold bg at a;by_cases b:op.toList=[43]
 ·rw[zn b]at a;injection a with a;subst a;exact ip _
 rw[zm b]at a;clear b;by_cases b:op.toList=[45]
 ·rw[zn b]at a;injection a with a;subst a;exact ip _
 rw[zm b]at a;clear b;by_cases b:op.toList=[42]
 ·rw[zn b]at a;injection a with a;subst a;exact ip _
 rw[zm b]at a;clear b;by_cases b:op.toList=[47]
 ·rw[zn b]at a;by_cases c:m=0
  ·rw[zn c]at a;cases a
  ·rw[zm c]at a;injection a with a;subst a;by_cases e:m= -1
   ·rw[zn e];exact ip _
   ·rw[zm e];exact ip _
 rw[zm b]at a;clear b;by_cases b:op.toList=[37]
 ·rw[zn b]at a;by_cases c:m=0
  ·rw[zn c]at a;cases a
  ·rw[zm c]at a;injection a with a;subst a;by_cases e:m= -1
   ·rw[zn e];exact ip _
   ·rw[zm e];exact ip _
 rw[zm b]at a;clear b;by_cases b:op.toList=[38]
 ·rw[zn b]at a;injection a with a;subst a;exact s5 _ _ _
 rw[zm b]at a;clear b;by_cases b:op.toList=[124]
 ·rw[zn b]at a;injection a with a;subst a;exact s5 _ _ _
 rw[zm b]at a;clear b;by_cases b:op.toList=[94]
 ·rw[zn b]at a;injection a with a;subst a;exact s5 _ _ _
 rw[zm b]at a;clear b;by_cases b:op.toList=[60,60]
 ·rw[zn b]at a;by_cases c:m<0
  ·rw[zn c]at a;cases a
  ·rw[zm c]at a;injection a with a;subst a;exact ip _
 rw[zm b]at a;clear b;by_cases b:op.toList=[62,62]
 ·rw[zn b]at a;by_cases c:m<0
  ·rw[zn c]at a;cases a
  ·rw[zm c]at a;injection a with a;subst a;exact OX (m:=0) f _
 rw[zm b]at a;clear b;by_cases b:op.toList=[60,61]
 ·rw[zn b]at a;injection a with a;subst a;exact rX _
 rw[zm b]at a;clear b;by_cases b:op.toList=[60]
 ·rw[zn b]at a;injection a with a;subst a;exact rX _
 rw[zm b]at a;clear b;by_cases b:op.toList=[62,61]
 ·rw[zn b]at a;injection a with a;subst a;exact rX _
 rw[zm b]at a;clear b;by_cases b:op.toList=[62]
 ·rw[zn b]at a;injection a with a;subst a;exact rX _
 rw[zm b]at a;clear b
 cases a
def yx{op:ByteArray}{b a d:gD}(e:fv b)(c:iF op b a=some d):fv d:=by
 unfold iF at c;split at c
 ·injection c with c;subst c;exact rX _
 ·split at c
  ·injection c with c;subst c;exact rX _
  ·split at c
   ·exact JL e c
   ·cases c
def ou{l:List Bool}{i:Nat}(a:i<l.length):l.getD i true=l.getD i false:=by
 rw[zd,zd,zo a];rfl
def BQ{S:cU}{top k:Nat}{r:List Nat}(e:S.ks=top::k::r)(c:S.mark.getD top true=false):folds O0 S=(match cm (S.l.getD k default)with
        |none=>(S,false)
        |some a=>
         if PeepPlain.aq S.l top=18 then
          match mV (S.l.getD top default).text a with
          |some d=>(⟨S.l.set k (gQ d (S.l.getD k default).pos),S.mark,S.out.set top true,k::r⟩,true)
          |none=>(S,false)
         else if PeepPlain.aq S.l top=35 then
          if PeepPlain.aq S.l k≠6 then(S,false)
          else if(S.l.getD k default).a=1 then(⟨S.l,S.mark.set (top+1) (S.mark.getD (top+1) true||S.mark.getD k true),(S.out.set top true).set k true,r⟩,false)
          else(⟨S.l.set k ⟨34,(S.l.getD top default).a,0,⟨#[]⟩,(S.l.getD top default).pos⟩,S.mark,S.out.set top true,k::r⟩,false)
         else if PeepPlain.aq S.l top=19 then
          match r with
          |j::rest2=>
           if S.mark.getD k true then(S,false)else
           match cm (S.l.getD j default)with
           |none=>(S,false)
           |some b=>
            match iF (S.l.getD top default).text b a with
            |some d=>(⟨S.l.set j (gQ d (S.l.getD j default).pos),S.mark,(S.out.set top true).set k true,j::rest2⟩,true)
            |none=>(S,false)
          | []=>(S,false)
         else(S,false)):=by
 obtain⟨l,mk,f,ks⟩:=S;dsimp only at e c ⊢
 subst e;unfold folds;dsimp only;rw[c,zm (by decide)];simp only[O0]
 cases cm (l.getD k default)with
 |none=>rfl
 |some a=>
  dsimp only
  cases r with
  |nil=>cases mV (l.getD top default).text a<;>rfl
  |cons j r2=>
   dsimp only
   cases cm (l.getD j default)with
   |none=>cases mV (l.getD top default).text a<;>rfl
   |some b=>
    dsimp only
    cases iF (l.getD top default).text b a<;>cases mV (l.getD top default).text a<;>rfl
def xx{S:cU}{top k:Nat}{r:List Nat}(b:S.ks=top::k::r)(a:S.mark.getD top true=true):folds O0 S=(S,false):=by
 obtain⟨d,mk,c,ks⟩:=S;dsimp only at b a ⊢
 subst b;unfold folds;dsimp only;rw[a,zn rfl]
def Dq(w0 w:World)(m q h gl p o n:Nat)(S:cU)(f:St w0 m q h gl p o n S w)(s:S.l.length<=100000)(I:∀F,Below m w0 F->aX F∧fT F)
 (t:∀i,i<S.l.length->dg (S.l.getD i default))(E:∀i,i<S.l.length->(S.l.getD i default).text.size<=2000000)(R:∀i,i<S.l.length->(S.l.getD i default).op=35->i+1<S.l.length):
 Calls prog 58 #[.pointer (some ⟨h,0,none⟩)] w λe w'=>e= .returned (.bool (folds O0 S).2)∧St w0 m q h gl p o n (folds O0 S).1 w':=by
 have T:=f.lens.1
 cases c:S.ks with
 |nil=>
  rw[show folds O0 S=(S,false) by unfold folds;rw[c]];exact EY w0 w m q h gl p o n S f s c
 |cons top ks1=>
  have A:top<S.l.length:=f.ks top (by rw[c];simp)
  cases ks1 with
  |nil=>
   rw[show folds O0 S=(S,false) by unfold folds;rw[c]]
   cases g:S.mark.getD top false
   ·exact sQ w0 w m q h gl p o n S f s top c g
   ·exact uS w0 w m q h gl p o n S f s top c g
  |cons k r=>
   have U:k<S.l.length:=f.ks k (by rw[c];simp);have K:S.mark.getD top true=S.mark.getD top false:=ou (by omega);have L:S.mark.getD k true=S.mark.getD k false:=ou (by omega);by_cases g:S.mark.getD top false=true
   ·rw[xx c (K.trans g)];exact Fg w0 w m q h gl p o n S f s top k r c g
   replace g:=Bool.eq_false_iff.2 g;have E0:=BQ c (K.trans g);rw[E0];clear E0;have N:PeepPlain.aq S.l top=(S.l.getD top default).op:=rfl;have O:PeepPlain.aq S.l k=(S.l.getD k default).op:=rfl;rw[N,O]
   cases u:cm (S.l.getD k default)with
   |none=>exact Be w0 w m q h gl p o n S f s top k r c g t u
   |some a=>
    dsimp only;by_cases B:(S.l.getD top default).op=18
    ·rw[zn B]
     cases G:mV (S.l.getD top default).text a with
     |none=>exact Ci w0 w m q h gl p o n S f s top k r c g t a u B (E top A) G
     |some d=>exact ye w0 w m q h gl p o n S f s top k r c g t a u I B (E top A) d (yW G) G
    ·rw[zm B];by_cases y:(S.l.getD top default).op=35
     ·rw[zn y];by_cases z:(S.l.getD k default).op=6
      ·rw[zm (λQ=>Q z)];have J:=R top A y;by_cases C:(S.l.getD k default).a=1
       ·rw[zn C,L,ou (show top+1<S.mark.length by omega)]
        cases M:S.mark.getD (top+1) false
        ·rw[Bool.false_or];exact pJ w0 w m q h gl p o n S f s top k r c g t a u y z C J M
        ·rw[Bool.true_or];exact qB w0 w m q h gl p o n S f s top k r c g t a u y z C J M
       ·rw[zm C];exact wi w0 w m q h gl p o n S f s top k r c g t a u y z C
      ·rw[zn z];exact tS w0 w m q h gl p o n S f s top k r c g t a u y z
     ·rw[zm y];by_cases x:(S.l.getD top default).op=19
      ·rw[zn x]
       cases r with
       |nil=>
        dsimp only
        cases v:S.mark.getD k false
        ·exact pT w0 w m q h gl p o n S f s top k c g t a u x v
        ·exact qD w0 w m q h gl p o n S f s top k c g t a u x v
       |cons j rest2=>
        dsimp only;rw[L];by_cases v:S.mark.getD k false=true
        ·rw[zn v];exact wa w0 w m q h gl p o n S f s top k j rest2 c g t a u x v
        replace v:=Bool.eq_false_iff.2 v;rw[v,zm (by decide)]
        cases D:cm (S.l.getD j default)with
        |none=>exact uE w0 w m q h gl p o n S f s top k j rest2 c g t a u x v D
        |some b=>
         dsimp only;have P:j<S.l.length:=f.ks j (by rw[c];simp)
         cases H:iF (S.l.getD top default).text b a with
         |none=>exact AZ w0 w m q h gl p o n S f s top k j rest2 c g t a u b D x v (E top A) I H
         |some d=>exact Ad w0 w m q h gl p o n S f s top k j rest2 c g t a u b D x v (E top A) I d (yx (pQ (t j P) D) H) H
      ·rw[zm x];exact CV w0 w m q h gl p o n S f s top k r c g t a u B y x
end
section
open Go.RowKit Go.Proofs.PeepPlain
def pg:Go.Shelf.Ren:=⟨λ|41=>52|n=>n,λ|22=>45|23=>50|4=>4|n=>n,λ|n=>n⟩
def vi:Go.Proofs.SlLaysE0.n41 prog pg:={
 mixed:=by kernel_rfl
 f41:=⟨f52.name,by decide,func52.trans (zp some (by kernel_rfl))⟩
 t4:=underlying4
 a4:=isAgg4
 z4:=sizeOf4
 v4:=zeroValue4
 t22:=underlying45
 a22:=isAgg45
 z22:=sizeOf45
 v22:=zeroValue45}
def Fw(l:List au)(b:Option Addr)(c:Nat)(w:World)(p:bX w b l)(r:0<l.length)(t:l.length<=100000):
 Calls prog 52 #[.slice b l.length c] w λe w'=> ∃a,e= .returned a∧gB w.heap.size w' a l∧zz w w':=by
 obtain⟨q,d,rfl,s,n⟩:=p (by rw[bw];omega);obtain⟨f,k,i,h,g⟩:=info_parts nN;refine(AnyE.slices_Clone vi f _ 5 48 k i h g rfl (by omega) (λw=>sizeOf50 w) q d l.length c (bV l) w (bw l) (by unfold maxLen;omega) (by omega) n (oM l)).mono ?_;rintro e w' ⟨a,m,j,_,o⟩;exact⟨a,m,j,o⟩
def CY(out:List Bool)(g c:Nat)(w:World)(m:ah w g 4 (aL out))(v:out.length<=100000):
 Calls prog 89 #[.slice (some ⟨g,0,none⟩) out.length c,.bool true] w λe w'=>(∃r:Int,e= .returned (.int .i64 r)∧decide (0<=r)=out.any id)∧w'=w:=by
 have p:=za m;clear m;go_enter func89,ntmps89;go_wp2_with fail;go_loopw [4,5,8] (λt s h wr=> ∃a:Nat,wr=w∧h= .int .i64 a∧a<=out.length∧Hid (∀b,(f:b<out.length)->b<a->out[b]=false)) (λ_ _ h _=>out.length - (intOf h).toNat)
 case atStart=>exact⟨0,rfl,rfl,zu _,za (λb _ A=>by omega)⟩
 case round=>
  obtain⟨a,rfl,rfl,x,n⟩:=hrel;by_cases i:a<out.length
  ·have k:=jE p.out i;have j:out.getD a false=out[a]:=by rw[zd,zo i];rfl
   rw[j]at k;have z:(0:Int)<=(a:Int)∧(a:Int)<(out.length:Int):=by omega
   cases d:out[a]
   ·rw[d]at k;have q:=za (show ∀b,(f:b<out.length)->b<a+1->out[b]=false from λb f y=>by
     by_cases e:b=a
     ·subst e;exact d
     ·exact n.out b f (by omega))
    clear d j;go_wp2_with fail;go_roundw
    case rel=>exact⟨a+1,trivial,by go_num,by omega,q⟩
    case measure=>simp[intOf];omega
   ·rw[d]at k;have l:=za (show out.any id=true from List.any_eq_true.2 ⟨out[a],zk i,d⟩);clear d j;go_wp2_with fail;go_ret;exact⟨⟨_,rfl,by rw[l.out];exact ze (by omega)⟩,rfl⟩
  ·obtain rfl:a=out.length:=by omega
   have l:=za (show out.any id=false from by
    rw[List.any_eq_false];intro u o;obtain⟨b,f,rfl⟩:=zQ o;rw[n.out b f f];exact Bool.false_ne_true)
   go_wp2_with fail;go_ret;exact⟨⟨_,rfl,by rw[l.out];rfl⟩,rfl⟩
def nS(out:List Bool)(g c:Nat)(w:World)(d:ah w g 4 (aL out))(f:out.length<=100000):
 Calls prog 55 #[.slice (some ⟨g,0,none⟩) out.length c,.bool true] w λe w'=>e= .returned (.bool (out.any id))∧w'=w:=by
 have a:=CY out g c w d f;clear d;generalize out.any id=b at a;go_enter func55,ntmps55;go_wp2_with (go_at_call 89;refine a.mono ?_);rintro k h ⟨⟨i,rfl,j⟩,rfl⟩;go_wp2;go_ret;exact⟨ag rfl,rfl⟩
def AH{l:List au}{out:List Bool}(i:out.length=l.length):out.any id=true↔ky l out:=by
 constructor
 ·intro g;obtain⟨h,f,e⟩:=List.any_eq_true.1 g;obtain⟨a,d,rfl⟩:=zQ f;exact⟨a,by omega,by rw[zd,zo d];exact e⟩
 ·rintro⟨a,d,b⟩;have c:a<out.length:=by omega
  rw[zd,zo c]at b;exact List.any_eq_true.2 ⟨out[a],zk c,b⟩
end
section
open Go.RowKit Go.Proofs.PeepPlain
def PI(i:au):Prop:=dg i∧i.text.size<=2000000
def Ku{d:gD}(a:fv d)(p:Int):PI (gQ d p):=by
 cases d with
 |int n=>
  refine⟨⟨λ_=>⟨n,ni a.1 a.2⟩,λb=>?_⟩,?_⟩
  ·exact absurd (show(3:Int)=6 from b) (by decide)
  ·have:=Lib.itoa_length_le n a.1 a.2;show(Lib.itoa n).toArray.size<=2000000;rw[List.size_toArray];omega
 |flag n=>
  refine⟨⟨λc=>?_,λ_=>a⟩,?_⟩
  ·exact absurd (show(6:Int)=3 from c) (by decide)
  ·show(0:Nat)<=2000000;omega
def iR:mj O0 PI where
 turn:=λc o d b=>by
  refine⟨⟨λf=>?_,λe=>?_⟩,b.2⟩
  ·have f:c.op=3:=f
   rw[f]at d
   rcases d with b|b|b|b|b<;>exact absurd b (by decide)
  ·have e:c.op=6:=e
   rw[e]at d
   rcases d with b|b|b|b|b<;>exact absurd b (by decide)
 un:=λc j h n _ _ k l g=>Ku (yW (op:=c.text) (a:=h) g) _
 bi:=λc p j i h n _ _ d k m l g=>Ku (yx (op:=c.text) (b:=i) (a:=h) (pQ d.1 m) g) _
 branch:=λc _ b=>by
  refine⟨⟨λf=>?_,λe=>?_⟩,?_⟩
  ·exact absurd (show(34:Int)=3 from f) (by decide)
  ·exact absurd (show(34:Int)=6 from e) (by decide)
  ·show(0:Nat)<=2000000
   omega
noncomputable def cH(l:List au)(k:Nat):cU:=bI O0 (List.range' 0 k) (fN l (dd l))
def yF(a b:List Nat)(S:cU):bI O0 (a++b) S=bI O0 b (bI O0 a S):=by
 induction a generalizing S with
 |nil=>rfl
 |cons k r ih=>exact ih _
def nE(l:List au)(k:Nat):cH l (k+1)=aV O0 ⟨(cH l k).l,(cH l k).mark,(cH l k).out,k::(cH l k).ks⟩:=by
 unfold cH;rw[List.range'_concat,yF];simp only[zP,Nat.one_mul];rfl
def Ec(l:List au):cH l l.length=bM O0 l:=rfl
def wK(S:cU):(folds O0 S).1.ks.length<=S.ks.length:=by
 cases g:(folds O0 S).2 with
 |true=>exact Nat.le_of_lt (cO O0 S g)
 |false=>
  cases c:S.ks with
  |nil=>rw[show folds O0 S=(S,false) by unfold folds;rw[c]];rw[c];exact zb _
  |cons top ks1=>
   cases ks1 with
   |nil=>rw[show folds O0 S=(S,false) by unfold folds;rw[c]];rw[c];exact zb _
   |cons k r=>
    cases f:S.mark.getD top true
    ·have h:S.ks.length=r.length+2:=by rw[c];rfl
     have e:(S,false).1.ks.length<=(top::k::r).length:=by rw[<-c];exact zb _
     rw[BQ c f];clear g
     cases cm (S.l.getD k default)with
     |none=>exact e
     |some a=>
      dsimp only;split
      ·cases mV (S.l.getD top default).text a with
       |none=>exact e
       |some d=>simp
      ·split
       ·split
        ·exact e
        ·split
         ·simp;omega
         ·simp
       ·split
        ·cases r with
         |nil=>exact e
         |cons j r2=>
          dsimp only;split
          ·exact e
          ·cases cm (S.l.getD j default)with
           |none=>exact e
           |some b=>
            dsimp only
            cases iF (S.l.getD top default).text b a with
            |none=>exact e
            |some d=>simp
        ·exact e
    ·rw[xx c f,c];exact zb _
def Ah:∀(n:Nat) (S:cU),S.ks.length<=n->(aV O0 S).ks.length<=S.ks.length:=by
 intro n
 induction n with
 |zero=>
  intro S c;rw[aV];split
  ·rename_i a;have:=cO O0 S a;omega
  ·exact wK S
 |succ n ih=>
  intro S c;rw[aV];split
  ·rename_i a;have b:=cO O0 S a;exact zi (ih _ (by omega)) (Nat.le_of_lt b)
  ·exact wK S
def tX(l:List au)(k:Nat):(cH l k).ks.length<=k:=by
 induction k with
 |zero=>exact zb _
 |succ k ih=>
  rw[nE];refine zi (Ah _ _ (zb _)) ?_;show(k::(cH l k).ks).length<=k+1;rw[List.length_cons];omega
structure Pr(l0:List au)(S:cU):Prop where
 well:ge l0 S
 each:sT PI S.l
def Io{b:List au}{S:cU}(a:Pr b S):Pr b (folds O0 S).1:=
 ⟨kH cS a.well,(pM iR (λc d=>by rw[a.well.len];exact a.well.sorted c d) a.each).1⟩
def J1{b:List au}{S:cU}(a:Pr b S):Pr b (aV O0 S):=
 ⟨ln cS _ _ (zb _) a.well,(oW iR _ _ (zb _) (λc d=>by rw[a.well.len];exact a.well.sorted c d) a.each).1⟩
def pw{l:List au}(d:sT PI l):∀k,k<=l.length->Pr l (cH l k)∧∀j∈(cH l k).ks,j<k:=by
 intro k
 induction k with
 |zero=>intro _;exact⟨⟨pG l _,d⟩,λj a=>by simp[cH,bI,fN]at a⟩
 |succ k ih=>
  intro f;obtain⟨c,b⟩:=ih (by omega);rw[nE];refine⟨J1 ⟨oG c.well (show k<l.length by omega) b,c.each⟩,λj a=>?_⟩;have:=mo (O:=O0) _ _ (zb _) j a;rcases zC.1 this with rfl|e
  ·omega
  ·have:=b j e;omega
def Kr{l:List au}(c:sT PI l){k:Nat}(a:k<l.length):Pr l ⟨(cH l k).l,(cH l k).mark,(cH l k).out,k::(cH l k).ks⟩:=by
 obtain⟨b,d⟩:=pw c k (Nat.le_of_lt a);exact⟨oG b.well a d,b.each⟩
def Bm{l:List au}(e:WF l):∀i,i<l.length->(l.getD i default).op=35->i+1<l.length:=λi f c=>by
 by_cases d:i+1<l.length
 ·exact d
 ·have a:=e.last;rw[show l.length - 1=i by omega]at a;have:PeepPlain.aq l i=35:=c;rw[this]at a;rcases a with b|b<;>exact absurd b (by decide)
noncomputable def iO(l:List au)(k:Nat):List Bool:=(idle l).take k++(ei l).drop k
def dL(l:List au):(idle l).length=l.length:=(jb l).1
def lq(l:List au):(ei l).length=l.length:=by simp[ei]
def Cp(l:List au):iO l 0=ei l:=by simp[iO]
def D8(l:List au):iO l l.length=idle l:=by
 unfold iO;rw[List.take_of_length_le (by rw[dL];exact zb _),List.drop_of_length_le (by rw[lq];exact zb _),List.append_nil]
def wo(l:List au){k:Nat}(a:k<=l.length):(iO l k).length=l.length:=by
 unfold iO;rw[zw,zR,List.length_drop,dL,lq];omega
def Jn(l:List au){k:Nat}(a:k<l.length):(iO l k).getD k false=(ei l).getD k false:=by
 unfold iO;rw[zd,zd,zJ (by rw[zR,dL];omega),zR,dL,List.getElem?_drop,show k+(k - min k l.length)=k by omega]
def mG(l:List au){k:Nat}(a:k<l.length){b:Bool}(f:(idle l).getD k false=b):(iO l k).set k b=iO l (k+1):=by
 have c:k<(idle l).length:=by rw[dL];exact a
 have g:k<(ei l).length:=by rw[lq];exact a
 have e:(idle l)[k]=b:=by rw[<-f,zd,zo c];rfl
 unfold iO;have d:((idle l).take k).length=k:=by rw[zR];omega
 rw[List.set_append_right _ _ (by omega),d,Nat.sub_self,List.drop_eq_getElem_cons g,List.set_cons_zero,List.take_succ_eq_append_getElem c,e,List.append_assoc];rfl
end
section
open Go.RowKit Go.Proofs.PeepPlain
def ml(l:List au):(dd l).length=l.length:=by simp[dd]
def FP{w0 w:World}{d g c b a:Nat}{l:List au}(h:aK w g c l)(f:ah w b 4 (aL (dd l)))(e:ah w a 4 (aL (List.replicate l.length false)))(n:Below d w0 w)(q:d<=g)(p:d<=b)(o:d<=a)(k:g≠b)(j:g≠a)(i:b≠a):
 St w0 d (w.heap.size+1) w.heap.size g c b a (fN l (dd l)) (w.alloc (.cells #[.slice (some ⟨g,0,none⟩) l.length c,.slice (some ⟨b,0,none⟩) l.length l.length,.slice (some ⟨a,0,none⟩) l.length l.length,.slice none 0 0] 93)):=by
 have v:=h.lt;have u:=f.lt;have t:=e.lt;have s:(w.alloc (.cells #[.slice (some ⟨g,0,none⟩) l.length c,.slice (some ⟨b,0,none⟩) l.length l.length,.slice (some ⟨a,0,none⟩) l.length l.length,.slice none 0 0] 93)).heap.size=w.heap.size+1:=by show(w.heap.push _).size=_;rw[Array.size_push]
 refine⟨⟨.slice none 0 0,ah.made w 93 [.slice (some ⟨g,0,none⟩) l.length c,.slice (some ⟨b,0,none⟩) l.length l.length,.slice (some ⟨a,0,none⟩) l.length l.length,.slice none 0 0],h.alloc _,f.alloc _,e.alloc _,bm.nil _ _,ml l,by simp[fN],λr m=>by simp[fN]at m,by simp[fN],⟨by omega,by omega,by omega,by omega,by omega⟩,⟨by omega,by omega,by omega,k,j,i⟩⟩,n.alloc (by omega) _,⟨by omega,q,p,o,by omega⟩⟩
def St.push{w0 w w':World}{d g c gl t j i:Nat}{u b:Value}{S:cU}{k:Nat}(a:fe w g c gl t j i u S)(E:Below d w0 w)(m:d<=c∧d<=gl∧d<=j∧d<=i∧d<=g)
 (o:bm g w' b (ir S.ks++ [((k:Nat):Int)]))(e:Below g w w')(B:k<S.l.length)(I:S.ks.length+1<=S.l.length):
 St w0 d g c gl t j i ⟨S.l,S.mark,S.out,k::S.ks⟩ (w'.setCell ⟨c,3,none⟩ b):=by
 obtain⟨y,x,v,H,G,F⟩:=a.ne;obtain⟨s,r,q,p,J⟩:=a.fl;have h:∀f,f≠c->(w'.setCell ⟨c,3,none⟩ b).heap[f]?=w'.heap[f]?:=λf n=>zY _ _ _ _ (by exact n);have A:(w'.setCell ⟨c,3,none⟩ b).heap.size=w'.heap.size:=by simp[World.setCell]
 refine⟨⟨b,?_,(a.code.below e r).far (h gl (Ne.symm y)),(h j (Ne.symm x)).trans (a.mark.below e q),(h i (Ne.symm v)).trans (a.out.below e p),?_,a.lenm,a.leno,λz C=>?_,?_,⟨s,r,q,p,?_⟩,a.ne⟩,?_,m⟩
 ·exact(a.row.below e s).set 3 b
 ·show bm g _ b (ir (k::S.ks));rw[tM];exact aE o λf D=>h f (by have:=(o.lt D).1;omega)
 ·rcases zC.1 C with rfl|n
  ·exact B
  ·exact a.ks z n
 ·show(k::S.ks).length<=S.l.length;rw[List.length_cons];omega
 ·rw[A];have:=e.size;omega
 ·exact((E.trans (az e m.2.2.2.2)).setCell m.1 _)
def OM(w:World)(a:Nat):Nat:=match w.cell? ⟨a,3,none⟩with
 |some v=>jw v
 |none=>0
def Gt{w0 w:World}{j i a gl h g f:Nat}{S:cU}(e:St w0 j i a gl h g f S w):OM w a=S.ks.length:=by
 obtain⟨b,c⟩:=e.at_;have d:w.cell? ⟨a,3,none⟩=some b:=c.row.cell 3;unfold OM;rw[d];show jw b=_;rw[jC c.kept,fR]
structure FC(w0:World)(R:List au)(g c:Nat)(l:List au)(w:World):Prop where
 row:aK w g c l
 low:w0.heap.size<=g
 below:Below w0.heap.size w0 w
 wf:WF l
 each:sT PI l
 len:l.length<=100000
 same:cw cS l=R
def ON(w:World)(c:List au)(e:Ending)(w':World):Prop:=
 ∃a b,e= .returned (.slice (some ⟨a,0,none⟩) c.length b)∧aK w' a b c∧w.heap.size<=a∧zz w w'
def wu{P:Program}{a:Act}{w:World}{d:Exit->Act->World->Prop}{c f:Code}(l:Nat)(b:Act->World->Prop)(e:Act->World->Nat)(k:findLabel c l=some (.seq .skip f))
 (first:(∀a w,b a w->f.wp P (Exit.jump l b d) a w)->c.wp P (Exit.jump l b d) a w)
 (j:∀a w,b a w->f.wp P (Exit.jump l (λi w'=>b i w'∧e i w'<e a w) d) a w):(Code.scope c).wp P d a w:=
 wp_scope_jumps l b e k (first λa w h=>Code.wp_mono (λm i w' g=>by
  cases m<;>first|exact g|exact⟨g.1,g.2.1⟩) (j a w h)) (λa w h=>wp_seq (wp_skip (j a w h)))
def LA{w0 b a:World}{g c:Nat}{l:List au}(d:aK b g c l)(f:zz w0 b)(n:w0.heap.size<=g)(e:ah a b.drew.heap.size 4 (aL (dd l)))(i:Below b.drew.heap.size b.drew a):
 St w0 w0.heap.size (a.heap.size+1+1) (a.heap.size+1) g c b.heap.size a.heap.size (fN l (dd l)) ((a.alloc (.cells (aL (List.replicate l.length false)).toArray 4)).alloc (.cells #[.slice (some ⟨g,0,none⟩) l.length c,.slice (some ⟨b.heap.size,0,none⟩) l.length l.length,.slice (some ⟨a.heap.size,0,none⟩) l.length l.length,.slice none 0 0] 93)):=by
 have j:(a.alloc (.cells (aL (List.replicate l.length false)).toArray 4)).heap.size=a.heap.size+1:=by show(a.heap.push _).size=_;rw[Array.size_push]
 have p:=d.lt;have q:b.heap.size<a.heap.size:=e.lt;have h:=f.size;have m:ah a b.heap.size 4 (aL (dd l)):=e;have k:aK a g c l:=(d.old (ay (zZ _ _))).below i p;have o:zz w0 a:=ac (ay f) i h;have:=FP (w:=a.alloc (.cells (aL (List.replicate l.length false)).toArray 4)) (k.alloc _) (m.alloc _) (ah.made a 4 _) (o.alloc (by omega) _) n h (by omega) (by omega) (by omega) (by omega);rw[j]at this;exact this
def LE{w0 a b:World}{g c:Nat}{l:List au}(f:aK a g c l)(h:zz w0 a)(m:w0.heap.size<=g)(e:ah b (a.alloc (.cells (aL (List.replicate l.length false)).toArray 4)).drew.heap.size 4 (aL (dd l)))(d:Below (a.alloc (.cells (aL (List.replicate l.length false)).toArray 4)).drew.heap.size (a.alloc (.cells (aL (List.replicate l.length false)).toArray 4)).drew b):
 St w0 w0.heap.size (b.heap.size+1) b.heap.size g c (a.heap.size+1) a.heap.size (fN l (dd l)) (b.alloc (.cells #[.slice (some ⟨g,0,none⟩) l.length c,.slice (some ⟨a.heap.size+1,0,none⟩) l.length l.length,.slice (some ⟨a.heap.size,0,none⟩) l.length l.length,.slice none 0 0] 93)):=by
 have j:(a.alloc (.cells (aL (List.replicate l.length false)).toArray 4)).drew.heap.size=a.heap.size+1:=by show(a.heap.push _).size=_;rw[Array.size_push]
 have p:=f.lt;have i:=h.size;have k:ah (a.alloc (.cells (aL (List.replicate l.length false)).toArray 4)).drew a.heap.size 4 (aL (List.replicate l.length false)):=ah.made a 4 _;rw[j]at e d;have o:=e.lt;have n:Below w0.heap.size w0 (a.alloc (.cells (aL (List.replicate l.length false)).toArray 4)).drew:=ay (h.alloc i _);exact FP (((f.alloc _).old (ay (zZ _ _))).below d (by omega)) e (k.below d (by omega)) (n.trans (az d (by omega))) m (by omega) i (by omega) (by omega) (by omega)
def Db{l a:List au}(c:PeepPlain.threads l=a)(b:ky a (idle a)):cw cS l=cw cS (PeepPlain.eq a (idle a)):=by
 subst c;rw[cw,dif_pos b]
def su{l a:List au}(d:PeepPlain.threads l=a)(c:¬ky a (idle a))(b:ky (bM O0 a).l (bM O0 a).out):cw cS l=cw cS (PeepPlain.eq (bM O0 a).l (bM O0 a).out):=by
 subst d;rw[cw,dif_neg c,dif_pos b]
def sE{l a:List au}(d:PeepPlain.threads l=a)(c:¬ky a (idle a))(b:¬ky (bM O0 a).l (bM O0 a).out):cw cS l=(bM O0 a).l:=by
 subst d;rw[cw,dif_neg c,dif_neg b]
def ES{motive:Act->Prop}(a:Act)(d:Value)(c:a.tmps.size=89)(e:a.tmps.getD 0 undef=d)(f:a.defers=[])(gb:∀ga fr e9 ev d9 dB c4 co cc f9 f5 f4 f3 f2 f1 f0 fx ft fs fo fn fm fl fk fj fi fh ff fc e8 e7 e6 e5 e4 e3 e2 e1 e0 ew es en em ek ej ef ee ed ec ea d8 d7 d6 d5 d4 d3 d2 d1 d0 dC dA ds dn dl df c9 c8 c7 c6 c5 c3 c2 c1 c0 cT cC cv ct cs cp cn cl ck cj ci ch cg cf cd:Value,motive {tmps:=(d::ga::fr::e9::ev::d9::dB::c4::co::cc::f9::f5::f4::f3::f2::f1::f0::fx::ft::fs::fo::fn::fm::fl::fk::fj::fi::fh::ff::fc::e8::e7::e6::e5::e4::e3::e2::e1::e0::ew::es::en::em::ek::ej::ef::ee::ed::ec::ea::d8::d7::d6::d5::d4::d3::d2::d1::d0::dC::dA::ds::dn::dl::df::c9::c8::c7::c6::c5::c3::c2::c1::c0::cT::cC::cv::ct::cs::cp::cn::cl::ck::cj::ci::ch::cg::cf::cd::[]).toArray,defers:=[]}):motive a:=by
 obtain⟨⟨b⟩,gh⟩:=a;dsimp only at f c;subst f;have c:b.length=89:=c;obtain _|⟨cb,b⟩:=b
 ·simp at c
 obtain _|⟨ca,b⟩:=b
 ·simp at c
 obtain _|⟨bt,b⟩:=b
 ·simp at c
 obtain _|⟨ba,b⟩:=b
 ·simp at c
 obtain _|⟨av,b⟩:=b
 ·simp at c
 obtain _|⟨X,b⟩:=b
 ·simp at c
 obtain _|⟨M,b⟩:=b
 ·simp at c
 obtain _|⟨B,b⟩:=b
 ·simp at c
 obtain _|⟨q,b⟩:=b
 ·simp at c
 obtain _|⟨g,b⟩:=b
 ·simp at c
 obtain _|⟨b9,b⟩:=b
 ·simp at c
 obtain _|⟨b8,b⟩:=b
 ·simp at c
 obtain _|⟨b7,b⟩:=b
 ·simp at c
 obtain _|⟨b6,b⟩:=b
 ·simp at c
 obtain _|⟨b5,b⟩:=b
 ·simp at c
 obtain _|⟨b4,b⟩:=b
 ·simp at c
 obtain _|⟨b3,b⟩:=b
 ·simp at c
 obtain _|⟨b2,b⟩:=b
 ·simp at c
 obtain _|⟨b1,b⟩:=b
 ·simp at c
 obtain _|⟨b0,b⟩:=b
 ·simp at c
 obtain _|⟨bq,b⟩:=b
 ·simp at c
 obtain _|⟨bp,b⟩:=b
 ·simp at c
 obtain _|⟨bo,b⟩:=b
 ·simp at c
 obtain _|⟨bl,b⟩:=b
 ·simp at c
 obtain _|⟨bk,b⟩:=b
 ·simp at c
 obtain _|⟨bj,b⟩:=b
 ·simp at c
 obtain _|⟨bi,b⟩:=b
 ·simp at c
 obtain _|⟨be,b⟩:=b
 ·simp at c
 obtain _|⟨bc,b⟩:=b
 ·simp at c
 obtain _|⟨bb,b⟩:=b
 ·simp at c
 obtain _|⟨a9,b⟩:=b
 ·simp at c
 obtain _|⟨a8,b⟩:=b
 ·simp at c
 obtain _|⟨a7,b⟩:=b
 ·simp at c
 obtain _|⟨a6,b⟩:=b
 ·simp at c
 obtain _|⟨a5,b⟩:=b
 ·simp at c
 obtain _|⟨a4,b⟩:=b
 ·simp at c
 obtain _|⟨a3,b⟩:=b
 ·simp at c
 obtain _|⟨a2,b⟩:=b
 ·simp at c
 obtain _|⟨a1,b⟩:=b
 ·simp at c
 obtain _|⟨a0,b⟩:=b
 ·simp at c
 obtain _|⟨ar,b⟩:=b
 ·simp at c
 obtain _|⟨ap,b⟩:=b
 ·simp at c
 obtain _|⟨ao,b⟩:=b
 ·simp at c
 obtain _|⟨an,b⟩:=b
 ·simp at c
 obtain _|⟨af,b⟩:=b
 ·simp at c
 obtain _|⟨ad,b⟩:=b
 ·simp at c
 obtain _|⟨ab,b⟩:=b
 ·simp at c
 obtain _|⟨aa,b⟩:=b
 ·simp at c
 obtain _|⟨Z,b⟩:=b
 ·simp at c
 obtain _|⟨Y,b⟩:=b
 ·simp at c
 obtain _|⟨W,b⟩:=b
 ·simp at c
 obtain _|⟨V,b⟩:=b
 ·simp at c
 obtain _|⟨U,b⟩:=b
 ·simp at c
 obtain _|⟨T,b⟩:=b
 ·simp at c
 obtain _|⟨S,b⟩:=b
 ·simp at c
 obtain _|⟨R,b⟩:=b
 ·simp at c
 obtain _|⟨Q,b⟩:=b
 ·simp at c
 obtain _|⟨P,b⟩:=b
 ·simp at c
 obtain _|⟨O,b⟩:=b
 ·simp at c
 obtain _|⟨N,b⟩:=b
 ·simp at c
 obtain _|⟨L,b⟩:=b
 ·simp at c
 obtain _|⟨K,b⟩:=b
 ·simp at c
 obtain _|⟨J,b⟩:=b
 ·simp at c
 obtain _|⟨I,b⟩:=b
 ·simp at c
 obtain _|⟨H,b⟩:=b
 ·simp at c
 obtain _|⟨G,b⟩:=b
 ·simp at c
 obtain _|⟨F,b⟩:=b
 ·simp at c
 obtain _|⟨E,b⟩:=b
 ·simp at c
 obtain _|⟨D,b⟩:=b
 ·simp at c
 obtain _|⟨C,b⟩:=b
 ·simp at c
 obtain _|⟨A,b⟩:=b
 ·simp at c
 obtain _|⟨z,b⟩:=b
 ·simp at c
 obtain _|⟨y,b⟩:=b
 ·simp at c
 obtain _|⟨x,b⟩:=b
 ·simp at c
 obtain _|⟨w,b⟩:=b
 ·simp at c
 obtain _|⟨v,b⟩:=b
 ·simp at c
 obtain _|⟨u,b⟩:=b
 ·simp at c
 obtain _|⟨t,b⟩:=b
 ·simp at c
 obtain _|⟨s,b⟩:=b
 ·simp at c
 obtain _|⟨r,b⟩:=b
 ·simp at c
 obtain _|⟨p,b⟩:=b
 ·simp at c
 obtain _|⟨o,b⟩:=b
 ·simp at c
 obtain _|⟨n,b⟩:=b
 ·simp at c
 obtain _|⟨m,b⟩:=b
 ·simp at c
 obtain _|⟨l,b⟩:=b
 ·simp at c
 obtain _|⟨k,b⟩:=b
 ·simp at c
 obtain _|⟨j,b⟩:=b
 ·simp at c
 obtain _|⟨i,b⟩:=b
 ·simp at c
 obtain _|⟨h,b⟩:=b
 ·simp at c
 obtain _|⟨gc,b⟩:=b
 ·have e:cb=d:=e;subst e;exact gb ca bt ba av X M B q g b9 b8 b7 b6 b5 b4 b3 b2 b1 b0 bq bp bo bl bk bj bi be bc bb a9 a8 a7 a6 a5 a4 a3 a2 a1 a0 ar ap ao an af ad ab aa Z Y W V U T S R Q P O N L K J I H G F E D C A z y x w v u t s r p o n m l k j i h
 ·simp at c
def Sb(w0:World)(d:List au)(a:Act)(w:World):Prop:=
 ∃(b c:Nat) (l:List au),(a.tmps.size=89∧a.tmps.getD 0 undef= .slice (some ⟨b,0,none⟩) l.length c∧a.defers=[])∧FC w0 d b c l w
set_option maxRecDepth 200000 in
def ym(s:List au)(cd:Option Addr)(cT:Nat)(w0:World)(bb:WF s)(cv:bX w0 cd s)(co:s.length<=100000)(cs:sT PI s)(ct:∀r,zz w0 r->aX r∧fT r):
 Calls prog 26 #[.slice cd s.length cT] w0 (ON w0 (cw cS s)):=by
 obtain⟨J,b5⟩:∃J,cw cS s=J:=⟨_,rfl⟩
 have d1:=za (Fw s cd cT w0 cv bb.pos co);have c6:=za (λ(m:World) (e f:Nat) (h:aK m e f s) (b2:w0.heap.size<=e) (d:zz w0 m)=>(⟨h,b2,d,bb,cs,co,b5⟩:FC w0 J e f s m));have dl:=za bb.pos;have e9:=za ct;rw[b5];clear bb cv cs b5 ct;go_enter func26,ntmps26;go_wp2;refine wu 0 (Sb w0 J) (λan _=>jw (an.tmps.getD 0 undef)) (by rfl) ?first ?pass
 case first=>
  intro d9
  go_wp2_with (go_at_call 52;refine d1.out.mono ?_;rintro v Q ⟨n,rfl,q,d⟩
               obtain⟨e,f,rfl,b2,W⟩:=q.row dl.out;have es:=za (c6.out Q e f W b2 d);clear q d W)
  go_step3;rename_i iv ef;exact ef _ _ (d9 _ _ ⟨e,f,s,⟨rfl,rfl,rfl⟩,es⟩)
 case pass=>
  rintro an Q ⟨e,f,R,⟨ck,b0,cj⟩,ci⟩;rw[b0];refine ES (motive:=λan=>Code.wp prog _ _ an Q) an _ ck b0 cj ?_;clear ck b0 cj;intro h2 hR hG hv hk g9 gC ga fs h1 h0 hZ hY hX hW hV hU hT hS hQ hP hO hN hM hL hK hJ hI hH hF hE hD hC hB hA hz hy hx hw hu ht hs hr hq hp ho hn hm hl hj hi hh hg hf he hd hc hb ha g8 g7 g6 g5 g4 g3 g2 g1 g0 gT gz gx gv gt gs gq gl gh gc gb f9 f5 f4 f3 f2 f1 f0 fx ft;have l:=za ci;clear ci d1 c6 dl;obtain⟨a,S⟩:∃a,PeepPlain.threads R=a:=⟨_,rfl⟩
  have a7:a.length=R.length:=by rw[<-S];exact cq R
  have ba:WF a:=by rw[<-S];exact md l.wf
  have c2:sT PI a:=by rw[<-S];exact mu iR l.each
  have O:a.length<=100000:=by rw[a7];exact l.len
  have ca:=za (show Calls prog 53 #[.slice (some ⟨e,0,none⟩) R.length f] Q λg m=>g= .returned (.tuple #[])∧aK m e f a∧Below w0.heap.size Q m from by rw[<-S];exact yr R e f w0.heap.size Q l.wf l.row l.len l.low);have cb:=za (show PeepPlain.threads R=a from S);rw[<-a7]at ca ⊢
  have iN:=za a7;have B:=za ba;have bj:=za c2;have c8:=za (λ(r:World) (h:aK r e f a)=>xR a (some ⟨e,0,none⟩) f r ba h.insAt O);clear S a7 c2;have h6:=ba.pos;clear ba;go_wp2_with (first
   |(go_at_call 53;refine ca.out.mono ?_;rintro v cf ⟨rfl,W,d⟩
     have be:=za W;have bo:=za (l.below.trans d);clear W d)
   |(go_at_call 54;refine(c8.out _ be.out).mono ?_;rintro v d5 ⟨rfl,q,d⟩
     have c1:=za (be.old d);have b8:=za q;have d2:=za (ac bo.out d bo.size);have ch:=q.lt;have ec:=be.lt;clear q d))
  have X:Hid (w0.heap.size<=cf.heap.size):=za bo.size;clear ca c8 be bo;generalize cf.heap.size=gr at b8 ch ec X;have a5:e≠gr:=by omega
  have h7:gr≠e:=by omega
  have c3:Hid (ah d5 gr 4 (aL (iO a 0))):=za (by rw[Cp];exact b8);go_loopw [4,15] (λd4 n wr=> ∃c:Nat,n= .int .i64 c∧c<=a.length∧Hid (ah wr gr 4 (aL (iO a c)))∧Hid (aK wr e f a)∧Hid (zz w0 wr)) (λ_ n _=>a.length - (intOf n).toNat)
  case atStart=>exact⟨0,rfl,zu _,c3,c1,d2⟩
  case round=>
   clear c3 b8 c1 d2 ch;rename World=>w4;obtain⟨c,rfl,aa,z,o,D⟩:=hrel;by_cases i:c<a.length
   ·have b3:=jE z.out (k:=c) (by rw[wo a aa];exact i);rw[Jn a i]at b3;have ic:=z.free c;obtain⟨d8,cg,h5,h4,h3⟩:=o.at_ i;have L:=pI i;have H:=(jb a).2 c i;have a8:(0:Int)<=(c:Int)∧(c:Int)<(a.length:Int):=by omega
    have M:PeepPlain.aq a c=a[c].op:=eG i;have ab:=λ(h:a[c].op=34)=>mT i (B.low c i (by rw[M,h];exact dz));have G:(idle a).getD c false=(idle a).getD c true:=(ou (by rw[dL];exact i)).symm;generalize a3:a[c]=x at *
    cases d:(ei a).getD c false
    ·rw[d]at b3;have P:=za (mG a i (b:=true) (by rw[G,H];exact .inl (λh=>by rw[L.2 h]at d;cases d)));clear d L H G M ab a3;go_wp2_with fail;go_roundw
     case rel=>exact⟨c+1,by go_num,by omega,za (by rw[<-P.out,eZ];exact z.out.set c _),za (o.far (zY _ _ _ _ (by exact a5))),za (D.setCell X.out _)⟩
     case measure=>simp[intOf];omega
    ·rw[d]at b3;by_cases I:x.op=34
     ·have b4:=ab I;rw[b4]at cg;rw[I]at d8;by_cases u:bE a c=c+1
      ·rw[u]at cg;have P:=za (mG a i (b:=true) (by rw[G,H];exact .inr ⟨M.trans I,u⟩));clear d L H G M ab a3 b4 u I;go_wp2_with fail;go_roundw
       case rel=>exact⟨c+1,by go_num,by omega,za (by rw[<-P.out,eZ];exact z.out.set c _),za (o.far (zY _ _ _ _ (by exact a5))),za (D.setCell X.out _)⟩
       case measure=>simp[intOf];omega
      ·have P:=za (mG a i (b:=false) (by
        rw[G];refine Bool.eq_false_iff.2 (λh=>?_);rcases H.1 h with h|h
        ·exact h (L.1 d)
        ·exact u h.2))
       generalize bE a c=t at *
       have h8:((t:Int)==(c:Int)+1)=false:=zh.2 (by omega);clear d L H G M ab a3 b4 u I;go_wp2_with fail;go_roundw
       case rel=>exact⟨c+1,by go_num,by omega,za (by rw[<-P.out,eZ];exact z.out.set c _),za (o.far (zY _ _ _ _ (by exact a5))),za (D.setCell X.out _)⟩
       case measure=>simp[intOf];omega
     ·have ig:(x.op==34)=false:=zh.2 I;have P:=za (mG a i (b:=false) (by
       rw[G];refine Bool.eq_false_iff.2 (λh=>?_);rcases H.1 h with h|h
       ·exact h (L.1 d)
       ·exact I (M.symm.trans h.1)))
      clear d L H G M ab a3 I;go_wp2_with fail;go_roundw
      case rel=>exact⟨c+1,by go_num,by omega,za (by rw[<-P.out,eZ];exact z.out.set c _),za (o.far (zY _ _ _ _ (by exact a5))),za (D.setCell X.out _)⟩
      case measure=>simp[intOf];omega
   ·obtain rfl:c=a.length:=by omega
    rw[D8]at z;clear i aa;have h9:gr<w4.heap.size:=z.lt;have ia:e<w4.heap.size:=o.lt;have C:=za (show Calls prog 55 #[.slice (some ⟨gr,0,none⟩) a.length a.length,.bool true] w4 λg m=>g= .returned (.bool ((idle a).any id))∧m=w4 from by have:=nS (idle a) gr a.length w4 z.out (by rw[dL];exact O);rw[dL]at this;exact this);have F:=AH (dL a)
    cases k:(idle a).any id
    ·rw[k]at C;have dn:=za (show ¬ky a (idle a)from λh=>by rw[F.2 h]at k;cases k);clear k F;go_wp2_with (go_at_call 55;refine C.out.mono ?_;rintro v A ⟨rfl,rfl⟩);have ds:=za (λ(r:World) (h:aK r e f a)=>DY a (some ⟨e,0,none⟩) f r B.out h.insAt O);have ea:=λr=>kz a.length (by omega) r;go_region_held3 (λ_=>True) (first|trivial) (first
      |(go_at_call 57;(with_reducible refine(ds.out _ ?h).mono ?_)
        case h=>first|exact o.old (ay (zZ _ _))|exact(o.alloc _).old (ay (zZ _ _))|exact(o.old (ay (zZ _ _))).alloc _
        rintro v j ⟨rfl,cl,d⟩;have bi:=za cl;have bl:=za d;clear cl d))
     all_goals
      first
      |(obtain⟨K,w,g⟩:∃K,Hid (St w0 w0.heap.size (j.heap.size+1+1) (j.heap.size+1) e f A.heap.size j.heap.size (fN a (dd a)) K)∧((j.alloc (.cells (aL (List.replicate a.length false)).toArray 4)).alloc (.cells #[.slice (some ⟨e,0,none⟩) a.length f,.slice (some ⟨A.heap.size,0,none⟩) a.length a.length,.slice (some ⟨j.heap.size,0,none⟩) a.length a.length,.slice none 0 0] 93))=K:=⟨_,za (LA o.out D.out l.low bi.out bl.out),rfl⟩
        rw[g];clear g bi bl;generalize j.heap.size+1+1=Bk at w;generalize j.heap.size+1=gF at w ⊢
        generalize A.heap.size=gm at w ⊢
        generalize j.heap.size=go at w ⊢)
      |(obtain⟨K,w,g⟩:∃K,Hid (St w0 w0.heap.size (j.heap.size+1) j.heap.size e f (A.heap.size+1) A.heap.size (fN a (dd a)) K)∧(j.alloc (.cells #[.slice (some ⟨e,0,none⟩) a.length f,.slice (some ⟨A.heap.size+1,0,none⟩) a.length a.length,.slice (some ⟨A.heap.size,0,none⟩) a.length a.length,.slice none 0 0] 93))=K:=⟨_,za (LE o.out D.out l.low bi.out bl.out),rfl⟩
        rw[g];clear g bi bl;generalize j.heap.size+1=Bk at w;generalize j.heap.size=gF at w ⊢
        generalize A.heap.size+1=gm at w ⊢
        generalize A.heap.size=go at w ⊢)
     all_goals
      clear C ds ea;go_wp2_with fail;go_step3;go_wp2_with fail;clear o D z;go_loopw [6,60] (λfk n wr=> ∃c:Nat,n= .int .i64 c∧c<=a.length∧Hid (St w0 w0.heap.size Bk gF e f gm go (cH a c) wr)) (λ_ n _=>a.length - (intOf n).toNat)
      case atStart=>exact⟨0,rfl,zu _,w⟩
      case round=>
       clear w;rename World=>w8;obtain⟨c,rfl,aa,y⟩:=hrel;by_cases i:c<a.length
       ·obtain⟨d7,p⟩:=y.at_;have ff:=za p;have cp:(cH a c).ks.length<=100000:=zi (tX a c) (by omega);have c5:=za (pw bj.out c aa).1.well.len;have fh:=za (tX a c);obtain⟨d3,cC,bt⟩:=p.kept.shape;have b6:=p.row.cell 3;have ee:gF<w8.heap.size:=p.row.lt;have dB:=za p.fl;have fc:=za p.row;have e0:=za (Kr bj.out i);have ew:=za (nE a c);have a6:(ir (cH a c).ks).length<=100000:=by rw[fR];exact cp
        rw[bt]at b6;have dA:Hid (bm Bk w8 (.slice d3 (ir (cH a c).ks).length cC) (ir (cH a c).ks)):=za (bt ▸ p.kept);have e5:=za a6;have e7:=za a6;generalize(ir (cH a c).ks).length=n4 at b6 a6 dA e5;clear bt p cp a6;go_wp2_with (first
         |(at_builtin;refine qR (.tmp 67) (.tmp 69) Bk (.slice d3 n4 cC) (ir (cH a c).ks) ((c:Nat):Int) _ _ rfl rfl rfl dA.out (by simp) rfl (by have:=e7.out;omega) dB.2.2.2.2 ?_;intro fr bp a4 a9 _
           have it:=za a4;have i0:=za a9;obtain⟨fi,en,rfl⟩:=a4.shape;have a2:=fc.below a9 dB.1;have ej:=a2.free 3;have ed:=a2.lt;have ek:=a2.cell 3;have df:=za (St.push ff.out y.below y.low a4 a9 (show c<(cH a c).l.length by have:=c5.out;omega) (by have:=c5.out;have:=fh.out;omega));rw[zw,zK]at df;clear a4 a9 a2))
        obtain⟨U,c0,g⟩:∃U,Hid (St w0 w0.heap.size Bk gF e f gm go ⟨(cH a c).l,(cH a c).mark,(cH a c).out,c::(cH a c).ks⟩ U)∧bp.setCell ⟨gF,3,none⟩ (.slice fi ((ir (cH a c).ks).length+1) en)=U:=⟨_,df,rfl⟩
        rw[g];clear g b6 ee ej ed ek;go_loopw [75] (λfj wr=> ∃E:cU,Hid (St w0 w0.heap.size Bk gF e f gm go E wr)∧Hid (Pr a E)∧Hid (aV O0 E=cH a (c+1))) (λ_ wr=>OM wr gF)
        case atStart=>exact⟨_,c0,e0,za ew.symm⟩
        case round=>
         clear c0;rename World=>w11;obtain⟨E,y,a1,d0⟩:=hrel;have cn:=a1.well.len;have ao:=mz B.out a1.well;have T:=za (Dq w0 w11 w0.heap.size Bk gF e f gm go E y.out (by rw[cn];exact O) e9.out (λbq a8=>(a1.each bq a8).1) (λbq a8=>(a1.each bq a8).2) (Bm ao));have e8:=za (Io a1.out);have e6:=za (Gt y.out);clear cn ao
         cases N:(folds O0 E).2
         ·rw[N]at T;have cc:=za (show(folds O0 E).1=cH a (c+1)from by rw[<-d0.out,aV,dif_neg (by rw[N];decide)]);clear N;go_wp2_with (go_at_call 58;refine T.out.mono ?_;rintro v d6 ⟨rfl,u⟩;have bc:=za u;clear u T);go_roundw
          case rel=>exact⟨c+1,by go_num,by omega,by rw[<-cc.out];exact bc⟩
          case measure=>simp[intOf];omega
         ·rw[N]at T;have cc:=za (show aV O0 (folds O0 E).1=cH a (c+1)from by rw[<-d0.out];conv=>rhs;rw[aV,dif_pos N]);have e3:=za (cO O0 E N);clear N;go_wp2_with (go_at_call 58;refine T.out.mono ?_;rintro v d6 ⟨rfl,u⟩;have bc:=za u;clear u T);go_roundw
          case rel=>exact⟨_,bc,e8,cc⟩
          case measure=>rw[e6.out,Gt bc.out];exact e3
       ·obtain rfl:c=a.length:=by omega
        have a0:=za (pw bj.out a.length (zb _)).1;rw[Ec]at y a0;have Z:(bM O0 a).l.length=a.length:=a0.well.len;obtain⟨il,ih,em⟩:=y.row;rw[Z]at em;obtain⟨fo,fn,fm,d4,_⟩:=y.size;have ao:=za (mz B.out a0.well);obtain⟨d7,p⟩:=y.at_;have Y:=p.leno;have c7:=za p.out;have c9:=za p.code;have bk:=za y.below;have C:=za (show Calls prog 55 #[.slice (some ⟨go,0,none⟩) a.length a.length,.bool true] w8 λg m=>g= .returned (.bool ((bM O0 a).out.any id))∧m=w8 from by have:=nS (bM O0 a).out go a.length w8 c7.out (by rw[Y,Z];exact O);rw[Y,Z]at this;exact this);have F:=AH Y;have ar:=za Z;have e4:=za Y;clear p Y Z i aa
        cases k:(bM O0 a).out.any id
        ·rw[k]at C;have e2:=za (show ¬ky (bM O0 a).l (bM O0 a).out from λh=>by rw[F.2 h]at k;cases k);have dC:=za (show J=(bM O0 a).l from by rw[<-l.same];exact sE cb.out dn.out e2.out);clear k F;go_wp2_with (go_at_call 55;refine C.out.mono ?_;rintro v bp ⟨rfl,rfl⟩);simp only[Exit.jump];go_ret;exact⟨e,f,by have g:J.length=a.length:=by {rw[dC.out,ar.out]};rw[g];exact rfl,by rw[dC.out];exact c9.out,l.low,bk⟩
        ·rw[k]at C;have ap:=za (F.1 k);have av:=za (cL ap.out);have b9:=za (show Calls prog 56 #[.slice (some ⟨e,0,none⟩) a.length f,.slice (some ⟨go,0,none⟩) a.length a.length] w8 λg m=> ∃n,g= .returned n∧gB w8.heap.size m n (PeepPlain.eq (bM O0 a).l (bM O0 a).out)∧zz w8 m from by have:=qz (bM O0 a).l (bM O0 a).out (some ⟨e,0,none⟩) f go a.length w8 ao.out c9.insAt c7.out e4.out (by rw[ar.out];exact O);rw[ar.out]at this;exact this);have c4:=za (gy ao.out (tO B.out a0.well));have ev:=za (su cb.out dn.out ap.out);have e1:=za (jK (out:=(bM O0 a).out) iR a0.each);clear k F;go_wp2_with (first
          |(go_at_call 55;refine C.out.mono ?_;rintro v bp ⟨rfl,rfl⟩)
          |(go_at_call 56;refine b9.out.mono ?_;rintro v U ⟨n,rfl,q,d⟩
            obtain⟨ad,af,rfl,b1,V⟩:=q.row c4.pos;have b7:=za (show FC w0 J ad af (PeepPlain.eq (bM O0 a).l (bM O0 a).out) U from⟨V,zi bk.size b1,ac bk.out d bk.size,c4.out,e1.out,by have:=av.out;have:=ar.out;omega,by rw[<-l.same];exact ev.symm⟩);clear q d V))
         go_step3;exact⟨rfl,⟨ad,af,_,⟨rfl,rfl,rfl⟩,b7⟩,by show(PeepPlain.eq (bM O0 a).l (bM O0 a).out).length<a.length;have:=av.out;have:=ar.out;omega⟩
    ·rw[k]at C;have ap:=za (F.1 k);have b9:=za (qz a (idle a) (some ⟨e,0,none⟩) f gr a.length w4 B.out o.insAt z.out (dL a) O);clear k F;go_wp2_with (first
      |(go_at_call 55;refine C.out.mono ?_;rintro v A ⟨rfl,rfl⟩)
      |(go_at_call 56;refine b9.out.mono ?_;rintro v j ⟨n,rfl,q,d⟩
        obtain⟨ad,af,rfl,b1,V⟩:=q.row (gy B.out (re B.out (jb _))).pos;have av:=za (cL ap.out);have b7:=za (show FC w0 J ad af (PeepPlain.eq a (idle a)) j from⟨V,zi D.size b1,ac D.out d D.size,gy B.out (re B.out (jb _)),jK iR bj.out,by have:=av.out;omega,by rw[<-l.same];exact(Db cb.out ap.out).symm⟩);clear q d V))
     go_step3;exact⟨rfl,⟨ad,af,_,⟨rfl,rfl,rfl⟩,b7⟩,by show(PeepPlain.eq a (idle a)).length<a.length;exact av.out⟩
end
section
open Go.RowKit Go.Proofs.PeepPlain
section
variable{Bo:Nat}{K:List Nat}{p:Nat}{S:List (List Int)}{k:Nat}{s t:List Int}{x n:Int}{w:World}
def wY(i N:Nat)(H:cQ Bo K w p S)(d:S[k]?=some s)(f:i<3)(g:S.length<=1000000)(a:x=i)(b:n=N)(j:N<=1000000)(c:aw (aI i) N s=none):
 Calls prog 86 #[.pointer (some ⟨p,0,none⟩),.int .i64 k,.int .i64 x,.int .i64 n] w λe w'=>e= .returned (.tuple #[.int .i64 0,.bool false])∧zz w w':=by
 subst a b;refine(Mj Bo K p S k i s N w H d f (by omega) g).mono ?_;rw[zV,c];exact λe w' h=>h
def iS(i N:Nat)(H:cQ Bo K w p S)(d:S[k]?=some s)(f:i<3)(g:S.length<=1000000)(a:x=i)(b:n=N)(l:N<=1000000)(c:aw (aI i) N s=some t):
 Calls prog 86 #[.pointer (some ⟨p,0,none⟩),.int .i64 k,.int .i64 x,.int .i64 n] w λe w'=>(∃j:Nat,S[j]?=some t∧e= .returned (.tuple #[.int .i64 j,.bool true]))∧zz w w':=by
 subst a b;refine(Mj Bo K p S k i s N w H d f (by omega) g).mono ?_;rw[zV,c];exact λe w' h=>h
def fP(i N:Nat)(H:cQ Bo K w p S)(d:S[k]?=some s)(e:i<3)(f:S.length<=1000000)(b:s.length<=1000000)(a:x=i)(c:n=N)(g:N<=1000):
 Calls prog 87 #[.pointer (some ⟨p,0,none⟩),.int .i64 k,.int .i64 x,.int .i64 n] w (BY Bo K p S N (List.replicate N (aI i)++s) w):=by
 subst a c;exact Oa Bo K p S k i N s w H d e g f b
end
def FD(S:List (List Int))(o:Option (List Int))(x:Int):Prop:=match o with
 |none=>x= -1
 |some t=> ∃a:Nat,x=a∧S[a]?=some t
def lQ(Bo:Nat)(K:List Nat)(p:Nat)(S:List (List Int))(o:Option (Option (List Int) × Option (List Int)))(w:World)(e:Ending)(w':World):Prop:=
 ∃(x a:Int) (ok:Bool) (S':List (List Int)),e= .returned (.tuple #[.int .i64 x,.int .i64 a,.bool ok])∧S<+:S'∧S'.length<=S.length+4∧cQ Bo K w' p S'∧iy Bo K w w'∧(o=none->ok=false)∧∀on b,o=some (on,b)->ok=true∧FD S' on x∧FD S' b a
structure vO(Bo:Nat)(K:List Nat)(p:Nat)(S:List (List Int))(w:World)(i:au)(S':List (List Int))(wr:World):Prop where
 stk:cQ Bo (w.heap.size::K) wr p S'
 box:ah wr w.heap.size 50 (aZ i)
 kept:iy Bo K w wr
 ext:S<+:S'
section
variable{Bo:Nat}{K:List Nat}{p:Nat}{S S' S2:List (List Int)}{w wr w':World}{i:au}
def vO.start(H:cQ Bo K w p S)(e:Bo<=w.heap.size)(d:∀k∈K,k<w.heap.size)(c:Below (w.alloc (.cells (aZ i).toArray 50)).heap.size (w.alloc (.cells (aZ i).toArray 50)) w'):vO Bo K p S w i S w':=by
 have a:=(ah.made w 50 (aZ i)).below c (ah.made w 50 (aZ i)).lt;have b:=ac (below1 w (.cells (aZ i).toArray 50)) c (below1 w _).size;exact⟨H.moreNew b (zb _) a.lt,a,iy.made b e d,List.prefix_refl _⟩
def vO.below(a:vO Bo K p S w i S' wr)(b:zz wr w')(d:Bo<=w.heap.size):vO Bo K p S w i S' w':=
 ⟨a.stk.below b,a.box.below b a.box.lt,a.kept.trans (iy.made b (zi d a.kept.below.size) (λk c=>by
   obtain⟨f,h,g,j,e⟩:=a.stk.recs;exact e.kl k (zT _ c))),a.ext⟩
def vO.push(a:vO Bo K p S w i S' wr)(d:cQ Bo (w.heap.size::K) w' p S2)(b:iy Bo (w.heap.size::K) wr w')(c:S'<+:S2):vO Bo K p S w i S2 w':=
 ⟨d,b.row a.box (by simp),a.kept.trans (b.less λk e=>zT _ e),a.ext.trans c⟩
def vO.done(c:vO Bo K p S w i S' wr){o:Option (Option (List Int) × Option (List Int))}{x b:Int}{a:Bool}(d:S'.length<=S.length+4)(f:o=none->a=false)(e:∀on th,o=some (on,th)->a=true∧FD S' on x∧FD S' th b):lQ Bo K p S o w (.returned (.tuple #[.int .i64 x,.int .i64 b,.bool a])) wr:=
 ⟨x,b,a,S',rfl,c.ext,d,c.stk.fewer (λk g=>zT _ g),c.kept,f,e⟩
def ET(b:S<+:S'){k:Nat}{s:List Int}(a:S[k]?=some s):S'[k]?=some s:=by
 obtain⟨c,rfl⟩:=b;rw[zS (zB.1 a).1];exact a
end
set_option maxRecDepth 20000 in
def Iq(Bo:Nat)(K:List Nat)(p:Nat)(S:List (List Int))(k N m:Nat)(s:List Int)(i:au)(w:World)(H:cQ Bo K w p S)(bc:S[k]?=some s)(a4:Bo<=w.heap.size)(bl:∀k∈K,k<w.heap.size)(bj:S.length<=900000)(ba:s.length<=100000)(bp:1<=i.op)(bo:i.op<=53)(bi:0<=i.a∧i.a<=100000)(be:0<=i.b∧i.b<=3)(a2:ai i.op i.a i.b=((N:Int),(m:Int)))(bk:N<=1000000)(bb:m<=2):
 Calls prog 51 #[.pointer (some ⟨p,0,none⟩),br i,.int .i64 k] w (lQ Bo K p S (bu i s) w):=by
 have J:=za (λwr=>sB i wr bp bo bi be);unfold FQ at J;rw[a2]at J;have V:=za (λw' c=>vO.start (i:=i) (w':=w') H a4 bl c);have X:=za bc;have C:=za bj;have b1:=za ba;have Y:=za a4;have W:=za bk;have D:=za bb;have d:bu i s=(aw 118 N s).map λt=>
  if i.op=50 then(none,none)
  else if i.op=34 then(none,some (List.replicate m 118++t))
  else if i.op=35 then(some (List.replicate m 118++t),some (List.replicate m 118++t))
  else if i.op=36∨i.op=37 then(some (List.replicate m 118++t),some (118::(List.replicate m 118++t)))
  else(some (List.replicate m 118++t),none):=by
  unfold bu nz;rw[a2,zn (Int.natCast_nonneg N),zV,zV]
 obtain⟨bq,a8⟩:∃bq,Hid (bu i s=bq):=⟨_,za rfl⟩
 rw[a8.out]at d;rw[a8.out];have b7:¬(N:Int)<0:=by omega
 clear H bc a4 bl bj ba bp bo bi be a2 bk bb a8;unfold br at J ⊢
 cases Q:aw 118 N s with
 |none=>
  rw[Q]at d;have o:=za d;have P:=za Q;clear d Q;go_enter func51,ntmps51;go_wp2_with (first
   |(go_at_call 85;refine(J.out _).mono ?_;rintro h aa ⟨rfl,l⟩;have e:=za (V.out _ l);clear l)
   |(go_at_call 86;refine(wY 0 N e.stk X.out (by omega) (by have:=C.out;omega) rfl rfl W.out P.out).mono ?_;rintro h Z ⟨rfl,j⟩;have g:=za (e.below j Y.out);clear j))
  go_ret3;exact g.done (by omega) (λ_=>rfl) (λon ab c=>by rw[o.out]at c;cases c)
 |some t=>
  rw[Q,Option.map_some]at d;have U:=za (show t.length<=100000 by have:=mi _ _ _ _ Q;have:=b1.out;omega);have bt:=za (show(List.replicate m 118++t:List Int).length<=200000 by rw[zw,List.length_replicate];have:=U.out;have:=D.out;omega);have P:=za Q;clear Q;by_cases L:i.op=50
  ·rw[zn L]at d;have o:=za d;have b2:(i.op==(50:Int))=true:=beq_iff_eq.2 L;clear L;clear d;go_enter func51,ntmps51;go_wp2_with (first
   |(go_at_call 85;refine(J.out _).mono ?_;rintro h aa ⟨rfl,l⟩;have e:=za (V.out _ l);clear l)
   |(go_at_call 86;refine(iS 0 N e.stk X.out (by omega) (by have:=C.out;omega) rfl rfl W.out P.out).mono ?_;rintro h Z ⟨⟨ap,z,rfl⟩,j⟩;have g:=za (e.below j Y.out);have B:=za z;clear j z e)
   |(go_at_call 87;refine(fP 0 m g.stk B.out (by omega) (by have:=C.out;omega) (by have:=U.out;omega) rfl rfl (by have:=D.out;omega)).mono ?_;rintro h G ⟨I,q,rfl,A,u,y,r,v⟩;have f:=za (g.push r v A);have F:=za (show I[q]?=some (List.replicate m 118++t)from y);have E:=za u;have an:G.cell? ⟨w.heap.size,0,none⟩=some (.int .i64 i.op):=f.box.cell 0;have af:=f.box.lt;clear A u y r v g B))
   go_ret3;exact f.done (by have:=E.out;have:=D.out;omega) (λc=>by rw[o.out]at c;cases c) (λon ab c=>by rw[o.out]at c;obtain⟨rfl,rfl⟩:=Prod.mk.inj (zj c);exact⟨rfl,rfl,rfl⟩)
  rw[zm L]at d;have b8:(i.op==(50:Int))=false:=zh.2 L;by_cases M:i.op=34
  ·rw[zn M]at d;have o:=za d;have b6:(i.op==(34:Int))=true:=beq_iff_eq.2 M;clear M;clear d;go_enter func51,ntmps51;go_wp2_with (first
   |(go_at_call 85;refine(J.out _).mono ?_;rintro h aa ⟨rfl,l⟩;have e:=za (V.out _ l);clear l)
   |(go_at_call 86;refine(iS 0 N e.stk X.out (by omega) (by have:=C.out;omega) rfl rfl W.out P.out).mono ?_;rintro h Z ⟨⟨ap,z,rfl⟩,j⟩;have g:=za (e.below j Y.out);have B:=za z;clear j z e)
   |(go_at_call 87;refine(fP 0 m g.stk B.out (by omega) (by have:=C.out;omega) (by have:=U.out;omega) rfl rfl (by have:=D.out;omega)).mono ?_;rintro h G ⟨I,q,rfl,A,u,y,r,v⟩;have f:=za (g.push r v A);have F:=za (show I[q]?=some (List.replicate m 118++t)from y);have E:=za u;have an:G.cell? ⟨w.heap.size,0,none⟩=some (.int .i64 i.op):=f.box.cell 0;have af:=f.box.lt;clear A u y r v g B))
   go_ret3;exact f.done (by have:=E.out;have:=D.out;omega) (λc=>by rw[o.out]at c;cases c) (λon ab c=>by rw[o.out]at c;obtain⟨rfl,rfl⟩:=Prod.mk.inj (zj c);exact⟨rfl,rfl,q,rfl,F⟩)
  rw[zm M]at d;have cc:(i.op==(34:Int))=false:=zh.2 M;by_cases O:i.op=35
  ·rw[zn O]at d;have o:=za d;have b5:(i.op==(35:Int))=true:=beq_iff_eq.2 O;clear O;clear d L M;go_enter func51,ntmps51;go_wp2_with (first
   |(go_at_call 85;refine(J.out _).mono ?_;rintro h aa ⟨rfl,l⟩;have e:=za (V.out _ l);clear l)
   |(go_at_call 86;refine(iS 0 N e.stk X.out (by omega) (by have:=C.out;omega) rfl rfl W.out P.out).mono ?_;rintro h Z ⟨⟨ap,z,rfl⟩,j⟩;have g:=za (e.below j Y.out);have B:=za z;clear j z e)
   |(go_at_call 87;refine(fP 0 m g.stk B.out (by omega) (by have:=C.out;omega) (by have:=U.out;omega) rfl rfl (by have:=D.out;omega)).mono ?_;rintro h G ⟨I,q,rfl,A,u,y,r,v⟩;have f:=za (g.push r v A);have F:=za (show I[q]?=some (List.replicate m 118++t)from y);have E:=za u;have an:G.cell? ⟨w.heap.size,0,none⟩=some (.int .i64 i.op):=f.box.cell 0;have af:=f.box.lt;clear A u y r v g B))
   go_ret3;exact f.done (by have:=E.out;have:=D.out;omega) (λc=>by rw[o.out]at c;cases c) (λon ab c=>by rw[o.out]at c;obtain⟨rfl,rfl⟩:=Prod.mk.inj (zj c);exact⟨rfl,⟨q,rfl,F⟩,q,rfl,F⟩)
  rw[zm O]at d;have cb:(i.op==(35:Int))=false:=zh.2 O;by_cases T:i.op=36
  ·rw[zn (.inl T)]at d;have o:=za d;have b4:(i.op==(36:Int))=true:=beq_iff_eq.2 T;clear T;clear d L M O;go_enter func51,ntmps51;go_wp2_with (first
   |(go_at_call 85;refine(J.out _).mono ?_;rintro h aa ⟨rfl,l⟩;have e:=za (V.out _ l);clear l)
   |(go_at_call 86;refine(iS 0 N e.stk X.out (by omega) (by have:=C.out;omega) rfl rfl W.out P.out).mono ?_;rintro h Z ⟨⟨ap,z,rfl⟩,j⟩;have g:=za (e.below j Y.out);have B:=za z;clear j z e)
   |(go_at_call 87;refine(fP 0 m g.stk B.out (by omega) (by have:=C.out;omega) (by have:=U.out;omega) rfl rfl (by have:=D.out;omega)).mono ?_;rintro h G ⟨I,q,rfl,A,u,y,r,v⟩;have f:=za (g.push r v A);have F:=za (show I[q]?=some (List.replicate m 118++t)from y);have E:=za u;have an:G.cell? ⟨w.heap.size,0,none⟩=some (.int .i64 i.op):=f.box.cell 0;have af:=f.box.lt;clear A u y r v g B)
   |(go_at_call 87;refine(fP 0 1 f.stk F.out (by omega) (by have:=C.out;have:=E.out;have:=D.out;omega) (by have:=bt.out;omega) rfl rfl (by omega)).mono ?_;rintro h b0 ⟨a1,ao,rfl,R,a3,a0,ar,av⟩;have a9:=za (f.push ar av R);have a6:=za (show a1[ao]?=some (118::(List.replicate m 118++t))from a0);have a7:=za (ET R F.out);have a5:=za (show a1.length<=S.length+4 by have:=E.out;have:=D.out;omega);clear R a3 a0 ar av))
   go_ret3;exact a9.done a5.out (λc=>by rw[o.out]at c;cases c) (λon ab c=>by rw[o.out]at c;obtain⟨rfl,rfl⟩:=Prod.mk.inj (zj c);exact⟨rfl,⟨q,rfl,a7⟩,ao,rfl,a6⟩)
  have ca:(i.op==(36:Int))=false:=zh.2 T;by_cases ad:i.op=37
  ·rw[zn (.inr ad)]at d;have o:=za d;have b3:(i.op==(37:Int))=true:=beq_iff_eq.2 ad;clear ad;clear d L M O T;go_enter func51,ntmps51;go_wp2_with (first
   |(go_at_call 85;refine(J.out _).mono ?_;rintro h aa ⟨rfl,l⟩;have e:=za (V.out _ l);clear l)
   |(go_at_call 86;refine(iS 0 N e.stk X.out (by omega) (by have:=C.out;omega) rfl rfl W.out P.out).mono ?_;rintro h Z ⟨⟨ap,z,rfl⟩,j⟩;have g:=za (e.below j Y.out);have B:=za z;clear j z e)
   |(go_at_call 87;refine(fP 0 m g.stk B.out (by omega) (by have:=C.out;omega) (by have:=U.out;omega) rfl rfl (by have:=D.out;omega)).mono ?_;rintro h G ⟨I,q,rfl,A,u,y,r,v⟩;have f:=za (g.push r v A);have F:=za (show I[q]?=some (List.replicate m 118++t)from y);have E:=za u;have an:G.cell? ⟨w.heap.size,0,none⟩=some (.int .i64 i.op):=f.box.cell 0;have af:=f.box.lt;clear A u y r v g B)
   |(go_at_call 87;refine(fP 0 1 f.stk F.out (by omega) (by have:=C.out;have:=E.out;have:=D.out;omega) (by have:=bt.out;omega) rfl rfl (by omega)).mono ?_;rintro h b0 ⟨a1,ao,rfl,R,a3,a0,ar,av⟩;have a9:=za (f.push ar av R);have a6:=za (show a1[ao]?=some (118::(List.replicate m 118++t))from a0);have a7:=za (ET R F.out);have a5:=za (show a1.length<=S.length+4 by have:=E.out;have:=D.out;omega);clear R a3 a0 ar av))
   go_ret3;exact a9.done a5.out (λc=>by rw[o.out]at c;cases c) (λon ab c=>by rw[o.out]at c;obtain⟨rfl,rfl⟩:=Prod.mk.inj (zj c);exact⟨rfl,⟨q,rfl,a7⟩,ao,rfl,a6⟩)
  have b9:(i.op==(37:Int))=false:=zh.2 ad;rw[zm (λc=>c.elim T ad)]at d;have o:=za d;clear d L M O T ad;go_enter func51,ntmps51;go_wp2_with (first
   |(go_at_call 85;refine(J.out _).mono ?_;rintro h aa ⟨rfl,l⟩;have e:=za (V.out _ l);clear l)
   |(go_at_call 86;refine(iS 0 N e.stk X.out (by omega) (by have:=C.out;omega) rfl rfl W.out P.out).mono ?_;rintro h Z ⟨⟨ap,z,rfl⟩,j⟩;have g:=za (e.below j Y.out);have B:=za z;clear j z e)
   |(go_at_call 87;refine(fP 0 m g.stk B.out (by omega) (by have:=C.out;omega) (by have:=U.out;omega) rfl rfl (by have:=D.out;omega)).mono ?_;rintro h G ⟨I,q,rfl,A,u,y,r,v⟩;have f:=za (g.push r v A);have F:=za (show I[q]?=some (List.replicate m 118++t)from y);have E:=za u;have an:G.cell? ⟨w.heap.size,0,none⟩=some (.int .i64 i.op):=f.box.cell 0;have af:=f.box.lt;clear A u y r v g B))
  go_ret3;exact f.done (by have:=E.out;have:=D.out;omega) (λc=>by rw[o.out]at c;cases c) (λon ab c=>by rw[o.out]at c;obtain⟨rfl,rfl⟩:=Prod.mk.inj (zj c);exact⟨rfl,⟨q,rfl,F⟩,rfl⟩)
end
end Go.Proofs.YtmecmlpoallpcaaGreatDoor

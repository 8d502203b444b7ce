/- Parts of the proof: FoldA OpsD OpsE FoldB FoldC FoldD FoldE RefR RefT -/
import Derived.Test.YtmecmlpoallpcaaGreatDoorM02
import Derived.Test.YtmecmlpoallpcaaGreatDoorM08
import Derived.Deep.QuietTactic
import Derived.BigQuiet
import Derived.RegionTactic
import Derived.BigRegion
import Derived.Test.YtmecmlpoallpcaaGreatDoorM15
import Derived.Deep.RegionHeld3
import Derived.StillTailTactics
import Derived.Test.YtmecmlpoallpcaaGreatDoorM11
set_option linter.all false
set_option maxHeartbeats 8000000
namespace Go.Proofs.YtmecmlpoallpcaaGreatDoor
open Go.Proofs.Tryz
section
open Go.RowKit Go.Proofs.PeepPlain
def ir(ks:List Nat):List Int:=ks.reverse.map λa=>((a:Nat):Int)
def fR(ks:List Nat):(ir ks).length=ks.length:=by simp[ir]
def tM(k:Nat)(ks:List Nat):ir (k::ks)=ir ks++ [((k:Nat):Int)]:=by simp[ir]
def Bd{ks:List Nat}{n p k:Nat}(a:ks[n]?=some k)(b:ks.length=p+n+1):(ir ks)[p]?=some ((k:Nat):Int):=by
 unfold ir;rw[zL,List.getElem?_reverse (by omega),show ks.length - 1 - p=n by omega,a];rfl
structure fe(w:World)(Bk gF gl cl gm go:Nat)(v:Value)(S:cU):Prop where
 row:ah w gF 93 [.slice (some ⟨gl,0,none⟩) S.l.length cl,.slice (some ⟨gm,0,none⟩) S.l.length S.l.length,.slice (some ⟨go,0,none⟩) S.l.length S.l.length,v]
 code:aK w gl cl S.l
 mark:ah w gm 4 (aL S.mark)
 out:ah w go 4 (aL S.out)
 kept:bm Bk w v (ir S.ks)
 lenm:S.mark.length=S.l.length
 leno:S.out.length=S.l.length
 ks:∀k∈S.ks,k<S.l.length
 few:S.ks.length<=S.l.length
 fl:gF<Bk∧gl<Bk∧gm<Bk∧go<Bk∧Bk<=w.heap.size
 ne:gF≠gl∧gF≠gm∧gF≠go∧gl≠gm∧gl≠go∧gm≠go
section
variable{w w':World}{Bk gF gl cl gm go:Nat}{v:Value}{S:cU}
def fe.below(a:fe w Bk gF gl cl gm go v S)(b:zz w w'):fe w' Bk gF gl cl gm go v S:=
 ⟨a.row.below b a.row.lt,a.code.below b a.code.lt,a.mark.below b a.mark.lt,a.out.below b a.out.lt,a.kept.below b (zb _),a.lenm,a.leno,a.ks,a.few,⟨a.fl.1,a.fl.2.1,a.fl.2.2.1,a.fl.2.2.2.1,zi a.fl.2.2.2.2 b.size⟩,a.ne⟩
def fe.drew(a:fe w Bk gF gl cl gm go v S):fe w.drew Bk gF gl cl gm go v S:=a.below (ay (zZ _ _))
def fe.drewN(a:fe w Bk gF gl cl gm go v S)(n:Nat):fe (w.drewN n) Bk gF gl cl gm go v S:=a.below (ae (zZ _ _) n)
end
def eD(S:cU)(n:Nat)(a:Bool):Value:=
 match S.ks[n]? with
 |none=> .tuple #[.int .i64 0,.bool false]
 |some k=>if(a&&S.mark.getD k false)=true then .tuple #[.int .i64 0,.bool false]else .tuple #[.int .i64 (k:Nat),.bool true]
def xB(w:World)(Bk gF gl cl gm go:Nat)(v:Value)(S:cU)(a:fe w Bk gF gl cl gm go v S)(H:S.l.length<=100000)(n:Nat)(G:n<=2)(i:Bool):
 Calls prog 90 #[.pointer (some ⟨gF,0,none⟩),.int .i64 n,.bool i] w λe w'=>e= .returned (eD S n i)∧∃q,w'=w.drewN q:=by
 have t:=a.few;obtain⟨R,Q,x⟩:=a.kept.shape;subst x;have P:=a.row.cell 1;have h:=a.row.cell 3;rw[fR]at h;unfold eD
 cases f:S.ks[n]? with
 |none=>
  have g:S.ks.length<=n:=List.getElem?_eq_none_iff.1 f;obtain⟨d,u⟩:∃d,S.ks.length=d:=⟨_,rfl⟩
  rw[u]at h g;have F:(d:Int) - 1 - (n:Int)<0:=by omega
  clear f t u a;go_enter func90,ntmps90;go_wp2_with fail;go_quiet (fail);go_wp2;go_ret2;exact⟨rfl,nq,rfl⟩
 |some k=>
  obtain⟨p,s⟩:=zB.1 f;obtain⟨c,o⟩:∃c,S.ks.length=c+n+1:=⟨S.ks.length - n - 1,by omega⟩
  have z:k<S.l.length:=a.ks k (s ▸ zk p);have r:k<S.mark.length:=by rw[a.lenm];exact z
  have j:c<(ir S.ks).length:=by rw[fR];omega
  obtain⟨O,rfl,A,C,B⟩:=a.kept.addr (by omega);have D:=a.kept.cell c j;have m:=Bd f o;rw[zo j]at m;rw[zj m]at D;have E:=jE a.mark r;rw[o]at h;obtain⟨d,g⟩:∃d,c+n+1=d:=⟨_,rfl⟩
  rw[g]at h;have L:(d:Int) - 1 - (n:Int)=(c:Int):=by omega
  have J:(0:Int)<=(c:Int)∧(c:Int)<(d:Int):=by omega
  have I:(0:Int)<=(k:Int)∧(k:Int)<(S.l.length:Int):=by omega
  have y:¬((c:Int)<0):=by omega
  have K:decide ((c:Int)<0)=false:=zg y;have M:d<=100000:=by omega
  dsimp only;generalize S.mark.getD k false=b at E ⊢
  generalize S.l.length=N at *
  clear f t a p s j A m r g C B
  cases i
  ·rw[zG];go_enter func90,ntmps90;go_wp2_with fail;go_quiet (fail);go_wp2;go_ret2;exact⟨rfl,nq,rfl⟩
  ·rw[Bool.true_and]
   cases b
   ·go_enter func90,ntmps90;go_wp2_with fail;go_quiet (fail);go_wp2;go_ret2;exact⟨rfl,nq,rfl⟩
   ·go_enter func90,ntmps90;go_wp2_with fail;go_quiet (fail);go_wp2;go_ret2;exact⟨rfl,nq,rfl⟩
def mS(S:cU):cU:=match S.ks with
 | []=>S
 |k::r=>⟨S.l,S.mark,S.out.set k true,r⟩
def ii:Nat->cU->cU
 |0,S=>S
 |n+1,S=>ii n (mS S)
def Fk(n:Nat)(S:cU):ii (n+1) S=mS (ii n S):=by
 induction n generalizing S with
 |zero=>rfl
 |succ n ih=>exact ih (mS S)
def Ky(S:cU):(mS S).ks.length=S.ks.length - 1:=by
 unfold mS;split
 ·rename_i a;rw[a];rfl
 ·rename_i a;rw[a];simp
def KL(n:Nat)(S:cU):(ii n S).ks.length=S.ks.length - n:=by
 induction n generalizing S with
 |zero=>rfl
 |succ n ih=>show(ii n (mS S)).ks.length=_;rw[ih,Ky];omega
def Nk(S:cU):(mS S).l=S.l:=by unfold mS;split<;>rfl
def N8(n:Nat)(S:cU):(ii n S).l=S.l:=by
 induction n generalizing S with
 |zero=>rfl
 |succ n ih=>show(ii n (mS S)).l=_;rw[ih,Nk]
def fe.dropped{w:World}{Bk gF gl cl gm go g c:Nat}{S:cU}{k n:Nat}{r:List Nat}(d:S.ks=k::r)(a:fe w Bk gF gl cl gm go (.slice (some ⟨g,0,none⟩) n c) S):
 fe ((w.setCell ⟨go,k,none⟩ (.bool true)).setCell ⟨gF,3,none⟩ (.slice (some ⟨g,0,none⟩) r.length c)) Bk gF gl cl gm go (.slice (some ⟨g,0,none⟩) r.length c) (mS S):=by
 have D:mS S=⟨S.l,S.mark,S.out.set k true,r⟩:=by unfold mS;rw[d]
 obtain⟨s,q,f,E,o,m⟩:=a.ne;obtain⟨C,B,A,z,G⟩:=a.fl;have F:=(a.kept.lt (g:=g) rfl).1;have i:=a.kept;rw[d,tM]at i;have e:∀b,b≠gF->b≠go->((w.setCell ⟨go,k,none⟩ (.bool true)).setCell ⟨gF,3,none⟩ (.slice (some ⟨g,0,none⟩) r.length c)).heap[b]?=w.heap[b]?:=λb y x=>
  (zY _ _ _ _ (by exact y)).trans (zY _ _ _ _ (by exact x))
 rw[D];refine⟨?_,a.code.far (e gl (Ne.symm s) o),?_,?_,?_,a.lenm,by simpa using a.leno,λt u=>a.ks t (by rw[d];exact zT _ u),by have:=a.few;rw[d]at this;simp at this ⊢;omega,⟨C,B,A,z,?_⟩,a.ne⟩
 ·exact(a.row.setFar (p:=⟨go,k,none⟩) (by exact f) _).set 3 _
 ·exact(e gm (Ne.symm q) m).trans a.mark
 ·rw[eZ];exact(a.out.set k _).setFar (p:=⟨gF,3,none⟩) (by exact Ne.symm f) _
 ·have h:=i.shrink;rw[fR]at h;exact aE h λb j=>e b (by simp only[Value.ownBlock,Option.some.injEq]at j;omega) (by simp only[Value.ownBlock,Option.some.injEq]at j;omega)
 ·have:((w.setCell ⟨go,k,none⟩ (.bool true)).setCell ⟨gF,3,none⟩ (.slice (some ⟨g,0,none⟩) r.length c)).heap.size=w.heap.size:=by simp[World.setCell]
  omega
def Hs(w:World)(Bk i gF gl cl gm go:Nat)(v:Value)(S:cU)(q:fe w Bk gF gl cl gm go v S)(u:i<=gF∧i<=go)(M:S.l.length<=100000)(n:Nat)(K:n<=S.ks.length):
 Calls prog 94 #[.pointer (some ⟨gF,0,none⟩),.int .i64 n] w λe w'=>e= .returned (.tuple #[])∧(∃k,fe w' Bk gF gl cl gm go k (ii n S))∧Below i w w':=by
 have O:=q.few;have G:=za q;have J:n<=100000:=by omega
 clear q;go_enter func94,ntmps94;go_wp2_with fail;go_loopw [1] (λj wr=> ∃a:Nat,j= .int .i64 ((n:Int) - a)∧a<=n∧Hid (∃k,fe wr Bk gF gl cl gm go k (ii a S))∧Hid (Below i w wr)) (λj _=>(intOf j).toNat)
 case atStart=>exact⟨0,by simp,zu _,za ⟨v,G⟩,za (zZ _ _)⟩
 case round=>
  rename World=>w2;obtain⟨a,rfl,N,p,y⟩:=hrel;obtain⟨H,b⟩:=p.out;by_cases L:a<n
  ·have m:=KL a S;have h:=N8 a S;obtain⟨c,d,f⟩:∃c d,(ii a S).ks=c::d:=by
    cases e:(ii a S).ks with
    |nil=>rw[e]at m;simp at m;omega
    |cons c d=>exact⟨c,d,rfl⟩
   have z:c<S.l.length:=by rw[<-h];exact b.ks c (by rw[f];simp)
   obtain⟨Y,E,rfl⟩:=b.kept.shape;have r:(ir (ii a S).ks).length=d.length+1:=by rw[fR,f];simp
   rw[r]at b;obtain⟨V,rfl,_,B,A⟩:=b.kept.addr (by omega);have s:=b.kept.cell d.length (by omega);have o:(ir (ii a S).ks)[d.length]?=some ((c:Nat):Int):=Bd (n:=0) (by rw[f];rfl) (by rw[f];rfl);rw[zo (by omega)]at o;rw[zj o]at s;have D:=b.row.cell 2;have C:=b.row.cell 3;have ff:=b.row.free 3;have W:=b.out.free c;have X:=jE b.out (k:=c) (by rw[b.leno,h];exact z);have I:=b.ne.2.2.1;rw[h]at D;obtain⟨g,t⟩:∃g,d.length=g:=⟨_,rfl⟩
   have x:=za (b.dropped f);rw[t]at C s x B;have Q:g<=100000:=by have:=b.few;rw[f,h]at this;simp at this;omega
   have U:(0:Int)<=(g:Int)∧(g:Int)<((g+1:Nat):Int):=by omega
   have T:(0:Int)<=(c:Int)∧(c:Int)<(S.l.length:Int):=by omega
   have R:(0:Int)<(n:Int) - (a:Int):=by omega
   have F:=za (Fk a S);have P:E<=maxLen:=A;clear b p m h f r o t;go_wp2_with fail;go_region
   all_goals go_wp2_with fail
   all_goals go_region
   all_goals go_wp2_with fail
   all_goals go_roundw
   case rel=>exact⟨a+1,by rw[show(n:Int) - a - 1=(n:Int) - ((a+1:Nat):Int) by omega],by omega,za (by rw[F.out];exact⟨_,x.drew.drew⟩),za (ay (ay ((y.setCell u.2 _).setCell u.1 _)))⟩
   case measure=>simp[intOf];omega
  ·obtain rfl:a=n:=by omega
   go_wp2_with fail;go_end0;exact⟨rfl,p.out,y⟩
end
section
open Go.RowKit Go.Proofs.PeepPlain
def qU(r:Option gD)(w:World)(e:Ending)(w':World):Prop:=
 (match r with
  |some d=>e= .returned (.tuple #[(aO d).val,.bool true])
  |none=> ∃a:aH,e= .returned (.tuple #[a.val,.bool false]))∧zz w w'
def gM{r:Option gD}{d:gD}(c:r=some d){w w':World}{e:Ending}(a:e= .returned (.tuple #[(aO d).val,.bool true]))(b:zz w w'):qU r w e w':=by
 subst c;exact⟨a,b⟩
def oO{r:Option gD}(c:r=none){w w':World}{e:Ending}(x:aH)(a:e= .returned (.tuple #[x.val,.bool false]))(b:zz w w'):qU r w e w':=by
 subst c;exact⟨⟨x,a⟩,b⟩
set_option maxRecDepth 200000 in
def Gi(k n:Int)(t:ByteArray)(w:World):Calls prog 92 #[.string ⟨#[43,43]⟩,(mk k t n 0 ⟨#[]⟩).val] w λe w'=>e= .returned (.tuple #[(mk k t (wrap64 (n+1)) 0 ⟨#[]⟩).val,.bool (k==2)])∧zz w w':=by
 unfold mk aH.val;go_enter func92,ntmps92;go_wp2;obtain⟨a,c,b,d,e⟩:∃a,ah a w.heap.size 131 [.int .i64 k,.string t,.int .i64 (wrap64 (n+1)),.int .u64 0,.string ⟨#[]⟩,.int .i64 0,.int .i64 0,.int .i64 0,.int .i64 0,.slice none 0 0,.slice none 0 0]∧ah a (w.heap.size+1) 131 aG∧zz w a∧((w.alloc (.cells #[.int .i64 k,.string t,.int .i64 (wrap64 (n+1)),.int .u64 0,.string ⟨#[]⟩,.int .i64 0,.int .i64 0,.int .i64 0,.int .i64 0,.slice none 0 0,.slice none 0 0] 131)).alloc (.cells #[.int .i64 0,.string ⟨#[]⟩,.int .i64 0,.int .u64 0,.string ⟨#[]⟩,.int .i64 0,.int .i64 0,.int .i64 0,.int .i64 0,.slice none 0 0,.slice none 0 0] 131))=a:=
  ⟨_,(ah.made w 131 _).alloc _,am w _ 131 _,aU w _ _,rfl⟩
 rw[e];clear e;obtain⟨G,F,D,C,B,A,z,y,x,v,E,u⟩:=aA c;obtain⟨s,r,p,o,m,l,j,i,h,g,q,f⟩:=aA b;replace c:=za c;replace b:=za b;replace d:=za d;go_region
 all_goals go_wp2
 all_goals exact bodyPost_ret (eT rfl _ _ (w.heap.size+1) _ rfl (lj b.out).drew rfl) rfl ⟨rfl,ay (fg d.out (by omega))⟩
set_option maxRecDepth 200000 in
def AG(k n:Int)(t:ByteArray)(w:World):Calls prog 92 #[.string ⟨#[45,45]⟩,(mk k t n 0 ⟨#[]⟩).val] w λe w'=>e= .returned (.tuple #[(mk k t (wrap64 (n - 1)) 0 ⟨#[]⟩).val,.bool (k==2)])∧zz w w':=by
 unfold mk aH.val;go_enter func92,ntmps92;go_wp2;obtain⟨a,c,b,d,e⟩:∃a,ah a w.heap.size 131 [.int .i64 k,.string t,.int .i64 (wrap64 (n - 1)),.int .u64 0,.string ⟨#[]⟩,.int .i64 0,.int .i64 0,.int .i64 0,.int .i64 0,.slice none 0 0,.slice none 0 0]∧ah a (w.heap.size+1) 131 aG∧zz w a∧((w.alloc (.cells #[.int .i64 k,.string t,.int .i64 (wrap64 (n - 1)),.int .u64 0,.string ⟨#[]⟩,.int .i64 0,.int .i64 0,.int .i64 0,.int .i64 0,.slice none 0 0,.slice none 0 0] 131)).alloc (.cells #[.int .i64 0,.string ⟨#[]⟩,.int .i64 0,.int .u64 0,.string ⟨#[]⟩,.int .i64 0,.int .i64 0,.int .i64 0,.int .i64 0,.slice none 0 0,.slice none 0 0] 131))=a:=
  ⟨_,(ah.made w 131 _).alloc _,am w _ 131 _,aU w _ _,rfl⟩
 rw[e];clear e;obtain⟨G,F,D,C,B,A,z,y,x,v,E,u⟩:=aA c;obtain⟨s,r,p,o,m,l,j,i,h,g,q,f⟩:=aA b;replace c:=za c;replace b:=za b;replace d:=za d;go_region
 all_goals go_wp2
 all_goals exact bodyPost_ret (eT rfl _ _ (w.heap.size+1) _ rfl (lj b.out).drew rfl) rfl ⟨rfl,ay (fg d.out (by omega))⟩
set_option maxRecDepth 200000 in
def Qo(op:ByteArray)(a8:(op.toList==[43,43])=false)(a7:(op.toList==[45,45])=false)(d x:aH)(w:World)
 (c:∀w,Calls prog 119 #[.string op,d.val] w λe w'=>e= .returned (.tuple #[x.val,.nilIface])∧zz w w'):
 Calls prog 92 #[.string op,d.val] w λe w'=>e= .returned (.tuple #[x.val,.bool true])∧zz w w':=by
 have C:=za c;clear c;obtain⟨a2,D,M,a9,E,F,H,G,I,L,J,K,a4,a5,a3⟩:=d;obtain⟨s,t2,r,y,j,k,m,l,n,q,o,p,u,v,t⟩:=x;simp only[aH.val]at *
 go_enter func92,ntmps92;go_wp2_with (first
  |(go_at_call 119;refine(C.out _).mono ?_;rintro ba b ⟨rfl,g⟩
    have z:=za ((am w _ 131 aG).below g (am w _ 131 aG).lt);have A:=za (ac (aU w _ _) g (aU w _ _).size);clear g))
 obtain⟨a,h,f,i,e⟩:∃a,ah a b.heap.size 131 [.int .i64 s,.string t2,.int .i64 r,.int .u64 y,.string j,.int .i64 k,.int .i64 m,.int .i64 l,.int .i64 n,.slice q o p,.slice u v t]∧ah a (w.heap.size+1) 131 aG∧zz w a∧b.alloc (.cells #[.int .i64 s,.string t2,.int .i64 r,.int .u64 y,.string j,.int .i64 k,.int .i64 m,.int .i64 l,.int .i64 n,.slice q o p,.slice u v t] 131)=a:=
  ⟨_,ah.made b 131 _,z.alloc _,A.alloc A.size _,rfl⟩
 rw[e];clear e;have B:b.heap.size≠w.heap.size+1:=by have:=z.lt;omega
 have a6:w.heap.size+1≠b.heap.size:=λc=>B c.symm;obtain⟨a1,a0,ar,ap,ao,an,af,ad,ab,aa,av,Z⟩:=aA h;obtain⟨Y,X,V,U,T,S,R,Q,P,O,W,N⟩:=aA f;replace h:=za h;replace f:=za f;replace i:=za i;go_region
 all_goals go_wp2
 all_goals exact bodyPost_ret (eT rfl _ _ (w.heap.size+1) _ rfl (lj f.out).drew rfl) rfl ⟨rfl,ay (fg i.out (by omega))⟩
set_option maxRecDepth 200000 in
def Pk(op:ByteArray)(af:(op.toList==[43,43])=false)(ad:(op.toList==[45,45])=false)(d:aH)(w:World)
 (c:∀w,Calls prog 119 #[.string op,d.val] w λe w'=>(∃g,e= .returned (.tuple #[aS.val,.iface 209 (.pointer (some ⟨g,0,none⟩))]))∧zz w w'):
 Calls prog 92 #[.string op,d.val] w λe w'=>e= .returned (.tuple #[aS.val,.bool false])∧zz w w':=by
 have n:=za c;clear c;obtain⟨X,o,y,an,p,q,s,r,t,x,u,v,Z,aa,Y⟩:=d;simp only[aH.val,aS,mk]at *
 go_enter func92,ntmps92;go_wp2_with (first
  |(go_at_call 119;refine(n.out _).mono ?_;rintro ao b ⟨⟨g,rfl⟩,h⟩
    have k:=za ((am w _ 131 aG).below h (am w _ 131 aG).lt);have l:=za (ac (aU w _ _) h (aU w _ _).size);clear h))
 obtain⟨a,i,f,j,e⟩:∃a,ah a b.heap.size 131 [.int .i64 0,.string ⟨#[]⟩,.int .i64 0,.int .u64 0,.string ⟨#[]⟩,.int .i64 0,.int .i64 0,.int .i64 0,.int .i64 0,.slice none 0 0,.slice none 0 0]∧ah a (w.heap.size+1) 131 aG∧zz w a∧b.alloc (.cells #[.int .i64 0,.string ⟨#[]⟩,.int .i64 0,.int .u64 0,.string ⟨#[]⟩,.int .i64 0,.int .i64 0,.int .i64 0,.int .i64 0,.slice none 0 0,.slice none 0 0] 131)=a:=
  ⟨_,ah.made b 131 _,k.alloc _,l.alloc l.size _,rfl⟩
 rw[e];clear e;have m:b.heap.size≠w.heap.size+1:=by have:=k.lt;omega
 have ab:w.heap.size+1≠b.heap.size:=λc=>m c.symm;obtain⟨W,V,T,S,R,Q,P,O,N,M,U,L⟩:=aA i;obtain⟨K,J,H,G,F,E,D,C,B,A,I,z⟩:=aA f;replace i:=za i;replace f:=za f;replace j:=za j;go_region
 all_goals go_wp2
 all_goals exact bodyPost_ret (eT rfl _ _ (w.heap.size+1) _ rfl (lj f.out).drew rfl) rfl ⟨rfl,ay (fg j.out (by omega))⟩
def KH(op:ByteArray)(c:gD)(b:op.toList≠ [43,43])(a:op.toList≠ [45,45]):mV op c=mO op c:=by
 cases c with
 |int n=>show(if _ then _ else _)=_;rw[zm b,zm a];rfl
 |flag n=>show(if _ then _ else _)=_;rw[zm b,zm a];rfl
def tx(op:ByteArray)(k:op.size<=2000000)(c:gD)(w:World):Calls prog 92 #[.string op,(aO c).val] w (qU (mV op c) w):=by
 by_cases b:op.toList=[43,43]
 ·obtain rfl:=aQ b
  cases c with
  |int n=>exact(Gi 2 n ⟨#[105,110,116]⟩ w).mono λg f a=>gM (d:= .int (wrap64 (n+1))) (zn b) a.1 a.2
  |flag n=>exact(Gi 1 n ⟨#[98,111,111,108]⟩ w).mono λg f a=>oO (zn b) _ a.1 a.2
 ·by_cases e:op.toList=[45,45]
  ·obtain rfl:=aQ e
   cases c with
   |int n=>exact(AG 2 n ⟨#[105,110,116]⟩ w).mono λg f a=>gM (d:= .int (wrap64 (n - 1))) (by show(if _ then _ else _)=_;rw[zm b,zn e]) a.1 a.2
   |flag n=>exact(AG 1 n ⟨#[98,111,111,108]⟩ w).mono λg f a=>oO (by show(if _ then _ else _)=_;rw[zm b,zn e]) _ a.1 a.2
  ·have j:=KH op c b e;have i:=Ja op k c
   cases h:mO op c with
   |some d=>
    rw[h]at i;exact(Qo op (ak b) (ak e) (aO c) (aO d) w i).mono λg f a=>gM (j.trans h) a.1 a.2
   |none=>
    rw[h]at i;exact(Pk op (ak b) (ak e) (aO c) w i).mono λg f a=>oO (j.trans h) _ a.1 a.2
end
section
set_option maxRecDepth 200000
open Go.RowKit Go.Proofs.PeepPlain
def Qx(op:ByteArray)(b1:(op.toList==[61,61])=false)(b0:(op.toList==[33,61])=false)(d i x:aH)(w:World)
 (c:∀g,zz w g->Calls prog 121 #[.string op,d.val,i.val] g λe w'=>e= .returned (.tuple #[x.val,.nilIface])∧zz g w'):
 Calls prog 95 #[.string op,d.val,i.val] w λe w'=>e= .returned (.tuple #[x.val,.bool true])∧zz w w':=by
 have E:=za c;clear c;obtain⟨bi,F,X,b3,H,J,N,L,P,V,R,T,bo,bq,bk⟩:=d;obtain⟨a1,t2,W,b2,G,I,M,K,O,U,Q,S,bl,bp,bj⟩:=i;obtain⟨u,t3,t,A,l,m,o,n,p,s,q,r,y,z,v⟩:=x;simp only[aH.val]at *
 go_enter func95,ntmps95;go_wp2_with (first
  |(go_at_call 121;refine(E.out _ (bG w _ _ _)).mono ?_;rintro b4 b ⟨rfl,h⟩
    have B:=za ((bh w _ _ 131 aG).below h (bh w _ _ 131 aG).lt);have C:=za (ac (bG w _ _ _) h (bG w _ _ _).size);clear h))
 obtain⟨a,j,f,k,e⟩:∃a,ah a b.heap.size 131 [.int .i64 u,.string t3,.int .i64 t,.int .u64 A,.string l,.int .i64 m,.int .i64 o,.int .i64 n,.int .i64 p,.slice s q r,.slice y z v]∧ah a (w.heap.size+1+1) 131 aG∧zz w a∧b.alloc (.cells #[.int .i64 u,.string t3,.int .i64 t,.int .u64 A,.string l,.int .i64 m,.int .i64 o,.int .i64 n,.int .i64 p,.slice s q r,.slice y z v] 131)=a:=
  ⟨_,ah.made b 131 _,B.alloc _,C.alloc C.size _,rfl⟩
 rw[e];clear e;have D:b.heap.size≠w.heap.size+1+1:=by have:=B.lt;omega
 have bt:w.heap.size+1+1≠b.heap.size:=λc=>D c.symm;obtain⟨be,bc,ba,a9,a8,a7,a6,a5,a4,a3,bb,a2⟩:=aA j;obtain⟨a0,av,ap,ao,an,af,ad,ab,aa,Z,ar,Y⟩:=aA f;replace j:=za j;replace f:=za f;replace k:=za k;go_region
 all_goals go_wp2
 all_goals exact bodyPost_ret (eT rfl _ _ (w.heap.size+1+1) _ rfl (lj f.out).drew rfl) rfl ⟨rfl,ay (fg k.out (by omega))⟩
def PY(op:ByteArray)(a9:(op.toList==[61,61])=false)(a8:(op.toList==[33,61])=false)(d j:aH)(w:World)
 (c:∀h,zz w h->Calls prog 121 #[.string op,d.val,j.val] h λe w'=>(∃g,e= .returned (.tuple #[aS.val,.iface 209 (.pointer (some ⟨g,0,none⟩))]))∧zz h w'):
 Calls prog 95 #[.string op,d.val,j.val] w λe w'=>e= .returned (.tuple #[aS.val,.bool false])∧zz w w':=by
 have p:=za c;clear c;obtain⟨a0,q,J,bb,s,u,z,x,B,H,D,F,a4,a6,a2⟩:=d;obtain⟨W,t2,I,ba,r,t,y,v,A,G,C,E,a3,a5,a1⟩:=j;simp only[aH.val,aS,mk]at *
 go_enter func95,ntmps95;go_wp2_with (first
  |(go_at_call 121;refine(p.out _ (bG w _ _ _)).mono ?_;rintro bc b ⟨⟨g,rfl⟩,i⟩
    have m:=za ((bh w _ _ 131 aG).below i (bh w _ _ 131 aG).lt);have n:=za (ac (bG w _ _ _) i (bG w _ _ _).size);clear i))
 obtain⟨a,k,f,l,e⟩:∃a,ah a b.heap.size 131 [.int .i64 0,.string ⟨#[]⟩,.int .i64 0,.int .u64 0,.string ⟨#[]⟩,.int .i64 0,.int .i64 0,.int .i64 0,.int .i64 0,.slice none 0 0,.slice none 0 0]∧ah a (w.heap.size+1+1) 131 aG∧zz w a∧b.alloc (.cells #[.int .i64 0,.string ⟨#[]⟩,.int .i64 0,.int .u64 0,.string ⟨#[]⟩,.int .i64 0,.int .i64 0,.int .i64 0,.int .i64 0,.slice none 0 0,.slice none 0 0] 131)=a:=
  ⟨_,ah.made b 131 _,m.alloc _,n.alloc n.size _,rfl⟩
 rw[e];clear e;have o:b.heap.size≠w.heap.size+1+1:=by have:=m.lt;omega
 have a7:w.heap.size+1+1≠b.heap.size:=λc=>o c.symm;obtain⟨av,ar,ao,an,af,ad,ab,aa,Z,Y,ap,X⟩:=aA k;obtain⟨V,U,S,R,Q,P,O,N,M,L,T,K⟩:=aA f;replace k:=za k;replace f:=za f;replace l:=za l;go_region
 all_goals go_wp2
 all_goals exact bodyPost_ret (eT rfl _ _ (w.heap.size+1+1) _ rfl (lj f.out).drew rfl) rfl ⟨rfl,ay (fg l.out (by omega))⟩
def Ph(d i:aH)(w:World)
 (c:∀g,zz w g->Calls prog 120 #[d.val,i.val] g λe w'=>e= .returned (.tuple #[.bool true,.nilIface])∧zz g w'):
 Calls prog 95 #[.string ⟨#[61,61]⟩,d.val,i.val] w λe w'=>e= .returned (.tuple #[(eL 1).val,.bool true])∧zz w w':=by
 have o:=za c;clear c;obtain⟨av,p,I,a8,r,t,y,v,A,G,C,E,a3,a5,a1⟩:=d;obtain⟨V,t2,H,a7,q,s,x,u,z,F,B,D,a2,a4,a0⟩:=i;simp only[aH.val,eL,mk,fy]at *
 go_enter func95,ntmps95;go_wp2_with (first
  |(go_at_call 120;refine(o.out _ (bG w _ _ _)).mono ?_;rintro a9 b ⟨rfl,h⟩
    have l:=za ((bh w _ _ 131 aG).below h (bh w _ _ 131 aG).lt);have m:=za (ac (bG w _ _ _) h (bG w _ _ _).size);clear h))
 obtain⟨a,j,f,k,e⟩:∃a,ah a b.heap.size 131 [.int .i64 1,.string ⟨#[98,111,111,108]⟩,.int .i64 1,.int .u64 0,.string ⟨#[]⟩,.int .i64 0,.int .i64 0,.int .i64 0,.int .i64 0,.slice none 0 0,.slice none 0 0]∧ah a (w.heap.size+1+1) 131 aG∧zz w a∧b.alloc (.cells #[.int .i64 1,.string ⟨#[98,111,111,108]⟩,.int .i64 1,.int .u64 0,.string ⟨#[]⟩,.int .i64 0,.int .i64 0,.int .i64 0,.int .i64 0,.slice none 0 0,.slice none 0 0] 131)=a:=
  ⟨_,ah.made b 131 _,l.alloc _,m.alloc m.size _,rfl⟩
 rw[e];clear e;have n:b.heap.size≠w.heap.size+1+1:=by have:=l.lt;omega
 have a6:w.heap.size+1+1≠b.heap.size:=λc=>n c.symm;obtain⟨ar,ap,an,af,ad,ab,aa,Z,Y,X,ao,W⟩:=aA j;obtain⟨U,T,R,Q,P,O,N,M,L,K,S,J⟩:=aA f;replace j:=za j;replace f:=za f;replace k:=za k;go_region
 all_goals go_wp2
 all_goals exact bodyPost_ret (eT rfl _ _ (w.heap.size+1+1) _ rfl (lj f.out).drew rfl) rfl ⟨rfl,ay (fg k.out (by omega))⟩
def Pe(d i:aH)(w:World)
 (c:∀g,zz w g->Calls prog 120 #[d.val,i.val] g λe w'=>e= .returned (.tuple #[.bool false,.nilIface])∧zz g w'):
 Calls prog 95 #[.string ⟨#[61,61]⟩,d.val,i.val] w λe w'=>e= .returned (.tuple #[(eL 0).val,.bool true])∧zz w w':=by
 have o:=za c;clear c;obtain⟨av,p,I,a8,r,t,y,v,A,G,C,E,a3,a5,a1⟩:=d;obtain⟨V,t2,H,a7,q,s,x,u,z,F,B,D,a2,a4,a0⟩:=i;simp only[aH.val,eL,mk,fy]at *
 go_enter func95,ntmps95;go_wp2_with (first
  |(go_at_call 120;refine(o.out _ (bG w _ _ _)).mono ?_;rintro a9 b ⟨rfl,h⟩
    have l:=za ((bh w _ _ 131 aG).below h (bh w _ _ 131 aG).lt);have m:=za (ac (bG w _ _ _) h (bG w _ _ _).size);clear h))
 obtain⟨a,j,f,k,e⟩:∃a,ah a b.heap.size 131 [.int .i64 1,.string ⟨#[98,111,111,108]⟩,.int .i64 0,.int .u64 0,.string ⟨#[]⟩,.int .i64 0,.int .i64 0,.int .i64 0,.int .i64 0,.slice none 0 0,.slice none 0 0]∧ah a (w.heap.size+1+1) 131 aG∧zz w a∧b.alloc (.cells #[.int .i64 1,.string ⟨#[98,111,111,108]⟩,.int .i64 0,.int .u64 0,.string ⟨#[]⟩,.int .i64 0,.int .i64 0,.int .i64 0,.int .i64 0,.slice none 0 0,.slice none 0 0] 131)=a:=
  ⟨_,ah.made b 131 _,l.alloc _,m.alloc m.size _,rfl⟩
 rw[e];clear e;have n:b.heap.size≠w.heap.size+1+1:=by have:=l.lt;omega
 have a6:w.heap.size+1+1≠b.heap.size:=λc=>n c.symm;obtain⟨ar,ap,an,af,ad,ab,aa,Z,Y,X,ao,W⟩:=aA j;obtain⟨U,T,R,Q,P,O,N,M,L,K,S,J⟩:=aA f;replace j:=za j;replace f:=za f;replace k:=za k;go_region
 all_goals go_wp2
 all_goals exact bodyPost_ret (eT rfl _ _ (w.heap.size+1+1) _ rfl (lj f.out).drew rfl) rfl ⟨rfl,ay (fg k.out (by omega))⟩
def PK(d i:aH)(w:World)
 (c:∀g,zz w g->Calls prog 120 #[d.val,i.val] g λe w'=>e= .returned (.tuple #[.bool true,.nilIface])∧zz g w'):
 Calls prog 95 #[.string ⟨#[33,61]⟩,d.val,i.val] w λe w'=>e= .returned (.tuple #[(eL 0).val,.bool true])∧zz w w':=by
 have o:=za c;clear c;obtain⟨av,p,I,a8,r,t,y,v,A,G,C,E,a3,a5,a1⟩:=d;obtain⟨V,t2,H,a7,q,s,x,u,z,F,B,D,a2,a4,a0⟩:=i;simp only[aH.val,eL,mk,fy]at *
 go_enter func95,ntmps95;go_wp2_with (first
  |(go_at_call 120;refine(o.out _ (bG w _ _ _)).mono ?_;rintro a9 b ⟨rfl,h⟩
    have l:=za ((bh w _ _ 131 aG).below h (bh w _ _ 131 aG).lt);have m:=za (ac (bG w _ _ _) h (bG w _ _ _).size);clear h))
 obtain⟨a,j,f,k,e⟩:∃a,ah a b.heap.size 131 [.int .i64 1,.string ⟨#[98,111,111,108]⟩,.int .i64 0,.int .u64 0,.string ⟨#[]⟩,.int .i64 0,.int .i64 0,.int .i64 0,.int .i64 0,.slice none 0 0,.slice none 0 0]∧ah a (w.heap.size+1+1) 131 aG∧zz w a∧b.alloc (.cells #[.int .i64 1,.string ⟨#[98,111,111,108]⟩,.int .i64 0,.int .u64 0,.string ⟨#[]⟩,.int .i64 0,.int .i64 0,.int .i64 0,.int .i64 0,.slice none 0 0,.slice none 0 0] 131)=a:=
  ⟨_,ah.made b 131 _,l.alloc _,m.alloc m.size _,rfl⟩
 rw[e];clear e;have n:b.heap.size≠w.heap.size+1+1:=by have:=l.lt;omega
 have a6:w.heap.size+1+1≠b.heap.size:=λc=>n c.symm;obtain⟨ar,ap,an,af,ad,ab,aa,Z,Y,X,ao,W⟩:=aA j;obtain⟨U,T,R,Q,P,O,N,M,L,K,S,J⟩:=aA f;replace j:=za j;replace f:=za f;replace k:=za k;go_region
 all_goals go_wp2
 all_goals exact bodyPost_ret (eT rfl _ _ (w.heap.size+1+1) _ rfl (lj f.out).drew rfl) rfl ⟨rfl,ay (fg k.out (by omega))⟩
def Pn(d i:aH)(w:World)
 (c:∀g,zz w g->Calls prog 120 #[d.val,i.val] g λe w'=>e= .returned (.tuple #[.bool false,.nilIface])∧zz g w'):
 Calls prog 95 #[.string ⟨#[33,61]⟩,d.val,i.val] w λe w'=>e= .returned (.tuple #[(eL 1).val,.bool true])∧zz w w':=by
 have o:=za c;clear c;obtain⟨av,p,I,a8,r,t,y,v,A,G,C,E,a3,a5,a1⟩:=d;obtain⟨V,t2,H,a7,q,s,x,u,z,F,B,D,a2,a4,a0⟩:=i;simp only[aH.val,eL,mk,fy]at *
 go_enter func95,ntmps95;go_wp2_with (first
  |(go_at_call 120;refine(o.out _ (bG w _ _ _)).mono ?_;rintro a9 b ⟨rfl,h⟩
    have l:=za ((bh w _ _ 131 aG).below h (bh w _ _ 131 aG).lt);have m:=za (ac (bG w _ _ _) h (bG w _ _ _).size);clear h))
 obtain⟨a,j,f,k,e⟩:∃a,ah a b.heap.size 131 [.int .i64 1,.string ⟨#[98,111,111,108]⟩,.int .i64 1,.int .u64 0,.string ⟨#[]⟩,.int .i64 0,.int .i64 0,.int .i64 0,.int .i64 0,.slice none 0 0,.slice none 0 0]∧ah a (w.heap.size+1+1) 131 aG∧zz w a∧b.alloc (.cells #[.int .i64 1,.string ⟨#[98,111,111,108]⟩,.int .i64 1,.int .u64 0,.string ⟨#[]⟩,.int .i64 0,.int .i64 0,.int .i64 0,.int .i64 0,.slice none 0 0,.slice none 0 0] 131)=a:=
  ⟨_,ah.made b 131 _,l.alloc _,m.alloc m.size _,rfl⟩
 rw[e];clear e;have n:b.heap.size≠w.heap.size+1+1:=by have:=l.lt;omega
 have a6:w.heap.size+1+1≠b.heap.size:=λc=>n c.symm;obtain⟨ar,ap,an,af,ad,ab,aa,Z,Y,X,ao,W⟩:=aA j;obtain⟨U,T,R,Q,P,O,N,M,L,K,S,J⟩:=aA f;replace j:=za j;replace f:=za f;replace k:=za k;go_region
 all_goals go_wp2
 all_goals exact bodyPost_ret (eT rfl _ _ (w.heap.size+1+1) _ rfl (lj f.out).drew rfl) rfl ⟨rfl,ay (fg k.out (by omega))⟩
def KW(op:ByteArray)(b a:gD)(d:op.toList≠ [61,61])(c:op.toList≠ [33,61]):iF op b a=LV op b a:=by
 unfold iF;rw[zm d,zm c]
 cases b<;>cases a<;>rfl
def sF(op:ByteArray)(p:op.size<=2000000)(b a:gD)(n:fv b)(l:fv a)(w:World)(q:aX w)(o:fT w):Calls prog 95 #[.string op,(aO b).val,(aO a).val] w (qU (iF op b a) w):=by
 by_cases h:op.toList=[61,61]
 ·obtain rfl:=aQ h;have f:=λ(g:World) (hb1:zz w g)=>qP b a n l g (o.below hb1)
  cases e:Hc b a
  ·rw[e]at f;exact(Pe _ _ w f).mono λk j c=>gM (d:= .flag 0) (by unfold iF;rw[zn h,e];rfl) c.1 c.2
  ·rw[e]at f;exact(Ph _ _ w f).mono λk j c=>gM (d:= .flag 1) (by unfold iF;rw[zn h,e];rfl) c.1 c.2
 ·by_cases i:op.toList=[33,61]
  ·obtain rfl:=aQ i;have f:=λ(g:World) (hb1:zz w g)=>qP b a n l g (o.below hb1)
   cases e:Hc b a
   ·rw[e]at f;exact(Pn _ _ w f).mono λk j c=>gM (d:= .flag 1) (by unfold iF;rw[zm h,zn i,e];rfl) c.1 c.2
   ·rw[e]at f;exact(PK _ _ w f).mono λk j c=>gM (d:= .flag 0) (by unfold iF;rw[zm h,zn i,e];rfl) c.1 c.2
  ·have m:=KW op b a h i;have f:=λ(g:World) (hb1:zz w g)=>En op p b a l g (q.below hb1)
   cases e:LV op b a with
   |some d=>
    rw[e]at f;exact(Qx op (ak h) (ak i) _ _ (aO d) w f).mono λk j c=>gM (m.trans e) c.1 c.2
   |none=>
    rw[e]at f;exact(PY op (ak h) (ak i) _ _ w f).mono λk j c=>oO (m.trans e) _ c.1 c.2
end
section
open Go.RowKit Go.Proofs.PeepPlain
structure St(w0:World)(B0 Bk gF gl cl gm go:Nat)(S:cU)(w:World):Prop where
 at_:∃v,fe w Bk gF gl cl gm go v S
 below:Below B0 w0 w
 low:B0<=gF∧B0<=gl∧B0<=gm∧B0<=go∧B0<=Bk
section
variable{w0 w w':World}{B0 Bk gF gl cl gm go:Nat}{S:cU}
def St.next(a:St w0 B0 Bk gF gl cl gm go S w)(b:zz w w'):St w0 B0 Bk gF gl cl gm go S w':=by
 obtain⟨d,c⟩:=a.at_;exact⟨⟨d,c.below b⟩,ac a.below b (zi a.low.2.2.2.2 c.fl.2.2.2.2),a.low⟩
def St.alloc(b:St w0 B0 Bk gF gl cl gm go S w)(a:Obj):St w0 B0 Bk gF gl cl gm go S (w.alloc a):=b.next (below1 w a)
def St.size(b:St w0 B0 Bk gF gl cl gm go S w):gF<w.heap.size∧gl<w.heap.size∧gm<w.heap.size∧go<w.heap.size∧B0<=w.heap.size:=by
 obtain⟨g,a⟩:=b.at_;have f:=a.row.lt;have e:=a.code.lt;have d:=a.mark.lt;have c:=a.out.lt;have h:=b.low;exact⟨f,e,d,c,by omega⟩
def St.row(b:St w0 B0 Bk gF gl cl gm go S w):w.cell? ⟨gF,0,none⟩=some (.slice (some ⟨gl,0,none⟩) S.l.length cl)∧w.cell? ⟨gF,1,none⟩=some (.slice (some ⟨gm,0,none⟩) S.l.length S.l.length)∧w.cell? ⟨gF,2,none⟩=some (.slice (some ⟨go,0,none⟩) S.l.length S.l.length):=by
 obtain⟨c,a⟩:=b.at_;exact⟨a.row.cell 0,a.row.cell 1,a.row.cell 2⟩
def St.ins(d:St w0 B0 Bk gF gl cl gm go S w){i:Nat}(c:i<S.l.length):w.cell? ⟨gl,i * 5,none⟩=some (.int .i64 (S.l.getD i default).op)∧w.cell? ⟨gl,i * 5+1,none⟩=some (.int .i64 (S.l.getD i default).a)∧w.cell? ⟨gl,i * 5+2,none⟩=some (.int .i64 (S.l.getD i default).b)∧w.cell? ⟨gl,i * 5+3,none⟩=some (.string (S.l.getD i default).text)∧w.cell? ⟨gl,i * 5+4,none⟩=some (.int .i64 (S.l.getD i default).pos):=by
 obtain⟨f,e⟩:=d.at_;have:=e.code.at_ c;rw[iz c];exact this
def St.free(a:St w0 B0 Bk gF gl cl gm go S w)(i:Nat):w.frozen? ⟨gl,i,none⟩=false:=by
 obtain⟨c,b⟩:=a.at_;exact b.code.frozen i
def St.bit(c:St w0 B0 Bk gF gl cl gm go S w){i:Nat}(b:i<S.l.length):w.cell? ⟨gm,i,none⟩=some (.bool (S.mark.getD i false))∧w.frozen? ⟨gm,i,none⟩=false:=by
 obtain⟨d,a⟩:=c.at_;exact⟨jE a.mark (by rw[a.lenm];exact b),a.mark.free i⟩
def St.ks(a:St w0 B0 Bk gF gl cl gm go S w):∀k∈S.ks,k<S.l.length:=by
 obtain⟨c,b⟩:=a.at_;exact b.ks
def St.lens(b:St w0 B0 Bk gF gl cl gm go S w):S.mark.length=S.l.length∧S.out.length=S.l.length:=by
 obtain⟨c,a⟩:=b.at_;exact⟨a.lenm,a.leno⟩
def Nr(b:St w0 B0 Bk gF gl cl gm go S w)(g:S.l.length<=100000)(n:Nat)(f:n<=2)(a:Bool):
 Calls prog 90 #[.pointer (some ⟨gF,0,none⟩),.int .i64 n,.bool a] w λe w'=>e= .returned (eD S n a)∧St w0 B0 Bk gF gl cl gm go S w':=by
 obtain⟨c,h⟩:=b.at_;refine(xB w Bk gF gl cl gm go c S h g n f a).mono ?_;rintro e w' ⟨rfl,d,rfl⟩;exact⟨rfl,b.next (ae (zZ _ _) d)⟩
def mq(a:St w0 B0 Bk gF gl cl gm go S w)(i:S.l.length<=100000){z:Int}{d:Value}(n:Nat)(b:Bool)(f:(n:Int)=z)(h:n<=2)(g:eD S n b=d):Hid (∀(c:World),St w0 B0 Bk gF gl cl gm go S c->Calls prog 90 #[.pointer (some ⟨gF,0,none⟩),.int .i64 z,.bool b] c λe w'=>e= .returned d∧St w0 B0 Bk gF gl cl gm go S w'):=
 za λc j=>f ▸ g ▸ Nr j i n h b
def gw(a:St w0 B0 Bk gF gl cl gm go S w)(d:S.l.length<=100000){top:Nat}{r:List Nat}(f:S.ks=top::r)(c:S.mark.getD top false=false):Hid (∀(b:World),St w0 B0 Bk gF gl cl gm go S b->Calls prog 90 #[.pointer (some ⟨gF,0,none⟩),.int .i64 0,.bool true] b λe w'=>e= .returned (.tuple #[.int .i64 (top:Nat),.bool true])∧St w0 B0 Bk gF gl cl gm go S w'):=
 mq a d 0 true rfl (by omega) (by unfold eD;rw[f];show(if(true&&S.mark.getD top false)=true then _ else _)=_;rw[c];rfl)
def Ge(a:St w0 B0 Bk gF gl cl gm go S w)(d:S.l.length<=100000){top:Nat}{r:List Nat}(f:S.ks=top::r)(c:S.mark.getD top false=true):Hid (∀(b:World),St w0 B0 Bk gF gl cl gm go S b->Calls prog 90 #[.pointer (some ⟨gF,0,none⟩),.int .i64 0,.bool true] b λe w'=>e= .returned (.tuple #[.int .i64 0,.bool false])∧St w0 B0 Bk gF gl cl gm go S w'):=
 mq a d 0 true rfl (by omega) (by unfold eD;rw[f];show(if(true&&S.mark.getD top false)=true then _ else _)=_;rw[c];rfl)
def pA(a:St w0 B0 Bk gF gl cl gm go S w)(c:S.l.length<=100000){top k:Nat}{r:List Nat}(d:S.ks=top::k::r):Hid (∀(b:World),St w0 B0 Bk gF gl cl gm go S b->Calls prog 90 #[.pointer (some ⟨gF,0,none⟩),.int .i64 1,.bool false] b λe w'=>e= .returned (.tuple #[.int .i64 (k:Nat),.bool true])∧St w0 B0 Bk gF gl cl gm go S w'):=
 mq a c 1 false rfl (by omega) (by unfold eD;rw[d];rfl)
def cJ(a:St w0 B0 Bk gF gl cl gm go S w){i:Nat}(e:i<S.l.length){x:au}(d:S.l.getD i default=x):Hid (∀(c:World),St w0 B0 Bk gF gl cl gm go S c->c.cell? ⟨gl,i * 5,none⟩=some (.int .i64 x.op)∧c.cell? ⟨gl,i * 5+1,none⟩=some (.int .i64 x.a)∧c.cell? ⟨gl,i * 5+2,none⟩=some (.int .i64 x.b)∧c.cell? ⟨gl,i * 5+3,none⟩=some (.string x.text)∧c.cell? ⟨gl,i * 5+4,none⟩=some (.int .i64 x.pos)):=
 za λc f=>d ▸ f.ins e
def qT(a:St w0 B0 Bk gF gl cl gm go S w)(d:S.l.length<=100000)(n:Nat)(c:n<=S.ks.length):
 Calls prog 94 #[.pointer (some ⟨gF,0,none⟩),.int .i64 n] w λe w'=>e= .returned (.tuple #[])∧St w0 B0 Bk gF gl cl gm go (ii n S) w':=by
 obtain⟨b,h⟩:=a.at_;refine(Hs w Bk B0 gF gl cl gm go b S h ⟨a.low.1,a.low.2.2.2.1⟩ d n c).mono ?_;rintro e w' ⟨rfl,g,f⟩;exact⟨rfl,g,a.below.trans f,a.low⟩
def JI(old:List Value)(i:Nat)(a b c d e:Value)(f:i+5<=old.length):
 ((((old.set i a).set (i+1) b).set (i+2) c).set (i+3) d).set (i+4) e=old.take i++ [a,b,c,d,e]++old.drop (i+5):=by
 induction i generalizing old with
 |zero=>
  match old,f with
  |o0::o1::o2::o3::o4::r,_=>rfl
 |succ i ih=>
  match old,f with
  |o::r,f=>
   have g:i+5<=r.length:=by simp at f;omega
   have:=ih r g;simp only[List.set_cons_succ,show i+1+1=(i+1)+1 from rfl,show i+1+2=(i+2)+1 from rfl,show i+1+3=(i+3)+1 from rfl,show i+1+4=(i+4)+1 from rfl,show i+1+5=(i+5)+1 from rfl,List.take_succ_cons,List.drop_succ_cons,List.cons_append];rw[this]
def sa(w:World)(g i:Nat)(x:au):World:=
 ((((w.setCell ⟨g,i,none⟩ (.int .i64 x.op)).setCell ⟨g,i+1,none⟩ (.int .i64 x.a)).setCell ⟨g,i+2,none⟩ (.int .i64 x.b)).setCell ⟨g,i+3,none⟩ (.string x.text)).setCell ⟨g,i+4,none⟩ (.int .i64 x.pos)
def qy(w:World)(g i b:Nat)(x:au)(a:b≠g):(sa w g i x).heap[b]?=w.heap[b]?:=by
 unfold sa;rw[zY _ _ _ _ (by exact a),zY _ _ _ _ (by exact a),zY _ _ _ _ (by exact a),zY _ _ _ _ (by exact a),zY _ _ _ _ (by exact a)]
def Bj{w:World}{g c k:Nat}{l:List au}(i:aK w g c l)(d:k<l.length)(x:au):aK (sa w g (k * 5) x) g c (l.set k x):=by
 obtain⟨old,h,f,e⟩:=i.set_ d x;refine e _ ?_;have j:=JI old (k * 5) (.int .i64 x.op) (.int .i64 x.a) (.int .i64 x.b) (.string x.text) (.int .i64 x.pos) f;show ah _ g 50 (old.take (k * 5)++ [.int .i64 x.op,.int .i64 x.a,.int .i64 x.b,.string x.text,.int .i64 x.pos]++old.drop (k * 5+5));rw[<-j];exact((((h.set _ _).set _ _).set _ _).set _ _).set _ _
def Fj{a w:World}{g i B:Nat}{x:au}(c:Below B a w)(b:B<=g):Below B a (sa w g i x):=
 ((((c.setCell b _).setCell b _).setCell b _).setCell b _).setCell b _
def jB{w:World}{g i:Nat}{v0 v1 v2 v3 v4:Value}{b j:Nat}{u:Value}(c:b≠g)(d:w.cell? ⟨b,j,none⟩=some u):
 (((((w.setCell ⟨g,i,none⟩ v0).setCell ⟨g,i+1,none⟩ v1).setCell ⟨g,i+2,none⟩ v2).setCell ⟨g,i+3,none⟩ v3).setCell ⟨g,i+4,none⟩ v4).cell? ⟨b,j,none⟩=some u:=by
 rw[zI (a:=⟨b,j,none⟩) (show _=w.heap[b]? from by
  rw[zY _ _ _ _ (by exact c),zY _ _ _ _ (by exact c),zY _ _ _ _ (by exact c),zY _ _ _ _ (by exact c),zY _ _ _ _ (by exact c)])]
 exact d
def pos5{w:World}{g c k:Nat}{l:List au}(f:aK w g c l)(d:k<l.length)(op a b p:Int)(t:ByteArray):
 (((((w.setCell ⟨g,k * 5,none⟩ (.int .i64 op)).setCell ⟨g,k * 5+1,none⟩ (.int .i64 a)).setCell ⟨g,k * 5+2,none⟩ (.int .i64 b)).setCell ⟨g,k * 5+3,none⟩ (.string t)).setCell ⟨g,k * 5+4,none⟩ (.int .i64 p)).cell? ⟨g,k * 5+4,none⟩=some (.int .i64 p):=by
 have e:=(Bj f d ⟨op,a,b,t,p⟩).at_ (i:=k) (by simpa using d);rw[List.getElem_set_self]at e;exact e.2.2.2.2
def St.pos5(d:St w0 B0 Bk gF gl cl gm go S w){k:Nat}(c:k<S.l.length)(op a b p:Int)(t:ByteArray):
 (((((w.setCell ⟨gl,k * 5,none⟩ (.int .i64 op)).setCell ⟨gl,k * 5+1,none⟩ (.int .i64 a)).setCell ⟨gl,k * 5+2,none⟩ (.int .i64 b)).setCell ⟨gl,k * 5+3,none⟩ (.string t)).setCell ⟨gl,k * 5+4,none⟩ (.int .i64 p)).cell? ⟨gl,k * 5+4,none⟩=some (.int .i64 p):=by
 obtain⟨f,e⟩:=d.at_;exact YtmecmlpoallpcaaGreatDoor.pos5 e.code c op a b p t
def St.put(b:St w0 B0 Bk gF gl cl gm go S w){k:Nat}(i:k<S.l.length)(x:au):St w0 B0 Bk gF gl cl gm go ⟨S.l.set k x,S.mark,S.out,S.ks⟩ (sa w gl (k * 5) x):=by
 obtain⟨c,a⟩:=b.at_;obtain⟨f,q,p,e,d,o⟩:=a.ne;have h:(sa w gl (k * 5) x).heap.size=w.heap.size:=by simp[sa,World.setCell]
 refine⟨⟨c,?_,Bj a.code i x,?_,?_,?_,?_,?_,?_,?_,?_,a.ne⟩,Fj b.below b.low.2.1,b.low⟩
 ·show ah _ gF 93 [.slice (some ⟨gl,0,none⟩) (S.l.set k x).length cl,.slice (some ⟨gm,0,none⟩) (S.l.set k x).length (S.l.set k x).length,.slice (some ⟨go,0,none⟩) (S.l.set k x).length (S.l.set k x).length,c];rw[zN];exact(qy w gl (k * 5) gF x f).trans a.row
 ·exact(qy w gl (k * 5) gm x (Ne.symm e)).trans a.mark
 ·exact(qy w gl (k * 5) go x (Ne.symm d)).trans a.out
 ·exact aE a.kept λn m=>qy w gl (k * 5) n x (by have:=(a.kept.lt m).1;have:=a.fl;omega)
 ·simpa using a.lenm
 ·simpa using a.leno
 ·intro g j;have:=a.ks g j;simpa using this
 ·simpa using a.few
 ·have:=a.fl;rw[h];exact this
def St.mark_(e:St w0 B0 Bk gF gl cl gm go S w)(i:Nat)(b:Bool):St w0 B0 Bk gF gl cl gm go ⟨S.l,S.mark.set i b,S.out,S.ks⟩ (w.setCell ⟨gm,i,none⟩ (.bool b)):=by
 obtain⟨g,a⟩:=e.at_;obtain⟨p,k,o,j,n,h⟩:=a.ne;have d:∀c,c≠gm->(w.setCell ⟨gm,i,none⟩ (.bool b)).heap[c]?=w.heap[c]?:=λc f=>zY _ _ _ _ (by exact f);have m:(w.setCell ⟨gm,i,none⟩ (.bool b)).heap.size=w.heap.size:=by simp[World.setCell]
 refine⟨⟨g,(d gF k).trans a.row,a.code.far (d gl j),?_,(d go (Ne.symm h)).trans a.out,aE a.kept λc f=>d c (by have:=(a.kept.lt f).1;have:=a.fl;omega),by simpa using a.lenm,a.leno,a.ks,a.few,by rw[m];exact a.fl,a.ne⟩,e.below.setCell e.low.2.2.1 _,e.low⟩;rw[eZ];exact a.mark.set i _
def St.apart(a:St w0 B0 Bk gF gl cl gm go S w):gF≠gl:=by
 obtain⟨c,b⟩:=a.at_;exact b.ne.1
def St.drew(a:St w0 B0 Bk gF gl cl gm go S w):St w0 B0 Bk gF gl cl gm go S w.drew:=a.next (ay (zZ _ _))
end
end
section
set_option maxRecDepth 200000
open Go.RowKit Go.Proofs.PeepPlain
def EY(w0 w:World)(o n c gl j i h:Nat)(S:cU)(a:St w0 o n c gl j i h S w)(d:S.l.length<=100000)(b:S.ks=[]):Calls prog 58 #[.pointer (some ⟨c,0,none⟩)] w λe w'=>e= .returned (.bool false)∧St w0 o n c gl j i h S w':=by
 have s:=za a;have m:=mq a d (z:=0) 0 true rfl (by omega) (show eD S 0 true= .tuple #[.int .i64 0,.bool false]from by unfold eD;rw[b];rfl);have k:=mq a d (z:=1) 1 false rfl (by omega) (show eD S 1 false= .tuple #[.int .i64 0,.bool false]from by unfold eD;rw[b];rfl);clear a b;go_enter func58,ntmps58;go_wp2_with (first
  |(go_at_call 90;(with_reducible refine(m.out _ s.out).mono ?_);rintro p u ⟨rfl,g⟩;have r:=za g;clear g m)
  |(go_at_call 90;(with_reducible refine(k.out _ r.out).mono ?_);rintro p t ⟨rfl,f⟩;have q:=za f;clear f k))
 go_ret;exact⟨rfl,q⟩
def uS(w0 w:World)(p o c gl k j i:Nat)(S:cU)(a:St w0 p o c gl k j i S w)(f:S.l.length<=100000)(top:Nat)(b:S.ks=[top])(d:S.mark.getD top false=true):Calls prog 58 #[.pointer (some ⟨c,0,none⟩)] w λe w'=>e= .returned (.bool false)∧St w0 p o c gl k j i S w':=by
 have t:=za a;have n:=Ge a f b d;have m:=mq a f (z:=1) 1 false rfl (by omega) (show eD S 1 false= .tuple #[.int .i64 0,.bool false]from by unfold eD;rw[b];rfl);clear a b d;go_enter func58,ntmps58;go_wp2_with (first
  |(go_at_call 90;(with_reducible refine(n.out _ t.out).mono ?_);rintro q v ⟨rfl,h⟩;have s:=za h;clear h n)
  |(go_at_call 90;(with_reducible refine(m.out _ s.out).mono ?_);rintro q u ⟨rfl,g⟩;have r:=za g;clear g m))
 go_ret;exact⟨rfl,r⟩
def sQ(w0 w:World)(p o c gl k j i:Nat)(S:cU)(a:St w0 p o c gl k j i S w)(f:S.l.length<=100000)(top:Nat)(b:S.ks=[top])(d:S.mark.getD top false=false):Calls prog 58 #[.pointer (some ⟨c,0,none⟩)] w λe w'=>e= .returned (.bool false)∧St w0 p o c gl k j i S w':=by
 have t:=za a;have n:=gw a f b d;have m:=mq a f (z:=1) 1 false rfl (by omega) (show eD S 1 false= .tuple #[.int .i64 0,.bool false]from by unfold eD;rw[b];rfl);clear a b d;go_enter func58,ntmps58;go_wp2_with (first
  |(go_at_call 90;(with_reducible refine(n.out _ t.out).mono ?_);rintro q v ⟨rfl,h⟩;have s:=za h;clear h n)
  |(go_at_call 90;(with_reducible refine(m.out _ s.out).mono ?_);rintro q u ⟨rfl,g⟩;have r:=za g;clear g m))
 go_ret;exact⟨rfl,r⟩
def Fg(w0 w:World)(q p c gl m j i:Nat)(S:cU)(a:St w0 q p c gl m j i S w)(f:S.l.length<=100000)(top k:Nat)(r:List Nat)(b:S.ks=top::k::r)(d:S.mark.getD top false=true):Calls prog 58 #[.pointer (some ⟨c,0,none⟩)] w λe w'=>e= .returned (.bool false)∧St w0 q p c gl m j i S w':=by
 have v:=za a;have o:=Ge a f b d;have n:=pA a f b;clear a b d;go_enter func58,ntmps58;go_wp2_with (first
  |(go_at_call 90;(with_reducible refine(o.out _ v.out).mono ?_);rintro s y ⟨rfl,h⟩;have u:=za h;clear h o)
  |(go_at_call 90;(with_reducible refine(n.out _ u.out).mono ?_);rintro s x ⟨rfl,g⟩;have t:=za g;clear g n))
 go_ret;exact⟨rfl,t⟩
def Be(w0 w:World)(Z Y t gl T N M:Nat)(S:cU)(c:St w0 Z Y t gl T N M S w)(K:S.l.length<=100000)(top k:Nat)(r:List Nat)(h:S.ks=top::k::r)(J:S.mark.getD top false=false)(X:∀i,i<S.l.length->dg (S.l.getD i default))(q:cm (S.l.getD k default)=none):Calls prog 58 #[.pointer (some ⟨t,0,none⟩)] w λe w'=>e= .returned (.bool false)∧St w0 Z Y t gl T N M S w':=by
 have I:top<S.l.length:=c.ks top (by rw[h];simp);have p:k<S.l.length:=c.ks k (by rw[h];simp);have ar:=za c;have V:=gw c K h J;have U:=pA c K h;obtain⟨d,H⟩:∃d,S.l.getD top default=d:=⟨_,rfl⟩
 obtain⟨g,m⟩:∃g,S.l.getD k default=g:=⟨_,rfl⟩
 have G:dg g:=m ▸ X k p;have av:=cJ c I H;have W:=cJ c p m;rw[m]at q;have u:=za (λo=>(show Calls prog 91 #[br g] o λe w'=>e= .returned (.tuple #[aS.val,.bool false])∧zz o w' from by have:=bn g G o;rw[q]at this;exact this));simp only[br,aS,mk,aH.val]at u;have a7:(0:Int)<=(top:Int)∧(top:Int)<(S.l.length:Int):=by omega
 have a8:(0:Int)<=(k:Int)∧(k:Int)<(S.l.length:Int):=by omega
 clear c h J q G X H m I p;go_enter func58,ntmps58;go_wp2_with (first
  |(go_at_call 90;(with_reducible refine(V.out _ ar.out).mono ?_);rintro R a2 ⟨rfl,L⟩;have ap:=za L;clear L V)
  |(go_at_call 90;(with_reducible refine(U.out _ ap.out).mono ?_);rintro R F ⟨rfl,f⟩
    have ao:=za f;obtain⟨Q,P,O⟩:=f.row;obtain⟨an,af,ad,ab,aa⟩:=av.out _ f;obtain⟨E,D,C,B,A⟩:=W.out _ f;obtain⟨z,y,x,v,_⟩:=f.size;clear f U)
  |(go_at_call 91;(with_reducible refine(u.out _).mono ?_);rintro R a1 ⟨rfl,s⟩
    have n:=za ((ao.alloc _).next s);have j:=za ((ah.made F 50 [.int .i64 d.op,.int .i64 d.a,.int .i64 d.b,.string d.text,.int .i64 d.pos]).below s (ah.made F 50 _).lt);clear Q P O an af ad ab aa E D C B A z y x v;obtain⟨Q,P,O⟩:=n.row;obtain⟨E,D,C,B,A⟩:=W.out _ n.out;obtain⟨z,y,x,v,_⟩:=n.size;have a0:=j.lt;have a6:=j.cell 0;have a5:=j.cell 1;have a4:=j.cell 3;have a3:=j.cell 4;clear s u))
 go_ret;exact⟨rfl,n.alloc _⟩
end
section
set_option maxRecDepth 200000
open Go.RowKit Go.Proofs.PeepPlain
def CV(w0 w:World)(an af y gl Y R Q:Nat)(S:cU)(d:St w0 an af y gl Y R Q S w)(N:S.l.length<=100000)(top k:Nat)(r:List Nat)(h:S.ks=top::k::r)(M:S.mark.getD top false=false)(ad:∀i,i<S.l.length->dg (S.l.getD i default))(a:gD)(s:cm (S.l.getD k default)=some a)(x:(S.l.getD top default).op≠18)(u:(S.l.getD top default).op≠35)(v:(S.l.getD top default).op≠19):Calls prog 58 #[.pointer (some ⟨y,0,none⟩)] w λe w'=>e= .returned (.bool false)∧St w0 an af y gl Y R Q S w':=by
 have L:top<S.l.length:=d.ks top (by rw[h];simp);have q:k<S.l.length:=d.ks k (by rw[h];simp);have a4:=za d;have aa:=gw d N h M;have Z:=pA d N h;obtain⟨c,p⟩:∃c,S.l.getD top default=c:=⟨_,rfl⟩
 obtain⟨g,m⟩:∃g,S.l.getD k default=g:=⟨_,rfl⟩
 have K:dg g:=m ▸ ad k q;have a5:=cJ d L p;have ab:=cJ d q m;rw[m]at s;rw[p]at x u v;obtain⟨X,O⟩:∃a1,aO a=a1:=⟨_,rfl⟩
 have z:=za (λo=>(show Calls prog 91 #[br g] o λe w'=>e= .returned (.tuple #[X.val,.bool true])∧zz o w' from by have:=bn g K o;rw[s]at this;rw[<-O];exact this));obtain⟨bp,a9,bo,b5,ba,bb,be,bc,bi,bl,bj,bk,bt,b0,bq⟩:=X;simp only[br,aH.val]at z;have ca:(c.op==18)=false:=zh.2 x;have b8:(c.op==35)=false:=zh.2 u;have b9:(c.op==19)=false:=zh.2 v;have b6:(0:Int)<=(top:Int)∧(top:Int)<(S.l.length:Int):=by omega
 have b7:(0:Int)<=(k:Int)∧(k:Int)<(S.l.length:Int):=by omega
 clear d h M s K ad p m L q O x u v;go_enter func58,ntmps58;go_wp2_with (first
  |(go_at_call 90;(with_reducible refine(aa.out _ a4.out).mono ?_);rintro W a8 ⟨rfl,P⟩;have a3:=za P;clear P aa)
  |(go_at_call 90;(with_reducible refine(Z.out _ a3.out).mono ?_);rintro W J ⟨rfl,f⟩
    have a2:=za f;obtain⟨V,U,T⟩:=f.row;obtain⟨a0,av,ar,ap,ao⟩:=a5.out _ f;obtain⟨I,H,G,F,E⟩:=ab.out _ f;obtain⟨D,C,B,A,_⟩:=f.size;clear f Z)
  |(go_at_call 91;(with_reducible refine(z.out _).mono ?_);rintro W a7 ⟨rfl,t⟩
    have n:=za ((a2.alloc _).next t);have j:=za ((ah.made J 50 [.int .i64 c.op,.int .i64 c.a,.int .i64 c.b,.string c.text,.int .i64 c.pos]).below t (ah.made J 50 _).lt);clear V U T a0 av ar ap ao I H G F E D C B A;obtain⟨V,U,T⟩:=n.row;obtain⟨I,H,G,F,E⟩:=ab.out _ n.out;obtain⟨D,C,B,A,_⟩:=n.size;have a6:=j.lt;have b4:=j.cell 0;have b3:=j.cell 1;have b2:=j.cell 3;have b1:=j.cell 4;clear t z))
 go_ret;exact⟨rfl,n.alloc _⟩
def Ci(w0 w:World)(ar ap z gl aa W V:Nat)(S:cU)(d:St w0 ar ap z gl aa W V S w)(T:S.l.length<=100000)(top k:Nat)(r:List Nat)(m:S.ks=top::k::r)(R:S.mark.getD top false=false)(ao:∀i,i<S.l.length->dg (S.l.getD i default))(a:gD)(y:cm (S.l.getD k default)=some a)(u:(S.l.getD top default).op=18)(t:(S.l.getD top default).text.size<=2000000)(s:mV (S.l.getD top default).text a=none):Calls prog 58 #[.pointer (some ⟨z,0,none⟩)] w λe w'=>e= .returned (.bool false)∧St w0 ar ap z gl aa W V S w':=by
 have Q:top<S.l.length:=d.ks top (by rw[m];simp);have v:k<S.l.length:=d.ks k (by rw[m];simp);have a8:=za d;have ad:=gw d T m R;have ab:=pA d T m;obtain⟨c,q⟩:∃c,S.l.getD top default=c:=⟨_,rfl⟩
 obtain⟨j,o⟩:∃j,S.l.getD k default=j:=⟨_,rfl⟩
 have P:dg j:=o ▸ ao k v;have an:=cJ d Q q;have af:=cJ d v o;rw[o]at y;rw[q]at u t s;obtain⟨B,x⟩:∃C,aO a=C:=⟨_,rfl⟩
 have E:=za (λf=>(show Calls prog 91 #[br j] f λe w'=>e= .returned (.tuple #[B.val,.bool true])∧zz f w' from by have:=bn j P f;rw[y]at this;rw[<-x];exact this));have D:=za (λf=>(show Calls prog 92 #[.string c.text,B.val] f λe w'=>(∃C:aH,e= .returned (.tuple #[C.val,.bool false]))∧zz f w' from by have:=tx c.text t a f;rw[s,x]at this;exact this));obtain⟨cc,bi,ca,cs,bk,bo,b0,bq,b2,b8,b4,b6,ch,cj,cf⟩:=B;simp only[br,aH.val]at E D;rw[u]at an;have ct:(0:Int)<=(top:Int)∧(top:Int)<(S.l.length:Int):=by omega
 have cv:(0:Int)<=(k:Int)∧(k:Int)<(S.l.length:Int):=by omega
 clear d m R y P ao q o Q v x u t s;go_enter func58,ntmps58;go_wp2_with (first
  |(go_at_call 90;(with_reducible refine(ad.out _ a8.out).mono ?_);rintro A bc ⟨rfl,U⟩;have a7:=za U;clear U ad)
  |(go_at_call 90;(with_reducible refine(ab.out _ a7.out).mono ?_);rintro A O ⟨rfl,h⟩
    have a6:=za h;obtain⟨Z,Y,X⟩:=h.row;obtain⟨a3,a2,a1,a0,av⟩:=an.out _ h;obtain⟨N,M,L,K,J⟩:=af.out _ h;obtain⟨I,H,G,F,_⟩:=h.size;clear h ab)
  |(go_at_call 91;(with_reducible refine(E.out _).mono ?_);rintro A bb ⟨rfl,g⟩
    have p:=za ((a6.alloc _).next g);have n:=za ((ah.made O 50 [.int .i64 18,.int .i64 c.a,.int .i64 c.b,.string c.text,.int .i64 c.pos]).below g (ah.made O 50 _).lt);clear Z Y X a3 a2 a1 a0 av N M L K J I H G F;obtain⟨Z,Y,X⟩:=p.row;obtain⟨N,M,L,K,J⟩:=af.out _ p.out;obtain⟨I,H,G,F,_⟩:=p.size;have a9:=n.lt;have co:=n.cell 0;have cn:=n.cell 1;have cl:=n.cell 3;have ck:=n.cell 4;clear g E)
  |(go_at_call 92;(with_reducible refine(D.out _).mono ?_);rintro A ba ⟨⟨a4,rfl⟩,g⟩
    obtain⟨cb,be,b9,cp,bj,bl,bt,bp,b1,b7,b3,b5,cg,ci,cd⟩:=a4;have a5:=za ((p.alloc _).next g);clear g D))
 go_ret;exact⟨rfl,a5.alloc _⟩
def ye(w0 w:World)(D X o gl F T R:Nat)(S:cU)(t:St w0 D X o gl F T R S w)(bq:S.l.length<=100000)(top k:Nat)(r:List Nat)(z:S.ks=top::k::r)(cc:S.mark.getD top false=false)(cn:∀i,i<S.l.length->dg (S.l.getD i default))(a:gD)(b2:cm (S.l.getD k default)=some a)(cd:∀c,Below D w0 c->aX c∧fT c)(bp:(S.l.getD top default).op=18)(bo:(S.l.getD top default).text.size<=2000000)(d:gD)(cT:fv d)(bl:mV (S.l.getD top default).text a=some d):Calls prog 58 #[.pointer (some ⟨o,0,none⟩)] w λe w'=>e= .returned (.bool true)∧St w0 D X o gl F T R ⟨S.l.set k (gQ d (S.l.getD k default).pos),S.mark,S.out.set top true,k::r⟩ w':=by
 have ca:top<S.l.length:=t.ks top (by rw[z];simp);have ao:k<S.l.length:=t.ks k (by rw[z];simp);have c4:=za t;have cj:=gw t bq z cc;have ci:=pA t bq z;obtain⟨s,bk⟩:∃s,S.l.getD top default=s:=⟨_,rfl⟩
 obtain⟨m,an⟩:∃m,S.l.getD k default=m:=⟨_,rfl⟩
 have b9:dg m:=an ▸ cn k ao;have ck:=cJ t ca bk;have ar:=cJ t ao an;rw[an]at b2 ⊢
 rw[bk]at bp bo bl;obtain⟨b5,b1⟩:∃d,aO a=d:=⟨_,rfl⟩
 have b7:=za (λc=>(show Calls prog 91 #[br m] c λe w'=>e= .returned (.tuple #[b5.val,.bool true])∧zz c w' from by have:=bn m b9 c;rw[b2]at this;rw[<-b1];exact this));obtain⟨b4,b0⟩:∃e,aO d=e:=⟨_,rfl⟩
 obtain⟨j,af⟩:∃j,gQ d m.pos=j:=⟨_,rfl⟩
 have b6:=za (λc=>(show Calls prog 92 #[.string s.text,b5.val] c λe w'=>e= .returned (.tuple #[b4.val,.bool true])∧zz c w' from by have:=tx s.text bo a c;rw[bl,b1]at this;rw[<-b0];exact this));have av:=za (λc (hb:Below D w0 c)=>(show Calls prog 93 #[b4.val,.int .i64 m.pos] c λe w'=>e= .returned (br j)∧zz c w' from by have:=xn d cT m.pos c (cd c hb).1;rw[b0,af]at this;exact this));have c8:=za (λ(c:World) (h:St w0 D X o gl F T R ⟨S.l.set k j,S.mark,S.out,S.ks⟩ c)=>qT h (by show(S.l.set k j).length<=_;rw[zN];exact bq) 1 (by show 1<=S.ks.length;rw[z];simp));have c7:Hid (ii 1 ⟨S.l.set k j,S.mark,S.out,S.ks⟩=⟨S.l.set k j,S.mark,S.out.set top true,k::r⟩):=za (by rw[z];rfl);have cl:=za ao;rw[af];obtain⟨d6,ds,d5,em,dA,dB,d0,dC,d1,d4,d2,d3,d8,d9,d7⟩:=b5;obtain⟨bb,a1,ba,b3,a2,a3,a5,a4,a6,a9,a7,a8,be,bi,bc⟩:=b4;have bj:j.pos=m.pos:=by rw[<-af];cases d<;>rfl
 have c6:=za bj;simp only[br,aH.val]at b7 b6 av;rw[bj]at av;rw[bp]at ck;have en:(0:Int)<=(top:Int)∧(top:Int)<(S.l.length:Int):=by omega
 have es:(0:Int)<=(k:Int)∧(k:Int)<(S.l.length:Int):=by omega
 clear t z cc b2 b9 cn bk an ca ao b1 b0 af bp bo bl cd bj;go_enter func58,ntmps58;go_wp2_with (first
  |(go_at_call 90;(with_reducible refine(cj.out _ c4.out).mono ?_);rintro U dn ⟨rfl,cg⟩;have c3:=za cg;clear cg cj)
  |(go_at_call 90;(with_reducible refine(ci.out _ c3.out).mono ?_);rintro U b8 ⟨rfl,E⟩
    have c2:=za E;obtain⟨p,B,A⟩:=E.row;obtain⟨cv,ct,cs,cp,co⟩:=ck.out _ E;obtain⟨y,x,v,u,q⟩:=ar.out _ E;obtain⟨ab,aa,Z,Y,_⟩:=E.size;clear E ci)
  |(go_at_call 91;(with_reducible refine(b7.out _).mono ?_);rintro U dl ⟨rfl,hb⟩
    have ap:=za ((c2.alloc _).next hb);have W:=za ((ah.made b8 50 [.int .i64 18,.int .i64 s.a,.int .i64 s.b,.string s.text,.int .i64 s.pos]).below hb (ah.made b8 50 _).lt);clear p B A cv ct cs cp co y x v u q ab aa Z Y;obtain⟨p,B,A⟩:=ap.row;obtain⟨y,x,v,u,q⟩:=ar.out _ ap.out;obtain⟨ab,aa,Z,Y,_⟩:=ap.size;have c9:=W.lt;have ee:=W.cell 0;have ed:=W.cell 1;have ec:=W.cell 3;have ea:=W.cell 4;clear hb b7)
  |(go_at_call 92;(with_reducible refine(b6.out _).mono ?_);rintro U f ⟨rfl,hb⟩
    have ch:=za ((ap.alloc _).next hb);clear hb b6 p B A y x v u q ab aa Z Y))
 obtain⟨ad,C,n,e⟩:∃ad,ah ad f.heap.size 131 [.int .i64 bb,.string a1,.int .i64 ba,.int .u64 b3,.string a2,.int .i64 a3,.int .i64 a5,.int .i64 a4,.int .i64 a6,.slice a9 a7 a8,.slice be bi bc]∧St w0 D X o gl F T R S ad∧f.alloc (.cells #[.int .i64 bb,.string a1,.int .i64 ba,.int .u64 b3,.string a2,.int .i64 a3,.int .i64 a5,.int .i64 a4,.int .i64 a6,.slice a9 a7 a8,.slice be bi bc] 131)=ad:=⟨_,ah.made f 131 _,ch.alloc _,rfl⟩
 rw[e];clear e;obtain⟨p,B,A⟩:=n.row;obtain⟨y,x,v,u,q⟩:=ar.out _ n;obtain⟨ab,aa,Z,Y,_⟩:=n.size;have ef:=C.lt;have cb:o≠gl:=n.apart;have g:f.heap.size≠gl:=by have:=ch.size;omega
 have ek:gl≠o:=Ne.symm cb;have ej:gl≠f.heap.size:=Ne.symm g;obtain⟨Q,P,N,M,L,K,J,I,H,G,O,kf⟩:=aA C;have bt:=n.free;replace n:=za n;replace C:=za C;go_region_held3 (λw'=>w'.cell? ⟨o,0,none⟩=some (.slice (some ⟨gl,0,none⟩) S.l.length F)∧w'.cell? ⟨gl,k * 5+4,none⟩=some (.int .i64 m.pos)∧w'.cell? ⟨f.heap.size,0,none⟩=some (.int .i64 bb)∧w'.cell? ⟨f.heap.size,1,none⟩=some (.string a1)∧w'.cell? ⟨f.heap.size,2,none⟩=some (.int .i64 ba)∧w'.cell? ⟨f.heap.size,3,none⟩=some (.int .u64 b3)∧w'.cell? ⟨f.heap.size,4,none⟩=some (.string a2)∧w'.cell? ⟨f.heap.size,5,none⟩=some (.int .i64 a3)∧w'.cell? ⟨f.heap.size,6,none⟩=some (.int .i64 a5)∧w'.cell? ⟨f.heap.size,7,none⟩=some (.int .i64 a4)∧w'.cell? ⟨f.heap.size,8,none⟩=some (.int .i64 a6)∧w'.cell? ⟨f.heap.size,9,none⟩=some (.slice a9 a7 a8)∧w'.cell? ⟨f.heap.size,10,none⟩=some (.slice be bi bc))
  (first|(with_reducible exact⟨p,q,Q,P,N,M,L,K,J,I,H,G,O⟩)|(with_reducible exact⟨jB (i:=k * 5) cb p,St.pos5 V.out cl.out _ _ _ _ _,jB (i:=k * 5) g Q,jB (i:=k * 5) g P,jB (i:=k * 5) g N,jB (i:=k * 5) g M,jB (i:=k * 5) g L,jB (i:=k * 5) g K,jB (i:=k * 5) g J,jB (i:=k * 5) g I,jB (i:=k * 5) g H,jB (i:=k * 5) g G,jB (i:=k * 5) g O⟩)|go_keep)
  (first
  |(go_at_call 93;(with_reducible refine(av.out _ ?hb).mono ?_)
    case hb=>exact n.drew.below
    rintro U cC ⟨rfl,hb⟩;have V:=za (n.drew.next hb);have c5:=za (C.drew.below hb C.drew.lt);clear p B A y x v u q Q P N M L K J I H G O kf bt;obtain⟨p,B,A⟩:=V.row;obtain⟨y,x,v,u,q⟩:=ar.out _ V.out;obtain⟨Q,P,N,M,L,K,J,I,H,G,O,kf⟩:=aA c5.out;have bt:=V.free;clear hb av n C))
 obtain⟨a0,c1,e⟩:∃a0,Hid (St w0 D X o gl F T R ⟨S.l.set k j,S.mark,S.out,S.ks⟩ a0)∧sa cC gl (k * 5) j=a0:=⟨_,za (V.put cl.out j),rfl⟩
 unfold sa at e;rw[c6.out]at e;rw[e];clear e p B A y x v u q Q P N M L K J I H G O kf bt;go_wp2_with (go_at_call 94;refine(c8.out _ c1.out).mono ?_;rintro U df ⟨rfl,cf⟩;have c0:=za cf;clear cf);go_ret;exact⟨rfl,by rw[<-c7.out];exact c0.out⟩
end
section
set_option maxRecDepth 200000
open Go.RowKit Go.Proofs.PeepPlain
def tS(w0 w:World)(an af x gl X Q P:Nat)(S:cU)(c:St w0 an af x gl X Q P S w)(M:S.l.length<=100000)(top k:Nat)(r:List Nat)(h:S.ks=top::k::r)(L:S.mark.getD top false=false)(ad:∀i,i<S.l.length->dg (S.l.getD i default))(a:gD)(u:cm (S.l.getD k default)=some a)(s:(S.l.getD top default).op=35)(p:(S.l.getD k default).op≠6):Calls prog 58 #[.pointer (some ⟨x,0,none⟩)] w λe w'=>e= .returned (.bool false)∧St w0 an af x gl X Q P S w':=by
 have K:top<S.l.length:=c.ks top (by rw[h];simp);have t:k<S.l.length:=c.ks k (by rw[h];simp);have a4:=za c;have Z:=gw c M h L;have Y:=pA c M h;obtain⟨f,q⟩:∃f,S.l.getD top default=f:=⟨_,rfl⟩
 obtain⟨d,m⟩:∃d,S.l.getD k default=d:=⟨_,rfl⟩
 have J:dg d:=m ▸ ad k t;have ab:=cJ c K q;have aa:=cJ c t m;rw[m]at u p;rw[q]at s;obtain⟨W,N⟩:∃a1,aO a=a1:=⟨_,rfl⟩
 have y:=za (λo=>(show Calls prog 91 #[br d] o λe w'=>e= .returned (.tuple #[W.val,.bool true])∧zz o w' from by have:=bn d J o;rw[u]at this;rw[<-N];exact this));obtain⟨bo,a8,bl,b4,a9,ba,bc,bb,be,bk,bi,bj,bq,bt,bp⟩:=W;simp only[br,aH.val]at y;have b7:(d.op !=6)=true:=zO.2 p;rw[s]at ab;have b5:(0:Int)<=(top:Int)∧(top:Int)<(S.l.length:Int):=by omega
 have b6:(0:Int)<=(k:Int)∧(k:Int)<(S.l.length:Int):=by omega
 clear c h L u J ad q m K t N s p;go_enter func58,ntmps58;go_wp2_with (first
  |(go_at_call 90;(with_reducible refine(Z.out _ a4.out).mono ?_);rintro V a7 ⟨rfl,O⟩;have a3:=za O;clear O Z)
  |(go_at_call 90;(with_reducible refine(Y.out _ a3.out).mono ?_);rintro V I ⟨rfl,g⟩
    have a2:=za g;obtain⟨U,T,R⟩:=g.row;obtain⟨a0,av,ar,ap,ao⟩:=ab.out _ g;obtain⟨H,G,F,E,D⟩:=aa.out _ g;obtain⟨C,B,A,z,_⟩:=g.size;clear g Y)
  |(go_at_call 91;(with_reducible refine(y.out _).mono ?_);rintro V a6 ⟨rfl,v⟩
    have n:=za ((a2.alloc _).next v);have j:=za ((ah.made I 50 [.int .i64 35,.int .i64 f.a,.int .i64 f.b,.string f.text,.int .i64 f.pos]).below v (ah.made I 50 _).lt);clear U T R a0 av ar ap ao H G F E D C B A z;obtain⟨U,T,R⟩:=n.row;obtain⟨H,G,F,E,D⟩:=aa.out _ n.out;obtain⟨C,B,A,z,_⟩:=n.size;have a5:=j.lt;have b3:=j.cell 0;have b2:=j.cell 1;have b1:=j.cell 3;have b0:=j.cell 4;clear v y))
 go_ret;exact⟨rfl,n.alloc _⟩
def wi(w0 w:World)(G F o gl E A z:Nat)(S:cU)(f:St w0 G F o gl E A z S w)(aa:S.l.length<=100000)(top k:Nat)(r:List Nat)(g:S.ks=top::k::r)(ar:S.mark.getD top false=false)(a6:∀i,i<S.l.length->dg (S.l.getD i default))(a:gD)(ab:cm (S.l.getD k default)=some a)(Z:(S.l.getD top default).op=35)(W:(S.l.getD k default).op=6)(X:(S.l.getD k default).a≠1):Calls prog 58 #[.pointer (some ⟨o,0,none⟩)] w λe w'=>e= .returned (.bool false)∧St w0 G F o gl E A z ⟨S.l.set k ⟨34,(S.l.getD top default).a,0,⟨#[]⟩,(S.l.getD top default).pos⟩,S.mark,S.out.set top true,k::r⟩ w':=by
 have ap:top<S.l.length:=f.ks top (by rw[g];simp);have M:k<S.l.length:=f.ks k (by rw[g];simp);have cf:=za f;have a4:=gw f aa g ar;have a3:=pA f aa g;obtain⟨c,Y⟩:∃c,S.l.getD top default=c:=⟨_,rfl⟩
 obtain⟨m,L⟩:∃m,S.l.getD k default=m:=⟨_,rfl⟩
 have ao:dg m:=L ▸ a6 k M;have a5:=cJ f ap Y;have O:=cJ f M L;rw[L]at ab W X;rw[Y]at Z ⊢
 obtain⟨a2,av⟩:∃b9,aO a=b9:=⟨_,rfl⟩
 have P:=za (λx=>(show Calls prog 91 #[br m] x λe w'=>e= .returned (.tuple #[a2.val,.bool true])∧zz x w' from by have:=bn m ao x;rw[ab]at this;rw[<-av];exact this));obtain⟨b1,be,b0,b8,bi,bj,bl,bk,bo,bt,bp,bq,b3,b4,b2⟩:=a2;simp only[br,aH.val]at P;have cs:(m.a==1)=false:=zh.2 X;obtain⟨d,V⟩:∃d:au,(⟨34,c.a,0,⟨#[]⟩,c.pos⟩:au)=d:=⟨_,rfl⟩
 have cj:=za (λ(x:World) (h:St w0 G F o gl E A z ⟨S.l.set k d,S.mark,S.out,S.ks⟩ x)=>qT h (by show(S.l.set k d).length<=_;rw[zN];exact aa) 1 (by show 1<=S.ks.length;rw[g];simp));have ci:Hid (ii 1 ⟨S.l.set k d,S.mark,S.out,S.ks⟩=⟨S.l.set k d,S.mark,S.out.set top true,k::r⟩):=za (by rw[g];rfl);have ch:=za M;have cg:=za V;rw[V];rw[Z]at a5;rw[W]at P O;have co:(0:Int)<=(top:Int)∧(top:Int)<(S.l.length:Int):=by omega
 have cp:(0:Int)<=(k:Int)∧(k:Int)<(S.l.length:Int):=by omega
 clear f g ar ab ao a6 Y L ap M av Z W X V;go_enter func58,ntmps58;go_wp2_with (first
  |(go_at_call 90;(with_reducible refine(a4.out _ cf.out).mono ?_);rintro af cn ⟨rfl,a1⟩;have cd:=za a1;clear a1 a4)
  |(go_at_call 90;(with_reducible refine(a3.out _ cd.out).mono ?_);rintro af R ⟨rfl,n⟩
    have cc:=za n;obtain⟨D,C,B⟩:=n.row;obtain⟨bb,ba,a9,a8,a7⟩:=a5.out _ n;obtain⟨v,u,t,s,q⟩:=O.out _ n;obtain⟨K,J,I,H,_⟩:=n.size;clear n a3)
  |(go_at_call 91;(with_reducible refine(P.out _).mono ?_);rintro af bc ⟨rfl,ad⟩
    have N:=za ((cc.alloc _).next ad);have p:=za ((ah.made R 50 [.int .i64 35,.int .i64 c.a,.int .i64 c.b,.string c.text,.int .i64 c.pos]).below ad (ah.made R 50 _).lt);clear D C B bb ba a9 a8 a7 v u t s q K J I H;obtain⟨D,C,B⟩:=N.row;obtain⟨v,u,t,s,q⟩:=O.out _ N.out;obtain⟨K,J,I,H,_⟩:=N.size;have ck:=p.lt;have b6:=p.cell 0;have U:=p.cell 1;have b5:=p.cell 3;have T:=p.cell 4;clear ad P))
 obtain⟨y,an,j,e⟩:∃y,ah y R.heap.size 50 [.int .i64 35,.int .i64 c.a,.int .i64 c.b,.string c.text,.int .i64 c.pos]∧St w0 G F o gl E A z S y∧bc.alloc (.cells #[.int .i64 b1,.string be,.int .i64 b0,.int .u64 b8,.string bi,.int .i64 bj,.int .i64 bl,.int .i64 bk,.int .i64 bo,.slice bt bp bq,.slice b3 b4 b2] 131)=y:=⟨_,p.alloc _,N.alloc _,rfl⟩
 rw[e];clear e D C B v u t s q K J I H b6 U b5 T;obtain⟨D,C,B⟩:=j.row;obtain⟨v,u,t,s,q⟩:=O.out _ j;obtain⟨K,J,I,H,_⟩:=j.size;have U:=an.cell 1;have T:=an.cell 4;have b7:=j.free;replace j:=za j;clear an;go_region
 all_goals
  obtain⟨Q,cb,e⟩:∃Q,Hid (St w0 G F o gl E A z ⟨S.l.set k d,S.mark,S.out,S.ks⟩ Q)∧(sa y gl (k * 5) d).drew=Q:=⟨_,za (j.put ch.out d).drew,rfl⟩
  rw[<-cg.out]at e;unfold sa at e;dsimp only at e;rw[e];clear e D C B v u t s q U T b7;go_wp2_with (go_at_call 94;refine(cj.out _ cb.out).mono ?_;rintro af cl ⟨rfl,a0⟩;have ca:=za a0;clear a0);go_ret;exact⟨rfl,by rw[<-ci.out];exact ca.out⟩
def qB(w0 w:World)(p o g gl n d m:Nat)(S:cU)(f:St w0 p o g gl n d m S w)(U:S.l.length<=100000)(top k:Nat)(r:List Nat)(j:S.ks=top::k::r)(an:S.mark.getD top false=false)(a4:∀i,i<S.l.length->dg (S.l.getD i default))(a:gD)(V:cm (S.l.getD k default)=some a)(T:(S.l.getD top default).op=35)(P:(S.l.getD k default).op=6)(Q:(S.l.getD k default).a=1)(af:top+1<S.l.length)(ap:S.mark.getD (top+1) false=true):Calls prog 58 #[.pointer (some ⟨g,0,none⟩)] w λe w'=>e= .returned (.bool false)∧St w0 p o g gl n d m ⟨S.l,S.mark.set (top+1) (true),(S.out.set top true).set k true,r⟩ w':=by
 have ad:top<S.l.length:=f.ks top (by rw[j];simp);have C:k<S.l.length:=f.ks k (by rw[j];simp);have ch:=za f;have a2:=gw f U j an;have a1:=pA f U j;obtain⟨q,R⟩:∃q,S.l.getD top default=q:=⟨_,rfl⟩
 obtain⟨u,B⟩:∃u,S.l.getD k default=u:=⟨_,rfl⟩
 have ab:dg u:=B ▸ a4 k C;have a3:=cJ f ad R;have Y:=cJ f C B;rw[B]at V P Q;rw[R]at T;obtain⟨a0,ao⟩:∃cb,aO a=cb:=⟨_,rfl⟩
 have E:=za (λc=>(show Calls prog 91 #[br u] c λe w'=>e= .returned (.tuple #[a0.val,.bool true])∧zz c w' from by have:=bn u ab c;rw[V]at this;rw[<-ao];exact this));obtain⟨b2,bb,bq,ca,bc,be,bj,bi,bk,bp,bl,bo,b4,b5,b3⟩:=a0;simp only[br,aH.val]at E;have cl:=za (λ(c:World) (h:St w0 p o g gl n d m S c)=>(h.bit C).1);have ck:=za (λ(c:World) (h:St w0 p o g gl n d m S c)=>(show c.cell? ⟨d,top+1,none⟩=some (.bool true)∧c.frozen? ⟨d,top+1,none⟩=false from by have:=h.bit af;rw[ap]at this;exact this));have cj:=za (λ(c:World) (h:St w0 p o g gl n d m ⟨S.l,S.mark.set (top+1) true,S.out,S.ks⟩ c)=>qT h U 2 (by show 2<=S.ks.length;rw[j];simp));have ci:Hid (ii 2 ⟨S.l,S.mark.set (top+1) true,S.out,S.ks⟩=⟨S.l,S.mark.set (top+1) true,(S.out.set top true).set k true,r⟩):=za (by rw[j];rfl);rw[T]at a3;rw[P,Q]at E Y;have cs:(0:Int)<=(top:Int)+1∧(top:Int)+1<(S.l.length:Int):=by omega
 have ct:(0:Int)<=(top:Int)∧(top:Int)<(S.l.length:Int):=by omega
 have cv:(0:Int)<=(k:Int)∧(k:Int)<(S.l.length:Int):=by omega
 clear f j an V ab a4 R B ad C ao T P Q ap af;go_enter func58,ntmps58;go_wp2_with (first
  |(go_at_call 90;(with_reducible refine(a2.out _ ch.out).mono ?_);rintro X cp ⟨rfl,av⟩;have cg:=za av;clear av a2)
  |(go_at_call 90;(with_reducible refine(a1.out _ cg.out).mono ?_);rintro X Z ⟨rfl,s⟩
    have cf:=za s;obtain⟨y,x,v⟩:=s.row;obtain⟨a9,a8,a7,a6,a5⟩:=a3.out _ s;obtain⟨N,M,L,K,J⟩:=Y.out _ s;obtain⟨I,H,G,F,_⟩:=s.size;clear s a1)
  |(go_at_call 91;(with_reducible refine(E.out _).mono ?_);rintro X ba ⟨rfl,W⟩
    have D:=za ((cf.alloc _).next W);have z:=za ((ah.made Z 50 [.int .i64 35,.int .i64 q.a,.int .i64 q.b,.string q.text,.int .i64 q.pos]).below W (ah.made Z 50 _).lt);clear y x v a9 a8 a7 a6 a5 N M L K J I H G F;obtain⟨y,x,v⟩:=D.row;obtain⟨N,M,L,K,J⟩:=Y.out _ D.out;obtain⟨I,H,G,F,_⟩:=D.size;have cn:=z.lt;have b9:=z.cell 0;have b8:=z.cell 1;have b7:=z.cell 3;have b6:=z.cell 4;clear W E))
 obtain⟨A,t,e⟩:∃A,St w0 p o g gl n d m S A∧ba.alloc (.cells #[.int .i64 b2,.string bb,.int .i64 bq,.int .u64 ca,.string bc,.int .i64 be,.int .i64 bj,.int .i64 bi,.int .i64 bk,.slice bp bl bo,.slice b4 b5 b3] 131)=A:=⟨_,D.alloc _,rfl⟩
 rw[e];clear e y x v N M L K J I H G F b9 b8 b7 b6;obtain⟨y,x,v⟩:=t.row;have b1:=cl.out _ t;obtain⟨b0,aa⟩:=ck.out _ t;replace t:=za t;have bt:=aa;go_region
 all_goals
  obtain⟨O,cd,e⟩:∃O,Hid (St w0 p o g gl n d m ⟨S.l,S.mark.set (top+1) true,S.out,S.ks⟩ O)∧(A.setCell ⟨d,top+1,none⟩ (.bool true)).drew=O:=⟨_,za (t.mark_ (top+1) _).drew,rfl⟩
  rw[e];clear e y x v b1 b0 aa bt;go_wp2_with (go_at_call 94;refine(cj.out _ cd.out).mono ?_;rintro X co ⟨rfl,ar⟩;have cc:=za ar;clear ar);go_ret;exact⟨rfl,by rw[<-ci.out];exact cc.out⟩
def pJ(w0 w:World)(o n f gl m c j:Nat)(S:cU)(d:St w0 o n f gl m c j S w)(U:S.l.length<=100000)(top k:Nat)(r:List Nat)(g:S.ks=top::k::r)(ao:S.mark.getD top false=false)(a5:∀i,i<S.l.length->dg (S.l.getD i default))(a:gD)(V:cm (S.l.getD k default)=some a)(T:(S.l.getD top default).op=35)(P:(S.l.getD k default).op=6)(Q:(S.l.getD k default).a=1)(an:top+1<S.l.length)(ar:S.mark.getD (top+1) false=false):Calls prog 58 #[.pointer (some ⟨f,0,none⟩)] w λe w'=>e= .returned (.bool false)∧St w0 o n f gl m c j ⟨S.l,S.mark.set (top+1) (S.mark.getD k false),(S.out.set top true).set k true,r⟩ w':=by
 have af:top<S.l.length:=d.ks top (by rw[g];simp);have C:k<S.l.length:=d.ks k (by rw[g];simp);have ck:=za d;have a3:=gw d U g ao;have a2:=pA d U g;obtain⟨p,R⟩:∃p,S.l.getD top default=p:=⟨_,rfl⟩
 obtain⟨t,B⟩:∃t,S.l.getD k default=t:=⟨_,rfl⟩
 have ad:dg t:=B ▸ a5 k C;have a4:=cJ d af R;have Z:=cJ d C B;rw[B]at V P Q;rw[R]at T;obtain⟨a1,ap⟩:∃cd,aO a=cd:=⟨_,rfl⟩
 have E:=za (λb=>(show Calls prog 91 #[br t] b λe w'=>e= .returned (.tuple #[a1.val,.bool true])∧zz b w' from by have:=bn t ad b;rw[V]at this;rw[<-ap];exact this));obtain⟨b4,be,b0,cc,bi,bj,bl,bk,bo,bt,bp,bq,b6,b7,b5⟩:=a1;simp only[br,aH.val]at E;obtain⟨y,W⟩:∃cf,S.mark.getD k false=cf:=⟨_,rfl⟩
 have a6:=za (λ(b:World) (h:St w0 o n f gl m c j S b)=>(h.bit C).1);have co:=za (λ(b:World) (h:St w0 o n f gl m c j S b)=>(show b.cell? ⟨c,top+1,none⟩=some (.bool false)∧b.frozen? ⟨c,top+1,none⟩=false from by have:=h.bit an;rw[ar]at this;exact this));rw[W]at a6;have cn:=za (λ(b:World) (h:St w0 o n f gl m c j ⟨S.l,S.mark.set (top+1) y,S.out,S.ks⟩ b)=>qT h U 2 (by show 2<=S.ks.length;rw[g];simp));have cl:Hid (ii 2 ⟨S.l,S.mark.set (top+1) y,S.out,S.ks⟩=⟨S.l,S.mark.set (top+1) y,(S.out.set top true).set k true,r⟩):=za (by rw[g];rfl);rw[W];rw[T]at a4;rw[P,Q]at E Z;have cv:(0:Int)<=(top:Int)+1∧(top:Int)+1<(S.l.length:Int):=by omega
 have cC:(0:Int)<=(top:Int)∧(top:Int)<(S.l.length:Int):=by omega
 have cT:(0:Int)<=(k:Int)∧(k:Int)<(S.l.length:Int):=by omega
 clear d g ao V ad a5 R B af C ap T P Q W ar an;go_enter func58,ntmps58;go_wp2_with (first
  |(go_at_call 90;(with_reducible refine(a3.out _ ck.out).mono ?_);rintro Y ct ⟨rfl,a0⟩;have cj:=za a0;clear a0 a3)
  |(go_at_call 90;(with_reducible refine(a2.out _ cj.out).mono ?_);rintro Y aa ⟨rfl,q⟩
    have ci:=za q;obtain⟨x,v,u⟩:=q.row;obtain⟨bb,ba,a9,a8,a7⟩:=a4.out _ q;obtain⟨N,M,L,K,J⟩:=Z.out _ q;obtain⟨I,H,G,F,_⟩:=q.size;clear q a2)
  |(go_at_call 91;(with_reducible refine(E.out _).mono ?_);rintro Y bc ⟨rfl,X⟩
    have D:=za ((ci.alloc _).next X);have z:=za ((ah.made aa 50 [.int .i64 35,.int .i64 p.a,.int .i64 p.b,.string p.text,.int .i64 p.pos]).below X (ah.made aa 50 _).lt);clear x v u bb ba a9 a8 a7 N M L K J I H G F;obtain⟨x,v,u⟩:=D.row;obtain⟨N,M,L,K,J⟩:=Z.out _ D.out;obtain⟨I,H,G,F,_⟩:=D.size;have cp:=z.lt;have cb:=z.cell 0;have ca:=z.cell 1;have b9:=z.cell 3;have b8:=z.cell 4;clear X E))
 obtain⟨A,s,e⟩:∃A,St w0 o n f gl m c j S A∧bc.alloc (.cells #[.int .i64 b4,.string be,.int .i64 b0,.int .u64 cc,.string bi,.int .i64 bj,.int .i64 bl,.int .i64 bk,.int .i64 bo,.slice bt bp bq,.slice b6 b7 b5] 131)=A:=⟨_,D.alloc _,rfl⟩
 rw[e];clear e x v u N M L K J I H G F cb ca b9 b8;obtain⟨x,v,u⟩:=s.row;have b3:=a6.out _ s;obtain⟨b2,ab⟩:=co.out _ s;replace s:=za s;have b1:=ab;go_region
 all_goals
  obtain⟨O,ch,e⟩:∃O,Hid (St w0 o n f gl m c j ⟨S.l,S.mark.set (top+1) y,S.out,S.ks⟩ O)∧(A.setCell ⟨c,top+1,none⟩ (.bool y)).drew=O:=⟨_,za (s.mark_ (top+1) _).drew,rfl⟩
  rw[e];clear e x v u b3 b2 ab b1;go_wp2_with (go_at_call 94;refine(cn.out _ ch.out).mono ?_;rintro Y cs ⟨rfl,av⟩;have cg:=za av;clear av);go_ret;exact⟨rfl,by rw[<-cl.out];exact cg.out⟩
end
section
set_option maxRecDepth 200000
open Go.RowKit Go.Proofs.PeepPlain
def sn(i:au)(c:i.op=6)(w:World):Calls prog 96 #[br i] w λe w'=>e= .returned (.tuple #[(eL i.a).val,.bool true])∧zz w w':=by
 unfold br;rw[c];generalize i.text=s;generalize i.a=a;generalize i.b=b;generalize i.pos=p;clear c;go_enter func96,ntmps96;go_wp2;go_returns;exact⟨rfl,by go_grown⟩
def sM(i:au)(d:i.op≠3)(c:i.op≠6)(w:World):Calls prog 96 #[br i] w λe w'=>e= .returned (.tuple #[aS.val,.bool false])∧zz w w':=by
 have g:(i.op==3)=false:=zh.2 d;have f:(i.op==6)=false:=zh.2 c;clear d c;unfold br;generalize i.text=s;generalize i.a=a;generalize i.b=b;generalize i.pos=p;generalize i.op=o at *
 go_enter func96,ntmps96;go_wp2;go_returns;exact⟨rfl,by go_grown⟩
end
section
open Go.RowKit Go.Proofs.PeepPlain
def FX{s:ByteArray}{k c:Nat}(g:pU s.data.toList)(j:dc 0 s.data.toList<=9223372036854775808)(b:k<s.size)(i:s[k].toNat=c):
 (wrap64 ((c:Int) - 48)=(c:Int) - 48∧((c:Int) - 48) % 256=(c:Int) - 48)∧wrap64 (10 * -((dc 0 (s.data.toList.take k):Nat):Int))=10 * -((dc 0 (s.data.toList.take k):Nat):Int)∧wrap64 (10 * -((dc 0 (s.data.toList.take k):Nat):Int) - ((c:Int) - 48))=10 * -((dc 0 (s.data.toList.take k):Nat):Int) - ((c:Int) - 48)∧48<=c∧(-((dc 0 (s.data.toList.take (k+1)):Nat):Int))=10 * -((dc 0 (s.data.toList.take k):Nat):Int) - ((c:Int) - 48):=by
 have a:k<s.data.toList.length:=by simpa using b
 have e:=fS s k b;have f:=tD s.data.toList k a;have l:=As s.data.toList (k+1);have h:s.data.toList[k]=s[k]:=by
  rw[zo a]at e;exact zj e
 have d:=g _ (zk a);rw[h,i]at f d;generalize dc 0 (s.data.toList.take k)=V at *
 generalize dc 0 (s.data.toList.take (k+1))=V2 at *
 refine⟨?_,?_,?_,d.1,by omega⟩
 ·refine⟨?_,by omega⟩;unfold wrap64;omega
 ·unfold wrap64;omega
 ·unfold wrap64;omega
set_option maxRecDepth 200000 in
def EM(i:au)(n:Int)(l:i.op=3)(g:pU i.text.data.toList)(A:0<i.text.size)(I:i.text.size<=30)(k:dc 0 i.text.data.toList<=9223372036854775807)(w:World):Calls prog 96 #[br i] w λe w'=>e= .returned (.tuple #[(cz (dc 0 i.text.data.toList)).val,.bool true])∧zz w w':=by
 unfold br;rw[l];generalize i.text=s at *
 generalize i.a=a;generalize i.b=b;generalize i.pos=p;have B:=za g;have q:=za k;have G:(0:Int)<(s.size:Int):=by omega
 have H:48<=s[0].toNat:=by
  have z:=fS s 0 A;have:=g s[0] (zU z);omega
 have M:((s[0].toNat:Int)==45)=false:=zh.2 (by omega);have L:¬s[0].toNat=45:=by omega
 clear g k l;go_enter func96,ntmps96;go_wp2_with fail;go_loop [6,7] (λr d=> ∃c:Nat,d= .int .i64 c∧r= .int .i64 (-((dc 0 (s.data.toList.take c):Nat):Int))∧c<=s.size) (λ_ d=>s.size - (intOf d).toNat)
 case atStart=>exact⟨0,rfl,rfl,zu _⟩
 case round=>
  obtain⟨c,rfl,rfl,J⟩:=hrel;by_cases u:c<s.size
  ·obtain⟨m,y⟩:∃m:Nat,s[c].toNat=m:=⟨_,rfl⟩
   have x:=FX B.out (zi q.out (by decide)) u y;obtain⟨⟨F,h⟩,t,f,E,j⟩:=x;have o:=za j;clear j;generalize(dc 0 (s.data.toList.take c))=V at t f o;have C:=za f;have D:=za h;clear f h;go_wp2_with fail;go_round
   case rel=>exact⟨c+1,by go_num,by rw[o.out];exact zp (Value.int IntKind.i64) (by rw[D.out,C.out]),by omega⟩
   case measure=>simp[intOf];omega
  ·obtain rfl:c=s.size:=by omega
   have v:s.data.toList.take s.size=s.data.toList:=List.take_of_length_le (by simp);rw[v];have K:wrap64 ((dc 0 s.data.toList:Nat):Int)=((dc 0 s.data.toList:Nat):Int):=by have:=q.out;unfold wrap64;omega
   go_wp2_with fail;go_returns;exact⟨rfl,by go_grown⟩
set_option maxRecDepth 200000 in
def Ea(i:au)(m:i.op=3)(N:0<i.text.size)(J:i.text.size<=30)(n:i.text[0]=45)(o:pU (i.text.extract 1 i.text.size).data.toList)(l:dc 0 (i.text.extract 1 i.text.size).data.toList<=9223372036854775808)(w:World):Calls prog 96 #[br i] w λe w'=>e= .returned (.tuple #[(cz (-((dc 0 (i.text.extract 1 i.text.size).data.toList:Nat):Int))).val,.bool true])∧zz w w':=by
 unfold br;rw[m];generalize i.text=s at *
 generalize i.a=a;generalize i.b=b;generalize i.pos=p;have u:=za o;have t:=za l;have I:(0:Int)<(s.size:Int):=by omega
 have L:s[0].toNat=45:=by rw[n];rfl
 have M:(1:Int)<=(s.size:Int):=by omega
 have y:(s.extract 1 s.size).size<=30:=by simp[ByteArray.size_extract];omega
 obtain⟨c,h⟩:∃c,s.extract 1 s.size=c:=⟨_,rfl⟩
 rw[h]at u t y ⊢
 have D:=za h;clear o l m n h;go_enter func96,ntmps96;go_wp2_with fail;rw[D.out];go_loop [6,7] (λv f=> ∃d:Nat,f= .int .i64 d∧v= .int .i64 (-((dc 0 (c.data.toList.take d):Nat):Int))∧d<=c.size) (λ_ f=>c.size - (intOf f).toNat)
 case atStart=>exact⟨0,rfl,rfl,zu _⟩
 case round=>
  obtain⟨d,rfl,rfl,K⟩:=hrel;by_cases z:d<c.size
  ·obtain⟨q,C⟩:∃q:Nat,c[d].toNat=q:=⟨_,rfl⟩
   have B:=FX u.out t.out z C;obtain⟨⟨H,j⟩,x,g,G,k⟩:=B;have r:=za k;clear k;generalize(dc 0 (c.data.toList.take d))=V at x g r;have E:=za g;have F:=za j;clear g j;go_wp2_with fail;go_round
   case rel=>exact⟨d+1,by go_num,by rw[r.out];exact zp (Value.int IntKind.i64) (by rw[F.out,E.out]),by omega⟩
   case measure=>simp[intOf];omega
  ·obtain rfl:d=c.size:=by omega
   have A:c.data.toList.take c.size=c.data.toList:=List.take_of_length_le (by simp);rw[A];go_wp2_with fail;go_returns;exact⟨rfl,by go_grown⟩
def tI(i:au)(n:Int)(h:i.op=3)(d:bB i.text=some n)(w:World):Calls prog 96 #[br i] w λe w'=>e= .returned (.tuple #[(cz n).val,.bool true])∧zz w w':=by
 have c:=ku d;have o:=Lib.itoa_length_le n c.2.2.1 c.2.2.2;have k:=mw d;have m:i.text.size=(Lib.itoa n).length:=by rw[<-k];simp
 by_cases j:n<0
 ·have e:=rK d j;have g:(i.text.extract 1 i.text.size).data.toList=Lib.decDigits n.natAbs:=by
   rw[<-eO];show(i.text.data.toList.drop 1).toArray.toList=_;rw[e];rfl
  obtain⟨f,b⟩:=qE n.natAbs;have a:0<i.text.size:=by
   have:=zp List.length e;simp at this;omega
  have l:i.text[0]=45:=by
   have:=fS i.text 0 a;rw[e]at this;exact(zj this).symm
  have:=Ea i h a (by omega) l (by rw[g];exact f) (by rw[g,b];have:=c.2.2.1;omega) w;rw[g,b,show(-((n.natAbs:Nat):Int))=n by omega]at this;exact this
 ·have e:=rV d j;obtain⟨f,b⟩:=qE n.toNat;have a:0<i.text.size:=by
   apply Nat.pos_of_ne_zero;intro a;have:i.text.data.toList=[]:=by
    apply zD;simpa using a
   rw[e]at this;exact(ud n.toNat).ne this
  have:=EM i n h (by rw[e];exact f) a (by omega) (by rw[e,b];have:=c.2.2.2;omega) w;rw[e,b,show((n.toNat:Nat):Int)=n by omega]at this;exact this
end
end Go.Proofs.YtmecmlpoallpcaaGreatDoor

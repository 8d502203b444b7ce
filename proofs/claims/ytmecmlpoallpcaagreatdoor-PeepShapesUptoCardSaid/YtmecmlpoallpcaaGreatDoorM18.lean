/- Parts of the proof: Right OpenProg StkY -/
import Derived.Test.YtmecmlpoallpcaaGreatDoorM14
import Derived.Test.YtmecmlpoallpcaaGreatDoorRows
import Derived.Deep.Slices
import Derived.OpenShut
import Derived.Carry
import Derived.Deep.DeepHandedRow
import Derived.ProofKit
import Derived.Test.YtmecmlpoallpcaaGreatDoorM10
import Derived.Test.YtmecmlpoallpcaaGreatDoorM15
set_option linter.all false
set_option maxHeartbeats 8000000
namespace Go.Proofs.YtmecmlpoallpcaaGreatDoor
open Go.Proofs.Tryz
section
open Go.RowKit Go.Proofs.PeepPlain
def wO(fs:List Fn)(gs:List ByteArray)(w:World)(e:Ending)(w':World):Prop:=
 ((bs fs gs∧bO fs gs=lH∧e= .returned .nilIface)∨(¬bs fs gs∧∃a,e= .returned (.iface 59 (.pointer (some ⟨a,0,none⟩)))∧w.heap.size<=a∧ah w' a 30 (bO fs gs).cells))∧zz w w'
def jO{fs:List Fn}{gs:List ByteArray}{w w':World}{e:Ending}{x:Wr}(a:¬bs fs gs∧bO fs gs=x){g:Nat}(d:e= .returned (.iface 59 (.pointer (some ⟨g,0,none⟩))))(f:zz w w')(c:w.heap.size<=g)(b:ah w' g 30 x.cells):wO fs gs w e w':=by
 obtain⟨a,rfl⟩:=a;exact⟨.inr ⟨a,g,d,c,b⟩,f⟩
structure Small(fs:List Fn)(gs:List ByteArray):Prop where
 nf:fs.length<=2000000
 all:aY fs fs.length<=2000000
 ng:gs.length<=2000000
 names:∀j,(gs.getD j ByteArray.empty).size<=2000000
 each:∀f∈fs,f.name.size<=2000000∧f.taken.length<=2000000
 text:∀f∈fs,∀x∈f.code,x.text.size<=2000000
def yJ(fs:List Fn)(k:Nat):Prop:=∀a,a<k->bR fs a (aB fs a)=true
def tp(fs:List Fn)(gl k:Nat):Prop:=∀a,(hi:a<fs.length)->a<k->fs[a].code.length≠0∧∀b,b<fs[a].code.length->bW fs gl a b=true
def Af(fs:List Fn)(gl i k:Nat):Prop:=∀a,a<k->bW fs gl i a=true
def yA(fs:List Fn)(k:Nat):Prop:=∀a,(hi:a<fs.length)->a<k->PeepPlain.vA E0 fs[a].code∧jJ E0 fs[a].code= -1
def Zz{fs:List Fn}{k:Nat}(c:yJ fs k)(b:bR fs k (aB fs k)=true):yJ fs (k+1):=λa e=>by
 by_cases d:a=k
 ·subst d;exact b
 ·exact c a (by omega)
def Bh{fs:List Fn}{gl i k:Nat}(c:Af fs gl i k)(b:bW fs gl i k=true):Af fs gl i (k+1):=λa e=>by
 by_cases d:a=k
 ·subst d;exact b
 ·exact c a (by omega)
def Aa{fs:List Fn}{gl k:Nat}(g:k<fs.length)(e:tp fs gl k)(d:fs[k].code.length≠0)(c:Af fs gl k fs[k].code.length):tp fs gl (k+1):=λa b h=>by
 by_cases f:a=k
 ·subst f;exact⟨d,c⟩
 ·exact e a b (by omega)
def BI{fs:List Fn}{k:Nat}(f:k<fs.length)(d:yA fs k)(c:PeepPlain.vA E0 fs[k].code∧jJ E0 fs[k].code= -1):yA fs (k+1):=λa b g=>by
 by_cases e:a=k
 ·subst e;exact c
 ·exact d a b (by omega)
def ug{fs:List Fn}{gs:List ByteArray}{k:Nat}(b:tp fs gs.length k)(c:k<=fs.length):∀i,i<k->cX fs gs.length i=true:=λi a=>Gz (by omega) (b i (by omega) a).1 (b i (by omega) a).2
def Bs{fs:List Fn}{k:Nat}(b:yA fs k)(c:k<=fs.length):∀i,i<k->jJ E0 (fs.getD i default).code= -1:=λi a=>by
 rw[aC (by omega)];exact(b i (by omega) a).2
set_option maxRecDepth 20000 in
def ue(fs:List Fn)(gs:List ByteArray)(B GA:Option Addr)(fc gc:Nat)(w:World)(bp:bD w B fs)(ch:bd w GA (gs.map Value.string))(b4:aX w)(P:Small fs gs):
 Calls prog 18 #[.agg #[.slice B fs.length fc,.slice GA gs.length gc]] w (wO fs gs w):=by
 have d0:=za (λ(V:World) (m:zz w V)=>Hi fs B GA fc gs.length gc V (bp.below m) P.nf P.all);have co:=za (λ(V:World) (m:zz w V)=>yL gs GA gc V (ch.below m rfl) P.ng P.names (b4.below m));have a1:=za bp;have bc:=za b4;have a0:=za P;have c8:=ub;clear bp ch b4 P;go_enter func18,ntmps18;go_wp2_with (go_at_call 36;refine(d0.out _ (below1 w _)).mono ?_);rintro l ea ⟨Z,ao⟩
 cases u:dN fs gs.length
 ·rw[u]at Z;obtain⟨Q,g,rfl,e⟩:=Z;have q:=za (And.intro (show ¬bs fs gs from λn=>by rw[n.many]at u;cases u) (rm u));have p:=za (show w.heap.size<=Q from zi (by simp) g);have o:=za e;have y:=za (ac (below1 w _) ao (below1 w _).size);clear ao e g u;go_wp2_with fail;go_ret;exact jO q.out rfl y.out p.out o.out
 ·rw[u]at Z;have dl:l= .returned (.pointer none):=Z;subst dl;have s:=za u;have ec:fs.length<=20000:=(dF u).2.1;have X:=(ah.made w 25 [.slice B fs.length fc,.slice GA gs.length gc]).below ao (ah.made w 25 [.slice B fs.length fc,.slice GA gs.length gc]).lt;have y:=za (ac (below1 w _) ao (below1 w _).size);have c4:=X.lt;have F:=X.cell 0;have E:=X.cell 1;have b2:=za X;clear ao X u Z
  cases D:cB gs
  ·have q:=za (And.intro (show ¬bs fs gs from λn=>by rw[n.globals]at D;cases D) (yg s.out D));have v:=za D;clear D;go_wp2_with (first
    |(go_at_call 37;refine(co.out _ y.out).mono ?_;rw[v.out];rintro l U ⟨rfl,O⟩;have I:=za (ac y.out O y.size);clear O)
    |(go_at_call 38;refine(fQ 130 _ _ (-1) (by omega)).mono ?_;rintro l cT ⟨⟨Q,g,rfl,e⟩,cg⟩;have p:=za g;have o:=za e;have d3:=za (ac I.out cg I.size);clear cg e g))
   go_ret;exact jO q.out rfl d3.out (zi I.size p.out) o.out
  ·have v:=za D;clear D;go_wp2_with (first
    |(go_at_call 37;refine(co.out _ y.out).mono ?_;rw[v.out];rintro l U ⟨rfl,O⟩;have I:=za (ac y.out O y.size);have W:=b2.below O b2.lt;have ci:=za W;have c3:=W.lt;have c2:=W.cell 0;have c1:=W.cell 1;clear O W F E))
   obtain⟨J,bl⟩:∃J,U.heap.size=J:=⟨_,rfl⟩
   have b5:Hid (dm (U.alloc (.map #[] 0)) J []):=za (bl ▸ ke U);have b1:=za (ci.alloc (.map #[] 0));have b7:=za (I.alloc I.size (.map #[] 0));have c7:w.heap.size<J:=by omega
   rw[bl];generalize U.alloc (.map #[] 0)=cT at b5 b1 b7;clear bl c3 c2 c1 ci I c8 c4 b2 y;go_loopw [2,5,28] (λC d7 k wr=> ∃a:Nat,k= .int .i64 a∧C= .nilIface∧a<=fs.length∧Hid (yJ fs a)∧Hid (dm wr J (aB fs a))∧Hid (ah wr w.heap.size 25 [.slice B fs.length fc,.slice GA gs.length gc])∧Hid (zz w wr)) (λ_ _ k _=>fs.length - (intOf k).toNat)
   case atStart=>exact⟨0,rfl,rfl,zu _,za (λt i=>by omega),b5,b1,b7⟩
   case round=>
    clear b5 b1 b7;rename World=>w5;obtain⟨a,rfl,rfl,a5,j,x,f,c⟩:=hrel;have F:=f.cell 0;have E:=f.cell 1;have Y:=f.lt;by_cases d:a<fs.length
    ·have S:=za (BN fs B GA fc gs.length gc a J w w5 (a1.below c.out) bc.out c.out (Nat.le_of_lt c7) d a0.nf (aB fs a) x.out (zi (tA fs a) (by have:=a0.nf;omega)) a0.each)
     cases z:bR fs a (aB fs a)
     ·rw[z]at S;have q:=za (And.intro (show ¬bs fs gs from λn=>by rw[n.heads a d]at z;cases z) (MY s.out v.out j.out d z));clear z;go_wp2_with (first
       |(go_at_call 39;refine S.out.mono ?_;rintro l bi ⟨rfl,a6,M⟩;have a4:=za (c.grown M c.size (λa i=>by injection i with i;omega));clear a6 M S)
       |(go_at_call 38;refine(fQ 130 _ _ (-1) (by omega)).mono ?_;rintro l be ⟨⟨Q,g,rfl,e⟩,an⟩;have p:=za g;have o:=za e;have b8:=za (ac a4.out an a4.size);clear an e g))
      go_ret;exact jO q.out rfl b8.out (zi a4.size p.out) o.out
     ·rw[z]at S;have G:=za (Zz j.out z);clear z;go_wp2_with (go_at_call 39;refine S.out.mono ?_;rintro l bi ⟨rfl,a6,M⟩;have d2:=za a6;have a4:=za (c.grown M c.size (λa i=>by injection i with i;omega));have ds:=za (f.grown M (by intro i;injection i with i;omega));clear a6 M S);go_roundw
      case rel=>exact⟨a+1,by go_num,rfl,by omega,G,d2,ds,a4⟩
      case measure=>simp[intOf];omega
    ·obtain rfl:a=fs.length:=by omega
     clear x d;go_wp2_with fail;have a2:=za j.out;go_loopw [2,6,7,8,43] (λC d6 d5 cv k wr=> ∃a:Nat,k= .int .i64 a∧C= .nilIface∧a<=fs.length∧Hid (tp fs gs.length a)∧Hid (ah wr w.heap.size 25 [.slice B fs.length fc,.slice GA gs.length gc])∧Hid (zz w wr)) (λ_ _ _ _ k _=>fs.length - (intOf k).toNat)
     case atStart=>exact⟨0,rfl,rfl,zu _,za (λt _ i=>by omega),f,c⟩
     case round=>
      clear f c F E Y j;rename World=>bi;obtain⟨a,rfl,rfl,a5,j,f,c⟩:=hrel;have F:=f.cell 0;have E:=f.cell 1;have Y:=f.lt;by_cases d:a<fs.length
      ·have ct:=za (a1.below c.out);obtain⟨bt,bk,rfl,cd,af⟩:=ct.at_ (by omega);obtain⟨bb,ba,a9,a8,a7,ar⟩:=af a d;have r:(0:Int)<=(a:Int)∧(a:Int)<(fs.length:Int):=by omega
       have ad:fs[a].code.length<=60000:=zi (iq d) (dF s.out).2.2.2.1;have dC:=za (a0.text fs[a] (zk d));have av:=za (λbq df=>Aa d j.out bq df);have ck:=za (ug j.out a5);have cp:=za (λ(h:Nat) (ab:h<fs[a].code.length) (wr:World) (m:zz w wr)=>JO fs (some ⟨bt,bk,none⟩) GA fc gs.length gc a h wr (a1.below m) (bc.below m) d (by omega) ab (by omega) (a0.text fs[a] (zk d) _ (zk ab)));obtain⟨b,R⟩:∃b,Hid (fs[a]=b):=⟨_,za rfl⟩
       rw[R.out]at bb ba a9 a8 a7 ar ad dC av cp;clear af j;by_cases L:b.code.length=0
       ·have q:=za (And.intro (show ¬bs fs gs from λn=>n.some_ a d (by rw[R.out];exact L)) (NG s.out v.out a2.out ck.out d (by rw[R.out];exact L)));rw[L]at ar;clear L ad;go_wp2_with (first
         |(go_at_call 38;refine(fQ 130 _ _ (-1) (by omega)).mono ?_;rintro l be ⟨⟨Q,g,rfl,e⟩,an⟩;have p:=za g;have o:=za e;have b8:=za (j7 c.out c.size an);clear an e g))
        go_ret;exact jO q.out rfl b8.out (zi (zi c.size (by simp)) p.out) o.out
       ·have c6:((b.code.length:Int)==0)=false:=zh.2 (by omega);have cn:=za L;clear L;go_wp2_with fail;have b0:=za (f.alloc (.cells #[.string b.name,.int .i64 b.params,.int .i64 b.slots,.slice b.TA b.taken.length b.tc,.int .i64 b.around,.slice b.CA b.code.length b.cc] 47));have b6:=za (c.alloc c.size (.cells #[.string b.name,.int .i64 b.params,.int .i64 b.slots,.slice b.TA b.taken.length b.tc,.int .i64 b.around,.slice b.CA b.code.length b.cc] 47));generalize bi.alloc (.cells #[.string b.name,.int .i64 b.params,.int .i64 b.slots,.slice b.TA b.taken.length b.tc,.int .i64 b.around,.slice b.CA b.code.length b.cc] 47)=be at b0 b6 ⊢
        clear bb ba a9 a8 a7 ar F E Y f c ct cd c6;go_loopw [2,8,58] (λC cv k wr=> ∃h:Nat,k= .int .i64 h∧C= .nilIface∧h<=b.code.length∧Hid (Af fs gs.length a h)∧Hid (ah wr w.heap.size 25 [.slice (some ⟨bt,bk,none⟩) fs.length fc,.slice GA gs.length gc])∧Hid (zz w wr)) (λ_ _ k _=>b.code.length - (intOf k).toNat)
        case atStart=>exact⟨0,rfl,rfl,zu _,za (λt i=>by omega),b0,b6⟩
        case round=>
         clear b0 b6;rename World=>ca;obtain⟨h,rfl,rfl,ab,b3,f,c⟩:=hrel;have F:=f.cell 0;have E:=f.cell 1;have Y:=f.lt;by_cases bo:h<b.code.length
         ·have x:=za (cp.out h bo ca c.out)
          cases A:bW fs gs.length a h
          ·rw[A]at x;have q:=za (And.intro (show ¬bs fs gs from λn=>by rw[n.fine a h d (by rw[R.out];exact bo)]at A;cases A) (M1 s.out v.out a2.out ck.out d (by rw[R.out];exact cn) (by rw[R.out];exact bo) b3.out A));clear A;go_wp2_with (first
            |(go_at_call 40;refine x.out.mono ?_;rintro l cC ⟨rfl,N⟩;have T:=za (ac c.out N c.size);clear N x)
            |(go_at_call 38;refine(tT 130 _ _ (h:Int) (by omega) (by omega) (bc.below T.out)).mono ?_;rintro l c0 ⟨⟨Q,g,rfl,e⟩,ap⟩;have p:=za g;have o:=za e;have b9:=za (ac T.out ap T.size);clear ap e g))
           go_ret;exact jO q.out rfl b9.out (zi T.size p.out) o.out
          ·rw[A]at x;have G:=za (Bh b3.out A);clear A;go_wp2_with (go_at_call 40;refine x.out.mono ?_;rintro l cC ⟨rfl,N⟩;have T:=za (ac c.out N c.size);have dn:=za (f.below N f.lt);clear N x);go_roundw
           case rel=>exact⟨h+1,by go_num,rfl,by omega,G,dn,T⟩
           case measure=>simp[intOf];omega
         ·obtain rfl:h=b.code.length:=by omega
          have G:=za (av.out cn.out b3.out);go_wp2_with fail;go_roundw
          case rel=>exact⟨a+1,by go_num,rfl,by omega,G,f,c⟩
          case measure=>simp[intOf];omega
      ·obtain rfl:a=fs.length:=by omega
       have H:=za j.out;go_wp2_with fail;clear j d;go_loopw [2,9,10,11,75] (λC d4 d9 d8 k wr=> ∃a:Nat,k= .int .i64 a∧C= .nilIface∧a<=fs.length∧Hid (yA fs a)∧Hid (zz w wr)) (λ_ _ _ _ k _=>fs.length - (intOf k).toNat)
       case atStart=>exact⟨0,rfl,rfl,zu _,za (λt _ i=>by omega),c⟩
       case round=>
        clear f c F E Y;rename World=>be;obtain⟨a,rfl,rfl,a5,j,c⟩:=hrel;by_cases d:a<fs.length
        ·have d1:=za (a1.below c.out);obtain⟨bt,bk,rfl,cd,af⟩:=d1.at_ (by omega);obtain⟨bb,ba,a9,a8,a7,ar⟩:=af a d;have r:(0:Int)<=(a:Int)∧(a:Int)<(fs.length:Int):=by omega
         have ad:fs[a].code.length<=60000:=zi (iq d) (dF s.out).2.2.2.1;have cs:=za (λ(wr:World) (m:zz w wr)=>sb fs[a].name fs[a].params fs[a].slots fs[a].around fs[a].TA fs[a].CA fs[a].taken.length fs[a].tc fs[a].cc fs[a].code wr (sW d (H.out a d d).1 (H.out a d d).2) ((a1.below m).code _ (zk d)) (by omega) (tC d s.out (H.out a d d).2));have av:=za (λbq=>BI d j.out bq);have cl:=za (show ¬PeepPlain.vA E0 fs[a].code->¬bs fs gs from λi n=>i (n.fits a d));have cj:=za (λm=>Fy s.out v.out a2.out (ug H.out (zb _)) d (Bs j.out a5) m);generalize fs[a]=b at bb ba a9 a8 a7 ar ad cs av cl cj;clear af ad j;go_wp2_with (go_at_call 41;refine(cs.out _ (c.alloc c.size _)).mono ?_);rintro l ca ⟨⟨bj,rfl,⟨e,aa⟩,cb,c9⟩,cf⟩;have a3:=za (j7 c.out c.size cf);clear cf;by_cases K:bj= -1
         ·have G:=za (av.out ⟨e.1 K,aa.symm.trans K⟩);subst K;clear e cb c9 aa;go_wp2_with fail;go_roundw
          case rel=>exact⟨a+1,by go_num,rfl,by omega,G,a3⟩
          case measure=>simp[intOf];omega
         ·have q:=za (And.intro (cl.out (λi=>K (e.2 i))) (by have:=cj.out (by rw[<-aa];exact K);rw[<-aa]at this;exact this));have c5:0<=bj:=by omega
          clear e cb K aa;go_wp2_with (first
           |(go_at_call 38;refine(tT 130 _ _ bj c5 (by omega) (bc.below a3.out)).mono ?_;rintro l c0 ⟨⟨Q,g,rfl,e⟩,ap⟩;have p:=za g;have o:=za e;have b9:=za (ac a3.out ap a3.size);clear ap e g))
          go_ret;exact jO q.out rfl b9.out (zi a3.size p.out) o.out
        ·obtain rfl:a=fs.length:=by omega
         have dA:=za (show bs fs gs from⟨s.out,v.out,a2.out,λt r=>(H.out t r r).1,λt h r ab=>(H.out t r r).2 h ab,λt r=>(j.out t r r).1⟩);have dB:=za (Ae s.out v.out a2.out (ug H.out (zb _)) (Bs j.out (zb _)));go_wp2_with fail;go_ret;exact⟨.inl ⟨dA.out,dB.out,rfl⟩,c⟩
end
section
open Go.ChangeShapes Go.WideShapes Go.ChangeAt Go.RowKit Go.Deep Go.Proofs.PeepPlain
theorem gZ(f:Nat->List Value)(a:Nat):∀n,(∀i,i<n->(f i).length=a)->((List.range n).flatMap f).length=n * a
 |0,_=>by simp
 |n+1,h=>by
  rw[List.range_succ,List.flatMap_append,zw,gZ f a n (λi b=>h i (by omega))];simp[h n (by omega),Nat.succ_mul]
theorem nT(f:Nat->List Value)(a:Nat):∀n,(∀i,i<n->(f i).length=a)->∀i r,i<n->r<a->((List.range n).flatMap f)[i * a+r]?=(f i)[r]?
 |0,_,i,r,b,_=>absurd b (Nat.not_lt_zero _)
 |n+1,h,i,r,b,hr=>by
  have c:=gZ f a n (λi b=>h i (by omega));rw[List.range_succ,List.flatMap_append];by_cases d:i<n
  ·rw[zS (by
    rw[c];have:(i+1) * a<=n * a:=Nat.mul_le_mul_right a d;rw[Nat.succ_mul]at this;omega)]
   exact nT f a n (λi b=>h i (by omega)) i r d hr
  ·obtain rfl:i=n:=by omega
   rw[zJ (by rw[c];omega),c,Nat.add_sub_cancel_left];simp
def BA{w:World}{a:Addr}{b n:Nat}(p:0<b)(f:Nat->List Value)(x:∀i,i<n->w.cells? 0 (a.add (i * b)) b=some (f i)):bd w (some a) ((List.range n).flatMap f):=by
 have m:∀i,i<n->(f i).length=b:=λi o=>(World.cells?_some (x i o)).2.1;have v:∀i,i<n->∀d,d<b->w.cell? (a.add (i * b+d))=(f i)[d]?:=λi o d k=>by
  have:=(World.cells?_some (x i o)).2.2 d k;rwa [add_add]at this
 intro u;rw[gZ f b n m]at u;have l:0<n:=by
  rcases Nat.eq_zero_or_pos n with e|e
  ·subst e;simp at u
  ·exact e
 have z:=v 0 l 0 p;obtain⟨g,j,h⟩:=a;have r:w.cell? ⟨g,j,h⟩=some ((f 0)[0]'(by rw[m 0 l];exact p)):=by
  have e:(⟨g,j,h⟩:Addr).add (0 * b+0)=⟨g,j,h⟩:=by simp[Addr.add]
  rw[e]at z;rw[z,zo]
 have A:h=none:=World.cell?_spot r;subst A;refine⟨g,j,rfl,?_,λc E s=>?_⟩
 ·apply Nat.lt_of_not_le;intro C;have l:w.heap[g]?=none:=Array.getElem?_eq_none C;simp[World.cell?,l]at r
 ·have B:c<n * b:=by rw[<-gZ f b n m];exact(zB.1 s).1
  have t:c / b<n:=Nat.div_lt_of_lt_mul (by rw[Nat.mul_comm];exact B);have k:=Nat.mod_lt c p;have q:=v (c / b) t (c % b) k;have D:c / b * b+c % b=c:=by rw[Nat.mul_comm];exact Nat.div_add_mod c b
  have y:=nT f b n m (c / b) (c % b) t k;rw[D]at q y;rw[add_plain]at q;rw[q,<-y];exact s
theorem AS{H:Type}{a:Type}(m:a->Nat):∀(l:List a) (D:Nat->DataW H),(∀i,(b:i<l.length)->m l[i]<=Rows.uptoBulk (D i))->(l.map m).sum<=Rows.uptoBulkAll ((List.range l.length).map D)
 | [],_,_=>zu _
 |y::l,D,h=>by
  have d:=h 0 (by simp);have f:=AS m l (λi=>D (i+1)) (λi b=>by
   have c:=h (i+1) (by simpa using b);simp only[List.getElem_cons_succ]at c;exact c)
  simp only[List.length_cons,List.range_succ_eq_map,List.map_cons,List.map_map,Rows.uptoBulkAll,List.sum_cons];simp only[List.getElem_cons_zero]at d;have e:(D ∘ Nat.succ)=λi=>D (i+1):=rfl;rw[e];omega
def qI{b:Type}(m:b->Nat){l:List b}{c:b}(a:c∈l):m c<=(l.map m).sum:=by
 induction l with
 |nil=>cases a
 |cons x l ih=>
  simp only[List.map_cons,List.sum_cons];rcases zC.1 a with rfl|a
  ·omega
  ·have:=ih a;omega
def gu{b:Type}(m:b->Nat)(l:List b)(c:∀a∈l,1<=m a):l.length<=(l.map m).sum:=by
 induction l with
 |nil=>simp
 |cons x l ih=>
  have:=c x (by simp);have:=ih (λa d=>c a (by simp[d]));simp only[List.map_cons,List.sum_cons,List.length_cons];omega
def AX{a:Type}(c:a->Value)(l:List a):l.map c=l.flatMap (λx=> [c x]):=by
 induction l with
 |nil=>rfl
 |cons x l ih=>simp only[List.map_cons,List.flatMap_cons,ih,List.singleton_append]
section
variable{H:Type}{enc:TypeId × Value->H}{w:World}
def ld{d:Type}[Inhabited d]{t e K:Nat}(ht:prog.underlying t=some (.slice e))(hK:prog.cellsOf e=K)(hK0:0<K)(c:d->List Value)(m:d->Nat)(P:d->Prop)
 (hel:∀n h x,DataW.trod enc prog w 0 (λ_=>true) true n e h=some x->∃b,h=c b∧m b<=Rows.uptoBulk x.1∧P b)
 {n:Nat}{h:List Value}{x:DataW H × List MemPlace}(k:DataW.trod enc prog w 0 (λ_=>true) true n t h=some x):
 ∃(p:Option Addr) (l:List d) (cap:Nat),h=[.slice p l.length cap]∧bd w p (l.flatMap c)∧(l.map m).sum+1<=Rows.uptoBulk x.1∧(∀b∈l,P b)∧l.length<=cap∧cap<=maxLen∧(p=none->cap=0):=by
 rcases open_slice ht k with⟨rfl,rfl⟩|⟨r,g,cap,F,G,s,J,rfl,_,A,z,y,rfl,v⟩
 ·exact⟨none,[],0,rfl,bd.none_ _ _,by simp[Rows.uptoBulk],by simp,zb _,zu _,λ_=>rfl⟩
 ·have E:∀a,a<g->∃b:d,w.cells? 0 (r.add (a * K)) K=some (c b)∧m b<=Rows.uptoBulk (s a)∧P b:=by
   intro a f;obtain⟨I,q,D⟩:=v a (by rw[y];split<;>omega);rw[hK]at q;obtain⟨b,rfl,C,B⟩:=hel _ _ _ D;exact⟨b,q,C,B⟩
  obtain⟨i,j⟩:=choose_lt E;have o:((List.range g).map i).length=g:=by simp
  refine⟨some r,(List.range g).map i,cap,by rw[o],?_,?_,?_,by rw[o];exact A,z,λk=>by cases k⟩
  ·rw[List.flatMap_map];exact BA hK0 (λa=>c (i a)) (λa f=>(j a f).1)
  ·have:=AS m ((List.range g).map i) s (λa f=>by simpa using(j a (by simpa using f)).2.1);rw[o]at this;simp only[Rows.uptoBulk];omega
  ·intro b u;obtain⟨a,f,rfl⟩:=List.mem_map.1 u;exact(j a (by simpa using f)).2.2
def E1:prog.cellsOf 3=1:=by kernel_rfl
def No:prog.cellsOf 48=1:=by kernel_rfl
def DD:prog.cellsOf 9=1:=by kernel_rfl
def NU:prog.cellsOf 44=1:=by kernel_rfl
def MU:prog.cellsOf 45=1:=by kernel_rfl
def NN:prog.cellsOf 22=1:=by kernel_rfl
def MB:prog.cellsOf 23=1:=by kernel_rfl
def Gk:prog.cellsOf 50=5:=by kernel_rfl
def GB:prog.cellsOf 47=6:=by kernel_rfl
def JV(n:Int):Prop:= -9223372036854775808<=n∧n<=9223372036854775807
def ny{n:Int}(a:(Lit.int .i64 n).wf=true):JV n:=by
 have:=bounds_i64 a;unfold JV;omega
def Mh(e:Nat)(b:List Value)(x:DataW H × List MemPlace)(d:DataW.trod enc prog w 0 (λ_=>true) true e 3 b=some x):∃a:Int,b=[.int .i64 a]∧1<=Rows.uptoBulk x.1∧JV a:=by
 obtain⟨c,rfl,f,wf⟩:=DataW.trod_int underlying3 d;exact⟨c,rfl,by simp[f,Rows.uptoBulk],ny wf⟩
def BH(e:Nat)(c:List Value)(x:DataW H × List MemPlace)(d:DataW.trod enc prog w 0 (λ_=>true) true e 9 c=some x):∃b:ByteArray,c=[.string b]∧b.size+1<=Rows.uptoBulk x.1∧True:=by
 obtain⟨a,rfl,f,_⟩:=DataW.trod_string underlying9 d;have g:a.data.toList.length=a.size:=Array.length_toList;exact⟨a,rfl,by simp only[f,Rows.uptoBulk];omega,trivial⟩
def Pq(e:au):Prop:=JV e.op∧JV e.a∧JV e.b∧JV e.pos
set_option maxRecDepth 200000 in
def Li(C:Nat)(d:List Value)(x:DataW H × List MemPlace)(k:DataW.trod enc prog w 0 (λ_=>true) true C 50 d=some x):∃b:au,d=aZ b∧b.text.size+1<=Rows.uptoBulk x.1∧Pq b:=by
 obtain⟨q,F,_,rfl,e,B,a⟩:=DataW.trod_struct underlying50 k;rw[Gk]at e;clear k
 match d,e,q,B with
 | [a0,a1,a2,a3,a4],_,[x0,x1,x2,x3,x4],_=>
   have p:=a 0 _ rfl;have o:=a 1 _ rfl;have n:=a 2 _ rfl;have m:=a 3 _ rfl;have l:=a 4 _ rfl;clear a;simp[E1,DD,No]at p o n m l;obtain⟨A,j,_,u⟩:=DataW.trod_int underlying48 p;obtain⟨z,i,_,t⟩:=DataW.trod_int underlying3 o;obtain⟨y,h,_,s⟩:=DataW.trod_int underlying3 n;obtain⟨c,g,D,_⟩:=DataW.trod_string underlying9 m;obtain⟨v,f,_,r⟩:=DataW.trod_int underlying3 l;simp at j i h g f;subst j i h g f;refine⟨⟨A,z,y,c,v⟩,rfl,?_,ny u,ny t,ny s,ny r⟩;have E:c.data.toList.length=c.size:=Array.length_toList;simp only[List.map_cons,List.map_nil,Rows.uptoBulk,Rows.uptoBulkAll,D];omega
def eh(f:Fn):Nat:=f.name.size+f.taken.length+(f.code.map λa=>a.text.size+1).sum+1
structure Pm(w:World)(f:Fn):Prop where
 code:bX w f.CA f.code
 taken:bd w f.TA (f.taken.map (Value.int .i64))
 ints:JV f.params∧JV f.slots∧JV f.around
 each:∀x∈f.code,Pq x
 tints:∀t∈f.taken,JV t
 codeCap:f.code.length<=f.cc∧f.cc<=maxLen∧(f.CA=none->f.cc=0)
 takenCap:f.taken.length<=f.tc∧f.tc<=maxLen∧(f.TA=none->f.tc=0)
set_option maxRecDepth 200000 in
def Ny(G:Nat)(d:List Value)(x:DataW H × List MemPlace)(n:DataW.trod enc prog w 0 (λ_=>true) true G 47 d=some x):∃b:Fn,d=dy b∧eh b<=Rows.uptoBulk x.1∧Pm w b:=by
 obtain⟨u,f,_,rfl,g,F,a⟩:=DataW.trod_struct underlying47 n;rw[GB]at g;clear n
 match d,g,u,F with
 | [a0,a1,a2,a3,a4,a5],_,[x0,x1,x2,x3,x4,x5],_=>
   have t:=a 0 _ rfl;have s:=a 1 _ rfl;have r:=a 2 _ rfl;have q:=a 3 _ rfl;have p:=a 4 _ rfl;have o:=a 5 _ rfl;clear a;simp[E1,DD,NU,MU]at t s r q p o;obtain⟨c,m,I,_⟩:=DataW.trod_string underlying9 t;obtain⟨E,l,_,z⟩:=DataW.trod_int underlying3 s;obtain⟨D,k,_,y⟩:=DataW.trod_int underlying3 r;obtain⟨O,e,A,j,t1,t2,t3,B⟩:=ld underlying44 E1 (by decide) (λf:Int=> [Value.int .i64 f]) (λ_=>1) JV Mh q;obtain⟨C,i,_,v⟩:=DataW.trod_int underlying3 p;obtain⟨P,J,K,h,N,S,M,L⟩:=ld underlying45 Gk (by decide) aZ (λx=>x.text.size+1) Pq Li o;simp at m l k j i h;subst m l k j i h;refine⟨⟨c,E,D,O,e,A,C,P,J,K⟩,rfl,?_,⟨N,?_,⟨ny z,ny y,ny v⟩,M,t3,L,B⟩⟩
   ·have Q:c.data.toList.length=c.size:=Array.length_toList;have R:=gu (λ_:Int=>1) e (λ_ _=>zb _);simp only[List.map_cons,List.map_nil,Rows.uptoBulk,Rows.uptoBulkAll,I,eh];omega
   ·rw[AX];exact t1
def xW(fs:List Fn):aY fs fs.length<=(fs.map eh).sum:=by
 unfold aY;rw[List.take_length]
 induction fs with
 |nil=>simp
 |cons f fs ih=>
  have:=gu (λa:au=>a.text.size+1) f.code (λ_ _=>by omega);have b:f.code.length<=eh f:=by unfold eh;omega
  simp only[List.map_cons,List.sum_cons];omega
def J7{fs:List Fn}{gs:List ByteArray}{n:Nat}(m:(fs.map eh).sum+(gs.map λs=>s.size+1).sum<=n)(i:n<=2000000):Small fs gs where
 nf:=by have:=gu eh fs (λa _=>by unfold eh;omega);omega
 all:=by have:=xW fs;omega
 ng:=by have:=gu (λs:ByteArray=>s.size+1) gs (λ_ _=>by omega);omega
 names:=λe=>by
  by_cases d:e<gs.length
  ·have:=qI (λs:ByteArray=>s.size+1) (zk d)
   rw[zd,zo d]
   simp only[Option.getD_some]
   omega
  ·rw[zd,zM (by omega)]
   exact zu _
 each:=λa c=>by
  have:=qI eh c
  have h:a.name.size<=eh a∧a.taken.length<=eh a:=by unfold eh;omega
  omega
 text:=λa c b f=>by
  have l:=qI eh c
  have g:=qI (λb:au=>b.text.size+1) f
  have k:(a.code.map λb=>b.text.size+1).sum<=eh a:=by unfold eh;omega
  have j:b.text.size+1<=(a.code.map λb=>b.text.size+1).sum:=g
  omega
set_option maxRecDepth 200000 in
def GL{g:Value}{d:DataW H}{t:List MemPlace}(B:DataW.Trod enc prog w 0 (λ_=>true) true 25 g d t){base:Nat}
 (k:Value.okWide prog w .any base 25 g)(A:Rows.uptoBulk d<=2000000):
 ∃(fs:List Fn) (gs:List ByteArray) (b GA:Option Addr) (fc gc:Nat),g= .agg #[.slice b fs.length fc,.slice GA gs.length gc]∧bD w b fs∧bd w GA (gs.map Value.string)∧Small fs gs∧(∀f∈fs,Pm w f)∧(fs.length<=fc∧fc<=maxLen∧(b=none->fc=0))∧(gs.length<=gc∧gc<=maxLen∧(GA=none->gc=0))∧(fs.map eh).sum+(gs.map λs=>s.size+1).sum<=Rows.uptoBulk d:=by
 obtain⟨q,rfl,l⟩:=okWide_struct underlying25 k;obtain⟨J,a⟩:=B;obtain⟨i,u,_,j,y,v,e⟩:=DataW.trod_struct underlying25 a;have z:d= .agg (i.map (·.1)):=((Prod.mk.injEq ..).mp j).1;subst z;obtain⟨c,rfl⟩:∃c:List Value,q=c.toArray:=⟨q.toList,by simp⟩
 have E:prog.cellsOf 25=2:=by kernel_rfl
 have x:c.length=2:=by simpa[E]using l
 simp only[Value.cells,List.toList_toArray]at e;clear j a y l k
 match c,x,i,v with
 | [a0,r],_,[x0,x1],_=>
   have p:=e 0 _ rfl;have o:=e 1 _ rfl;clear e;simp[NN,MB]at p o;obtain⟨b,fs,fc,n,r,K,h,F⟩:=ld underlying22 GB (by decide) dy eh (Pm w) Ny p;obtain⟨GA,gs,gc,m,D,I,G,C⟩:=ld underlying23 DD (by decide) (λs:ByteArray=> [Value.string s]) (λs=>s.size+1) (λ_=>True) BH o;simp at n m;subst n m;simp only[List.map_cons,List.map_nil,Rows.uptoBulk,Rows.uptoBulkAll]at A;refine⟨fs,gs,b,GA,fc,gc,rfl,⟨r,λf a=>(h f a).code,λf a=>(h f a).taken⟩,?_,J7 (n:=2000000) (by omega) (zb _),h,F,C,?_⟩
   ·rw[AX];exact D
   ·simp only[List.map_cons,List.map_nil,Rows.uptoBulk,Rows.uptoBulkAll];omega
def Fi{fs:List Fn}{n:Nat}(d:(fs.map eh).sum<=n):fs.length<=n∧∀f∈fs,f.taken.length<=n∧f.code.length<=n:=by
 refine⟨?_,λf b=>?_⟩
 ·have:=gu eh fs (λf _=>by unfold eh;omega);omega
 ·have c:=zi (qI eh b) d;have e:=gu (λa:au=>a.text.size+1) f.code (λ_ _=>by omega);unfold eh at c;omega
end
end
section
open Go.RowKit Go.Proofs.PeepPlain
def IV(w:World)(e:Ending)(w':World):Prop:=∃a,e= .returned (.pointer (some ⟨a,0,none⟩))∧cQ w.heap.size [] w' a [[]]∧zz w w'
def Lu:mQ [[]]:=⟨rfl,by simp,λb c a=>by simp at a⟩
def s8(w:World)(B:Nat)(c:B<=w.heap.size)(e:TypeId)(size:Nat)(a:List Value)(b:a.length=1 * size):(w.alloc (.cells a.toArray e)).ownsRow B e size (.slice (some ⟨w.heap.size,0,none⟩) 1 1) 1 a:=by
 have:=World.ownsRow_lit (base:=B) (e:=e) (size:=size) w a.toArray 1 c (by unfold maxLen;omega) (by simpa using b);simpa using this
def Mo(w:World):cQ w.heap.size [] (((((w.alloc (.cells #[.int .i64 (-1)] 3)).alloc (.cells #[.int .i64 0] 3)).alloc (.cells #[.int .i64 0] 3)).alloc (.cells #[.int .i64 0,.int .i64 0,.int .i64 0] 118)).alloc (.cells #[.slice (some ⟨w.heap.size,0,none⟩) 1 1,.slice (some ⟨w.heap.size+1,0,none⟩) 1 1,.slice (some ⟨w.heap.size+1+1,0,none⟩) 1 1,.slice (some ⟨w.heap.size+1+1+1,0,none⟩) 1 1] 85)) (w.heap.size+1+1+1+1) [[]]:=by
 have l:=s8 w w.heap.size (zb _) 3 1 [.int .i64 (-1)] rfl;have i:=s8 (w.alloc (.cells #[.int .i64 (-1)] 3)) w.heap.size (by simp) 3 1 [.int .i64 0] rfl;have h:=s8 ((w.alloc (.cells #[.int .i64 (-1)] 3)).alloc (.cells #[.int .i64 0] 3)) w.heap.size (by simp;omega) 3 1 [.int .i64 0] rfl;have g:=s8 (((w.alloc (.cells #[.int .i64 (-1)] 3)).alloc (.cells #[.int .i64 0] 3)).alloc (.cells #[.int .i64 0] 3)) w.heap.size (by simp;omega) 118 3 [.int .i64 0,.int .i64 0,.int .i64 0] rfl;have f:=ah.made ((((w.alloc (.cells #[.int .i64 (-1)] 3)).alloc (.cells #[.int .i64 0] 3)).alloc (.cells #[.int .i64 0] 3)).alloc (.cells #[.int .i64 0,.int .i64 0,.int .i64 0] 118)) 85 [.slice (some ⟨w.heap.size,0,none⟩) 1 1,.slice (some ⟨w.heap.size+1,0,none⟩) 1 1,.slice (some ⟨w.heap.size+1+1,0,none⟩) 1 1,.slice (some ⟨w.heap.size+1+1+1,0,none⟩) 1 1];simp only[World.size_alloc]at i h g f;refine⟨Lu,_,_,_,_,⟨f,λj b=>?_,λa m d o r=>?_,λj b=>?_,by omega,by simp,λj b p c=>by simp,λq n=>by simp at n⟩⟩
 ·simp only[ij,zC,List.not_mem_nil,or_false]at b;rcases b with rfl|rfl|rfl|rfl
  ·exact(((zX l _).alloc _).alloc _).alloc _
  ·exact((zX i _).alloc _).alloc _
  ·exact(zX h _).alloc _
  ·exact zX g _
 ·have s:(ij (.slice (some ⟨w.heap.size,0,none⟩) 1 1) (.slice (some ⟨w.heap.size+1,0,none⟩) 1 1) (.slice (some ⟨w.heap.size+1+1,0,none⟩) 1 1) (.slice (some ⟨w.heap.size+1+1+1,0,none⟩) 1 1) [[]]).length=4:=rfl;have k:∀a (d:a<4),(ij (.slice (some ⟨w.heap.size,0,none⟩) 1 1) (.slice (some ⟨w.heap.size+1,0,none⟩) 1 1) (.slice (some ⟨w.heap.size+1+1,0,none⟩) 1 1) (.slice (some ⟨w.heap.size+1+1+1,0,none⟩) 1 1) [[]])[a].v.ownBlock=some (w.heap.size+a):=by
   intro a d;have:a=0∨a=1∨a=2∨a=3:=by omega
   rcases this with rfl|rfl|rfl|rfl<;>rfl
  intro p c e;rw[k a d]at c;rw[k m o]at e;injection c with c;injection e with e;omega
 ·simp only[ij,zC,List.not_mem_nil,or_false]at b;rcases b with rfl|rfl|rfl|rfl<;>(simp only[Value.ownBlock,ne_eq,Option.some.injEq];omega)
def Fq(w:World):Calls prog 50 #[] w (IV w):=by
 have a:=za (Mo w);go_enter func50,ntmps50;go_wp2_with fail;go_ret;exact⟨_,rfl,a.out,by go_grown⟩
def mr{x a u b:Int}(d:x=u)(c:a=b):Ending.returned (.tuple #[.int .i64 x,.int .i64 a])= .returned (.tuple #[.int .i64 u,.int .i64 b]):=by rw[d,c]
def FQ(i:au):Value:= .tuple #[.int .i64 (ai i.op i.a i.b).1,.int .i64 (ai i.op i.a i.b).2]
set_option maxRecDepth 20000 in
def sB(i:au)(w:World)(g:1<=i.op)(f:i.op<=53)(d:0<=i.a∧i.a<=100000)(c:0<=i.b∧i.b<=3):Calls prog 85 #[br i] w λe w'=>e= .returned (FQ i)∧zz w w':=by
 obtain⟨op,a,b,m,pos⟩:=i;dsimp only at g f d c;unfold br FQ;dsimp only;have k:op=1∨op=2∨op=3∨op=4∨op=5∨op=6∨op=7∨op=8∨op=9∨op=10∨op=11∨op=12∨op=13∨op=14∨op=15∨op=16∨op=17∨op=18∨op=19∨op=20∨op=21∨op=22∨op=23∨op=24∨op=25∨op=26∨op=27∨op=28∨op=29∨op=30∨op=31∨op=32∨op=33∨op=34∨op=35∨op=36∨op=37∨op=38∨op=39∨op=40∨op=41∨op=42∨op=43∨op=44∨op=45∨op=46∨op=47∨op=48∨op=49∨op=50∨op=51∨op=52∨op=53:=by omega
 rcases k with rfl|rfl|rfl|rfl|rfl|rfl|rfl|rfl|rfl|rfl|rfl|rfl|rfl|rfl|rfl|rfl|rfl|rfl|rfl|rfl|rfl|rfl|rfl|rfl|rfl|rfl|rfl|rfl|rfl|rfl|rfl|rfl|rfl|rfl|rfl|rfl|rfl|rfl|rfl|rfl|rfl|rfl|rfl|rfl|rfl|rfl|rfl|rfl|rfl|rfl|rfl|rfl|rfl
 ·have e:ai 1 a b=(0,0):=by simp[ai]
  rw[e];clear e g f d c;go_enter func85,ntmps85;go_wp2_with fail;go_ret2;exact⟨rfl,below1 w _⟩
 ·have e:ai 2 a b=(0,0):=by simp[ai]
  rw[e];clear e g f d c;go_enter func85,ntmps85;go_wp2_with fail;go_ret2;exact⟨rfl,below1 w _⟩
 ·have e:ai 3 a b=(0,1):=by simp[ai]
  rw[e];clear e g f d c;go_enter func85,ntmps85;go_wp2_with fail;go_ret2;exact⟨rfl,below1 w _⟩
 ·have e:ai 4 a b=(0,1):=by simp[ai]
  rw[e];clear e g f d c;go_enter func85,ntmps85;go_wp2_with fail;go_ret2;exact⟨rfl,below1 w _⟩
 ·have e:ai 5 a b=(0,1):=by simp[ai]
  rw[e];clear e g f d c;go_enter func85,ntmps85;go_wp2_with fail;go_ret2;exact⟨rfl,below1 w _⟩
 ·have e:ai 6 a b=(0,1):=by simp[ai]
  rw[e];clear e g f d c;go_enter func85,ntmps85;go_wp2_with fail;go_ret2;exact⟨rfl,below1 w _⟩
 ·have e:ai 7 a b=(0,1):=by simp[ai]
  rw[e];clear e g f d c;go_enter func85,ntmps85;go_wp2_with fail;go_ret2;exact⟨rfl,below1 w _⟩
 ·have e:ai 8 a b=(0,1):=by simp[ai]
  rw[e];clear e g f d c;go_enter func85,ntmps85;go_wp2_with fail;go_ret2;exact⟨rfl,below1 w _⟩
 ·have e:ai 9 a b=(0,1):=by simp[ai]
  rw[e];clear e g f d c;go_enter func85,ntmps85;go_wp2_with fail;go_ret2;exact⟨rfl,below1 w _⟩
 ·have e:ai 10 a b=(0,1):=by simp[ai]
  rw[e];clear e g f d c;go_enter func85,ntmps85;go_wp2_with fail;go_ret2;exact⟨rfl,below1 w _⟩
 ·have e:ai 11 a b=(0,1):=by simp[ai]
  rw[e];clear e g f d c;go_enter func85,ntmps85;go_wp2_with fail;go_ret2;exact⟨rfl,below1 w _⟩
 ·have e:ai 12 a b=(1,0):=by simp[ai]
  rw[e];clear e g f d c;go_enter func85,ntmps85;go_wp2_with fail;go_ret2;exact⟨rfl,below1 w _⟩
 ·have e:ai 13 a b=(1,0):=by simp[ai]
  rw[e];clear e g f d c;go_enter func85,ntmps85;go_wp2_with fail;go_ret2;exact⟨rfl,below1 w _⟩
 ·have e:ai 14 a b=(1,0):=by simp[ai]
  rw[e];clear e g f d c;go_enter func85,ntmps85;go_wp2_with fail;go_ret2;exact⟨rfl,below1 w _⟩
 ·have e:ai 15 a b=(1,0):=by simp[ai]
  rw[e];clear e g f d c;go_enter func85,ntmps85;go_wp2_with fail;go_ret2;exact⟨rfl,below1 w _⟩
 ·have e:ai 16 a b=(1,0):=by simp[ai]
  rw[e];clear e g f d c;go_enter func85,ntmps85;go_wp2_with fail;go_ret2;exact⟨rfl,below1 w _⟩
 ·have e:ai 17 a b=(1,2):=by simp[ai]
  rw[e];clear e g f d c;go_enter func85,ntmps85;go_wp2_with fail;go_ret2;exact⟨rfl,below1 w _⟩
 ·have e:ai 18 a b=(1,1):=by simp[ai]
  rw[e];clear e g f d c;go_enter func85,ntmps85;go_wp2_with fail;go_ret2;exact⟨rfl,below1 w _⟩
 ·have e:ai 19 a b=(2,1):=by simp[ai]
  rw[e];clear e g f d c;go_enter func85,ntmps85;go_wp2_with fail;go_ret2;exact⟨rfl,below1 w _⟩
 ·have e:ai 20 a b=(1,1):=by simp[ai]
  rw[e];clear e g f d c;go_enter func85,ntmps85;go_wp2_with fail;go_ret2;exact⟨rfl,below1 w _⟩
 ·have e:ai 21 a b=(1,1):=by simp[ai]
  rw[e];clear e g f d c;go_enter func85,ntmps85;go_wp2_with fail;go_ret2;exact⟨rfl,below1 w _⟩
 ·have e:ai 22 a b=(1,1):=by simp[ai]
  rw[e];clear e g f d c;go_enter func85,ntmps85;go_wp2_with fail;go_ret2;exact⟨rfl,below1 w _⟩
 ·have e:ai 23 a b=(0,1):=by simp[ai]
  rw[e];clear e g f d c;go_enter func85,ntmps85;go_wp2_with fail;go_ret2;exact⟨rfl,below1 w _⟩
 ·have e:ai 24 a b=(2,1):=by simp[ai]
  rw[e];clear e g f d c;go_enter func85,ntmps85;go_wp2_with fail;go_ret2;exact⟨rfl,below1 w _⟩
 ·have e:ai 25 a b=(2,2):=by simp[ai]
  rw[e];clear e g f d c;go_enter func85,ntmps85;go_wp2_with fail;go_ret2;exact⟨rfl,below1 w _⟩
 ·have l:b=0∨b=1∨b=2∨b=3:=by omega
  rcases l with rfl|rfl|rfl|rfl
  ·have e:ai 26 a 0=(a+1,1):=by simp[ai]
   have j:wrap64 (wrap64 (1+a) - wrap64 (bits BinOp.and IntKind.i64 0 1))=a+1:=by
    rw[show wrap64 (bits BinOp.and IntKind.i64 0 1)=0 from by kernel_rfl];unfold wrap64;omega
   have h:=za j;rw[e];clear e g f d c j;go_enter func85,ntmps85;go_wp2_with fail;go_ret2;exact⟨mr h.out rfl,below1 w _⟩
  ·have e:ai 26 a 1=(a,1):=by simp[ai]
   have j:wrap64 (wrap64 (1+a) - wrap64 (bits BinOp.and IntKind.i64 1 1))=a:=by
    rw[show wrap64 (bits BinOp.and IntKind.i64 1 1)=1 from by kernel_rfl];unfold wrap64;omega
   have h:=za j;rw[e];clear e g f d c j;go_enter func85,ntmps85;go_wp2_with fail;go_ret2;exact⟨mr h.out rfl,below1 w _⟩
  ·have e:ai 26 a 2=(a,1):=by simp[ai]
   have j:wrap64 (wrap64 (1+a) - wrap64 (bits BinOp.and IntKind.i64 2 1+1))=a:=by
    rw[show wrap64 (bits BinOp.and IntKind.i64 2 1+1)=1 from by kernel_rfl];unfold wrap64;omega
   have h:=za j;rw[e];clear e g f d c j;go_enter func85,ntmps85;go_wp2_with fail;go_ret2;exact⟨mr h.out rfl,below1 w _⟩
  ·have e:ai 26 a 3=(a - 1,1):=by simp[ai]
   have j:wrap64 (wrap64 (1+a) - wrap64 (bits BinOp.and IntKind.i64 3 1+1))=a - 1:=by
    rw[show wrap64 (bits BinOp.and IntKind.i64 3 1+1)=2 from by kernel_rfl];unfold wrap64;omega
   have h:=za j;rw[e];clear e g f d c j;go_enter func85,ntmps85;go_wp2_with fail;go_ret2;exact⟨mr h.out rfl,below1 w _⟩
 ·have e:ai 27 a b=(a,1):=by simp[ai]
  rw[e];clear e g f d c;go_enter func85,ntmps85;go_wp2_with fail;go_ret2;exact⟨rfl,below1 w _⟩
 ·have e:ai 28 a b=(2 * a,1):=by simp[ai]
  have h:=za (show wrap64 (2 * a)=2 * a from by unfold wrap64;omega);rw[e];clear e g f d c;go_enter func85,ntmps85;go_wp2_with fail;go_ret2;exact⟨mr h.out rfl,below1 w _⟩
 ·have e:ai 29 a b=(a,1):=by simp[ai]
  rw[e];clear e g f d c;go_enter func85,ntmps85;go_wp2_with fail;go_ret2;exact⟨rfl,below1 w _⟩
 ·have e:ai 30 a b=(1,1):=by simp[ai]
  rw[e];clear e g f d c;go_enter func85,ntmps85;go_wp2_with fail;go_ret2;exact⟨rfl,below1 w _⟩
 ·have e:ai 31 a b=(0,1):=by simp[ai]
  rw[e];clear e g f d c;go_enter func85,ntmps85;go_wp2_with fail;go_ret2;exact⟨rfl,below1 w _⟩
 ·have e:ai 32 a b=(1,1):=by simp[ai]
  rw[e];clear e g f d c;go_enter func85,ntmps85;go_wp2_with fail;go_ret2;exact⟨rfl,below1 w _⟩
 ·have e:ai 33 a b=(1,2):=by simp[ai]
  rw[e];clear e g f d c;go_enter func85,ntmps85;go_wp2_with fail;go_ret2;exact⟨rfl,below1 w _⟩
 ·have e:ai 34 a b=(0,0):=by simp[ai]
  rw[e];clear e g f d c;go_enter func85,ntmps85;go_wp2_with fail;go_ret2;exact⟨rfl,below1 w _⟩
 ·have e:ai 35 a b=(1,0):=by simp[ai]
  rw[e];clear e g f d c;go_enter func85,ntmps85;go_wp2_with fail;go_ret2;exact⟨rfl,below1 w _⟩
 ·have e:ai 36 a b=(1,0):=by simp[ai]
  rw[e];clear e g f d c;go_enter func85,ntmps85;go_wp2_with fail;go_ret2;exact⟨rfl,below1 w _⟩
 ·have e:ai 37 a b=(1,0):=by simp[ai]
  rw[e];clear e g f d c;go_enter func85,ntmps85;go_wp2_with fail;go_ret2;exact⟨rfl,below1 w _⟩
 ·have e:ai 38 a b=(-1,0):=by simp[ai]
  rw[e];clear e g f d c;go_enter func85,ntmps85;go_wp2_with fail;go_ret2;exact⟨rfl,below1 w _⟩
 ·have e:ai 39 a b=(-1,0):=by simp[ai]
  rw[e];clear e g f d c;go_enter func85,ntmps85;go_wp2_with fail;go_ret2;exact⟨rfl,below1 w _⟩
 ·have e:ai 40 a b=(-1,0):=by simp[ai]
  rw[e];clear e g f d c;go_enter func85,ntmps85;go_wp2_with fail;go_ret2;exact⟨rfl,below1 w _⟩
 ·have e:ai 41 a b=(-1,0):=by simp[ai]
  rw[e];clear e g f d c;go_enter func85,ntmps85;go_wp2_with fail;go_ret2;exact⟨rfl,below1 w _⟩
 ·have e:ai 42 a b=(-1,0):=by simp[ai]
  rw[e];clear e g f d c;go_enter func85,ntmps85;go_wp2_with fail;go_ret2;exact⟨rfl,below1 w _⟩
 ·have e:ai 43 a b=(-1,0):=by simp[ai]
  rw[e];clear e g f d c;go_enter func85,ntmps85;go_wp2_with fail;go_ret2;exact⟨rfl,below1 w _⟩
 ·have e:ai 44 a b=(-1,0):=by simp[ai]
  rw[e];clear e g f d c;go_enter func85,ntmps85;go_wp2_with fail;go_ret2;exact⟨rfl,below1 w _⟩
 ·have e:ai 45 a b=(-1,0):=by simp[ai]
  rw[e];clear e g f d c;go_enter func85,ntmps85;go_wp2_with fail;go_ret2;exact⟨rfl,below1 w _⟩
 ·have e:ai 46 a b=(a+1,1):=by simp[ai]
  have h:=za (show wrap64 (a+1)=a+1 from by unfold wrap64;omega);rw[e];clear e g f d c;go_enter func85,ntmps85;go_wp2_with fail;go_ret2;exact⟨mr h.out rfl,below1 w _⟩
 ·have e:ai 47 a b=(a,1):=by simp[ai]
  rw[e];clear e g f d c;go_enter func85,ntmps85;go_wp2_with fail;go_ret2;exact⟨rfl,below1 w _⟩
 ·have e:ai 48 a b=(a+1,0):=by simp[ai]
  have h:=za (show wrap64 (a+1)=a+1 from by unfold wrap64;omega);rw[e];clear e g f d c;go_enter func85,ntmps85;go_wp2_with fail;go_ret2;exact⟨mr h.out rfl,below1 w _⟩
 ·have e:ai 49 a b=(a,0):=by simp[ai]
  rw[e];clear e g f d c;go_enter func85,ntmps85;go_wp2_with fail;go_ret2;exact⟨rfl,below1 w _⟩
 ·have e:ai 50 a b=(1,0):=by simp[ai]
  rw[e];clear e g f d c;go_enter func85,ntmps85;go_wp2_with fail;go_ret2;exact⟨rfl,below1 w _⟩
 ·have e:ai 51 a b=(-1,0):=by simp[ai]
  rw[e];clear e g f d c;go_enter func85,ntmps85;go_wp2_with fail;go_ret2;exact⟨rfl,below1 w _⟩
 ·have e:ai 52 a b=(-1,0):=by simp[ai]
  rw[e];clear e g f d c;go_enter func85,ntmps85;go_wp2_with fail;go_ret2;exact⟨rfl,below1 w _⟩
 ·have e:ai 53 a b=(-1,0):=by simp[ai]
  rw[e];clear e g f d c;go_enter func85,ntmps85;go_wp2_with fail;go_ret2;exact⟨rfl,below1 w _⟩
end
end Go.Proofs.YtmecmlpoallpcaaGreatDoor

/- Parts of the proof: RefW -/
import Derived.Test.YtmecmlpoallpcaaGreatDoorM25
import Derived.Test.YtmecmlpoallpcaaGreatDoorM22
set_option linter.all false
set_option maxHeartbeats 8000000
namespace Go.Proofs.YtmecmlpoallpcaaGreatDoor
open Go.Proofs.Tryz
section
open Go.RowKit Go.Proofs.PeepPlain
theorem nO{p:Nat->Bool}:∀ {n:Nat},cF p n=none->∀j,j<n->p j=true
 |0,_,j,hj=>by omega
 |n+1,h,j,hj=>by
  rw[cF]at h
  cases e:cF p n with
  |some k=>rw[e]at h;cases h
  |none=>
   rw[e]at h;dsimp only at h;by_cases a:p n=true
   ·by_cases b:j=n
    ·subst b;exact a
    ·exact nO e j (by omega)
   ·rw[zm a]at h;cases h
def Kv{fs:List Fn}{gs:List ByteArray}(b:dN fs gs.length=true)(c:cB gs=true):(kw fs=lH∧∀i,i<fs.length->bR fs i (aB fs i)=true)∨((kw fs).code=130∧bO fs gs=kw fs):=by
 unfold kw
 cases a:cF (λi=>bR fs i (aB fs i)) fs.length with
 |none=>exact .inl ⟨rfl,nO a⟩
 |some i=>
  refine .inr ⟨rfl,?_⟩;unfold bO;rw[zm (by rw[b];decide),zm (by rw[c];decide),a]
def MN{fs:List Fn}{gs:List ByteArray}{k:Nat}(f:k<fs.length)(e:dN fs gs.length=true)(g:cB gs=true)(l:∀i,i<fs.length->bR fs i (aB fs i)=true)(h:∀i,i<k->cX fs gs.length i=true):(fW fs gs.length k=lH∧cX fs gs.length k=true)∨((fW fs gs.length k).code=130∧bO fs gs=fW fs gs.length k):=by
 cases a:cX fs gs.length k with
 |true=>
  refine .inl ⟨?_,rfl⟩;unfold cX at a;rw[zy]at a;unfold fW;rw[zm (zx a.1)];have d:=a.2
  cases c:cF (bW fs gs.length k) (fs.getD k default).code.length with
  |none=>rfl
  |some j=>rw[c]at d;cases d
 |false=>
  refine .inr ⟨?_,yK e g l h f a⟩;unfold cX at a;unfold fW;by_cases b:(fs.getD k default).code.length=0
  ·rw[zn b]
  ·rw[zm b];rw[ze b,Bool.true_and]at a
   cases c:cF (bW fs gs.length k) (fs.getD k default).code.length with
   |none=>rw[c]at a;cases a
   |some j=>rfl
def Ns{fs:List Fn}{gs:List ByteArray}{k:Nat}(b:k<fs.length)(c:dN fs gs.length=true)(d:cB gs=true)(g:∀i,i<fs.length->bR fs i (aB fs i)=true)(f:∀i,i<fs.length->cX fs gs.length i=true)(e:∀i,i<k->jJ E0 (fs.getD i default).code= -1):(jd fs k=lH∧jJ E0 (fs.getD k default).code= -1)∨((jd fs k).code=130∧bO fs gs=jd fs k):=by
 unfold jd;by_cases a:jJ E0 (fs.getD k default).code= -1
 ·rw[zn a];exact .inl ⟨rfl,a⟩
 ·rw[zm a];refine .inr ⟨rfl,?_⟩;have:=Fy c d g f b e (by rw[aC b]at a;exact a);rw[this,aC b]
def rZ{fs:List Fn}{gl f:Nat}(d:f<fs.length)(a:cX fs gl f=true):fs[f].code.length≠0∧∀k,k<fs[f].code.length->bW fs gl f k=true:=by
 unfold cX at a;rw[aC d,zy]at a;refine⟨zx a.1,?_⟩;have b:=a.2
 cases c:cF (bW fs gl f) fs[f].code.length with
 |none=>exact nO c
 |some j=>rw[c]at b;cases b
def NV{op:Int}(a:(aj op).word.toList.isEmpty=false):1<=op∧op<=53:=by
 by_cases c:op.toNat=0
 ·unfold aj at a;rw[c,show(PeepPlain.jx.getD 0 PeepPlain.k7).word.toList.isEmpty=true from by kernel_rfl]at a
  cases a
 ·by_cases b:54<=op.toNat
  ·unfold aj at a;rw[zd,zM (by show jx.length<=_;exact zi (by decide) b),show((none:Option PeepPlain.Pt).getD PeepPlain.k7).word.toList.isEmpty=true from by kernel_rfl]at a
   cases a
  ·omega
def NX{fs:List Fn}{gl f:Nat}{x:au}(g:f<fs.length)(c:ax fs gl f x=true):x.op=26->1<=x.a:=λd=>by
 unfold ax at c;have e:(aj x.op).a=11:=by rw[d];rfl
 simp only[e]at c;have b:(decide (x.a=2)||decide (x.a=3))=true:=c;rw[Bool.or_eq_true]at b;rcases b with b|b
 ·have:=zx b;omega
 ·have:=zx b;omega
def yZ{gs:List ByteArray}{k:Nat}(b:∀j,j<k->fG gs j=true)(a:fG gs k=true):∀j,j<k+1->fG gs j=true:=λj d=>by
 by_cases c:j=k
 ·subst c;exact a
 ·exact b j (by omega)
def Ko{fs:List Fn}{k:Nat}(c:∀j,(a:j<fs.length)->j<k->sS fs[j]=true)(e:k<fs.length)(b:sS fs[k]=true):∀j,(a:j<fs.length)->j<k+1->sS fs[j]=true:=λj a f=>by
 by_cases d:j=k
 ·subst d;exact b
 ·exact c j a (by omega)
def vG{P:Nat->Prop}{k:Nat}(b:∀j,j<k->P j)(a:P k):∀j,j<k+1->P j:=λj d=>by
 by_cases c:j=k
 ·subst c;exact a
 ·exact b j (by omega)
structure N2(w:World)(pc xc:List Value)(X:Nat)(wr:World):Prop where
 p:ah wr w.heap.size 25 pc
 z:ah wr (w.heap.size+1) 30 [.int .i64 0,.int .i64 0,.string ⟨#[]⟩]
 x:ah wr X 30 xc
 lo:w.heap.size+1<X
 below:Below w.heap.size w wr
def N2.more{w wr w':World}{pc c:List Value}{d:Nat}(a:N2 w pc c d wr)(b:zz wr w'):N2 w pc c d w':=
 ⟨a.p.below b a.p.lt,a.z.below b a.z.lt,a.x.below b a.x.lt,a.lo,ac a.below b a.below.size⟩
def N2.put{w wr w':World}{pc e c:List Value}{b:Nat}(a:N2 w pc e b wr)(f:ah w' b 30 c)(g:Below w.heap.size wr w')(d:∀k,k≠b->w'.heap[k]?=wr.heap[k]?):N2 w pc c b w':=
 ⟨(d _ (by have:=a.lo;omega)).trans a.p,(d _ (by have:=a.lo;omega)).trans a.z,f,a.lo,a.below.trans g⟩
structure G0(w:World)(pc:List Value)(wr:World):Prop where
 p:ah wr w.heap.size 25 pc
 z:ah wr (w.heap.size+1) 30 [.int .i64 0,.int .i64 0,.string ⟨#[]⟩]
 b:Below w.heap.size w wr
def G0.more{w wr w':World}{pc:List Value}(a:G0 w pc wr)(c:zz wr w'):G0 w pc w':=
 ⟨a.p.below c a.p.lt,a.z.below c a.z.lt,ac a.b c a.b.size⟩
def G0.with_{w wr w':World}{pc c:List Value}{o:Obj}(a:G0 w pc wr)(e:ah w' wr.heap.size 30 c)(f:∀B,B<=wr.heap.size->Below B (wr.alloc o) w')(d:∀k,k≠wr.heap.size->w'.heap[k]?=(wr.alloc o).heap[k]?):N2 w pc c wr.heap.size w':=
 ⟨(d _ (by have:=a.p.lt;omega)).trans (a.p.alloc o),(d _ (by have:=a.z.lt;omega)).trans (a.z.alloc o),e,a.z.lt,(a.b.alloc a.b.size o).trans (f _ a.b.size)⟩
set_option maxRecDepth 20000 in
def xe(fs:List Fn)(gs:List ByteArray)(k GA:Option Addr)(fc gc:Nat)(w:World)(cs:bD w k fs)(ee:bd w GA (gs.map Value.string))(I:Small fs gs)(cp:xg fs):
 Calls prog 7 #[.agg #[.slice k fs.length fc,.slice GA gs.length gc]] w λe w'=>e= .returned (bO fs gs).val∧zz w w':=by
 obtain⟨S,Y⟩:∃S,Hid (bO fs gs=S):=⟨_,za rfl⟩
 rw[Y.out];have cc:=za cs;have fm:=za ee;have c9:=za I;have f4:=za cp;have em:=za An;have df:=za lP;have en:=za (λd (hb:zz w d)=>GZ fs k GA fc gs.length gc d (cs.below hb) I.nf I.each cp);have e9:=ub;have f1:=I.nf;have f0:=I.ng;clear cs ee I cp;generalize f2:(20000:Int)=M;go_enter func7,ntmps7;by_cases bc:fs.length<1∨20000<fs.length∨20000<gs.length
 ·have r:=za (show S=⟨22,0,⟨#[]⟩⟩from by rw[<-Y.out,rm (lE (by rcases bc with l|l|l;exact .inl l;exact .inr (.inl l);exact .inr (.inr (.inl l)))),jQ (by rcases bc with l|l|l;exact .inl l;exact .inr (.inl l);exact .inr (.inr (.inl l)))]);have fr:=za bc;have c2:=za (am w (.cells #[.slice k fs.length fc,.slice GA gs.length gc] 25) 30 [.int .i64 0,.int .i64 0,.string ⟨#[]⟩]);have dC:=za (aU w (.cells #[.slice k fs.length fc,.slice GA gs.length gc] 25) (.cells #[.int .i64 0,.int .i64 0,.string ⟨#[]⟩] 30));clear bc;by_cases cj:(fs.length:Int)<1
  ·go_upto_region 4 with fail;go_cut [] (λd=>Hid (ah d (w.heap.size+1) 30 [.int .i64 22,.int .i64 0,.string ⟨#[]⟩])∧Hid (zz w d))
   case first=>as_aux_lemma=>
    go_wp2_with (first
     |(refine aP (.tmp 2) (.tmp 30) 30 (w.heap.size+1) 0 30 [.int .i64 0,.int .i64 0,.string ⟨#[]⟩] [.int .i64 22,.int .i64 0,.string ⟨#[]⟩] _ _ rfl rfl rfl rfl rfl bK (by simp[Value.oneCell']) c2.out (by simp) ?_;intro N h i p;have b:=za h;have c:=za (dC.trans (i _ (zE _)));clear h i p))
    go_meet;exact⟨b,c⟩
   case rest=>
    obtain⟨b,c⟩:=hcut;go_step;go_step
    try simp +zetaDelta only[Exit.then,Exit.inBlock]
    exact bodyPost_ret (aW rfl _ _ (w.heap.size+1) [.int .i64 22,.int .i64 0,.string ⟨#[]⟩] rfl b.out rfl) rfl ⟨by rw[r.out];rfl,c⟩
  ·by_cases ci:(20000:Int)<(fs.length:Int)
   ·go_upto_region 4 with fail;go_cut [] (λd=>Hid (ah d (w.heap.size+1) 30 [.int .i64 22,.int .i64 0,.string ⟨#[]⟩])∧Hid (zz w d))
    case first=>as_aux_lemma=>
     go_wp2_with (first
      |(refine aP (.tmp 2) (.tmp 30) 30 (w.heap.size+1) 0 30 [.int .i64 0,.int .i64 0,.string ⟨#[]⟩] [.int .i64 22,.int .i64 0,.string ⟨#[]⟩] _ _ rfl rfl rfl rfl rfl bK (by simp[Value.oneCell']) c2.out (by simp) ?_;intro N h i p;have b:=za h;have c:=za (dC.trans (i _ (zE _)));clear h i p))
     go_meet;exact⟨b,c⟩
    case rest=>
     obtain⟨b,c⟩:=hcut;go_step;go_step
     try simp +zetaDelta only[Exit.then,Exit.inBlock]
     exact bodyPost_ret (aW rfl _ _ (w.heap.size+1) [.int .i64 22,.int .i64 0,.string ⟨#[]⟩] rfl b.out rfl) rfl ⟨by rw[r.out];rfl,c⟩
   ·have d0:(20000:Int)<(gs.length:Int):=by have:=fr.out;omega
    go_upto_region 4 with fail;go_cut [] (λd=>Hid (ah d (w.heap.size+1) 30 [.int .i64 22,.int .i64 0,.string ⟨#[]⟩])∧Hid (zz w d))
    case first=>as_aux_lemma=>
     go_wp2_with (first
      |(refine aP (.tmp 2) (.tmp 30) 30 (w.heap.size+1) 0 30 [.int .i64 0,.int .i64 0,.string ⟨#[]⟩] [.int .i64 22,.int .i64 0,.string ⟨#[]⟩] _ _ rfl rfl rfl rfl rfl bK (by simp[Value.oneCell']) c2.out (by simp) ?_;intro N h i p;have b:=za h;have c:=za (dC.trans (i _ (zE _)));clear h i p))
     go_meet;exact⟨b,c⟩
    case rest=>
     obtain⟨b,c⟩:=hcut;go_step;go_step
     try simp +zetaDelta only[Exit.then,Exit.inBlock]
     exact bodyPost_ret (aW rfl _ _ (w.heap.size+1) [.int .i64 22,.int .i64 0,.string ⟨#[]⟩] rfl b.out rfl) rfl ⟨by rw[r.out];rfl,c⟩
 ·have cj:¬(fs.length:Int)<1:=by omega
  have ci:¬(20000:Int)<(fs.length:Int):=by omega
  have d0:¬(20000:Int)<(gs.length:Int):=by omega
  have d3:¬fs.length<1:=by omega
  have d2:¬20000<fs.length:=by omega
  have d1:¬20000<gs.length:=by omega
  have c6:=za d3;have c5:=za d2;have c4:=za d1;clear bc d3 d2 d1;go_wp2_with fail;clear cj ci d0;have av:=za ((ah.made w 25 [.slice k fs.length fc,.slice GA gs.length gc]).alloc (.cells #[.int .i64 0,.int .i64 0,.string ⟨#[]⟩] 30));have ar:=za (am w (.cells #[.slice k fs.length fc,.slice GA gs.length gc] 25) 30 [.int .i64 0,.int .i64 0,.string ⟨#[]⟩]);have X:=za (aU w (.cells #[.slice k fs.length fc,.slice GA gs.length gc] 25) (.cells #[.int .i64 0,.int .i64 0,.string ⟨#[]⟩] 30));have b5:((w.alloc (.cells #[.slice k fs.length fc,.slice GA gs.length gc] 25)).alloc (.cells #[.int .i64 0,.int .i64 0,.string ⟨#[]⟩] 30)).heap.size=w.heap.size+1+1:=by simp
  simp only[List.toArray]at av ar;generalize((w.alloc (.cells #[.slice k fs.length fc,.slice GA gs.length gc] 25)).alloc (.cells #[.int .i64 0,.int .i64 0,.string ⟨#[]⟩] 30))=w1 at av ar X b5;have bo:w1.cell? ⟨w.heap.size,0,none⟩=some (.slice k fs.length fc):=av.cell 0;have bl:w1.cell? ⟨w.heap.size,1,none⟩=some (.slice GA gs.length gc):=av.cell 1;have bk:=av.lt;go_loopw [3,5] (λev cg wr=> ∃a:Nat,cg= .int .i64 a∧ev= .int .i64 (aY fs a)∧a<=fs.length∧aY fs a<=60000∧wr=w1) (λ_ cg _=>fs.length - (intOf cg).toNat)
  case atStart=>exact⟨0,rfl,rfl,zu _,zu _,rfl⟩
  case round=>
   obtain⟨a,rfl,rfl,U,e5,a7⟩:=hrel;have ck:=a7.symm;clear a7;subst ck;by_cases f:a<fs.length
   ·obtain⟨fh,e4,rfl,ff,bb⟩:=(cc.below X.out).at_ (by omega);obtain⟨c1,c0,cT,cC,cv,ct⟩:=bb a f;have b6:(0:Int)<=(a:Int)∧(a:Int)<(fs.length:Int):=by omega
    have e6:=dS fs a f;have d5:=lF fs (show a+1<=fs.length by omega);have d4:wrap64 ((aY fs a:Int)+(fs[a].code.length:Int))=(aY fs (a+1):Int):=by have:=c9.out.all;unfold wrap64;omega
    have fj:=za d5;clear bb e6 d5 c1 c0 cT cC cv;generalize fs[a]=o at ct d4;by_cases e8:60000<aY fs (a+1)
    ·have e7:(60000:Int)<((aY fs (a+1):Nat):Int):=by omega
     have r:=za (show S=⟨22,0,⟨#[]⟩⟩from by
      have ef:60000<aY fs fs.length:=zv e8 fj.out;rw[<-Y.out,rm (lE (.inr (.inr (.inr ef)))),jQ (.inr (.inr (.inr ef)))])
     go_upto_region 10 with fail;go_cut [] (λd=>Hid (ah d (w.heap.size+1) 30 [.int .i64 22,.int .i64 0,.string ⟨#[]⟩])∧Hid (zz w d))
     case first=>as_aux_lemma=>
      go_wp2_with (first
       |(refine aP (.tmp 2) (.tmp 49) 30 (w.heap.size+1) 0 30 [.int .i64 0,.int .i64 0,.string ⟨#[]⟩] [.int .i64 22,.int .i64 0,.string ⟨#[]⟩] _ _ rfl rfl rfl rfl rfl bK (by simp[Value.oneCell']) ar.out (by simp) ?_;intro N h i p;have b:=za h;have c:=za (X.trans (i _ (zE _)));clear h i p))
      go_meet;exact⟨b,c⟩
     case rest=>
      obtain⟨b,c⟩:=hcut;go_step;go_step
      try simp +zetaDelta only[Exit.then,Exit.inBlock]
      exact bodyPost_ret (aW rfl _ _ (w.heap.size+1) [.int .i64 22,.int .i64 0,.string ⟨#[]⟩] rfl b.out rfl) rfl ⟨by rw[r.out];rfl,c⟩
    ·have e7:¬(60000:Int)<((aY fs (a+1):Nat):Int):=by omega
     go_wp2_with fail;go_roundw
     case rel=>exact⟨a+1,by go_num,by rw[d4],f,by omega,by trivial⟩
     case measure=>simp[intOf];omega
   ·obtain rfl:a=fs.length:=by omega
    have c3:=za (show ¬60000<aY fs fs.length by omega);clear e5 f U;go_wp2_with fail;go_loopw [6] (λcf wr=> ∃a:Nat,cf= .int .i64 a∧a<=fs.length∧Hid (∀A,(af:A<fs.length)->A<a->sS fs[A]=true)∧wr=w1) (λcf _=>fs.length - (intOf cf).toNat)
    case atStart=>exact⟨0,rfl,zu _,za (λA _ l=>by omega),rfl⟩
    case round=>
     obtain⟨a,rfl,U,b9,a7⟩:=hrel;have ck:=a7.symm;clear a7;subst ck;by_cases f:a<fs.length
     ·obtain⟨fh,e4,rfl,ff,bb⟩:=(cc.below X.out).at_ (by omega);obtain⟨c1,c0,cT,cC,cv,ct⟩:=bb a f;have b6:(0:Int)<=(a:Int)∧(a:Int)<(fs.length:Int):=by omega
      have ek:=za (λl=>Ko b9.out f l);have c7:=za (λ(l:sS fs[a]=false)=>show S=⟨22,a,⟨#[]⟩⟩from by rw[<-Y.out,rm (by rw[og c6.out c5.out c4.out c3.out];exact yh f l),BT c6.out c5.out c4.out c3.out b9.out f l]);generalize fs[a]=o at cT cC ek c7;clear bb c1 c0 cv ct;by_cases cj:(20000:Int)<o.slots
      ·have r:=za (c7.out (by unfold sS;rw[zg (show ¬o.slots<=20000 by omega),zG]));go_upto_region 15 with fail;go_cut [] (λd=>Hid (ah d (w.heap.size+1) 30 [.int .i64 22,.int .i64 (a:Int),.string ⟨#[]⟩])∧Hid (zz w d))
       case first=>as_aux_lemma=>
        go_wp2_with (first
         |(refine aP (.tmp 2) (.tmp 75) 30 (w.heap.size+1) 0 30 [.int .i64 0,.int .i64 0,.string ⟨#[]⟩] [.int .i64 22,.int .i64 (a:Int),.string ⟨#[]⟩] _ _ rfl rfl rfl rfl rfl bK (by simp[Value.oneCell']) ar.out (by simp) ?_;intro N h i p;have b:=za h;have c:=za (X.trans (i _ (zE _)));clear h i p))
        go_meet;exact⟨b,c⟩
       case rest=>
        obtain⟨b,c⟩:=hcut;go_step;go_step
        try simp +zetaDelta only[Exit.then,Exit.inBlock]
        exact bodyPost_ret (aW rfl _ _ (w.heap.size+1) [.int .i64 22,.int .i64 (a:Int),.string ⟨#[]⟩] rfl b.out rfl) rfl ⟨by rw[r.out];rfl,c⟩
      ·by_cases ci:(20000:Int)<(o.taken.length:Int)
       ·have r:=za (c7.out (by unfold sS;rw[zg (show ¬o.taken.length<=20000 by omega),zF]));go_upto_region 15 with fail;go_cut [] (λd=>Hid (ah d (w.heap.size+1) 30 [.int .i64 22,.int .i64 (a:Int),.string ⟨#[]⟩])∧Hid (zz w d))
        case first=>as_aux_lemma=>
         go_wp2_with (first
          |(refine aP (.tmp 2) (.tmp 75) 30 (w.heap.size+1) 0 30 [.int .i64 0,.int .i64 0,.string ⟨#[]⟩] [.int .i64 22,.int .i64 (a:Int),.string ⟨#[]⟩] _ _ rfl rfl rfl rfl rfl bK (by simp[Value.oneCell']) ar.out (by simp) ?_;intro N h i p;have b:=za h;have c:=za (X.trans (i _ (zE _)));clear h i p))
         go_meet;exact⟨b,c⟩
        case rest=>
         obtain⟨b,c⟩:=hcut;go_step;go_step
         try simp +zetaDelta only[Exit.then,Exit.inBlock]
         exact bodyPost_ret (aW rfl _ _ (w.heap.size+1) [.int .i64 22,.int .i64 (a:Int),.string ⟨#[]⟩] rfl b.out rfl) rfl ⟨by rw[r.out];rfl,c⟩
       ·have bt:=za (ek.out (by unfold sS;rw[ze (show o.slots<=20000 by omega),ze (show o.taken.length<=20000 by omega)];rfl));go_wp2_with fail;go_roundw
        case rel=>exact⟨a+1,by go_num,f,bt,by trivial⟩
        case measure=>simp[intOf];omega
     ·obtain rfl:a=fs.length:=by omega
      have aa:=za (show dN fs gs.length=true from by rw[og c6.out c5.out c4.out c3.out];exact uI (λA af=>b9.out A af af));clear f U b9;go_wp2_with fail;have dB:=za (show JU w [.slice k fs.length fc,.slice GA gs.length gc] [] (w1.alloc (.map #[] 0))from⟨av.alloc _,ar.alloc _,by rw[<-b5];exact ke w1,X.alloc X.size _⟩)
      try rw[b5]
      generalize w1.alloc (.map #[] 0)=w3 at dB;clear bo bl bk b5 av ar X e9;go_loopw [8,9] (λcd _ wr=> ∃a:Nat,cd= .int .i64 a∧a<=gs.length∧Hid (∀A,A<a->fG gs A=true)∧Hid (JU w [.slice k fs.length fc,.slice GA gs.length gc] (gs.take a) wr)) (λcd _ _=>gs.length - (intOf cd).toNat)
      case atStart=>exact⟨0,rfl,zu _,za (λA l=>by omega),dB⟩
      case round=>
       clear dB;rename World=>w4;obtain⟨a,rfl,U,dl,j⟩:=hrel;have bo:w4.cell? ⟨w.heap.size,0,none⟩=some (.slice k fs.length fc):=j.p.cell 0;have bl:w4.cell? ⟨w.heap.size,1,none⟩=some (.slice GA gs.length gc):=j.p.cell 1;have bk:=j.p.lt;by_cases f:a<gs.length
       ·have b6:(0:Int)<=(a:Int)∧(a:Int)<(gs.length:Int):=by omega
        obtain⟨C,I⟩:∃C,gs.getD a ByteArray.empty=C:=⟨_,rfl⟩
        have fl:=za (λ(d:World) (hb:zz w d)=>fm.below hb rfl);have a4:Hid (C.size<=2000000):=za (I ▸ c9.names a);have c8:=za I;have d8:(gs.map Value.string)[a]?=some (.string C):=by rw[zL,<-I,zd,zo f];rfl
        obtain⟨W,a3,rfl,ea,d9⟩:=(fl.out _ j.below) (by rw[List.length_map];omega)
        have bp:w4.cell? ⟨W,a3+a,none⟩=some (.string C):=d9 a _ d8;have cn:W<w4.heap.size:=ea;have fi:=za (show gs.take (a+1)=gs.take a++ [C]from by rw[List.take_add_one,<-I,zd,zo f];rfl);have es:=za (λ(l:fG gs a=false)=>show S=⟨130,0,⟨#[]⟩⟩from by rw[<-Y.out,yg aa.out (pH f l)]);have fn:=za (λ(l:fG gs a=true)=>yZ dl.out l);have fk:=za U;clear d9 I ea d8
        cases ad:bF C with
        |false=>
         have r:=za (es.out (by unfold fG;rw[c8.out,ad];rfl));have ca:=za ad;clear ad;go_upto_region 22 with(go_at_call 19;refine(df.out C _ a4.out).mono ?_;rw[ca.out];rintro V H ⟨rfl,B⟩;have J:=za (j.more B);clear B bo bl bk bp)
         go_cut [] (λd=>Hid (ah d (w.heap.size+1) 30 [.int .i64 130,.int .i64 0,.string ⟨#[]⟩])∧Hid (zz w d))
         case first=>as_aux_lemma=>
          go_wp2_with (first
           |(go_at_call 20;refine(em.out (0:Int) _ _).mono ?_;rintro V e3 ⟨rfl,bj⟩;have b2:=za (J.more bj);clear bj)
           |(refine aP (.tmp 2) (.tmp 102) 30 (w.heap.size+1) 0 30 [.int .i64 0,.int .i64 0,.string ⟨#[]⟩] [.int .i64 130,.int .i64 0,.string ⟨#[]⟩] _ _ rfl rfl rfl rfl rfl bK (by simp[Value.oneCell']) b2.z (by simp) ?_;intro N h i p;have b:=za h;have c:=za (b2.below.trans (i _ (zE _)));clear h i p))
          go_meet;exact⟨b,c⟩
         case rest=>
          obtain⟨b,c⟩:=hcut;go_step;go_step
          try simp +zetaDelta only[Exit.then,Exit.inBlock]
          exact bodyPost_ret (aW rfl _ _ (w.heap.size+1) [.int .i64 130,.int .i64 0,.string ⟨#[]⟩] rfl b.out rfl) rfl ⟨by rw[r.out];rfl,c⟩
        |true=>
         have ca:=za ad;obtain⟨b7,ed⟩:∃b7,pY C (gs.take a)=b7:=⟨_,rfl⟩
         have b0:=za ed;have ej:=za (λ(H:World) (B:zz w4 H)=>B.cell (p:=⟨W,a3+a,none⟩) cn);clear ed;by_cases b4:b7=0
         ·have fo:=za (fn.out (by unfold fG;rw[c8.out,ad,b0.out,b4];rfl));clear ad;subst b4;go_wp2_with (first
           |(go_at_call 19;refine(df.out C _ a4.out).mono ?_;rw[ca.out];rintro V H ⟨rfl,B⟩;have J:=za (j.more B);have e2:H.cell? ⟨w.heap.size,1,none⟩=some (.slice (some ⟨W,a3,none⟩) gs.length gc):=J.p.cell 1;have e0:H.cell? ⟨W,a3+a,none⟩=some (.string C):=(ej.out H B).trans bp;have ew:=J.p.lt;have e1:W<H.heap.size:=zv cn B.size;have cl:=bJ J.m a4.out;rw[b0.out]at cl;clear B bo bl bk bp)
           |(refine wF (.tmp 103) (.tmp 108) (.const (.int .i64 1)) (w.heap.size+1+1) C (gs.take a) _ rfl rfl rfl rfl (by rw[b0.out];rfl) J.m (by rw[zR];have:=fk.out;omega) a4.out ?_;intro G d6 ec;have a5:=za (J.put d6 ec);clear d6 ec))
          go_roundw
          case rel=>exact⟨a+1,by go_num,f,fo,by rw[fi.out];exact a5⟩
          case measure=>simp[intOf];omega
         ·have r:=za (es.out (by unfold fG;rw[c8.out,ad,b0.out,zg b4];rfl));have fx:(0:Int)<(b7:Int):=by omega
          clear ad b4;go_upto_region 22 with(go_at_call 19;refine(df.out C _ a4.out).mono ?_;rw[ca.out];rintro V H ⟨rfl,B⟩;have J:=za (j.more B);have e2:H.cell? ⟨w.heap.size,1,none⟩=some (.slice (some ⟨W,a3,none⟩) gs.length gc):=J.p.cell 1;have e0:H.cell? ⟨W,a3+a,none⟩=some (.string C):=(ej.out H B).trans bp;have ew:=J.p.lt;have e1:W<H.heap.size:=zv cn B.size;have cl:=bJ J.m a4.out;rw[b0.out]at cl;clear B bo bl bk bp)
          go_cut [] (λd=>Hid (ah d (w.heap.size+1) 30 [.int .i64 130,.int .i64 0,.string ⟨#[]⟩])∧Hid (zz w d))
          case first=>as_aux_lemma=>
           go_wp2_with (first
           |(go_at_call 20;refine(em.out (0:Int) _ _).mono ?_;rintro V e3 ⟨rfl,bj⟩;have b2:=za (J.more bj);clear bj)
            |(refine aP (.tmp 2) (.tmp 102) 30 (w.heap.size+1) 0 30 [.int .i64 0,.int .i64 0,.string ⟨#[]⟩] [.int .i64 130,.int .i64 0,.string ⟨#[]⟩] _ _ rfl rfl rfl rfl rfl bK (by simp[Value.oneCell']) b2.z (by simp) ?_;intro N h i p;have b:=za h;have c:=za (b2.below.trans (i _ (zE _)));clear h i p))
           go_meet;exact⟨b,c⟩
          case rest=>
           obtain⟨b,c⟩:=hcut;go_step;go_step
           try simp +zetaDelta only[Exit.then,Exit.inBlock]
           exact bodyPost_ret (aW rfl _ _ (w.heap.size+1) [.int .i64 130,.int .i64 0,.string ⟨#[]⟩] rfl b.out rfl) rfl ⟨by rw[r.out];rfl,c⟩
       ·obtain rfl:a=gs.length:=by omega
        have cb:=za (sD (λA af=>dl.out A af));have dA:=za (show G0 w [.slice k fs.length fc,.slice GA gs.length gc] w4 from⟨j.p,j.z,j.below⟩);clear j dl f U;have an:=za (en.out w4 dA.b);rcases Kv aa.out cb.out with⟨q,d7⟩|⟨q,T⟩
        ·have dn:=za d7;rw[q]at an;clear q d7;unfold lH Wr.val at an;go_upto_block 6 with(first
          |(go_at_call 21;refine an.out.mono ?_;rintro V G ⟨rfl,bi⟩;have a5:=za (dA.more bi);clear bi an)
          |(refine aP (.tmp 10) (.tmp 110) 30 G.heap.size 0 30 [.int .i64 0,.int .i64 0,.string ⟨#[]⟩] [.int .i64 0,.int .i64 0,.string ⟨#[]⟩] _ _ rfl rfl rfl rfl rfl bK (by simp[Value.oneCell']) (ah.made G 30 [.int .i64 0,.int .i64 0,.string ⟨#[]⟩]) (by simp) ?_;intro L a8 be ba;have u:=za (a5.with_ a8 be ba);have a2:L.cell? ⟨G.heap.size,0,none⟩=some (.int .i64 0):=u.x.cell 0;have a1:L.cell? ⟨G.heap.size,1,none⟩=some (.int .i64 0):=u.x.cell 1;have a0:L.cell? ⟨G.heap.size,2,none⟩=some (.string ⟨#[]⟩):=u.x.cell 2;have z:=u.x.lt;have F:L.cell? ⟨w.heap.size,0,none⟩=some (.slice k fs.length fc):=u.p.cell 0;have E:L.cell? ⟨w.heap.size,1,none⟩=some (.slice GA gs.length gc):=u.p.cell 1;have D:=u.p.lt;clear a8 be ba))
         clear a2 a1 a0 z F E D;obtain⟨t,co⟩:∃t,G.heap.size=t:=⟨_,rfl⟩
         rw[co]at u;rw[co];clear co a5;go_wp2_with fail;go_loopw [11] (λao wr=> ∃a:Nat,ao= .int .i64 a∧a<=fs.length∧Hid (∀ap,ap<a->cX fs gs.length ap=true)∧Hid (N2 w [.slice k fs.length fc,.slice GA gs.length gc] [.int .i64 0,.int .i64 0,.string ⟨#[]⟩] t wr)) (λao _=>fs.length - (intOf ao).toNat)
         case atStart=>exact⟨0,rfl,zu _,za (λap l=>by omega),u⟩
         case round=>
          clear u;rename World=>w8;obtain⟨a,rfl,U,Z,j⟩:=hrel;have F:w8.cell? ⟨w.heap.size,0,none⟩=some (.slice k fs.length fc):=j.p.cell 0;have E:w8.cell? ⟨w.heap.size,1,none⟩=some (.slice GA gs.length gc):=j.p.cell 1;have D:=j.p.lt;by_cases f:a<fs.length
          ·have b6:(0:Int)<=(a:Int)∧(a:Int)<(fs.length:Int):=by omega
           have y:=za (Il fs k GA fc gs.length gc a w8 (cc.below j.below) f ((dF aa.out).2.1) (zi (iq f) (dF aa.out).2.2.2.1) (c9.text _ (zk f)));have b1:=za f;rcases MN f aa.out cb.out dn.out Z.out with⟨q,a9⟩|⟨q,T⟩
           ·rw[q]at y;have bt:=za (vG Z.out a9);clear q a9;unfold lH Wr.val at y;go_wp2_with (first
             |(go_at_call 22;refine y.out.mono ?_;rintro V ch ⟨rfl,Q⟩;have v:=za (j.more Q);have z:=v.x.lt;clear Q y F E D)
             |(refine aP (.tmp 10) (.tmp 124) 30 t 0 30 [.int .i64 0,.int .i64 0,.string ⟨#[]⟩] [.int .i64 0,.int .i64 0,.string ⟨#[]⟩] _ _ rfl rfl rfl rfl rfl bK (by simp[Value.oneCell']) v.x (by simp) ?_;intro n O R P;have g:=za (v.put O (R _ (by have:=v.lo;omega)) P);clear z;have a2:n.cell? ⟨t,0,none⟩=some (.int .i64 0):=g.x.cell 0;have a1:n.cell? ⟨t,1,none⟩=some (.int .i64 0):=g.x.cell 1;have a0:n.cell? ⟨t,2,none⟩=some (.string ⟨#[]⟩):=g.x.cell 2;have z:=g.x.lt;have F:n.cell? ⟨w.heap.size,0,none⟩=some (.slice k fs.length fc):=g.p.cell 0;have E:n.cell? ⟨w.heap.size,1,none⟩=some (.slice GA gs.length gc):=g.p.cell 1;have D:=g.p.lt;clear O R P))
            go_roundw
            case rel=>exact⟨a+1,by go_num,b1.out,bt,g⟩
            case measure=>have:=b1.out;simp[intOf];omega
           ·obtain⟨K,ab⟩:∃K,fW fs gs.length a=K:=⟨_,rfl⟩
            rw[ab]at y q T;obtain⟨bq,at_,s⟩:=K;have q:bq=130:=q;subst q;have r:=za (show S=⟨130,at_,s⟩from Y.symm.trans T);clear T ab;unfold Wr.val at y;go_upto_region 32 with(first
             |(go_at_call 22;refine y.out.mono ?_;rintro V ch ⟨rfl,Q⟩;have v:=za (j.more Q);have z:=v.x.lt;clear Q y F E D)
             |(refine aP (.tmp 10) (.tmp 124) 30 t 0 30 [.int .i64 0,.int .i64 0,.string ⟨#[]⟩] [.int .i64 130,.int .i64 at_,.string s] _ _ rfl rfl rfl rfl rfl bK (by simp[Value.oneCell']) v.x (by simp) ?_;intro n O R P;have g:=za (v.put O (R _ (by have:=v.lo;omega)) P);clear z;have a2:n.cell? ⟨t,0,none⟩=some (.int .i64 130):=g.x.cell 0;have a1:n.cell? ⟨t,1,none⟩=some (.int .i64 at_):=g.x.cell 1;have a0:n.cell? ⟨t,2,none⟩=some (.string s):=g.x.cell 2;have z:=g.x.lt;have F:n.cell? ⟨w.heap.size,0,none⟩=some (.slice k fs.length fc):=g.p.cell 0;have E:n.cell? ⟨w.heap.size,1,none⟩=some (.slice GA gs.length gc):=g.p.cell 1;have D:=g.p.lt;clear O R P))
            go_cut [] (λd=>Hid (ah d (w.heap.size+1) 30 [.int .i64 130,.int .i64 at_,.string s])∧Hid (zz w d))
            case first=>as_aux_lemma=>
             go_wp2_with (first
              |(refine aP (.tmp 2) (.tmp 128) 30 (w.heap.size+1) 0 30 [.int .i64 0,.int .i64 0,.string ⟨#[]⟩] [.int .i64 130,.int .i64 at_,.string s] _ _ rfl rfl rfl rfl rfl bK (by simp[Value.oneCell']) g.z (by simp) ?_;intro N h i p;have b:=za h;have c:=za (g.below.trans (i _ (zE _)));clear h i p))
             go_meet;exact⟨b,c⟩
            case rest=>
             obtain⟨b,c⟩:=hcut;go_step;go_step
             try simp +zetaDelta only[Exit.then,Exit.inBlock]
             exact bodyPost_ret (aW rfl _ _ (w.heap.size+1) [.int .i64 130,.int .i64 at_,.string s] rfl b.out rfl) rfl ⟨by rw[r.out];rfl,c⟩
          ·obtain rfl:a=fs.length:=by omega
           have b3:=za Z.out;clear f U Z;clear en;go_wp2_with fail;clear F E D;go_loopw [12] (λao wr=> ∃a:Nat,ao= .int .i64 a∧a<=fs.length∧Hid (∀ap,ap<a->jJ E0 (fs.getD ap default).code= -1)∧Hid (N2 w [.slice k fs.length fc,.slice GA gs.length gc] [.int .i64 0,.int .i64 0,.string ⟨#[]⟩] t wr)) (λao _=>fs.length - (intOf ao).toNat)
           case atStart=>exact⟨0,rfl,zu _,za (λap l=>by omega),j⟩
           case round=>
            clear j;rename World=>w8;obtain⟨a,rfl,U,Z,j⟩:=hrel;have F:w8.cell? ⟨w.heap.size,0,none⟩=some (.slice k fs.length fc):=j.p.cell 0;have E:w8.cell? ⟨w.heap.size,1,none⟩=some (.slice GA gs.length gc):=j.p.cell 1;have D:=j.p.lt;by_cases f:a<fs.length
            ·have b6:(0:Int)<=(a:Int)∧(a:Int)<(fs.length:Int):=by omega
             have y:=za (Kl fs k GA fc gs.length gc a w8 (cc.below j.below) f (by omega) (zi (iq f) (dF aa.out).2.2.2.1) (sW f (rZ f (b3.out a f)).1 (rZ f (b3.out a f)).2) (λA af=>have a6:=gA f af ((rZ f (b3.out a f)).2 A af);⟨NV a6.2.2.2.2.2.1,qb f aa.out a6.1,CE a6.2.2.1,NX f a6.1⟩));have b1:=za f;rcases Ns f aa.out cb.out dn.out b3.out Z.out with⟨q,a9⟩|⟨q,T⟩
             ·rw[q]at y;have bt:=za (vG Z.out a9);clear q a9;unfold lH Wr.val at y;go_wp2_with (first
               |(go_at_call 23;refine y.out.mono ?_;rintro V ch ⟨rfl,Q⟩;have v:=za (j.more Q);have z:=v.x.lt;clear Q y F E D)
               |(refine aP (.tmp 10) (.tmp 138) 30 t 0 30 [.int .i64 0,.int .i64 0,.string ⟨#[]⟩] [.int .i64 0,.int .i64 0,.string ⟨#[]⟩] _ _ rfl rfl rfl rfl rfl bK (by simp[Value.oneCell']) v.x (by simp) ?_;intro n O R P;have g:=za (v.put O (R _ (by have:=v.lo;omega)) P);clear z;have a2:n.cell? ⟨t,0,none⟩=some (.int .i64 0):=g.x.cell 0;have a1:n.cell? ⟨t,1,none⟩=some (.int .i64 0):=g.x.cell 1;have a0:n.cell? ⟨t,2,none⟩=some (.string ⟨#[]⟩):=g.x.cell 2;have z:=g.x.lt;have F:n.cell? ⟨w.heap.size,0,none⟩=some (.slice k fs.length fc):=g.p.cell 0;have E:n.cell? ⟨w.heap.size,1,none⟩=some (.slice GA gs.length gc):=g.p.cell 1;have D:=g.p.lt;clear O R P))
              go_roundw
              case rel=>exact⟨a+1,by go_num,b1.out,bt,g⟩
              case measure=>have:=b1.out;simp[intOf];omega
             ·obtain⟨K,ab⟩:∃K,jd fs a=K:=⟨_,rfl⟩
              rw[ab]at y q T;obtain⟨bq,at_,s⟩:=K;have q:bq=130:=q;subst q;have r:=za (show S=⟨130,at_,s⟩from Y.symm.trans T);clear T ab;unfold Wr.val at y;go_upto_region 38 with(first
               |(go_at_call 23;refine y.out.mono ?_;rintro V ch ⟨rfl,Q⟩;have v:=za (j.more Q);have z:=v.x.lt;clear Q y F E D)
               |(refine aP (.tmp 10) (.tmp 138) 30 t 0 30 [.int .i64 0,.int .i64 0,.string ⟨#[]⟩] [.int .i64 130,.int .i64 at_,.string s] _ _ rfl rfl rfl rfl rfl bK (by simp[Value.oneCell']) v.x (by simp) ?_;intro n O R P;have g:=za (v.put O (R _ (by have:=v.lo;omega)) P);clear z;have a2:n.cell? ⟨t,0,none⟩=some (.int .i64 130):=g.x.cell 0;have a1:n.cell? ⟨t,1,none⟩=some (.int .i64 at_):=g.x.cell 1;have a0:n.cell? ⟨t,2,none⟩=some (.string s):=g.x.cell 2;have z:=g.x.lt;have F:n.cell? ⟨w.heap.size,0,none⟩=some (.slice k fs.length fc):=g.p.cell 0;have E:n.cell? ⟨w.heap.size,1,none⟩=some (.slice GA gs.length gc):=g.p.cell 1;have D:=g.p.lt;clear O R P))
              go_cut [] (λd=>Hid (ah d (w.heap.size+1) 30 [.int .i64 130,.int .i64 at_,.string s])∧Hid (zz w d))
              case first=>as_aux_lemma=>
               go_wp2_with (first
                |(refine aP (.tmp 2) (.tmp 142) 30 (w.heap.size+1) 0 30 [.int .i64 0,.int .i64 0,.string ⟨#[]⟩] [.int .i64 130,.int .i64 at_,.string s] _ _ rfl rfl rfl rfl rfl bK (by simp[Value.oneCell']) g.z (by simp) ?_;intro N h i p;have b:=za h;have c:=za (g.below.trans (i _ (zE _)));clear h i p))
               go_meet;exact⟨b,c⟩
              case rest=>
               obtain⟨b,c⟩:=hcut;go_step;go_step
               try simp +zetaDelta only[Exit.then,Exit.inBlock]
               exact bodyPost_ret (aW rfl _ _ (w.heap.size+1) [.int .i64 130,.int .i64 at_,.string s] rfl b.out rfl) rfl ⟨by rw[r.out];rfl,c⟩
            ·obtain rfl:a=fs.length:=by omega
             have ft:=za Z.out;clear f U Z;have r:=za (show S=lH from by rw[<-Y.out];exact Ae aa.out cb.out dn.out b3.out ft.out);have f3:=za j.z;go_upto_region 39 with fail;go_cut [] (λd=>Hid (ah d (w.heap.size+1) 30 [.int .i64 0,.int .i64 0,.string ⟨#[]⟩])∧Hid (zz w d))
             case first=>as_aux_lemma=>
              go_wp2_with (first
               |(refine aP (.tmp 2) (.tmp 143) 30 (w.heap.size+1) 0 30 [.int .i64 0,.int .i64 0,.string ⟨#[]⟩] [.int .i64 0,.int .i64 0,.string ⟨#[]⟩] _ _ rfl rfl rfl rfl rfl bK (by simp[Value.oneCell']) j.z (by simp) ?_;intro N h i p;have b:=za h;have c:=za (j.below.trans (i _ (zE _)));clear h i p))
              go_meet;exact⟨b,c⟩
             case rest=>
              obtain⟨b,c⟩:=hcut;go_step;go_step
              try simp +zetaDelta only[Exit.then,Exit.inBlock]
              exact bodyPost_ret (aW rfl _ _ (w.heap.size+1) [.int .i64 0,.int .i64 0,.string ⟨#[]⟩] rfl b.out rfl) rfl ⟨by rw[r.out];rfl,c⟩
        ·obtain⟨b8,ds⟩:=And.intro q T;obtain⟨K,ab⟩:∃K,kw fs=K:=⟨_,rfl⟩
         rw[ab]at an b8 ds;obtain⟨bq,at_,s⟩:=K;have b8:bq=130:=b8;subst b8;have r:=za (show S=⟨130,at_,s⟩from Y.symm.trans ds);clear q T ab ds;unfold Wr.val at an;go_upto_region 26 with(first
          |(go_at_call 21;refine an.out.mono ?_;rintro V G ⟨rfl,bi⟩;have a5:=za (dA.more bi);clear bi an)
          |(refine aP (.tmp 10) (.tmp 110) 30 G.heap.size 0 30 [.int .i64 0,.int .i64 0,.string ⟨#[]⟩] [.int .i64 130,.int .i64 at_,.string s] _ _ rfl rfl rfl rfl rfl bK (by simp[Value.oneCell']) (ah.made G 30 [.int .i64 0,.int .i64 0,.string ⟨#[]⟩]) (by simp) ?_;intro L a8 be ba;have u:=za (a5.with_ a8 be ba);have a2:L.cell? ⟨G.heap.size,0,none⟩=some (.int .i64 130):=u.x.cell 0;have a1:L.cell? ⟨G.heap.size,1,none⟩=some (.int .i64 at_):=u.x.cell 1;have a0:L.cell? ⟨G.heap.size,2,none⟩=some (.string s):=u.x.cell 2;have z:=u.x.lt;have F:L.cell? ⟨w.heap.size,0,none⟩=some (.slice k fs.length fc):=u.p.cell 0;have E:L.cell? ⟨w.heap.size,1,none⟩=some (.slice GA gs.length gc):=u.p.cell 1;have D:=u.p.lt;clear a8 be ba))
         go_cut [] (λd=>Hid (ah d (w.heap.size+1) 30 [.int .i64 130,.int .i64 at_,.string s])∧Hid (zz w d))
         case first=>as_aux_lemma=>
          go_wp2_with (first
           |(refine aP (.tmp 2) (.tmp 114) 30 (w.heap.size+1) 0 30 [.int .i64 0,.int .i64 0,.string ⟨#[]⟩] [.int .i64 130,.int .i64 at_,.string s] _ _ rfl rfl rfl rfl rfl bK (by simp[Value.oneCell']) u.z (by simp) ?_;intro N h i p;have b:=za h;have c:=za (u.below.trans (i _ (zE _)));clear h i p))
          go_meet;exact⟨b,c⟩
         case rest=>
          obtain⟨b,c⟩:=hcut;go_step;go_step
          try simp +zetaDelta only[Exit.then,Exit.inBlock]
          exact bodyPost_ret (aW rfl _ _ (w.heap.size+1) [.int .i64 130,.int .i64 at_,.string s] rfl b.out rfl) rfl ⟨by rw[r.out];rfl,c⟩
end
end Go.Proofs.YtmecmlpoallpcaaGreatDoor

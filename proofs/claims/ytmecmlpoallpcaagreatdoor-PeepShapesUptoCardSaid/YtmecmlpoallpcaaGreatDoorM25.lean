/- Parts of the proof: RefU -/
import Derived.Test.YtmecmlpoallpcaaGreatDoorM17
import Derived.Test.YtmecmlpoallpcaaGreatDoorM20
import Derived.Deep.DeepCutAuto
import Derived.Deep.CutBlock
set_option linter.all false
set_option maxHeartbeats 8000000
namespace Go.Proofs.YtmecmlpoallpcaaGreatDoor
open Go.Proofs.Tryz
section
open Go.RowKit Go.Proofs.PeepPlain
def kw(fs:List Fn):Wr:=match cF (λa=>bR fs a (aB fs a)) fs.length with
 |some a=>⟨130,a,⟨#[]⟩⟩
 |none=>lH
def xg(fs:List Fn):Prop:=∀b∈fs,∀a∈b.taken, -9223372036854775808<=a∧a<=9223372036854775807
structure JU(w:World)(pc:List Value)(l:List ByteArray)(wr:World):Prop where
 p:ah wr w.heap.size 25 pc
 z:ah wr (w.heap.size+1) 30 [.int .i64 0,.int .i64 0,.string ⟨#[]⟩]
 m:dm wr (w.heap.size+1+1) l
 below:Below w.heap.size w wr
def JU.more{w wr w':World}{pc:List Value}{l:List ByteArray}(a:JU w pc l wr)(b:zz wr w'):JU w pc l w':=
 ⟨a.p.below b a.p.lt,a.z.below b a.z.lt,a.m.below b a.m.lt,ac a.below b a.below.size⟩
def JU.put{w wr w':World}{pc:List Value}{l d:List ByteArray}(b:JU w pc l wr)(e:dm w' (w.heap.size+1+1) d)(c:wr.grownBy w' (some (w.heap.size+1+1))):JU w pc d w':=
 ⟨b.p.grown c (by intro a;injection a;omega),b.z.grown c (by intro a;injection a;omega),e,b.below.grown c b.below.size (λf a=>by injection a;omega)⟩
def cR(fs:List Fn)(k:Nat)(o:Fn)(l:List ByteArray):Bool:=
 if k=0 then dE o else if o.around= -1 then dt o l else decide (o.name=⟨#[102,117,110,99]⟩)&&decide (0<=o.around)&&decide (o.around<k)
def ph(fs:List Fn)(k:Nat)(o:Fn):Bool:=!o.taken.any (kN (fs.getD o.around.toNat default).slots (fs.getD o.around.toNat default).taken.length)
def xP{o:Fn}(a:dE o=true):o.taken=[]:=by
 unfold dE at a;rw[zy,zy]at a;exact zD (zx a.1.2)
def xu{o:Fn}{l:List ByteArray}(a:dt o l=true):o.taken=[]:=by
 unfold dt at a;rw[zy,zy]at a;exact zD (zx a.1.1)
def IQ{fs:List Fn}{k:Nat}{o:Fn}(e:k<fs.length)(d:fs[k]=o)(l:List ByteArray):bR fs k l=(cR fs k o l&&(er o&&ph fs k o)):=by
 unfold bR cR ph gf;rw[aC e,d];by_cases b:k=0
 ·rw[zn b,zn b]
  cases c:dE o
  ·simp
  ·rw[xP c];simp
 ·rw[zm b,zm b];by_cases a:o.around= -1
  ·rw[zn a,zn a]
   cases c:dt o l
   ·simp
   ·rw[xu c];simp
  ·rw[zm a,zm a];grind
def Jm{fs:List Fn}{k:Nat}{o:Fn}{l:List ByteArray}(a:cR fs k o l=true)(b:o.taken≠ []):0<=o.around∧o.around<k:=by
 unfold cR at a;by_cases d:k=0
 ·rw[zn d]at a;exact absurd (xP a) b
 ·rw[zm d]at a;by_cases c:o.around= -1
  ·rw[zn c]at a;exact absurd (xu a) b
  ·rw[zm c,zy,zy]at a;exact⟨zx a.1.2,zx a.2⟩
def Kf{t:Int}(b: -9223372036854775808<=t∧t<=9223372036854775807)(a:t<0):wrap64 (t+1)=t+1:=by unfold wrap64;omega
def FA{t:Int}(b: -9223372036854775808<=t∧t<=9223372036854775807)(a:t<0):wrap64 (-(t+1))= -(t+1):=by unfold wrap64;omega
def KI{l:List Int}{k:Nat}(a:k<l.length):(l.map (Value.int .i64))[k]?=some (.int .i64 l[k]):=by rw[zL,zo a];rfl
def JZ{P:Int->Bool}{l:List Int}{j:Nat}(c:∀i,(a:i<l.length)->i<j->P l[i]=false)(e:j<l.length)(b:P l[j]=false):∀i,(a:i<l.length)->i<j+1->P l[i]=false:=λi a f=>by
 by_cases d:i=j
 ·subst d;exact b
 ·exact c i a (by omega)
def JP{fs:List Fn}{k:Nat}{o:Fn}{j:Nat}(a:j<o.taken.length)(b:kN (fs.getD o.around.toNat default).slots (fs.getD o.around.toNat default).taken.length o.taken[j]=true):ph fs k o=false:=by
 unfold ph;rw[Bool.not_eq_false'];exact List.any_eq_true.2 ⟨_,zk a,b⟩
def Ff{fs:List Fn}{k:Nat}{o:Fn}(c:∀i,(a:i<o.taken.length)->kN (fs.getD o.around.toNat default).slots (fs.getD o.around.toNat default).taken.length o.taken[i]=false):ph fs k o=true:=by
 unfold ph;rw[Bool.not_eq_true',List.any_eq_false];intro d b;obtain⟨i,a,rfl⟩:=zQ b;rw[c i a];exact Bool.false_ne_true
def iX(k:Nat)(o:Fn)(l:List ByteArray):List ByteArray:=if k≠0∧o.around= -1 then l++ [o.name]else l
def Lq{fs:List Fn}{k:Nat}{o:Fn}(e:k<fs.length)(d:fs[k]=o)(c:er o=true):aB fs (k+1)=iX k o (aB fs k):=by
 show db fs k (aB fs k)=_;unfold db iX;rw[aC e,d];by_cases a:k≠0∧o.around= -1
 ·rw[zn ⟨c,a.1,a.2⟩,zn a]
 ·rw[zm (λb=>a ⟨b.2.1,b.2.2⟩),zm a]
set_option maxRecDepth 20000 in
def GZ(fs:List Fn)(ao GA:Option Addr)(fc gl gc:Nat)(w:World)(c3:bD w ao fs)(f9:fs.length<=2000000)(cp:∀f∈fs,f.name.size<=2000000∧f.taken.length<=2000000)(c1:xg fs):
 Calls prog 21 #[.agg #[.slice ao fs.length fc,.slice GA gl gc]] w λe w'=>e= .returned (kw fs).val∧zz w w':=by
 have dB:=za (λD=>show kw fs=lH from by unfold kw;rw[cK D]);have E:=za (λ(a:Nat) h1 h2 b4=>show kw fs=⟨130,a,⟨#[]⟩⟩from by unfold kw;rw[dI (k:=a) h1 h2 b4]);obtain⟨V,dC⟩:∃V,Hid (kw fs=V):=⟨_,za rfl⟩
 rw[dC.out]at dB E;rw[dC.out];have d6:=za c3;have d1:=za cp;have fi:=za c1;have H:=za An;have bq:=za (λci w (D:ci.size<=2000000)=>Ac ci w D);have es:=ub;clear c3 cp c1;go_enter func21,ntmps21;go_wp2_with fail;have cg:=za (show JU w [.slice ao fs.length fc,.slice GA gl gc] [] (((w.alloc (.cells #[.slice ao fs.length fc,.slice GA gl gc] 25)).alloc (.cells #[.int .i64 0,.int .i64 0,.string ⟨#[]⟩] 30)).alloc (.map #[] 0))from⟨((ah.made w 25 _).alloc _).alloc _,(am w _ 30 _).alloc _,by
  have:=ke ((w.alloc (.cells #[.slice ao fs.length fc,.slice GA gl gc] 25)).alloc (.cells #[.int .i64 0,.int .i64 0,.string ⟨#[]⟩] 30));simp only[World.size_alloc]at this;exact this,(aU w _ _).alloc (by simp;omega) _⟩)
 generalize(((w.alloc (.cells #[.slice ao fs.length fc,.slice GA gl gc] 25)).alloc (.cells #[.int .i64 0,.int .i64 0,.string ⟨#[]⟩] 30)).alloc (.map #[] 0))=w1 at cg;clear es;go_loopw [4,5,6,7,8,9] (λb1 _ _ _ _ _ wr=> ∃a:Nat,b1= .int .i64 a∧a<=fs.length∧Hid (∀t,t<a->bR fs t (aB fs t)=true)∧Hid (JU w [.slice ao fs.length fc,.slice GA gl gc] (aB fs a) wr)) (λb1 _ _ _ _ _ _=>fs.length - (intOf b1).toNat)
 case atStart=>exact⟨0,rfl,zu _,za (λt D=>by omega),cg⟩
 case round=>
  clear cg;rename World=>w2;obtain⟨a,rfl,b4,B,ab⟩:=hrel;have c5:=ab.p.cell 0;have c4:=ab.p.lt;by_cases r:a<fs.length
  ·have c2:=d6.below ab.below;obtain⟨ds,co,rfl,go,cT⟩:=c2.at_ (by omega);obtain⟨dn,dl,df,c9,c8,c7⟩:=cT a r;have ga:(0:Int)<=(a:Int)∧(a:Int)<(fs.length:Int):=by omega
   have a0:fs[a]∈fs:=zk r;have T:=za (d1.out _ a0);obtain⟨b,bp⟩:∃b,Hid (fs[a]=b):=⟨_,za rfl⟩
   have F:=za (IQ r bp.out (aB fs a));have fm:=za (Lq r bp.out);have fo:=za (zi (tA fs a) b4);rw[bp.out]at dn dl df c9 c8 c7 T;obtain⟨s,ca⟩:∃s,w2.heap.size=s:=⟨_,rfl⟩
   have gr:w.heap.size+1+1<s:=by have:=ab.m.lt;omega
   clear cT c2 a0;go_upto_block 2 with fail;have I:=za (ab.more (below1 w2 (.cells #[.string b.name,.int .i64 b.params,.int .i64 b.slots,.slice b.TA b.taken.length b.tc,.int .i64 b.around,.slice b.CA b.code.length b.cc] 47)));have u:=za (ca ▸ ah.made w2 47 (dy b))
   try rw[ca]
   unfold dy at u
   try simp only[List.toArray]at u
   generalize w2.alloc (.cells #[.string b.name,.int .i64 b.params,.int .i64 b.slots,.slice b.TA b.taken.length b.tc,.int .i64 b.around,.slice b.CA b.code.length b.cc] 47)=w3 at I u;clear ab c5 c4 ca;have V:w3.cell? ⟨s,0,none⟩=some (.string b.name):=u.cell 0;have av:w3.cell? ⟨s,1,none⟩=some (.int .i64 b.params):=u.cell 1;obtain⟨A,cb⟩:∃A,b.taken.length=A:=⟨_,rfl⟩
   have N:=za cb;have a5:w3.cell? ⟨s,3,none⟩=some (.slice b.TA A b.tc):=by rw[<-cb];exact u.cell 3
   clear cb;have ar:w3.cell? ⟨s,4,none⟩=some (.int .i64 b.around):=u.cell 4;have a4:=u.lt;clear dn dl df c9 c8 c7;go_cut [6] (λ_ g=>Hid (cR fs a b (aB fs a)=true)∧Hid (JU w [.slice (some ⟨ds,co,none⟩) fs.length fc,.slice GA gl gc] (iX a b (aB fs a)) g)∧Hid (ah g s 47 [.string b.name,.int .i64 b.params,.int .i64 b.slots,.slice b.TA b.taken.length b.tc,.int .i64 b.around,.slice b.CA b.code.length b.cc]))
   case first=>as_aux_lemma=>
    by_cases W:a=0
    ·have ev:((a:Int)==0)=true:=by rw[W];rfl
     have a9:=za (show cR fs a b (aB fs a)=dE b from by unfold cR;rw[zn W]);have bb:Hid (aB fs a=iX a b (aB fs a)):=za (by unfold iX;rw[zm (λD=>D.1 W)]);clear W
     cases M:b.name.toList.isEmpty with
     |false=>
      have o:=za (show cR fs a b (aB fs a)=false from by rw[a9.out];unfold dE;rw[M];rfl);have n:=za (E.out a B.out (by rw[F.out,o.out,zG]) r);go_upto_region 10 with fail;go_cut [] (λg=>Hid (ah g (w.heap.size+1) 30 [.int .i64 130,.int .i64 (a:Int),.string ⟨#[]⟩])∧Hid (zz w g))
      case first=>
       go_wp2_with (first
        |(go_at_call 20;refine(H.out (a:Int) _ _).mono ?_;rintro v K ⟨rfl,j⟩;have k:=za (I.more j);clear j)
        |(refine aP (.tmp 2) (.tmp 62) 30 (w.heap.size+1) 0 30 [.int .i64 0,.int .i64 0,.string ⟨#[]⟩] [.int .i64 130,.int .i64 (a:Int),.string ⟨#[]⟩] _ _ rfl rfl rfl rfl rfl bK (by simp[Value.oneCell']) k.z (by simp) ?_;intro J h i l;have c:=za h;have d:=za (k.below.trans (i _ (zE _)));clear h i l))
       go_meet;exact⟨c,d⟩
      case rest=>
       obtain⟨c,d⟩:=hcut;go_step;go_step;simp +zetaDelta only[Exit.then,Exit.inBlock];exact bodyPost_ret (aW rfl _ _ (w.heap.size+1) [.int .i64 130,.int .i64 (a:Int),.string ⟨#[]⟩] rfl c.out rfl) rfl ⟨by rw[n.out];rfl,d⟩
     |true=>
      by_cases Q:b.params=0
      ·have gv:=za Q;rw[Q]at av;by_cases C:A=0
       ·subst C;have C:=N.out;by_cases P:b.around= -1
        ·rw[P]at ar;have o:=za (show cR fs a b (aB fs a)=true from by rw[a9.out];unfold dE;rw[M,ze Q,ze C,ze P];rfl);clear Q C P;go_wp2_with fail;go_meet;exact⟨o,bb.out ▸ I,u⟩
        ·have ej:(b.around != -1)=true:=zO.2 P;have ef:(b.around== -1)=false:=zh.2 P;have o:=za (show cR fs a b (aB fs a)=false from by rw[a9.out];unfold dE;rw[zg P,zF]);clear Q C P;have n:=za (E.out a B.out (by rw[F.out,o.out,zG]) r);go_upto_region 10 with fail;go_cut [] (λg=>Hid (ah g (w.heap.size+1) 30 [.int .i64 130,.int .i64 (a:Int),.string ⟨#[]⟩])∧Hid (zz w g))
         case first=>
          go_wp2_with (first
           |(go_at_call 20;refine(H.out (a:Int) _ _).mono ?_;rintro v K ⟨rfl,j⟩;have k:=za (I.more j);clear j)
           |(refine aP (.tmp 2) (.tmp 62) 30 (w.heap.size+1) 0 30 [.int .i64 0,.int .i64 0,.string ⟨#[]⟩] [.int .i64 130,.int .i64 (a:Int),.string ⟨#[]⟩] _ _ rfl rfl rfl rfl rfl bK (by simp[Value.oneCell']) k.z (by simp) ?_;intro J h i l;have c:=za h;have d:=za (k.below.trans (i _ (zE _)));clear h i l))
          go_meet;exact⟨c,d⟩
         case rest=>
          obtain⟨c,d⟩:=hcut;go_step;go_step;simp +zetaDelta only[Exit.then,Exit.inBlock];exact bodyPost_ret (aW rfl _ _ (w.heap.size+1) [.int .i64 130,.int .i64 (a:Int),.string ⟨#[]⟩] rfl c.out rfl) rfl ⟨by rw[n.out];rfl,d⟩
       ·have em:(0:Int)<(A:Int):=by omega
        have ek:0<A:=by omega
        have o:=za (show cR fs a b (aB fs a)=false from by rw[a9.out];unfold dE;rw[N.out,zg C,zF,zG]);clear Q C;have n:=za (E.out a B.out (by rw[F.out,o.out,zG]) r);go_upto_region 10 with fail;go_cut [] (λg=>Hid (ah g (w.heap.size+1) 30 [.int .i64 130,.int .i64 (a:Int),.string ⟨#[]⟩])∧Hid (zz w g))
        case first=>
         go_wp2_with (first
          |(go_at_call 20;refine(H.out (a:Int) _ _).mono ?_;rintro v K ⟨rfl,j⟩;have k:=za (I.more j);clear j)
          |(refine aP (.tmp 2) (.tmp 62) 30 (w.heap.size+1) 0 30 [.int .i64 0,.int .i64 0,.string ⟨#[]⟩] [.int .i64 130,.int .i64 (a:Int),.string ⟨#[]⟩] _ _ rfl rfl rfl rfl rfl bK (by simp[Value.oneCell']) k.z (by simp) ?_;intro J h i l;have c:=za h;have d:=za (k.below.trans (i _ (zE _)));clear h i l))
         go_meet;exact⟨c,d⟩
        case rest=>
         obtain⟨c,d⟩:=hcut;go_step;go_step;simp +zetaDelta only[Exit.then,Exit.inBlock];exact bodyPost_ret (aW rfl _ _ (w.heap.size+1) [.int .i64 130,.int .i64 (a:Int),.string ⟨#[]⟩] rfl c.out rfl) rfl ⟨by rw[n.out];rfl,d⟩
      ·have f2:(b.params !=0)=true:=zO.2 Q;have f1:(b.params==0)=false:=zh.2 Q;have o:=za (show cR fs a b (aB fs a)=false from by rw[a9.out];unfold dE;rw[zg Q,zF,zG,zG]);clear Q;have n:=za (E.out a B.out (by rw[F.out,o.out,zG]) r);go_upto_region 10 with fail;go_cut [] (λg=>Hid (ah g (w.heap.size+1) 30 [.int .i64 130,.int .i64 (a:Int),.string ⟨#[]⟩])∧Hid (zz w g))
       case first=>
        go_wp2_with (first
         |(go_at_call 20;refine(H.out (a:Int) _ _).mono ?_;rintro v K ⟨rfl,j⟩;have k:=za (I.more j);clear j)
         |(refine aP (.tmp 2) (.tmp 62) 30 (w.heap.size+1) 0 30 [.int .i64 0,.int .i64 0,.string ⟨#[]⟩] [.int .i64 130,.int .i64 (a:Int),.string ⟨#[]⟩] _ _ rfl rfl rfl rfl rfl bK (by simp[Value.oneCell']) k.z (by simp) ?_;intro J h i l;have c:=za h;have d:=za (k.below.trans (i _ (zE _)));clear h i l))
        go_meet;exact⟨c,d⟩
       case rest=>
        obtain⟨c,d⟩:=hcut;go_step;go_step;simp +zetaDelta only[Exit.then,Exit.inBlock];exact bodyPost_ret (aW rfl _ _ (w.heap.size+1) [.int .i64 130,.int .i64 (a:Int),.string ⟨#[]⟩] rfl c.out rfl) rfl ⟨by rw[n.out];rfl,d⟩
    ·have ev:((a:Int)==0)=false:=zh.2 (by omega);by_cases Y:b.around= -1
     ·have e3:(b.around== -1)=true:=by rw[Y];rfl
      have bl:=za (show cR fs a b (aB fs a)=dt b (aB fs a)from by unfold cR;rw[zm W,zn Y]);have bb:Hid (aB fs a++ [b.name]=iX a b (aB fs a)):=za (by unfold iX;rw[zn ⟨W,Y⟩]);clear W Y;obtain⟨a8,af⟩:∃a8,pY b.name (aB fs a)=a8:=⟨_,rfl⟩
      have be:=za af
      cases X:eH b.name with
      |false=>
       have bc:=za X;have o:=za (show cR fs a b (aB fs a)=false from by rw[bl.out];unfold dt;rw[X,zF,zG]);clear X af;have n:=za (E.out a B.out (by rw[F.out,o.out,zG]) r);go_upto_region 14 with(first|(go_at_call 45;refine(bq.out b.name _ T.1).mono ?_;rw[bc.out];rintro v O ⟨rfl,G⟩;have x:=za (I.more G);have q:=za (u.below G u.lt);have b2:O.cell? ⟨s,0,none⟩=some (.string b.name):=q.cell 0;have a3:O.cell? ⟨s,3,none⟩=some (.slice b.TA A b.tc):=(by rw[<-N.out];exact q.cell 3);have ap:=q.lt;have ad:=bJ x.m T.1;rw[be.out]at ad;clear G V av a5 ar a4))
       go_cut [] (λg=>Hid (ah g (w.heap.size+1) 30 [.int .i64 130,.int .i64 (a:Int),.string ⟨#[]⟩])∧Hid (zz w g))
       case first=>
        go_wp2_with (first
         |(go_at_call 20;refine(H.out (a:Int) _ _).mono ?_;rintro v K ⟨rfl,j⟩;have k:=za (x.more j);clear j)
         |(refine aP (.tmp 2) (.tmp 86) 30 (w.heap.size+1) 0 30 [.int .i64 0,.int .i64 0,.string ⟨#[]⟩] [.int .i64 130,.int .i64 (a:Int),.string ⟨#[]⟩] _ _ rfl rfl rfl rfl rfl bK (by simp[Value.oneCell']) k.z (by simp) ?_;intro J h i l;have c:=za h;have d:=za (k.below.trans (i _ (zE _)));clear h i l))
        go_meet;exact⟨c,d⟩
       case rest=>
        obtain⟨c,d⟩:=hcut;go_step;go_step;simp +zetaDelta only[Exit.then,Exit.inBlock];exact bodyPost_ret (aW rfl _ _ (w.heap.size+1) [.int .i64 130,.int .i64 (a:Int),.string ⟨#[]⟩] rfl c.out rfl) rfl ⟨by rw[n.out];rfl,d⟩
      |true=>
       have bc:=za X;by_cases C:A=0
       ·subst C;have C:=N.out;by_cases P:a8=0
        ·subst P;have o:=za (show cR fs a b (aB fs a)=true from by rw[bl.out];unfold dt;rw[X,ze C,ze af];rfl);clear X C af;go_wp2_with (first|(go_at_call 45;refine(bq.out b.name _ T.1).mono ?_;rw[bc.out];rintro v O ⟨rfl,G⟩;have x:=za (I.more G);have q:=za (u.below G u.lt);have b2:O.cell? ⟨s,0,none⟩=some (.string b.name):=q.cell 0;have a3:O.cell? ⟨s,3,none⟩=some (.slice b.TA 0 b.tc):=(by rw[<-N.out];exact q.cell 3);have ap:=q.lt;have ad:=bJ x.m T.1;rw[be.out]at ad;clear G V av a5 ar a4)|(refine wF (.tmp 87) (.tmp 89) (.const (.int .i64 1)) (w.heap.size+1+1) b.name (aB fs a) _ rfl rfl rfl rfl (by rw[be.out];rfl) x.m (by have:=fo.out;omega) T.1 ?_;intro bi ct b6;have an:=za (x.put ct b6);have a2:=za (q.grown b6 (by intro e;injection e;omega));clear ct b6));go_meet;exact⟨o,bb.out ▸ an,a2⟩
        ·have ej:(0:Int)<(a8:Int):=by omega
         have ef:¬((a8:Int)<=0):=by omega
         have o:=za (show cR fs a b (aB fs a)=false from by rw[bl.out];unfold dt;rw[zg (show ¬pY b.name (aB fs a)=0 from λe=>P (af.symm.trans e)),zF]);clear X C af P;have n:=za (E.out a B.out (by rw[F.out,o.out,zG]) r);go_upto_region 14 with(first|(go_at_call 45;refine(bq.out b.name _ T.1).mono ?_;rw[bc.out];rintro v O ⟨rfl,G⟩;have x:=za (I.more G);have q:=za (u.below G u.lt);have b2:O.cell? ⟨s,0,none⟩=some (.string b.name):=q.cell 0;have a3:O.cell? ⟨s,3,none⟩=some (.slice b.TA 0 b.tc):=(by rw[<-N.out];exact q.cell 3);have ap:=q.lt;have ad:=bJ x.m T.1;rw[be.out]at ad;clear G V av a5 ar a4))
         go_cut [] (λg=>Hid (ah g (w.heap.size+1) 30 [.int .i64 130,.int .i64 (a:Int),.string ⟨#[]⟩])∧Hid (zz w g))
         case first=>
          go_wp2_with (first
           |(go_at_call 20;refine(H.out (a:Int) _ _).mono ?_;rintro v K ⟨rfl,j⟩;have k:=za (x.more j);clear j)
           |(refine aP (.tmp 2) (.tmp 86) 30 (w.heap.size+1) 0 30 [.int .i64 0,.int .i64 0,.string ⟨#[]⟩] [.int .i64 130,.int .i64 (a:Int),.string ⟨#[]⟩] _ _ rfl rfl rfl rfl rfl bK (by simp[Value.oneCell']) k.z (by simp) ?_;intro J h i l;have c:=za h;have d:=za (k.below.trans (i _ (zE _)));clear h i l))
          go_meet;exact⟨c,d⟩
         case rest=>
          obtain⟨c,d⟩:=hcut;go_step;go_step;simp +zetaDelta only[Exit.then,Exit.inBlock];exact bodyPost_ret (aW rfl _ _ (w.heap.size+1) [.int .i64 130,.int .i64 (a:Int),.string ⟨#[]⟩] rfl c.out rfl) rfl ⟨by rw[n.out];rfl,d⟩
       ·have em:(0:Int)<(A:Int):=by omega
        have ek:0<A:=by omega
        have o:=za (show cR fs a b (aB fs a)=false from by rw[bl.out];unfold dt;rw[N.out,zg C,zG,zG]);clear X C af;have n:=za (E.out a B.out (by rw[F.out,o.out,zG]) r);go_upto_region 14 with(first|(go_at_call 45;refine(bq.out b.name _ T.1).mono ?_;rw[bc.out];rintro v O ⟨rfl,G⟩;have x:=za (I.more G);have q:=za (u.below G u.lt);have b2:O.cell? ⟨s,0,none⟩=some (.string b.name):=q.cell 0;have a3:O.cell? ⟨s,3,none⟩=some (.slice b.TA A b.tc):=(by rw[<-N.out];exact q.cell 3);have ap:=q.lt;have ad:=bJ x.m T.1;rw[be.out]at ad;clear G V av a5 ar a4))
        go_cut [] (λg=>Hid (ah g (w.heap.size+1) 30 [.int .i64 130,.int .i64 (a:Int),.string ⟨#[]⟩])∧Hid (zz w g))
        case first=>
         go_wp2_with (first
          |(go_at_call 20;refine(H.out (a:Int) _ _).mono ?_;rintro v K ⟨rfl,j⟩;have k:=za (x.more j);clear j)
          |(refine aP (.tmp 2) (.tmp 86) 30 (w.heap.size+1) 0 30 [.int .i64 0,.int .i64 0,.string ⟨#[]⟩] [.int .i64 130,.int .i64 (a:Int),.string ⟨#[]⟩] _ _ rfl rfl rfl rfl rfl bK (by simp[Value.oneCell']) k.z (by simp) ?_;intro J h i l;have c:=za h;have d:=za (k.below.trans (i _ (zE _)));clear h i l))
         go_meet;exact⟨c,d⟩
        case rest=>
         obtain⟨c,d⟩:=hcut;go_step;go_step;simp +zetaDelta only[Exit.then,Exit.inBlock];exact bodyPost_ret (aW rfl _ _ (w.heap.size+1) [.int .i64 130,.int .i64 (a:Int),.string ⟨#[]⟩] rfl c.out rfl) rfl ⟨by rw[n.out];rfl,d⟩
     ·have e3:(b.around== -1)=false:=zh.2 Y;have bk:=za (show cR fs a b (aB fs a)=(decide (b.name=⟨#[102,117,110,99]⟩)&&decide (0<=b.around)&&decide (b.around<a))from by unfold cR;rw[zm W,zm Y]);have bb:Hid (aB fs a=iX a b (aB fs a)):=za (by unfold iX;rw[zm (λD=>Y D.2)]);clear W Y;by_cases M:b.name=⟨#[102,117,110,99]⟩
      ·have gx:=za M;rw[M]at V;by_cases Q:b.around<0
       ·have o:=za (show cR fs a b (aB fs a)=false from by rw[bk.out,zg (show ¬0<=b.around by omega),zF,zG]);clear M;have n:=za (E.out a B.out (by rw[F.out,o.out,zG]) r);go_upto_region 7 with fail;go_cut [] (λg=>Hid (ah g (w.heap.size+1) 30 [.int .i64 130,.int .i64 (a:Int),.string ⟨#[]⟩])∧Hid (zz w g))
        case first=>
         go_wp2_with (first
          |(go_at_call 20;refine(H.out (a:Int) _ _).mono ?_;rintro v K ⟨rfl,j⟩;have k:=za (I.more j);clear j)
          |(refine aP (.tmp 2) (.tmp 38) 30 (w.heap.size+1) 0 30 [.int .i64 0,.int .i64 0,.string ⟨#[]⟩] [.int .i64 130,.int .i64 (a:Int),.string ⟨#[]⟩] _ _ rfl rfl rfl rfl rfl bK (by simp[Value.oneCell']) k.z (by simp) ?_;intro J h i l;have c:=za h;have d:=za (k.below.trans (i _ (zE _)));clear h i l))
         go_meet;exact⟨c,d⟩
        case rest=>
         obtain⟨c,d⟩:=hcut;go_step;go_step;simp +zetaDelta only[Exit.then,Exit.inBlock];exact bodyPost_ret (aW rfl _ _ (w.heap.size+1) [.int .i64 130,.int .i64 (a:Int),.string ⟨#[]⟩] rfl c.out rfl) rfl ⟨by rw[n.out];rfl,d⟩
       ·by_cases C:(a:Int)<=b.around
        ·have o:=za (show cR fs a b (aB fs a)=false from by rw[bk.out,zg (show ¬b.around<(a:Int) by omega),zF]);clear M;have n:=za (E.out a B.out (by rw[F.out,o.out,zG]) r);go_upto_region 7 with fail;go_cut [] (λg=>Hid (ah g (w.heap.size+1) 30 [.int .i64 130,.int .i64 (a:Int),.string ⟨#[]⟩])∧Hid (zz w g))
         case first=>
          go_wp2_with (first
           |(go_at_call 20;refine(H.out (a:Int) _ _).mono ?_;rintro v K ⟨rfl,j⟩;have k:=za (I.more j);clear j)
           |(refine aP (.tmp 2) (.tmp 38) 30 (w.heap.size+1) 0 30 [.int .i64 0,.int .i64 0,.string ⟨#[]⟩] [.int .i64 130,.int .i64 (a:Int),.string ⟨#[]⟩] _ _ rfl rfl rfl rfl rfl bK (by simp[Value.oneCell']) k.z (by simp) ?_;intro J h i l;have c:=za h;have d:=za (k.below.trans (i _ (zE _)));clear h i l))
          go_meet;exact⟨c,d⟩
         case rest=>
          obtain⟨c,d⟩:=hcut;go_step;go_step;simp +zetaDelta only[Exit.then,Exit.inBlock];exact bodyPost_ret (aW rfl _ _ (w.heap.size+1) [.int .i64 130,.int .i64 (a:Int),.string ⟨#[]⟩] rfl c.out rfl) rfl ⟨by rw[n.out];rfl,d⟩
        ·have o:=za (show cR fs a b (aB fs a)=true from by rw[bk.out,ze M,ze (show 0<=b.around by omega),ze (show b.around<(a:Int) by omega)];rfl);clear M;go_wp2_with fail;go_meet;exact⟨o,bb.out ▸ I,u⟩
      ·have o:=za (show cR fs a b (aB fs a)=false from by rw[bk.out,zg M,zG,zG]);have f5:(b.name.toList==[102,117,110,99])=false:=zh.2 (λD=>M (ByteArray.ext (Array.toList_inj.1 (by rw[zH]at D;exact D))));clear M;have n:=za (E.out a B.out (by rw[F.out,o.out,zG]) r);go_upto_region 7 with fail;go_cut [] (λg=>Hid (ah g (w.heap.size+1) 30 [.int .i64 130,.int .i64 (a:Int),.string ⟨#[]⟩])∧Hid (zz w g))
       case first=>
        go_wp2_with (first
         |(go_at_call 20;refine(H.out (a:Int) _ _).mono ?_;rintro v K ⟨rfl,j⟩;have k:=za (I.more j);clear j)
         |(refine aP (.tmp 2) (.tmp 38) 30 (w.heap.size+1) 0 30 [.int .i64 0,.int .i64 0,.string ⟨#[]⟩] [.int .i64 130,.int .i64 (a:Int),.string ⟨#[]⟩] _ _ rfl rfl rfl rfl rfl bK (by simp[Value.oneCell']) k.z (by simp) ?_;intro J h i l;have c:=za h;have d:=za (k.below.trans (i _ (zE _)));clear h i l))
        go_meet;exact⟨c,d⟩
       case rest=>
        obtain⟨c,d⟩:=hcut;go_step;go_step;simp +zetaDelta only[Exit.then,Exit.inBlock];exact bodyPost_ret (aW rfl _ _ (w.heap.size+1) [.int .i64 130,.int .i64 (a:Int),.string ⟨#[]⟩] rfl c.out rfl) rfl ⟨by rw[n.out];rfl,d⟩
   case rest=>
    obtain⟨o,x,q⟩:=hcut;clear V av a5 ar a4 I u;have ea:wc.cell? ⟨s,1,none⟩=some (.int .i64 b.params):=q.cell 1;have d9:wc.cell? ⟨s,2,none⟩=some (.int .i64 b.slots):=q.cell 2;have ap:=q.lt
    cases R:er b with
    |false=>
     have ba:=za R;by_cases cn:b.params<0
     ·clear R;have n:=za (E.out a B.out (by rw[F.out,ba.out,zG,zF]) r);go_upto_region 17 with fail;go_cut [] (λg=>Hid (ah g (w.heap.size+1) 30 [.int .i64 130,.int .i64 (a:Int),.string ⟨#[]⟩])∧Hid (zz w g))
      case first=>
       go_wp2_with (first
        |(go_at_call 20;refine(H.out (a:Int) _ _).mono ?_;rintro v K ⟨rfl,j⟩;have k:=za (x.more j);clear j)
        |(refine aP (.tmp 2) (.tmp 106) 30 (w.heap.size+1) 0 30 [.int .i64 0,.int .i64 0,.string ⟨#[]⟩] [.int .i64 130,.int .i64 (a:Int),.string ⟨#[]⟩] _ _ rfl rfl rfl rfl rfl bK (by simp[Value.oneCell']) k.z (by simp) ?_;intro J h i l;have c:=za h;have d:=za (k.below.trans (i _ (zE _)));clear h i l))
       go_meet;exact⟨c,d⟩
      case rest=>
       obtain⟨c,d⟩:=hcut;go_step;go_step;simp +zetaDelta only[Exit.then,Exit.inBlock];exact bodyPost_ret (aW rfl _ _ (w.heap.size+1) [.int .i64 130,.int .i64 (a:Int),.string ⟨#[]⟩] rfl c.out rfl) rfl ⟨by rw[n.out];rfl,d⟩
     ·by_cases cl:13<b.params
      ·clear R;have n:=za (E.out a B.out (by rw[F.out,ba.out,zG,zF]) r);go_upto_region 17 with fail;go_cut [] (λg=>Hid (ah g (w.heap.size+1) 30 [.int .i64 130,.int .i64 (a:Int),.string ⟨#[]⟩])∧Hid (zz w g))
       case first=>
        go_wp2_with (first
         |(go_at_call 20;refine(H.out (a:Int) _ _).mono ?_;rintro v K ⟨rfl,j⟩;have k:=za (x.more j);clear j)
         |(refine aP (.tmp 2) (.tmp 106) 30 (w.heap.size+1) 0 30 [.int .i64 0,.int .i64 0,.string ⟨#[]⟩] [.int .i64 130,.int .i64 (a:Int),.string ⟨#[]⟩] _ _ rfl rfl rfl rfl rfl bK (by simp[Value.oneCell']) k.z (by simp) ?_;intro J h i l;have c:=za h;have d:=za (k.below.trans (i _ (zE _)));clear h i l))
        go_meet;exact⟨c,d⟩
       case rest=>
        obtain⟨c,d⟩:=hcut;go_step;go_step;simp +zetaDelta only[Exit.then,Exit.inBlock];exact bodyPost_ret (aW rfl _ _ (w.heap.size+1) [.int .i64 130,.int .i64 (a:Int),.string ⟨#[]⟩] rfl c.out rfl) rfl ⟨by rw[n.out];rfl,d⟩
      ·have ck:b.slots<b.params:=by
        unfold er at R;rw[ze (show 0<=b.params by omega),ze (show b.params<=13 by omega),Bool.true_and,Bool.true_and]at R;have:=of_decide_eq_false R;omega
       clear R;have n:=za (E.out a B.out (by rw[F.out,ba.out,zG,zF]) r);go_upto_region 17 with fail;go_cut [] (λg=>Hid (ah g (w.heap.size+1) 30 [.int .i64 130,.int .i64 (a:Int),.string ⟨#[]⟩])∧Hid (zz w g))
       case first=>
        go_wp2_with (first
         |(go_at_call 20;refine(H.out (a:Int) _ _).mono ?_;rintro v K ⟨rfl,j⟩;have k:=za (x.more j);clear j)
         |(refine aP (.tmp 2) (.tmp 106) 30 (w.heap.size+1) 0 30 [.int .i64 0,.int .i64 0,.string ⟨#[]⟩] [.int .i64 130,.int .i64 (a:Int),.string ⟨#[]⟩] _ _ rfl rfl rfl rfl rfl bK (by simp[Value.oneCell']) k.z (by simp) ?_;intro J h i l;have c:=za h;have d:=za (k.below.trans (i _ (zE _)));clear h i l))
        go_meet;exact⟨c,d⟩
       case rest=>
        obtain⟨c,d⟩:=hcut;go_step;go_step;simp +zetaDelta only[Exit.then,Exit.inBlock];exact bodyPost_ret (aW rfl _ _ (w.heap.size+1) [.int .i64 130,.int .i64 (a:Int),.string ⟨#[]⟩] rfl c.out rfl) rfl ⟨by rw[n.out];rfl,d⟩
    |true=>
     have ba:=za R;obtain⟨cn,cl,ck⟩:=mA R;have fl:=za (fm.out R);clear R;go_wp2_with fail;clear ea d9 ap cn cl ck;go_loopw [7,8,9] (λb0 _ _ wr=> ∃L:Nat,b0= .int .i64 L∧L<=A∧Hid (∀t,(bj:t<b.taken.length)->t<L->kN (fs.getD b.around.toNat default).slots (fs.getD b.around.toNat default).taken.length b.taken[t]=false)∧Hid (JU w [.slice (some ⟨ds,co,none⟩) fs.length fc,.slice GA gl gc] (iX a b (aB fs a)) wr)∧Hid (ah wr s 47 [.string b.name,.int .i64 b.params,.int .i64 b.slots,.slice b.TA b.taken.length b.tc,.int .i64 b.around,.slice b.CA b.code.length b.cc])) (λb0 _ _ _=>A - (intOf b0).toNat)
     case atStart=>exact⟨0,rfl,zu _,za (λt _ D=>by omega),x,q⟩
     case round=>
      clear x q;rename World=>bi;obtain⟨L,rfl,gh,d2,an,a2⟩:=hrel;have a3:bi.cell? ⟨s,3,none⟩=some (.slice b.TA A b.tc):=by rw[<-N.out];exact a2.cell 3
      have d8:bi.cell? ⟨s,4,none⟩=some (.int .i64 b.around):=a2.cell 4;have ap:=a2.lt;have c5:=an.p.cell 0;have c4:=an.p.lt;by_cases b5:L<A
      ·have a1:L<b.taken.length:=by rw[N.out];exact b5
       have e0:=Jm o.out (by intro e;rw[e]at a1;simp at a1);obtain⟨Z,b9⟩:∃Z:Nat,b.around=(Z:Int):=⟨b.around.toNat,by omega⟩
       have b8:Z<fs.length:=by omega
       have d5:=za (d6.below an.below);obtain⟨gt,f3,b7,gm,cC⟩:=d5.at_ (by omega);injection b7 with b7;injection b7 with e1 e2 _;subst e1 e2;obtain⟨ff,e9,e8,c6,e7,e6⟩:=cC Z b8;have a0:b∈fs:=bp.out ▸ zk r;obtain⟨f0,fx,e5,f4,cv⟩:=d5.taken b a0 (by simp;omega);have en:=cv L _ (KI a1);have d0:=za (fi.out b a0 _ (zk a1));have d4:=za (show fs.getD b.around.toNat default=fs[Z]from by rw[b9,zV,aC b8]);rw[e5]at a3;rw[b9]at d8;obtain⟨a7,U⟩:∃a7,kN (fs.getD b.around.toNat default).slots (fs.getD b.around.toNat default).taken.length b.taken[L]=a7:=⟨_,rfl⟩
       have fn:=za (λ(D:a7=false)=>JZ d2.out a1 (U.trans D));have fh:=za (λ(D:a7=true)=>JP (fs:=fs) (k:=a) a1 (U.trans D));rw[d4.out]at U;have gs:A<=2000000:=by rw[<-N.out];exact T.2
       have gq:(0:Int)<=(Z:Int)∧(Z:Int)<(fs.length:Int):=by omega
       have gb:(0:Int)<=(L:Int)∧(L:Int)<(A:Int):=by omega
       have cf:=za (d1.out _ (zk b8)).2;clear cC cv e0 b9 a0;generalize b.taken[L]=tt at en d0 U;clear d4;generalize fs[Z]=y at ff e9 e8 c6 e7 e6 U cf;generalize e4:y.taken.length=TN at c6 U cf;have bt:=za (an.more (below1 bi (.cells #[.string y.name,.int .i64 y.params,.int .i64 y.slots,.slice y.TA TN y.tc,.int .i64 y.around,.slice y.CA y.code.length y.cc] 47)));have dA:=za (a2.alloc (.cells #[.string y.name,.int .i64 y.params,.int .i64 y.slots,.slice y.TA TN y.tc,.int .i64 y.around,.slice y.CA y.code.length y.cc] 47));clear e4;have aa:=d0.out;have bo:=cf.out
       cases a7 with
       |true=>
        have S:=U;clear U;have d7:=za (fh.out rfl);by_cases cj:y.slots<=tt
        ·clear S aa bo;have n:=za (E.out a B.out (by rw[F.out,d7.out,zF,zF]) r);go_upto_region 24 with fail;go_cut [] (λg=>Hid (ah g (w.heap.size+1) 30 [.int .i64 130,.int .i64 (a:Int),.string ⟨#[]⟩])∧Hid (zz w g))
         case first=>
          go_wp2_with (first
           |(go_at_call 20;refine(H.out (a:Int) _ _).mono ?_;rintro v K ⟨rfl,j⟩;have k:=za (bt.more j);clear j)
           |(refine aP (.tmp 2) (.tmp 143) 30 (w.heap.size+1) 0 30 [.int .i64 0,.int .i64 0,.string ⟨#[]⟩] [.int .i64 130,.int .i64 (a:Int),.string ⟨#[]⟩] _ _ rfl rfl rfl rfl rfl bK (by simp[Value.oneCell']) k.z (by simp) ?_;intro J h i l;have c:=za h;have d:=za (k.below.trans (i _ (zE _)));clear h i l))
          go_meet;exact⟨c,d⟩
         case rest=>
          obtain⟨c,d⟩:=hcut;go_step;go_step;simp +zetaDelta only[Exit.then,Exit.inBlock];exact bodyPost_ret (aW rfl _ _ (w.heap.size+1) [.int .i64 130,.int .i64 (a:Int),.string ⟨#[]⟩] rfl c.out rfl) rfl ⟨by rw[n.out];rfl,d⟩
        ·have b3:tt< -(TN:Int):=by
          unfold kN at S;rw[zg cj,Bool.false_or]at S;exact zx S
         have a6:tt<0:=by omega
         have ee:wrap64 (tt+1)=tt+1:=Kf aa a6;have ed:wrap64 (-(tt+1))= -(tt+1):=FA aa a6;have ec:(TN:Int)<= -(tt+1):=by omega
         clear S aa bo;have n:=za (E.out a B.out (by rw[F.out,d7.out,zF,zF]) r);go_upto_region 24 with fail;go_cut [] (λg=>Hid (ah g (w.heap.size+1) 30 [.int .i64 130,.int .i64 (a:Int),.string ⟨#[]⟩])∧Hid (zz w g))
         case first=>
          go_wp2_with (first
           |(go_at_call 20;refine(H.out (a:Int) _ _).mono ?_;rintro v K ⟨rfl,j⟩;have k:=za (bt.more j);clear j)
           |(refine aP (.tmp 2) (.tmp 143) 30 (w.heap.size+1) 0 30 [.int .i64 0,.int .i64 0,.string ⟨#[]⟩] [.int .i64 130,.int .i64 (a:Int),.string ⟨#[]⟩] _ _ rfl rfl rfl rfl rfl bK (by simp[Value.oneCell']) k.z (by simp) ?_;intro J h i l;have c:=za h;have d:=za (k.below.trans (i _ (zE _)));clear h i l))
          go_meet;exact⟨c,d⟩
         case rest=>
          obtain⟨c,d⟩:=hcut;go_step;go_step;simp +zetaDelta only[Exit.then,Exit.inBlock];exact bodyPost_ret (aW rfl _ _ (w.heap.size+1) [.int .i64 130,.int .i64 (a:Int),.string ⟨#[]⟩] rfl c.out rfl) rfl ⟨by rw[n.out];rfl,d⟩
       |false=>
        have d3:=za (fn.out rfl);have S:=U;clear U;unfold kN at S;rw[Bool.or_eq_false_iff]at S;have cj:¬y.slots<=tt:=of_decide_eq_false S.1;have b3:¬tt< -(TN:Int):=of_decide_eq_false S.2;clear S;by_cases a6:tt<0
        ·have ee:wrap64 (tt+1)=tt+1:=Kf aa a6;have ed:wrap64 (-(tt+1))= -(tt+1):=FA aa a6;have ec:¬(TN:Int)<= -(tt+1):=by omega
         clear aa bo b3;go_wp2_with fail;go_roundw
         case rel=>exact⟨L+1,by go_num,b5,d3,bt,dA⟩
         case measure=>simp[intOf];omega
        ·clear aa bo b3;go_wp2_with fail;go_roundw
         case rel=>exact⟨L+1,by go_num,b5,d3,bt,dA⟩
         case measure=>simp[intOf];omega
      ·have fr:=za (show ph fs a b=true from Ff (λt bj=>d2.out t bj (by have:=N.out;omega)));have fj:=za (show ∀t,t<a+1->bR fs t (aB fs t)=true from λt bj=>by
        by_cases e:t=a
        ·subst e;rw[F.out,o.out,ba.out,fr.out];rfl
        ·exact B.out t (by omega))
       go_wp2_with fail;go_roundw
       case rel=>exact⟨a+1,by go_num,r,fj,by rw[fl.out];exact an⟩
       case measure=>simp[intOf];omega
  ·have fk:=za (dB.out (λt bj=>B.out t (by omega)));go_upto_region 25 with fail;go_cut [] (λg=>Hid (ah g (w.heap.size+1) 30 [.int .i64 0,.int .i64 0,.string ⟨#[]⟩])∧Hid (zz w g))
   case first=>
    go_wp2_with (refine aP (.tmp 2) (.tmp 144) 30 (w.heap.size+1) 0 30 [.int .i64 0,.int .i64 0,.string ⟨#[]⟩] [.int .i64 0,.int .i64 0,.string ⟨#[]⟩] _ _ rfl rfl rfl rfl rfl bK (by simp[Value.oneCell']) ab.z (by simp) ?_;intro ft cs c0 ew;have cd:=za cs;have ch:=za (ab.below.trans (c0 _ (zE _)));clear cs c0 ew);go_meet;exact⟨cd,ch⟩
   case rest=>
    obtain⟨cd,ch⟩:=hcut;go_step;go_step;exact bodyPost_ret (aW rfl _ _ (w.heap.size+1) [.int .i64 0,.int .i64 0,.string ⟨#[]⟩] rfl cd.out rfl) rfl ⟨by rw[fk.out];rfl,ch⟩
end
end Go.Proofs.YtmecmlpoallpcaaGreatDoor

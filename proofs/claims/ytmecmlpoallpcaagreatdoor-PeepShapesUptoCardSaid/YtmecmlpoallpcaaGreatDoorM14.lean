/- Parts of the proof: FineNo Wrong Many Outer Globals Headed HeadedB HeadedC RightPlain -/
import Derived.Test.YtmecmlpoallpcaaGreatDoorM10
import Derived.Test.YtmecmlpoallpcaaGreatDoorM03
import Derived.Handy
import Derived.Deep.DeepMust
import Derived.Test.YtmecmlpoallpcaaGreatDoorM04
import Derived.Test.YtmecmlpoallpcaaGreatDoorM11
set_option linter.all false
set_option maxHeartbeats 8000000
namespace Go.Proofs.YtmecmlpoallpcaaGreatDoor
open Go.Proofs.Tryz
section
set_option maxRecDepth 20000
open Go.RowKit Go.Proofs.PeepPlain
def I8(fs:List Fn)(B GA:Option Addr)(fc gl gc f k:Nat)(w:World)(o:Fn)(x:au)(c:bD w B fs)(A:aX w)(m:f<fs.length)(l:fs[f]=o)(R:fs.length<=100000)(H:k<o.code.length)(i:o.code[k]=x)(S:o.code.length<=200000)(j:x.text.size<=2000000)
 (K:(aj x.op).word.toList.isEmpty=true):
 Calls prog 40 #[.agg #[.slice B fs.length fc,.slice GA gl gc],.int .i64 f,.int .i64 k] w λe w'=>e= .returned (.bool false)∧zz w w':=by
 obtain⟨h,g⟩:∃h,aj x.op=h:=⟨_,rfl⟩
 have I:=bU x.op h g;rw[g]at K;have a1:=za c;have z:=za (show bX w o.CA o.code from c.code o (l ▸ zk m));obtain⟨an,N,rfl,U,n⟩:=c.at_ (by omega);obtain⟨y,v,u,t,s,r⟩:=n f m;rw[l]at y v u t s r;obtain⟨af,O,J,T,d⟩:=z.at_ (by omega);rw[J]at r;obtain⟨G,F,E,D,C⟩:=d k H;rw[i]at G F E D C;have av:=za d;have a0:=za A;have ar:=za j;clear c n d A j i z y v u t s g;go_enter func40,ntmps40;go_wp2_with (first
  |(go_at_call 70;refine(I _).mono ?_;rintro V M ⟨rfl,q⟩;go_must (obtain⟨p,b,a⟩:=jN _ _ _ _ _ _ _ q);have Q:=a.lt;have P:=b.lt;have ad:=b.cell 0;have ab:=b.cell 1;have aa:=a.cell 0;have Z:=a.cell 1;have Y:=a.cell 2;have X:=a.cell 3;have W:=a.cell 4;have L:=za p;have ap:=za b;have ao:=za a;clear q p b a))
 all_goals(go_ret;exact⟨rfl,L.alloc (by omega) _⟩)
def LJ(fs:List Fn)(C GA:Option Addr)(fc gl gc f k:Nat)(w:World)(o:Fn)(x:au)(c:bD w C fs)(B:aX w)(m:f<fs.length)(l:fs[f]=o)(T:fs.length<=100000)(I:k<o.code.length)(i:o.code[k]=x)(U:o.code.length<=200000)(j:x.text.size<=2000000)
 (L:(aj x.op).word.toList.isEmpty=false)(r:x.pos<0):
 Calls prog 40 #[.agg #[.slice C fs.length fc,.slice GA gl gc],.int .i64 f,.int .i64 k] w λe w'=>e= .returned (.bool false)∧zz w w':=by
 obtain⟨h,g⟩:∃h,aj x.op=h:=⟨_,rfl⟩
 have J:=bU x.op h g;rw[g]at L;have a3:=za c;have A:=za (show bX w o.CA o.code from c.code o (l ▸ zk m));obtain⟨ap,O,rfl,W,n⟩:=c.at_ (by omega);obtain⟨z,y,v,u,t,s⟩:=n f m;rw[l]at z y v u t s;obtain⟨ao,P,K,V,d⟩:=A.at_ (by omega);rw[K]at s;obtain⟨H,G,F,E,D⟩:=d k I;rw[i]at H G F E D;have a1:=za d;have a2:=za B;have a0:=za j;have Q:x.pos<0:=r;clear c n d B j r i A z y v u t g;go_enter func40,ntmps40;go_wp2_with (first
  |(go_at_call 70;refine(J _).mono ?_;rintro X N ⟨rfl,q⟩;go_must (obtain⟨p,b,a⟩:=jN _ _ _ _ _ _ _ q);have S:=a.lt;have R:=b.lt;have an:=b.cell 0;have af:=b.cell 1;have ad:=a.cell 0;have ab:=a.cell 1;have aa:=a.cell 2;have Z:=a.cell 3;have Y:=a.cell 4;have M:=za p;have av:=za b;have ar:=za a;clear q p b a))
 all_goals(go_ret;exact⟨rfl,M.alloc (by omega) _⟩)
def Lf(fs:List Fn)(C GA:Option Addr)(fc gl gc f k:Nat)(w:World)(o:Fn)(x:au)(c:bD w C fs)(B:aX w)(m:f<fs.length)(l:fs[f]=o)(V:fs.length<=100000)(I:k<o.code.length)(i:o.code[k]=x)(W:o.code.length<=200000)(j:x.text.size<=2000000)
 (M:(aj x.op).word.toList.isEmpty=false)(L:0<=x.pos)(r:60000<x.pos):
 Calls prog 40 #[.agg #[.slice C fs.length fc,.slice GA gl gc],.int .i64 f,.int .i64 k] w λe w'=>e= .returned (.bool false)∧zz w w':=by
 obtain⟨h,g⟩:∃h,aj x.op=h:=⟨_,rfl⟩
 have J:=bU x.op h g;rw[g]at M;have a5:=za c;have A:=za (show bX w o.CA o.code from c.code o (l ▸ zk m));obtain⟨av,P,rfl,Y,n⟩:=c.at_ (by omega);obtain⟨z,y,v,u,t,s⟩:=n f m;rw[l]at z y v u t s;obtain⟨ar,Q,K,X,d⟩:=A.at_ (by omega);rw[K]at s;obtain⟨H,G,F,E,D⟩:=d k I;rw[i]at H G F E D;have a3:=za d;have a4:=za B;have a2:=za j;have S:¬x.pos<0:=by omega
 have R:60000<x.pos:=r;clear c n d B j L r i A z y v u t g;go_enter func40,ntmps40;go_wp2_with (first
  |(go_at_call 70;refine(J _).mono ?_;rintro Z O ⟨rfl,q⟩;go_must (obtain⟨p,b,a⟩:=jN _ _ _ _ _ _ _ q);have U:=a.lt;have T:=b.lt;have ap:=b.cell 0;have ao:=b.cell 1;have an:=a.cell 0;have af:=a.cell 1;have ad:=a.cell 2;have ab:=a.cell 3;have aa:=a.cell 4;have N:=za p;have a1:=za b;have a0:=za a;clear q p b a))
 all_goals(go_ret;exact⟨rfl,N.alloc (by omega) _⟩)
def KG(fs:List Fn)(E GA:Option Addr)(fc gl gc f k:Nat)(w:World)(o:Fn)(x:au)(d:bD w E fs)(D:aX w)(h:f<fs.length)(n:fs[f]=o)(K:fs.length<=100000)(L:k<o.code.length)(l:o.code[k]=x)(a5:o.code.length<=200000)(m:x.text.size<=2000000)
 (Q:(aj x.op).word.toList.isEmpty=false)(P:0<=x.pos)(O:x.pos<=60000)(s:ax fs gl f x=false):
 Calls prog 40 #[.agg #[.slice E fs.length fc,.slice GA gl gc],.int .i64 f,.int .i64 k] w λe w'=>e= .returned (.bool false)∧zz w w':=by
 obtain⟨j,i⟩:∃j,aj x.op=j:=⟨_,rfl⟩
 have M:=bU x.op j i;rw[i]at Q;have ad:=za d;have B:=za (show bX w o.CA o.code from d.code o (n ▸ zk h));obtain⟨bi,ap,rfl,a7,p⟩:=d.at_ (by omega);obtain⟨A,z,y,v,u,t⟩:=p f h;rw[n]at A z y v u t;obtain⟨be,ar,N,a6,g⟩:=B.at_ (by omega);rw[N]at t;obtain⟨J,I,H,G,F⟩:=g k L;rw[l]at J I H G F;have bl:=za g;have bo:=za D;have bk:=za m;have ab:=za s;have a0:¬x.pos<0:=by omega
 have av:¬60000<x.pos:=by omega
 clear d p g D m P O s l B A z y v u i;go_enter func40,ntmps40;go_wp2_with (first
  |(go_at_call 70;refine(M _).mono ?_;rintro R ao ⟨rfl,r⟩;go_must (obtain⟨q,b,a⟩:=jN _ _ _ _ _ _ _ r);have a4:=a.lt;have a3:=b.lt;have Y:=b.cell 0;have X:=b.cell 1;have W:=a.cell 0;have V:=a.cell 1;have U:=a.cell 2;have T:=a.cell 3;have S:=a.cell 4;have C:=za q;have aa:=za b;have Z:=za a;clear r q b a)
  |(go_at_call 71;go_must (refine(lv fs _ GA fc gl gc f x _ (ad.below (C.alloc (by omega) _)) h K).mono ?_);rw[ab.out];rintro R an ⟨rfl,c⟩;have a:=Z.next c;have b:=aa.next c;have a1:=a.lt;have a2:=b.lt;have bc:=a.cell 0;have bb:=a.cell 1;have ba:=a.cell 2;have a9:=a.cell 3;have a8:=a.cell 4;have af:=za (j7 C.out (by omega) c);have bj:=za a;clear Y X W V U T S c b a))
 all_goals(go_ret;exact⟨rfl,af⟩)
def KM(fs:List Fn)(H GA:Option Addr)(fc gl gc f k:Nat)(w:World)(o:Fn)(x:au)(d:bD w H fs)(G:aX w)(h:f<fs.length)(p:fs[f]=o)(N:fs.length<=100000)(O:k<o.code.length)(m:o.code[k]=x)(bc:o.code.length<=200000)(n:x.text.size<=2000000)
 (U:(aj x.op).word.toList.isEmpty=false)(T:0<=x.pos)(S:x.pos<=60000)(u:ax fs gl f x=true)(t:de x=false):
 Calls prog 40 #[.agg #[.slice H fs.length fc,.slice GA gl gc],.int .i64 f,.int .i64 k] w λe w'=>e= .returned (.bool false)∧zz w w':=by
 obtain⟨j,i⟩:∃j,aj x.op=j:=⟨_,rfl⟩
 have P:=bU x.op j i;rw[i]at U;have av:=za d;have E:=za (show bX w o.CA o.code from d.code o (p ▸ zk h));obtain⟨bt,a4,rfl,bi,q⟩:=d.at_ (by omega);obtain⟨C,B,A,z,y,v⟩:=q f h;rw[p]at C B A z y v;obtain⟨bq,a5,R,be,g⟩:=E.at_ (by omega);rw[R]at v;obtain⟨M,L,K,J,I⟩:=g k O;rw[m]at M L K J I;have b1:=za g;have ar:=za G;have ao:=za n;have ap:=za u;have an:=za t;have a7:¬x.pos<0:=by omega
 have a6:¬60000<x.pos:=by omega
 clear d q g G n T S u t m E C B A z y i;go_enter func40,ntmps40;go_wp2_with (first
  |(go_at_call 70;refine(P _).mono ?_;rintro D a3 ⟨rfl,s⟩;go_must (obtain⟨r,b,a⟩:=jN _ _ _ _ _ _ _ s);have bb:=a.lt;have ba:=b.lt;have ab:=b.cell 0;have aa:=b.cell 1;have Z:=a.cell 0;have Y:=a.cell 1;have X:=a.cell 2;have W:=a.cell 3;have V:=a.cell 4;have F:=za r;have af:=za b;have ad:=za a;clear s r b a)
  |(go_at_call 71;go_must (refine(lv fs _ GA fc gl gc f x _ (av.below (F.alloc (by omega) _)) h N).mono ?_);rw[ap.out];rintro D a2 ⟨rfl,c⟩;have a:=ad.next c;have b:=af.next c;have a8:=a.lt;have a9:=b.lt;have bp:=a.cell 0;have bo:=a.cell 1;have bl:=a.cell 2;have bk:=a.cell 3;have bj:=a.cell 4;have l:=za (j7 F.out (by omega) c);have b0:=za a;clear ab aa Z Y X W V c b a)
  |(go_at_call 72;go_must (refine(xi x _ ao.out (ar.below l.out)).mono ?_);rw[an.out];rintro D a1 ⟨rfl,Q⟩;have a0:=za (ac l.out Q l.size)))
 all_goals(go_ret;exact⟨rfl,a0⟩)
def jn{fs:List Fn}{gl f:Nat}{x:au}(b:ax fs gl f x=true)(d:al x.op):0<=x.a∧x.a<(fs.getD f default).code.length:=by
 have e:(aj x.op).a=10:=zx ((oi x.op).trans (ze d));unfold ax at b;dsimp only at b;rw[e]at b;have c:(decide (0<=x.a)&&decide (x.a<(fs.getD f default).code.length))=true:=b;rw[zy]at c;exact⟨zx c.1,zx c.2⟩
def JO(fs:List Fn)(a GA:Option Addr)(fc gl gc f k:Nat)(w:World)(i:bD w a fs)(m:aX w)(c:f<fs.length)(g:fs.length<=100000)(b:k<fs[f].code.length)(h:fs[f].code.length<=200000)(d:fs[f].code[k].text.size<=2000000):
 Calls prog 40 #[.agg #[.slice a fs.length fc,.slice GA gl gc],.int .i64 f,.int .i64 k] w λe w'=>e= .returned (.bool (bW fs gl f k))∧zz w w':=by
 have q:fs.getD f default=fs[f]:=by rw[zd,zo c,Option.getD_some]
 have s:fs[f].code.getD k default=fs[f].code[k]:=by rw[zd,zo b,Option.getD_some]
 unfold bW;dsimp only;rw[q,s]
 cases l:(aj fs[f].code[k].op).word.toList.isEmpty
 ·by_cases j:0<=fs[f].code[k].pos
  ·by_cases n:fs[f].code[k].pos<=60000
   ·cases o:ax fs gl f fs[f].code[k]
    ·simpa only[zF,zG]using KG fs a GA fc gl gc f k w fs[f] fs[f].code[k] i m c rfl g b rfl h d l j n o
    ·cases p:de fs[f].code[k]
     ·simpa only[zF,zG]using KM fs a GA fc gl gc f k w fs[f] fs[f].code[k] i m c rfl g b rfl h d l j n o p
     ·rw[ze j,ze n,Bool.not_false,Bool.true_and,Bool.true_and,Bool.true_and,Bool.true_and];exact Is fs a GA fc gl gc f k w fs[f] fs[f].code[k] i m c rfl g b rfl h d l j n o p (λr=>q ▸ jn o r) _ rfl
   ·rw[zg n];simpa only[zF,zG]using Lf fs a GA fc gl gc f k w fs[f] fs[f].code[k] i m c rfl g b rfl h d l j (by omega)
  ·rw[zg j];simpa only[zF,zG]using LJ fs a GA fc gl gc f k w fs[f] fs[f].code[k] i m c rfl g b rfl h d l (by omega)
 ·simpa only[Bool.not_true,zF,zG]using I8 fs a GA fc gl gc f k w fs[f] fs[f].code[k] i m c rfl g b rfl h d l
end
section
open Go.RowKit Go.Proofs.PeepPlain
structure Wr where
 code:Int
 at_:Int
 name:ByteArray
def Wr.cells(x:Wr):List Value:=[.int .i64 x.code,.int .i64 x.at_,.string x.name]
def lH:Wr:=⟨0,0,⟨#[]⟩⟩
def fV(k:Int):ByteArray:=⟨(Lib.itoa k).toArray⟩
def Gx(x:Wr)(e:Ending)(w w':World):Prop:=∃a,w.heap.size<=a∧e= .returned (.pointer (some ⟨a,0,none⟩))∧ah w' a 30 x.cells
def fQ(c f:Int)(w:World)(i:Int)(a:¬0<=i):
 Calls prog 38 #[.int .i64 c,.int .i64 f,.int .i64 i] w λe w'=>Gx ⟨c,f,⟨#[]⟩⟩ e w w'∧zz w w':=by
 go_enter func38,ntmps38;go_wp2;go_ret;exact⟨⟨_,zb _,rfl,ah.made w 30 [.int .i64 c,.int .i64 f,.string ⟨#[]⟩]⟩,below1 w _⟩
def tT(c f:Int)(w:World)(i:Int)(p:0<=i)(g:i<=9223372036854775807)(j:aX w):
 Calls prog 38 #[.int .i64 c,.int .i64 f,.int .i64 i] w λe w'=>Gx ⟨c,f,fV i⟩ e w w'∧zz w w':=by
 have h:=za (show ∀a,zz w a->Calls prog 66 #[.int .i64 i] a λe w'=>e= .returned (.string ⟨(Lib.itoa i).toArray⟩)∧zz a w' from λa k=>(fB i (by omega) g a (j.below k).pow).mono λe w' ⟨he,q,os,hw⟩=>⟨he,hw ▸ Lib.below_grow _ a (zb _) q os⟩);unfold fV;generalize(⟨(Lib.itoa i).toArray⟩:ByteArray)=nm at h ⊢
 clear j g;go_enter func38,ntmps38;go_wp2_with (go_at_call 66;go_must (refine(h.out _ (below1 w _)).mono ?_);rintro s n ⟨rfl,d⟩;have b:=(ah.made w 30 [.int .i64 c,.int .i64 f,.string ⟨#[]⟩]).below d (ah.made w 30 [.int .i64 c,.int .i64 f,.string ⟨#[]⟩]).lt;have t:=b.cell 2;have r:=b.free 2;have o:=b.lt;have l:=za b;have m:=za (ac (below1 w _) d (below1 w _).size);clear b d);go_ret;exact⟨⟨_,zb _,rfl,l.out.set 2 _⟩,m.setCell (zb _) _⟩
end
section
open Go.RowKit Go.Proofs.PeepPlain
def aY(fs:List Fn)(k:Nat):Nat:=((fs.take k).map λa=>a.code.length).sum
def dS(fs:List Fn)(k:Nat)(a:k<fs.length):aY fs (k+1)=aY fs k+fs[k].code.length:=by
 unfold aY;rw[List.take_add_one,zo a,List.map_append,List.sum_append];rfl
theorem BR(fs:List Fn):∀(j k:Nat),aY fs j<=aY fs (j+k)
 |j,0=>zb _
 |j,k+1=>by
  refine zi (BR fs j k) ?_;by_cases a:j+k<fs.length
  ·rw[<-Nat.add_assoc,dS fs (j+k) a];omega
  ·have:aY fs (j+(k+1))=aY fs (j+k):=by unfold aY;rw[List.take_of_length_le (by omega),List.take_of_length_le (by omega)]
   omega
def lF(fs:List Fn){k:Nat}(a:k<=fs.length):aY fs k<=aY fs fs.length:=by
 have:=BR fs k (fs.length - k);rwa [Nat.add_sub_cancel' a]at this
def dN(fs:List Fn)(gl:Nat):Bool:=decide (1<=fs.length)&&decide (fs.length<=20000)&&decide (gl<=20000)&&decide (aY fs fs.length<=60000)&&fs.all λa=>decide (a.slots<=20000)&&decide (a.taken.length<=20000)
def lE{fs:List Fn}{gl:Nat}(a:fs.length<1∨20000<fs.length∨20000<gl∨60000<aY fs fs.length):dN fs gl=false:=by
 unfold dN;rcases a with a|a|a|a
 ·rw[zg (show ¬1<=fs.length by omega)];simp only[zG]
 ·rw[zg (show ¬fs.length<=20000 by omega)];simp only[zG,zF]
 ·rw[zg (show ¬gl<=20000 by omega)];simp only[zG,zF]
 ·rw[zg (show ¬aY fs fs.length<=60000 by omega)];simp only[zG,zF]
def sS(f:Fn):Bool:=decide (f.slots<=20000)&&decide (f.taken.length<=20000)
def og{fs:List Fn}{gl:Nat}(d:¬fs.length<1)(c:¬20000<fs.length)(b:¬20000<gl)(a:¬60000<aY fs fs.length):dN fs gl=fs.all sS:=by
 unfold dN;rw[ze (show 1<=fs.length by omega),ze (show fs.length<=20000 by omega),ze (show gl<=20000 by omega),ze (show aY fs fs.length<=60000 by omega)];rfl
def yh{fs:List Fn}{k:Nat}(c:k<fs.length)(b:sS fs[k]=false):fs.all sS=false:=by
 cases a:fs.all sS with
 |false=>rfl
 |true=>rw[List.all_eq_true]at a;have:=a _ (zk c);rw[b]at this;cases this
def uI{fs:List Fn}(c:∀j,(a:j<fs.length)->sS fs[j]=true):fs.all sS=true:=by
 rw[List.all_eq_true];intro d b;obtain⟨j,a,rfl⟩:=zQ b;exact c j a
def mL(fs:List Fn)(gl:Nat):Wr:=
 if fs.length<1∨20000<fs.length∨20000<gl∨60000<aY fs fs.length then⟨22,0,⟨#[]⟩⟩
 else match cF (λa=>sS (fs.getD a default)) fs.length with
 |some a=>⟨22,a,⟨#[]⟩⟩
 |none=>lH
def jQ{fs:List Fn}{gl:Nat}(a:fs.length<1∨20000<fs.length∨20000<gl∨60000<aY fs fs.length):mL fs gl=⟨22,0,⟨#[]⟩⟩:=by
 unfold mL;rw[zn a]
def EQ{fs:List Fn}{j:Nat}(a:j<fs.length):sS (fs.getD j default)=sS fs[j]:=by
 rw[zd,zo a];rfl
def BT{fs:List Fn}{gl k:Nat}(h:¬fs.length<1)(g:¬20000<fs.length)(f:¬20000<gl)(e:¬60000<aY fs fs.length)(c:∀j,(b:j<fs.length)->j<k->sS fs[j]=true)(a:k<fs.length)(d:sS fs[k]=false):mL fs gl=⟨22,k,⟨#[]⟩⟩:=by
 unfold mL;rw[zm (by omega),dI (λj b=>by rw[EQ (by omega)];exact c j (by omega) b) (by rw[EQ a];exact d) a]
def Bi(fs:List Fn)(gl:Nat)(w:World)(e:Ending)(w':World):Prop:=(if dN fs gl then e= .returned (.pointer none)else Gx (mL fs gl) e w w')∧zz w w'
def iQ{fs:List Fn}{gl:Nat}{x:Wr}(c:dN fs gl=false∧mL fs gl=x){w a w':World}{e:Ending}(b:zz w a)(d:Gx x e a w')(f:zz a w'):Bi fs gl w e w':=by
 obtain⟨c,rfl⟩:=c;obtain⟨j,i,h,g⟩:=d;refine⟨?_,ac b f b.size⟩;rw[c];exact⟨j,zi b.size i,h,g⟩
set_option maxRecDepth 20000 in
def Hi(fs:List Fn)(C GA:Option Addr)(fc gl gc:Nat)(w:World)(J:bD w C fs)(ao:fs.length<=2000000)(I:aY fs fs.length<=2000000):
 Calls prog 36 #[.agg #[.slice C fs.length fc,.slice GA gl gc]] w (Bi fs gl w):=by
 have L:=za J;have Z:=za I;clear J I;go_enter func36,ntmps36;go_wp2_with fail;go_loopw [3,5,11] (λM an k wr=> ∃a:Nat,k= .int .i64 a∧M= .int .i64 (aY fs a)∧a<=fs.length∧Hid (ah wr w.heap.size 25 [.slice C fs.length fc,.slice GA gl gc])∧Hid (bD wr C fs)∧Hid (zz w wr)) (λ_ _ k _=>fs.length - (intOf k).toNat)
 case atStart=>exact⟨0,rfl,rfl,zu _,ah.made _ _ _,L.below (below1 w _),below1 w _⟩
 case round=>
  clear L;rename World=>w2;obtain⟨a,rfl,rfl,F,B,m,d⟩:=hrel;have W:=B.cell 0;have V:=B.cell 1;have P:=B.lt;by_cases j:a<fs.length
  ·obtain⟨Y,O,rfl,U,r⟩:=m.at_ (by omega);obtain⟨A,z,y,x,v,u⟩:=r a j;have T:(0:Int)<=(a:Int)∧(a:Int)<(fs.length:Int):=by omega
   have S:=dS fs a j;have R:=lF fs (show a+1<=fs.length by omega);have Q:wrap64 ((aY fs a:Int)+(fs[a].code.length:Int))=(aY fs (a+1):Int):=by have:=Z.out;unfold wrap64;omega
   clear r S R;generalize fs[a]=o at A z y x v u Q;go_wp2_with fail;go_roundw
   case rel=>exact⟨a+1,by go_num,by go_num,by omega,B.alloc _,m.below (below1 w2 _),d.alloc d.size _⟩
   case measure=>simp[intOf];omega
  ·obtain rfl:a=fs.length:=by omega
   by_cases a1:(fs.length:Int)<1
   ·have h:=za (And.intro (lE (fs:=fs) (gl:=gl) (.inl (by omega))) (jQ (fs:=fs) (gl:=gl) (.inl (by omega))));go_wp2_with (go_at_call 38;refine(fQ 22 _ _ (-1) (by omega)).mono ?_;rintro t q ⟨⟨s,f,rfl,b⟩,c⟩;have g:=za b;have i:=za c;clear b c);go_ret;exact iQ (h.out) d.out ⟨_,f,rfl,g⟩ i.out
   ·
    by_cases a0:20000<(fs.length:Int)
    ·have h:=za (And.intro (lE (fs:=fs) (gl:=gl) (.inr (.inl (by omega)))) (jQ (fs:=fs) (gl:=gl) (.inr (.inl (by omega)))));go_wp2_with (go_at_call 38;refine(fQ 22 _ _ (-1) (by omega)).mono ?_;rintro t q ⟨⟨s,f,rfl,b⟩,c⟩;have g:=za b;have i:=za c;clear b c);go_ret;exact iQ (h.out) d.out ⟨_,f,rfl,g⟩ i.out
    ·
     by_cases av:20000<(gl:Int)
     ·have h:=za (And.intro (lE (fs:=fs) (gl:=gl) (.inr (.inr (.inl (by omega))))) (jQ (fs:=fs) (gl:=gl) (.inr (.inr (.inl (by omega))))));go_wp2_with (go_at_call 38;refine(fQ 22 _ _ (-1) (by omega)).mono ?_;rintro t q ⟨⟨s,f,rfl,b⟩,c⟩;have g:=za b;have i:=za c;clear b c);go_ret;exact iQ (h.out) d.out ⟨_,f,rfl,g⟩ i.out
     ·
      by_cases ar:60000<(aY fs fs.length:Int)
      ·have h:=za (And.intro (lE (fs:=fs) (gl:=gl) (.inr (.inr (.inr (by omega))))) (jQ (fs:=fs) (gl:=gl) (.inr (.inr (.inr (by omega))))));go_wp2_with (go_at_call 38;refine(fQ 22 _ _ (-1) (by omega)).mono ?_;rintro t q ⟨⟨s,f,rfl,b⟩,c⟩;have g:=za b;have i:=za c;clear b c);go_ret;exact iQ (h.out) d.out ⟨_,f,rfl,g⟩ i.out
      ·
       have K:=za (λ(a:Nat) hok F D=>BT (fs:=fs) (gl:=gl) (k:=a) (by omega) (by omega) (by omega) (by omega) hok F D);have H:=za (og (fs:=fs) (gl:=gl) (by omega) (by omega) (by omega) (by omega));go_wp2_with fail;clear j;go_loopw [2,6,7,45] (λN af ad k wr=> ∃a:Nat,k= .int .i64 a∧N= .pointer none∧a<=fs.length∧Hid (∀e,(p:e<fs.length)->e<a->sS fs[e]=true)∧Hid (bD wr C fs)∧Hid (zz w wr)) (λ_ _ _ k _=>fs.length - (intOf k).toNat)
       case atStart=>exact⟨0,rfl,rfl,zu _,za (λe _ a2=>by omega),m,d⟩
       case round=>
        clear m d B W V P;rename World=>w4;obtain⟨a,rfl,rfl,F,E,m,d⟩:=hrel;by_cases j:a<fs.length
        ·obtain⟨Y,O,rfl,U,r⟩:=m.at_ (by omega);obtain⟨A,z,y,x,v,u⟩:=r a j;have T:(0:Int)<=(a:Int)∧(a:Int)<(fs.length:Int):=by omega
         clear r;have n:sS fs[a]=(decide (fs[a].slots<=20000)&&decide (fs[a].taken.length<=20000)):=rfl;by_cases G:20000<fs[a].slots
         ·have l:sS fs[a]=false:=by rw[n,zg (show ¬fs[a].slots<=20000 by omega)];rfl
          have h:=za (And.intro (H.trans (yh j l)) (K.out a E.out j l));clear l;clear n;generalize fs[a]=o at A z y x v u G;go_wp2_with (go_at_call 38;refine(fQ 22 _ _ (-1) (by omega)).mono ?_;rintro t q ⟨⟨s,f,rfl,b⟩,c⟩;have g:=za b;have i:=za c;clear b c);go_ret;exact iQ (h.out) (d.alloc d.size _) ⟨_,f,rfl,g⟩ i.out
         ·by_cases D:20000<(fs[a].taken.length:Int)
          ·have l:sS fs[a]=false:=by rw[n,zg (show ¬fs[a].taken.length<=20000 by omega)];simp only[zF]
           have h:=za (And.intro (H.trans (yh j l)) (K.out a E.out j l));clear l;clear n;generalize fs[a]=o at A z y x v u G D;go_wp2_with (go_at_call 38;refine(fQ 22 _ _ (-1) (by omega)).mono ?_;rintro t q ⟨⟨s,f,rfl,b⟩,c⟩;have g:=za b;have i:=za c;clear b c);go_ret;exact iQ (h.out) (d.alloc d.size _) ⟨_,f,rfl,g⟩ i.out
          ·have aa:=za (show ∀e,(p:e<fs.length)->e<a+1->sS fs[e]=true from λe p ap=>by
            by_cases X:e=a
            ·subst X;rw[n,ze (show fs[e].slots<=20000 by omega),ze (show fs[e].taken.length<=20000 by omega)];rfl
            ·exact E.out e p (by omega))
           clear n;generalize fs[a]=o at A z y x v u G D;go_wp2_with fail;go_roundw
           case rel=>exact⟨a+1,by go_num,rfl,by omega,aa,m.below (below1 w4 _),d.alloc d.size _⟩
           case measure=>simp[intOf];omega
        ·obtain rfl:a=fs.length:=by omega
         have ab:=za (uI (fs:=fs) (λe p=>E.out e p p));go_wp2_with fail;go_ret;exact⟨by rw[H.out,ab.out];rfl,d⟩
end
section
open Go.RowKit Go.Proofs.PeepPlain
def kN(b:Int)(a:Nat)(t:Int):Bool:=decide (b<=t)||decide (t< -(a:Int))
def K1(t b:Int)(f:Option Addr)(a d g:Nat)(w:World)(k:w.cell? ⟨g,2,none⟩=some (.int .i64 b))(j:w.cell? ⟨g,3,none⟩=some (.slice f a d))(h:a<=2000000):
 Calls prog 69 #[.int .i64 t,.pointer (some ⟨g,0,none⟩)] w λe w'=>e= .returned (.bool (kN b a t))∧w'=w:=by
 have i:wrap64 (-(a:Int))= -(a:Int):=by unfold wrap64;omega
 unfold kN;by_cases c:b<=t
 ·rw[ze c,Bool.true_or];go_enter func69,ntmps69;go_wp2_with fail;go_ret;exact⟨rfl,rfl⟩
 ·rw[zg c,Bool.false_or];go_enter func69,ntmps69;go_wp2_with fail;go_ret;exact⟨rfl,rfl⟩
def Ei(l:List Int)(B:Option Addr)(c:Nat)(f:Int)(y:Option Addr)(d o g:Nat)(w:World)(t:bd w B (l.map (Value.int .i64)))(L:l.length<=2000000)(x:w.cell? ⟨g,2,none⟩=some (.int .i64 f))(v:w.cell? ⟨g,3,none⟩=some (.slice y d o))(p:d<=2000000):
 Calls prog 103 #[.slice B l.length c,.func (Fn.func 69) #[] #[.pointer (some ⟨g,0,none⟩)]] w λe w'=>(∃r:Int,e= .returned (.int .i64 r)∧decide (0<=r)=l.any (kN f d))∧w'=w:=by
 have z:=za (λm=>K1 m f y d o g w x v p);have G:=za t;clear t x v p;go_enter func103,ntmps103;go_wp2_with fail;go_loopw [4,5,8] (λI H k wr=> ∃a:Nat,wr=w∧k= .int .i64 a∧a<=l.length∧Hid (∀b,(j:b<l.length)->b<a->kN f d l[b]=false)) (λ_ _ k _=>l.length - (intOf k).toNat)
 case atStart=>exact⟨0,rfl,rfl,zu _,za (λb _ P=>by omega)⟩
 case round=>
  obtain⟨a,rfl,rfl,M,A⟩:=hrel;by_cases q:a<l.length
  ·obtain⟨Q,K,rfl,O,s⟩:=G.out (by rw[List.length_map];omega);have u:=s a (.int .i64 l[a]) (by rw[zL,zo q];rfl);clear s
   cases i:kN f d l[a]
   ·have F:=za (show ∀b,(j:b<l.length)->b<a+1->kN f d l[b]=false from λb j N=>by
     by_cases e:b=a
     ·subst e;exact i
     ·exact A.out b j (by omega))
    have h:=z.out l[a];rw[i]at h;generalize l[a]=m at u h;clear i;go_wp2_with (go_at_call 69;refine h.mono ?_;rintro E C ⟨rfl,rfl⟩);go_roundw
    case rel=>exact⟨a+1,trivial,by go_num,by omega,F⟩
    case measure=>simp[intOf];omega
   ·have n:=za (show l.any (kN f d)=true from List.any_eq_true.2 ⟨l[a],zk q,i⟩);have h:=z.out l[a];rw[i]at h;generalize l[a]=m at u h;clear i;go_wp2_with (go_at_call 69;refine h.mono ?_;rintro E C ⟨rfl,rfl⟩);go_ret;exact⟨⟨_,rfl,by rw[n.out];exact ze (by omega)⟩,rfl⟩
  ·obtain rfl:a=l.length:=by omega
   have n:=za (show l.any (kN f d)=false from by
    rw[List.any_eq_false];intro J D;obtain⟨b,j,rfl⟩:=zQ D;rw[A.out b j j];exact Bool.false_ne_true)
   go_wp2_with fail;go_ret;exact⟨⟨_,rfl,by rw[n.out];rfl⟩,rfl⟩
def vI(l:List Int)(f:Option Addr)(c:Nat)(d:Int)(p:Option Addr)(a h g:Nat)(w:World)(m:bd w f (l.map (Value.int .i64)))(k:l.length<=2000000)(o:w.cell? ⟨g,2,none⟩=some (.int .i64 d))(n:w.cell? ⟨g,3,none⟩=some (.slice p a h))(j:a<=2000000):
 Calls prog 68 #[.slice f l.length c,.func (Fn.func 69) #[] #[.pointer (some ⟨g,0,none⟩)]] w λe w'=>e= .returned (.bool (l.any (kN d a)))∧w'=w:=by
 have i:=Ei l f c d p a h g w m k o n j;clear m o n j k;generalize l.any (kN d a)=b at i;go_enter func68,ntmps68;go_wp2_with (go_at_call 103;refine i.mono ?_);rintro t q ⟨⟨r,rfl,s⟩,rfl⟩;go_wp2;go_ret;exact⟨ag rfl,rfl⟩
end
section
open Go.RowKit Go.Proofs.PeepPlain
def fG(gs:List ByteArray)(j:Nat):Bool:=bF (gs.getD j ByteArray.empty)&&decide (pY (gs.getD j ByteArray.empty) (gs.take j)=0)
def cB(gs:List ByteArray):Bool:=(List.range gs.length).all (fG gs)
def pH{gs:List ByteArray}{k:Nat}(b:k<gs.length)(c:fG gs k=false):cB gs=false:=by
 cases a:cB gs with
 |false=>rfl
 |true=>unfold cB at a;rw[List.all_eq_true]at a;have:=a k (List.mem_range.2 b);rw[c]at this;cases this
def sD{gs:List ByteArray}(b:∀j,j<gs.length->fG gs j=true):cB gs=true:=by
 unfold cB;rw[List.all_eq_true];exact λj a=>b j (List.mem_range.1 a)
set_option maxRecDepth 20000 in
def yL(gs:List ByteArray)(C:Option Addr)(c:Nat)(w:World)(J:bd w C (gs.map Value.string))(an:gs.length<=2000000)(F:∀j,(gs.getD j ByteArray.empty).size<=2000000)(Q:aX w):
 Calls prog 37 #[.slice C gs.length c] w λe w'=>e= .returned (.bool (cB gs))∧zz w w':=by
 have P:=za J;have A:=za Q;have Y:=za F;have T:=ub;clear J Q F;go_enter func37,ntmps37;go_wp2_with fail;go_loopw [2,5,9] (λR ab s wr=> ∃a:Nat,s= .int .i64 a∧R= .bool false∧a<=gs.length∧Hid (dm wr w.heap.size (gs.take a))∧Hid (∀j,j<a->fG gs j=true)∧Hid (bd wr C (gs.map Value.string))∧Hid (aX wr)∧Hid (zz w wr)) (λ_ _ s _=>gs.length - (intOf s).toNat)
 case atStart=>exact⟨0,rfl,rfl,zu _,za (ke w),za (λj v=>by omega),za (P.below (below1 w _) rfl),za (A.below (below1 w _)),below1 w _⟩
 case round=>
  clear T;rename World=>w3;obtain⟨a,rfl,rfl,ao,O,M,aa,a3,B⟩:=hrel;by_cases o:a<gs.length
  ·have ar:(0:Int)<=(a:Int)∧(a:Int)<(gs.length:Int):=by omega
   obtain⟨b,l⟩:∃b,gs.getD a ByteArray.empty=b:=⟨_,rfl⟩
   obtain⟨a1,ad,rfl,av,I⟩:=aa.out (by rw[List.length_map];omega);have a0:=I a (.string b) (by rw[zL,<-l,zd,zo o];rfl);have h:Hid (b.size<=2000000):=za (l ▸ Y.out a);have x:=za l;have n:gs.take (a+1)=gs.take a++ [b]:=by rw[List.take_add_one,<-l,zd,zo o];rfl
   have a2:=za n;obtain⟨f,m⟩:∃f,pY b (gs.take a)=f:=⟨_,rfl⟩
   have W:f<=2000000:=by rw[<-m];have:=uw b (gs.take a);rw[zR]at this;omega
   have N:=za m;have U:=bJ O.out h.out;obtain⟨E,S,H,G⟩:=rE O.out (by rw[zR];omega) h.out;rw[m]at U S;have af:wrap64 ((f:Int)+1)=(f:Int)+1:=by unfold wrap64;omega
   have k:Hid (zz w E):=za (B.grown G B.size (λa v=>by injection v with v;omega));have q:Hid (dm E w.heap.size (gs.take (a+1))):=za (n ▸ H);have L:Hid (pY b (gs.take (a+1))=f+1):=za (by rw[n,nk,m,zn rfl]);have z:=za (A.below k.out);clear I l n m H G W
   cases g:bF b
   ·have y:=za (pH (gs:=gs) o (by unfold fG;rw[x.out,g];rfl));have p:=za g;clear g;go_wp2_with (go_at_call 65;refine(dP b _ h.out z.out).mono ?_;rw[p.out];rintro K D ⟨rfl,d⟩;have i:=za (ac k.out d k.size);clear d);go_ret;exact⟨ag y.out,i⟩
   ·have p:=za g;by_cases u:f=0
    ·have Z:=za (show ∀j,j<a+1->fG gs j=true from λj ap=>by
      by_cases e:j=a
      ·subst e;unfold fG;rw[x.out,g,N.out,u];rfl
      ·exact M.out j (by omega))
     have V:¬(1:Int)<((f+1:Nat):Int):=by omega
     clear g u;go_wp2_with (go_at_call 65;refine(dP b _ h.out z.out).mono ?_;rw[p.out];rintro K D ⟨rfl,d⟩;have i:=za (ac k.out d k.size);have r:=za (q.below d q.lt);have t:=bJ r.out h.out;rw[L.out]at t;clear d);go_roundw
     case rel=>exact⟨a+1,by go_num,rfl,by omega,r,Z,P.below i.out rfl,A.below i.out,i⟩
     case measure=>simp[intOf];omega
    ·have y:=za (pH (gs:=gs) o (by unfold fG;rw[x.out,g,N.out,zg u];rfl));have V:(1:Int)<((f+1:Nat):Int):=by omega
     clear g;go_wp2_with (go_at_call 65;refine(dP b _ h.out z.out).mono ?_;rw[p.out];rintro K D ⟨rfl,d⟩;have i:=za (ac k.out d k.size);have r:=za (q.below d q.lt);have t:=bJ r.out h.out;rw[L.out]at t;clear d);go_ret;exact⟨ag y.out,i⟩
  ·obtain rfl:a=gs.length:=by omega
   have X:=za (sD M.out);go_wp2_with fail;go_ret;exact⟨ag X.out,B⟩
end
section
open Go.RowKit Go.Proofs.PeepPlain
def km{B:Nat}{w0 w:World}(d:Below B w0 w)(c:B<=w.heap.size)(a b:Obj):Below B w0 ((w.alloc a).alloc b):=(d.alloc c a).alloc (by show B<=(w.heap.push a).size;rw[Array.size_push];omega) b
def ry(w:World)(r:Option Nat)(b a:Obj):w.grownBy ((w.alloc b).alloc a) r:=(World.grownBy_alloc w b r).trans (World.grownBy_alloc _ a r)
def nW{a w w':World}{row:Option Nat}(e:a.grownBy w row)(b:zz w w'):a.grownBy w' row:=
 e.trans ⟨b.os,b.tape,b.output,b.size,λc d _=>b.block c d⟩
def Di(w:World){w':World}(a:zz w w')(row:Option Nat):w.grownBy w' row:=⟨a.os,a.tape,a.output,a.size,λb c _=>a.block b c⟩
def er(o:Fn):Bool:=decide (0<=o.params)&&decide (o.params<=13)&&decide (o.params<=o.slots)
set_option maxRecDepth 20000 in
def wl(fs:List Fn)(f GA:Option Addr)(fc gl gc i:Nat)(m:Nat)(w:World)(d:bD w f fs)(g:i<fs.length)(t:fs.length<=2000000)(o:Fn)(b:fs[i]=o)(a:er o=false):
 Calls prog 39 #[.agg #[.slice f fs.length fc,.slice GA gl gc],.int .i64 i,.map (some m)] w λe w'=>e= .returned (.bool false)∧(∃r q,w'=(w.alloc r).alloc q):=by
 obtain⟨z,s,rfl,u,c⟩:=d.at_ (by omega);obtain⟨p,n,l,k,j,h⟩:=c i g;rw[b]at p n l k j h;clear c b d;unfold er at a;by_cases y:o.params<0
 ·clear a;go_enter func39,ntmps39;go_wp2_with fail;go_ret;exact⟨rfl,_,_,rfl⟩
 ·by_cases x:13<o.params
  ·clear a;go_enter func39,ntmps39;go_wp2_with fail;go_ret;exact⟨rfl,_,_,rfl⟩
  ·have v:o.slots<o.params:=by
    rw[ze (show 0<=o.params by omega),ze (show o.params<=13 by omega),Bool.true_and,Bool.true_and]at a;have:=of_decide_eq_false a;omega
   clear a;go_enter func39,ntmps39;go_wp2_with fail;go_ret;exact⟨rfl,_,_,rfl⟩
def dE(o:Fn):Bool:=o.name.toList.isEmpty&&decide (o.params=0)&&decide (o.taken.length=0)&&decide (o.around= -1)
def mA{o:Fn}(a:er o=true):¬o.params<0∧¬13<o.params∧¬o.slots<o.params:=by
 unfold er at a;rw[zy,zy]at a;have d:=zx a.1.1;have c:=zx a.1.2;have b:=zx a.2;omega
set_option maxRecDepth 20000 in
def BB(fs:List Fn)(r GA:Option Addr)(fc gl gc:Nat)(m:Nat)(w:World)(p:bD w r fs)(s:0<fs.length)(B:fs.length<=2000000)(o:Fn)(l:fs[0]=o)(k:er o=true):
 Calls prog 39 #[.agg #[.slice r fs.length fc,.slice GA gl gc],.int .i64 0,.map (some m)] w λe w'=>e= .returned (.bool (dE o))∧(∃y x,w'=(w.alloc y).alloc x):=by
 obtain⟨E,z,rfl,C,n⟩:=p.at_ (by omega);obtain⟨v,f,u,j,q,t⟩:=n 0 s;rw[l,Nat.zero_mul,Nat.add_zero]at v f u j q t;obtain⟨i,h,g⟩:=mA k;clear n l p k;unfold dE
 cases A:o.name.toList.isEmpty
 ·go_enter func39,ntmps39;go_wp2_with fail;go_ret;exact⟨rfl,_,_,rfl⟩
 ·by_cases a:o.params=0
  ·by_cases b:o.taken.length=0
   ·have d:((o.taken.length:Nat):Int)=0:=by omega
    by_cases c:o.around= -1
    ·rw[ze a,ze b,ze c];rw[a]at f i h g;rw[b]at j;rw[c]at q;clear a b d c;go_enter func39,ntmps39;go_wp2_with fail;go_ret;exact⟨rfl,_,_,rfl⟩
    ·rw[ze a,ze b,zg c];have D:(o.around== -1)=false:=zh.2 c;rw[a]at f i h g;rw[b]at j;clear a b d c;go_enter func39,ntmps39;go_wp2_with fail;go_ret;exact⟨rfl,_,_,rfl⟩
   ·rw[zg b,zF,zG];have d:((o.taken.length:Int)==0)=false:=zh.2 (by omega);rw[a]at f i h g;clear a b;go_enter func39,ntmps39;go_wp2_with fail;go_ret;exact⟨rfl,_,_,rfl⟩
  ·rw[zg a,zF,zG,zG];have d:(o.params==0)=false:=zh.2 a;clear a;go_enter func39,ntmps39;go_wp2_with fail;go_ret;exact⟨rfl,_,_,rfl⟩
end
section
open Go.RowKit Go.Proofs.PeepPlain
def dt(o:Fn)(l:List ByteArray):Bool:=decide (o.taken.length=0)&&eH o.name&&decide (pY o.name l=0)
def kZ{w a:World}{m:Nat}{c b v0 v1 v2 v3 v4 v5:Value}(h:m<w.heap.size)(e:((w.alloc (.cells #[c,b] 25)).alloc (.cells #[v0,v1,v2,v3,v4,v5] 47)).grownBy a (some m)):
 ah a (w.heap.size+1) 47 [v0,v1,v2,v3,v4,v5]∧w.grownBy a (some m):=by
 have f:(w.alloc (.cells #[c,b] 25)).heap.size=w.heap.size+1:=by show(w.heap.push _).size=_;rw[Array.size_push]
 have d:=ah.made (w.alloc (.cells #[c,b] 25)) 47 [v0,v1,v2,v3,v4,v5];rw[f]at d;exact⟨d.grown e (by intro g;injection g;omega),(ry w (some m) _ _).trans e⟩
set_option maxRecDepth 20000 in
def Bl(fs:List Fn)(af GA:Option Addr)(fc gl gc i:Nat)(m:Nat)(w0 w:World)(X:bD w af fs)(ad:aX w0)(N:zz w0 w)(ao:w0.heap.size<=m)(an:i<fs.length)(bj:0<i)(a8:fs.length<=2000000)(o:Fn)(S:fs[i]=o)(R:er o=true)(V:o.around= -1)(l:List ByteArray)(M:dm w m l)(T:l.length<=2000000)(Q:o.name.size<=2000000):
 Calls prog 39 #[.agg #[.slice af fs.length fc,.slice GA gl gc],.int .i64 i,.map (some m)] w λe w'=>e= .returned (.bool (dt o l))∧dm w' m (l++ [o.name])∧w.grownBy w' (some m):=by
 obtain⟨bk,a5,rfl,bc,U⟩:=X.at_ (by omega);obtain⟨a1,a0,av,ar,ab,ap⟩:=U i an;rw[S]at a1 a0 av ar ab ap;rw[V]at ab;obtain⟨a4,a3,a2⟩:=mA R;have C:=M.lt;have F:Hid (dt o l=(decide (o.taken.length=0)&&eH o.name&&decide (pY o.name l=0))):=za rfl;have r:=za M;have d:=za Q;have E:=za T;have G:=za (λn (hg:w.grownBy n (some m))=>ad.below (N.grown hg N.size (λa6 Y=>by injection Y with Y;omega)));obtain⟨q,D⟩:∃q,pY o.name l=q:=⟨_,rfl⟩
 have be:q<=2000000:=by rw[<-D];have:=uw o.name l;omega
 have W:pY o.name (l++ [o.name])=q+1:=by rw[nk,D,zn rfl]
 have L:=za W;have j:=za D;have a9:((i:Int)==0)=false:=zh.2 (by omega);have a7:wrap64 ((q:Int)+1)=(q:Int)+1:=by unfold wrap64;omega
 clear U S X R M ad N ao Q T W D V;generalize o.name=nm at *
 generalize o.params=pr at *
 generalize o.slots=sl at *
 generalize o.taken.length=tl at *
 by_cases K:tl=0
 ·subst K
  cases t:eH nm
  ·have u:=za (show dt o l=false by rw[F.out,t,zF,zG]);have H:=za t;clear t;go_enter func39,ntmps39;go_wp2_with (first
    |(at_lookup;refine yq (.tmp 55) (.tmp 57) m nm l _ rfl rfl rfl rfl ((r.alloc _).alloc _) d.out ?_;rw[j.out])
    |(refine wF (.tmp 55) (.tmp 57) (.tmp 59) m nm l _ rfl rfl rfl rfl (by rw[j.out];rfl) ((r.alloc _).alloc _) (by have:=E.out;omega) d.out ?_
      intro n h g;go_must (obtain⟨a,b⟩:=kZ C g);have I:=a.lt;have y:=a.cell 0;have x:=a.cell 3;have k:=za h;have p:=za a;have v:=za b;have z:=za (G.out n b);clear h g a b)
    |(go_at_call 67;refine(lx nm _ d.out z.out).mono ?_;rw[H.out];rintro Z O ⟨rfl,c⟩
      have B:=za c;have s:=za (k.below c k.lt);have A:=bJ s.out d.out;rw[L.out]at A;have f:=p.below c p.lt;have aa:=f.cell 0;have P:=f.lt;clear c f y x))
   go_ret;exact⟨ag u.out,s.out,nW v.out B.out⟩
  ·have H:=za t;by_cases J:q=0
   ·have u:=za (show dt o l=true by rw[F.out,t,j.out,J];rfl);subst J;clear t;go_enter func39,ntmps39;go_wp2_with (first
     |(at_lookup;refine yq (.tmp 55) (.tmp 57) m nm l _ rfl rfl rfl rfl ((r.alloc _).alloc _) d.out ?_;rw[j.out])
     |(refine wF (.tmp 55) (.tmp 57) (.tmp 59) m nm l _ rfl rfl rfl rfl (by rw[j.out];rfl) ((r.alloc _).alloc _) (by have:=E.out;omega) d.out ?_
       intro n h g;go_must (obtain⟨a,b⟩:=kZ C g);have I:=a.lt;have y:=a.cell 0;have x:=a.cell 3;have k:=za h;have p:=za a;have v:=za b;have z:=za (G.out n b);clear h g a b)
     |(go_at_call 67;refine(lx nm _ d.out z.out).mono ?_;rw[H.out];rintro Z O ⟨rfl,c⟩
       have B:=za c;have s:=za (k.below c k.lt);have A:=bJ s.out d.out;rw[L.out]at A;have f:=p.below c p.lt;have aa:=f.cell 0;have P:=f.lt;clear c f y x))
    go_ret;exact⟨ag u.out,s.out,nW v.out B.out⟩
   ·have u:=za (show dt o l=false by rw[F.out,j.out,zg J,zF]);have bb:((q:Int)==0)=false:=zh.2 (by omega);have ba:((q:Int)+1==1)=false:=zh.2 (by omega);clear t;go_enter func39,ntmps39;go_wp2_with (first
     |(at_lookup;refine yq (.tmp 55) (.tmp 57) m nm l _ rfl rfl rfl rfl ((r.alloc _).alloc _) d.out ?_;rw[j.out])
     |(refine wF (.tmp 55) (.tmp 57) (.tmp 59) m nm l _ rfl rfl rfl rfl (by rw[j.out];rfl) ((r.alloc _).alloc _) (by have:=E.out;omega) d.out ?_
       intro n h g;go_must (obtain⟨a,b⟩:=kZ C g);have I:=a.lt;have y:=a.cell 0;have x:=a.cell 3;have k:=za h;have p:=za a;have v:=za b;have z:=za (G.out n b);clear h g a b)
     |(go_at_call 67;refine(lx nm _ d.out z.out).mono ?_;rw[H.out];rintro Z O ⟨rfl,c⟩
       have B:=za c;have s:=za (k.below c k.lt);have A:=bJ s.out d.out;rw[L.out]at A;have f:=p.below c p.lt;have aa:=f.cell 0;have P:=f.lt;clear c f y x))
    go_ret;exact⟨ag u.out,s.out,nW v.out B.out⟩
 ·have bi:((tl:Int)==0)=false:=zh.2 (by omega);have u:=za (show dt o l=false by rw[F.out,zg K,zG,zG]);clear K;go_enter func39,ntmps39;go_wp2_with (first
   |(at_lookup;refine yq (.tmp 55) (.tmp 57) m nm l _ rfl rfl rfl rfl ((r.alloc _).alloc _) d.out ?_;rw[j.out])
   |(refine wF (.tmp 55) (.tmp 57) (.tmp 59) m nm l _ rfl rfl rfl rfl (by rw[j.out];rfl) ((r.alloc _).alloc _) (by have:=E.out;omega) d.out ?_
     intro n h g;go_must (obtain⟨a,b⟩:=kZ C g);have I:=a.lt;have y:=a.cell 0;have x:=a.cell 3;have k:=za h;have p:=za a;have v:=za b;have z:=za (G.out n b);clear h g a b))
  go_ret;exact⟨ag u.out,k.out,v⟩
end
section
open Go.RowKit Go.Proofs.PeepPlain
def aC{a:Type}{l:List a}{i:Nat}(b:i<l.length)(d:a):l.getD i d=l[i]:=by rw[zd,zo b,Option.getD_some]
def gf(fs:List Fn)(i:Nat)(o:Fn):Bool:=decide (o.name=⟨#[102,117,110,99]⟩)&&decide (0<=o.around)&&decide (o.around<i)&&!o.taken.any (kN (fs.getD o.around.toNat default).slots (fs.getD o.around.toNat default).taken.length)
def GC(w:World)(b a c:Obj):Below w.heap.size w (((w.alloc b).alloc a).alloc c):=(km (zZ _ _) (zb _) b a).alloc (km (zZ _ _) (zb _) b a).size c
def BV(o p:Fn)(w:World)(h:bd w o.TA (o.taken.map (Value.int .i64)))(g:o.taken.length<=2000000)(f:p.taken.length<=2000000)(b a:Obj):
 Calls prog 68 #[.slice o.TA o.taken.length o.tc,.func (Fn.func 69) #[] #[.pointer (some ⟨w.heap.size+1+1,0,none⟩)]] (((w.alloc b).alloc a).alloc (.cells #[.string p.name,.int .i64 p.params,.int .i64 p.slots,.slice p.TA p.taken.length p.tc,.int .i64 p.around,.slice p.CA p.code.length p.cc] 47)) λe w'=>e= .returned (.bool (o.taken.any (kN p.slots p.taken.length)))∧w'=((w.alloc b).alloc a).alloc (.cells #[.string p.name,.int .i64 p.params,.int .i64 p.slots,.slice p.TA p.taken.length p.tc,.int .i64 p.around,.slice p.CA p.code.length p.cc] 47):=by
 have d:((w.alloc b).alloc a).heap.size=w.heap.size+1+1:=by show((w.heap.push b).push a).size=_;rw[Array.size_push,Array.size_push]
 have c:=ah.made ((w.alloc b).alloc a) 47 [.string p.name,.int .i64 p.params,.int .i64 p.slots,.slice p.TA p.taken.length p.tc,.int .i64 p.around,.slice p.CA p.code.length p.cc];rw[d]at c;exact vI o.taken o.TA o.tc p.slots p.TA p.taken.length p.tc (w.heap.size+1+1) _ (h.below (GC w b a _) rfl) g (c.cell 2) (c.cell 3) f
set_option maxRecDepth 20000 in
def Bc(fs:List Fn)(D GA:Option Addr)(fc gl gc i:Nat)(m:Nat)(w:World)(g:bD w D fs)(t:i<fs.length)(Z:0<i)(V:fs.length<=2000000)(o:Fn)(j:fs[i]=o)(q:er o=true)(v:o.around≠ -1)(h:∀f∈fs,f.taken.length<=2000000):
 Calls prog 39 #[.agg #[.slice D fs.length fc,.slice GA gl gc],.int .i64 i,.map (some m)] w λe w'=>e= .returned (.bool (gf fs i o))∧zz w w':=by
 have O:=za g;have B:=za h;obtain⟨ar,T,rfl,Y,n⟩:=g.at_ (by omega);obtain⟨z,K,J,I,y,H⟩:=n i t;have s:o∈fs:=j ▸ zk t;have N:=za (g.taken o s);have M:=za (h o s);rw[j]at z K J I y H;obtain⟨S,R,Q⟩:=mA q;have X:((i:Int)==0)=false:=zh.2 (by omega);have E:(o.around== -1)=false:=zh.2 v;have d:Hid (gf fs i o=(decide (o.name=⟨#[102,117,110,99]⟩)&&decide (0<=o.around)&&decide (o.around<i)&&!o.taken.any (kN (fs.getD o.around.toNat default).slots (fs.getD o.around.toNat default).taken.length))):=za rfl;have C:=za n;clear n j g q v h;by_cases b:o.name=⟨#[102,117,110,99]⟩
 ·rw[b]at z;by_cases G:o.around<0
  ·have c:=za (show gf fs i o=false by rw[d.out,zg (show ¬0<=o.around by omega),zF,zG,zG]);clear b;go_enter func39,ntmps39;go_wp2_with fail;go_ret;exact⟨ag c.out,km (zZ _ _) (zb _) _ _⟩
  ·by_cases F:(i:Int)<=o.around
   ·have c:=za (show gf fs i o=false by rw[d.out,zg (show ¬o.around<i by omega),zF,zG]);clear b;go_enter func39,ntmps39;go_wp2_with fail;go_ret;exact⟨ag c.out,km (zZ _ _) (zb _) _ _⟩
   ·obtain⟨a,l⟩:∃a:Nat,o.around=(a:Int):=⟨o.around.toNat,by omega⟩
    have k:a<fs.length:=by omega
    obtain⟨ap,ao,an,af,ad,ab⟩:=C.out a k;have u:fs.getD o.around.toNat default=fs[a]:=by rw[l,zV,aC k]
    have L:=za (B.out _ (zk k));have W:(0:Int)<=(a:Int)∧(a:Int)<(fs.length:Int):=by omega
    have c:=za (show gf fs i o=!o.taken.any (kN fs[a].slots fs[a].taken.length) by rw[d.out,ze b,ze (show 0<=o.around by omega),ze (show o.around<i by omega),u];rfl);rw[l]at y E G F;clear b l u d C B O;generalize fs[a]=p at *
    have A:=za (BV o p w N.out M.out L.out);generalize o.taken.any (kN p.slots p.taken.length)=r at c A;go_enter func39,ntmps39;go_wp2_with (go_at_call 68;refine(A.out _ _).mono ?_;rintro aa P ⟨rfl,rfl⟩);go_ret;exact⟨ag c.out,GC w _ _ _⟩
 ·have c:=za (show gf fs i o=false by rw[d.out,zg b,zG,zG,zG]);have U:(o.name.toList==[102,117,110,99])=false:=zh.2 (λx=>b (ByteArray.ext (Array.toList_inj.1 (by rw[zH]at x;exact x))));clear b;go_enter func39,ntmps39;go_wp2_with fail;go_ret;exact⟨ag c.out,km (zZ _ _) (zb _) _ _⟩
def bR(fs:List Fn)(i:Nat)(l:List ByteArray):Bool:=
 er (fs.getD i default)&&if i=0 then dE (fs.getD i default)else if(fs.getD i default).around= -1 then dt (fs.getD i default) l else gf fs i (fs.getD i default)
def db(fs:List Fn)(i:Nat)(l:List ByteArray):List ByteArray:=
 if er (fs.getD i default)=true∧i≠0∧(fs.getD i default).around= -1 then l++ [(fs.getD i default).name]else l
def Ar(fs:List Fn)(i:Nat)(l:List ByteArray):(db fs i l).length<=l.length+1:=by
 unfold db;split<;>simp
def BN(fs:List Fn)(c GA:Option Addr)(fc gl gc i:Nat)(m:Nat)(w0 w:World)(o:bD w c fs)(y:aX w0)(x:zz w0 w)(v:w0.heap.size<=m)(a:i<fs.length)(n:fs.length<=2000000)(l:List ByteArray)(j:dm w m l)(s:l.length<=2000000)(q:∀f∈fs,f.name.size<=2000000∧f.taken.length<=2000000):
 Calls prog 39 #[.agg #[.slice c fs.length fc,.slice GA gl gc],.int .i64 i,.map (some m)] w λe w'=>e= .returned (.bool (bR fs i l))∧dm w' m (db fs i l)∧w.grownBy w' (some m):=by
 have t:=aC a default;unfold bR db;rw[t]
 cases k:er fs[i]
 ·refine(wl fs c GA fc gl gc i m w o a n fs[i] rfl k).mono ?_;rintro e w' ⟨rfl,h,g,rfl⟩;rw[zG,zm (λd=>Bool.false_ne_true d.1)];exact⟨rfl,(j.alloc h).alloc g,ry w _ h g⟩
 ·rw[Bool.true_and];by_cases p:i=0
  ·subst p;refine(BB fs c GA fc gl gc m w o a n fs[0] rfl k).mono ?_;rintro e w' ⟨rfl,h,g,rfl⟩;rw[zn rfl,zm (λd=>d.2.1 rfl)];exact⟨rfl,(j.alloc h).alloc g,ry w _ h g⟩
  ·rw[zm p];by_cases b:fs[i].around= -1
   ·rw[zn b,zn ⟨rfl,p,b⟩];exact Bl fs c GA fc gl gc i m w0 w o y x v a (by omega) n fs[i] rfl k b l j s (q _ (zk a)).1
   ·rw[zm b,zm (λd=>b d.2.2)];refine(Bc fs c GA fc gl gc i m w o a (by omega) n fs[i] rfl k b (λf u=>(q f u).2)).mono ?_;rintro e w' ⟨rfl,r⟩;exact⟨rfl,j.below r j.lt,Di w r _⟩
def aB(fs:List Fn):Nat->List ByteArray
 |0=> []
 |k+1=>db fs k (aB fs k)
def tA(fs:List Fn)(k:Nat):(aB fs k).length<=k:=by
 induction k with
 |zero=>simp[aB]
 |succ k ih=>have:=Ar fs k (aB fs k);show(db fs k (aB fs k)).length<=_;omega
end
section
open Go.RowKit Go.Proofs.PeepPlain
structure bs(fs:List Fn)(gs:List ByteArray):Prop where
 many:dN fs gs.length=true
 globals:cB gs=true
 heads:∀i,i<fs.length->bR fs i (aB fs i)=true
 some_:∀i,(hi:i<fs.length)->fs[i].code.length≠0
 fine:∀i k,(hi:i<fs.length)->k<fs[i].code.length->bW fs gs.length i k=true
 fits:∀i,(hi:i<fs.length)->PeepPlain.vA E0 fs[i].code
def dF{fs:List Fn}{gl:Nat}(a:dN fs gl=true):1<=fs.length∧fs.length<=20000∧gl<=20000∧aY fs fs.length<=60000∧∀i,(b:i<fs.length)->fs[i].slots<=20000∧fs[i].taken.length<=20000:=by
 unfold dN at a;rw[zy,zy,zy,zy,List.all_eq_true]at a;obtain⟨⟨⟨⟨g,f⟩,e⟩,d⟩,c⟩:=a;refine⟨zx g,zx f,zx e,zx d,λi b=>?_⟩;have:=c _ (zk b);rw[zy]at this;exact⟨zx this.1,zx this.2⟩
def iq{fs:List Fn}{i:Nat}(a:i<fs.length):fs[i].code.length<=aY fs fs.length:=by
 have c:=dS fs i a;have b:=lF fs (show i+1<=fs.length by omega);omega
def gA{fs:List Fn}{gl f k:Nat}(d:f<fs.length)(c:k<fs[f].code.length)(a:bW fs gl f k=true):
 ax fs gl f fs[f].code[k]=true∧de fs[f].code[k]=true∧(fs[f].code[k].b=0∨cM fs[f].code[k]=true)∧fp fs[f].code k fs[f].code[k]=false∧cN fs[f].code k fs[f].code[k]=true∧(aj fs[f].code[k].op).word.toList.isEmpty=false∧0<=fs[f].code[k].pos∧fs[f].code[k].pos<=60000:=by
 unfold bW at a;dsimp only at a;rw[aC d,aC c]at a;simp only[zy,Bool.or_eq_true,Bool.not_eq_true']at a;obtain⟨⟨⟨⟨⟨⟨⟨n,m⟩,l⟩,j⟩,i⟩,h⟩,g⟩,e⟩:=a;exact⟨j,i,h.imp zx id,g,e,n,zx m,zx l⟩
def ez{a n:Int}(b:(decide (0<=a)&&decide (a<n))=true):0<=a∧a<n:=by
 rw[zy]at b;exact⟨zx b.1,zx b.2⟩
def qb{fs:List Fn}{gl f:Nat}{x:au}(c:f<fs.length)(n:dN fs gl=true)(b:ax fs gl f x=true):0<=x.a∧x.a<=100000:=by
 obtain⟨w,v,u,s,m⟩:=dF n;have y:=iq c;obtain⟨r,q⟩:=m f c;unfold ax at b;dsimp only at b;rw[aC c]at b;generalize(aj x.op).a=t at b;by_cases t0:t=0
 ·rw[zn t0]at b;have:=zx b;omega
 rw[zm t0]at b;by_cases t1:t=1
 ·rw[zn t1]at b;have:=ez b;omega
 rw[zm t1]at b;by_cases t2:t=2
 ·rw[zn t2]at b;have:=ez b;omega
 rw[zm t2]at b;by_cases t3:t=3
 ·rw[zn t3]at b;have:=ez b;omega
 rw[zm t3]at b;by_cases j:t=4
 ·rw[zn j]at b;have:=ez b;omega
 rw[zm j]at b;by_cases i:t=5
 ·rw[zn i]at b;have:=ez b;omega
 rw[zm i]at b;by_cases h:t=6
 ·rw[zn h]at b;rw[zy]at b;have p:=zx b.1;have o:=zx b.2;omega
 rw[zm h]at b;by_cases g:t=7
 ·rw[zn g]at b;have:=ez b;omega
 rw[zm g]at b;by_cases e:t=8
 ·rw[zn e]at b;have:=ez b;omega
 rw[zm e]at b;by_cases d:t=9
 ·rw[zn d]at b;rw[zy,zy]at b;have p:=zx b.1.1;have o:=zx b.1.2;omega
 rw[zm d]at b;by_cases l:t=10
 ·rw[zn l]at b;have:=ez b;omega
 rw[zm l]at b;by_cases k:t=11
 ·rw[zn k]at b;rw[Bool.or_eq_true]at b;rcases b with b|b<;>(have:=zx b;omega)
 rw[zm k]at b;have:=ez b;omega
def CE{x:au}(a:x.b=0∨cM x=true):0<=x.b∧x.b<=3:=by
 rcases a with a|a
 ·omega
 ·unfold cM at a;simp only[zy,Bool.or_eq_true,decide_eq_true_eq]at a;omega
def sW{fs:List Fn}{gl f:Nat}(g:f<fs.length)(p:fs[f].code.length≠0)(i:∀k,k<fs[f].code.length->bW fs gl f k=true):WF fs[f].code where
 pos:=by omega
 low:=λk b d=>by
  have e:=gA g b (i k b)
  rw[PeepPlain.aq,aC b]at d
  rw[aC b]
  exact(jn e.1 d).1
 high:=λk b d=>by
  have e:=gA g b (i k b)
  rw[PeepPlain.aq,aC b]at d
  have:=jn e.1 d
  rw[aC g]at this
  rw[bE,aC b]
  omega
 back:=λk b d n=>by
  have e:=gA g b (i k b)
  have m:PeepPlain.aq fs[f].code k=fs[f].code[k].op:=by rw[PeepPlain.aq,aC b]
  have o:bE fs[f].code k=fs[f].code[k].a.toNat:=by rw[bE,aC b]
  rw[m]at d
  rw[o]at n ⊢
  have q:=jn e.1 d
  have h:=e.2.2.2.1
  unfold fp at h
  rw[ze d,ze (show fs[f].code[k].a<=(k:Int) by omega),Bool.true_and,Bool.true_and]at h
  unfold jr
  by_cases l:PeepPlain.aq fs[f].code fs[f].code[k].a.toNat=1
  ·exact .inl l
  ·by_cases j:PeepPlain.aq fs[f].code fs[f].code[k].a.toNat=2
   ·exact .inr j
   ·rw[ze l,ze j]at h
    cases h
 last:=by
  have b:fs[f].code.length - 1<fs[f].code.length:=by omega
  have e:=gA g b (i _ b)
  have c:=e.2.2.2.2.1
  unfold cN at c
  rw[PeepPlain.aq,aC b]
  rw[Bool.or_eq_true,Bool.or_eq_true]at c
  rcases c with(c|c)|c
  ·have:=zx c;omega
  ·exact .inl (zx c)
  ·exact .inr (zx c)
def tC{fs:List Fn}{gl f:Nat}(e:f<fs.length)(g:dN fs gl=true)(h:∀k,k<fs[f].code.length->bW fs gl f k=true):∀k,k<fs[f].code.length->(0<=(fs[f].code.getD k default).a∧(fs[f].code.getD k default).a<=100000)∧0<=(fs[f].code.getD k default).b∧(fs[f].code.getD k default).b<=3:=λk c=>by
 have d:=gA e c (h k c);rw[aC c];exact⟨qb e g d.1,CE d.2.2.1⟩
def bs.wf{fs:List Fn}{gs:List ByteArray}(b:bs fs gs){i:Nat}(a:i<fs.length):WF fs[i].code:=sW a (b.some_ i a) (λc d=>b.fine i c a d)
def fW(fs:List Fn)(gl f:Nat):Wr:=
 if(fs.getD f default).code.length=0 then⟨130,f,⟨#[]⟩⟩else match cF (bW fs gl f) (fs.getD f default).code.length with
 |some k=>⟨130,f,fV k⟩
 |none=>lH
def cX(fs:List Fn)(gl f:Nat):Bool:=decide ((fs.getD f default).code.length≠0)&&(cF (bW fs gl f) (fs.getD f default).code.length).isNone
def jd(fs:List Fn)(f:Nat):Wr:=if jJ E0 (fs.getD f default).code= -1 then lH else⟨130,f,fV (jJ E0 (fs.getD f default).code)⟩
def bO(fs:List Fn)(gs:List ByteArray):Wr:=
 if dN fs gs.length=false then mL fs gs.length
 else if cB gs=false then⟨130,0,⟨#[]⟩⟩
 else match cF (λa=>bR fs a (aB fs a)) fs.length with
 |some a=>⟨130,a,⟨#[]⟩⟩
 |none=>match cF (cX fs gs.length) fs.length with
 |some a=>fW fs gs.length a
 |none=>match cF (λa=>decide (jJ E0 (fs.getD a default).code= -1)) fs.length with
 |some a=>jd fs a
 |none=>lH
section
variable{fs:List Fn}{gs:List ByteArray}
def rm(a:dN fs gs.length=false):bO fs gs=mL fs gs.length:=by
 unfold bO;rw[zn a]
def yg(b:dN fs gs.length=true)(a:cB gs=false):bO fs gs=⟨130,0,⟨#[]⟩⟩:=by
 unfold bO;rw[zm (by rw[b];decide),zn a]
def MY{k:Nat}(e:dN fs gs.length=true)(d:cB gs=true)(c:∀i,i<k->bR fs i (aB fs i)=true)(a:k<fs.length)(b:bR fs k (aB fs k)=false):bO fs gs=⟨130,k,⟨#[]⟩⟩:=by
 unfold bO;rw[zm (by rw[e];decide),zm (by rw[d];decide),dI c b a]
def Gz{f:Nat}(a:f<fs.length)(c:fs[f].code.length≠0)(b:∀j,j<fs[f].code.length->bW fs gs.length f j=true):cX fs gs.length f=true:=by
 unfold cX;rw[aC a,ze c,cK b];rfl
def yK{k:Nat}(f:dN fs gs.length=true)(e:cB gs=true)(d:∀i,i<fs.length->bR fs i (aB fs i)=true)(c:∀i,i<k->cX fs gs.length i=true)(a:k<fs.length)(b:cX fs gs.length k=false):bO fs gs=fW fs gs.length k:=by
 unfold bO;rw[zm (by rw[f];decide),zm (by rw[e];decide),cK d];dsimp only;rw[dI c b a]
def NG{k:Nat}(f:dN fs gs.length=true)(e:cB gs=true)(d:∀i,i<fs.length->bR fs i (aB fs i)=true)(c:∀i,i<k->cX fs gs.length i=true)(a:k<fs.length)(b:fs[k].code.length=0):bO fs gs=⟨130,k,⟨#[]⟩⟩:=by
 rw[yK f e d c a (by unfold cX;rw[aC a,zg (λg=>g b),zG])];unfold fW;rw[aC a,zn b]
def M1{k j:Nat}(m:dN fs gs.length=true)(l:cB gs=true)(h:∀i,i<fs.length->bR fs i (aB fs i)=true)(g:∀i,i<k->cX fs gs.length i=true)(a:k<fs.length)(c:fs[k].code.length≠0)(d:j<fs[k].code.length)(f:∀i,i<j->bW fs gs.length k i=true)(e:bW fs gs.length k j=false):bO fs gs=⟨130,k,fV j⟩:=by
 have b:=dI f e d;rw[yK m l h g a (by unfold cX;rw[aC a,b];simp)];unfold fW;rw[aC a,zm c,b]
def Fy{k:Nat}(h:dN fs gs.length=true)(g:cB gs=true)(f:∀i,i<fs.length->bR fs i (aB fs i)=true)(e:∀i,i<fs.length->cX fs gs.length i=true)(a:k<fs.length)(d:∀i,i<k->jJ E0 (fs.getD i default).code= -1)(b:jJ E0 fs[k].code≠ -1):bO fs gs=⟨130,k,fV (jJ E0 fs[k].code)⟩:=by
 unfold bO;rw[zm (by rw[h];decide),zm (by rw[g];decide),cK f];dsimp only;rw[cK e];dsimp only;rw[dI (λi c=>ze (d i c)) (zg (by rw[aC a];exact b)) a];dsimp only;unfold jd;rw[aC a,zm b]
def Ae(f:dN fs gs.length=true)(e:cB gs=true)(d:∀i,i<fs.length->bR fs i (aB fs i)=true)(c:∀i,i<fs.length->cX fs gs.length i=true)(b:∀i,i<fs.length->jJ E0 (fs.getD i default).code= -1):bO fs gs=lH:=by
 unfold bO;rw[zm (by rw[f];decide),zm (by rw[e];decide),cK d];dsimp only;rw[cK c];dsimp only;rw[cK (λi a=>ze (b i a))]
end
end
end Go.Proofs.YtmecmlpoallpcaaGreatDoor

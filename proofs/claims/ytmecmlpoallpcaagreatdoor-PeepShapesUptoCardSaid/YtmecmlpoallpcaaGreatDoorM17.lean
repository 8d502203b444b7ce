/- Parts of the proof: RefL -/
import Derived.Test.YtmecmlpoallpcaaGreatDoorM15
import Derived.Test.YtmecmlpoallpcaaGreatDoorM13
import Derived.Test.YtmecmlpoallpcaaGreatDoorM11
import Derived.Test.YtmecmlpoallpcaaGreatDoorM14
import Derived.Deep.DeepMust
set_option linter.all false
set_option maxHeartbeats 8000000
namespace Go.Proofs.YtmecmlpoallpcaaGreatDoor
open Go.Proofs.Tryz
section
open Go.RowKit Go.Proofs.PeepPlain
def Wr.val(x:Wr):Value:= .agg x.cells.toArray
def bK:(prog.info? 30).map (·.size)=some 3:=by kernel_rfl
def aW{b:Func}{p:Tmp}(h:b.results= #[.cell p 30])(tmps:Array Value)(w:World)(g:Nat)(a:List Value)(d:tmps.getD p undef= .pointer (some ⟨g,0,none⟩))(c:ah w g 30 a)(e:a.length=3):
 (results b tmps).run prog w= .ok (.agg a.toArray) w:=
 results_cell_row h tmps w g 30 a.toArray (0,0) _ d c underlying30 rfl (by rw[bK];simp[e])
def An(f:Int)(s:ByteArray)(w:World):Calls prog 20 #[.int .i64 f,.string s] w λe w'=>e= .returned (.agg #[.int .i64 130,.int .i64 f,.string s])∧zz w w':=by
 go_enter func20,ntmps20;go_wp2_with fail;exact bodyPost_ret (aW rfl _ _ w.heap.size [.int .i64 130,.int .i64 f,.string s] rfl (ah.made w 30 [.int .i64 130,.int .i64 f,.string s]) rfl) rfl ⟨rfl,below1 w _⟩
def jZ(k:Nat)(w:World)(a:k<=100000):Calls prog 46 #[.int .i64 (k:Int)] w λe w'=>e= .returned (.string (fV k))∧zz w w':=wd w k (Nat.lt_of_le_of_lt a (by decide))
def xv{w j:World}(b a v0 v1 v2 i h g e d c:Value)(l:Below (((w.alloc (.cells #[b,a] 25)).alloc (.cells #[v0,v1,v2] 30)).alloc (.cells #[i,h,g,e,d,c] 47)).heap.size (((w.alloc (.cells #[b,a] 25)).alloc (.cells #[v0,v1,v2] 30)).alloc (.cells #[i,h,g,e,d,c] 47)) j):
 zz w j∧ah j w.heap.size 25 [b,a]∧ah j (w.heap.size+1) 30 [v0,v1,v2]∧ah j (w.heap.size+1+1) 47 [i,h,g,e,d,c]:=by
 have n:(w.alloc (.cells #[b,a] 25)).heap.size=w.heap.size+1:=by show(w.heap.push _).size=_;rw[Array.size_push]
 have m:((w.alloc (.cells #[b,a] 25)).alloc (.cells #[v0,v1,v2] 30)).heap.size=w.heap.size+1+1:=by show((w.alloc (.cells #[b,a] 25)).heap.push _).size=_;rw[Array.size_push,n]
 have t:ah (w.alloc (.cells #[b,a] 25)) w.heap.size 25 [b,a]:=ah.made w 25 [b,a];have s:ah ((w.alloc (.cells #[b,a] 25)).alloc (.cells #[v0,v1,v2] 30)) (w.heap.size+1) 30 [v0,v1,v2]:=n ▸ ah.made (w.alloc (.cells #[b,a] 25)) 30 [v0,v1,v2];have p:ah (((w.alloc (.cells #[b,a] 25)).alloc (.cells #[v0,v1,v2] 30)).alloc (.cells #[i,h,g,e,d,c] 47)) (w.heap.size+1+1) 47 [i,h,g,e,d,c]:=m ▸ ah.made ((w.alloc (.cells #[b,a] 25)).alloc (.cells #[v0,v1,v2] 30)) 47 [i,h,g,e,d,c];have r:=(t.alloc (.cells #[v0,v1,v2] 30)).alloc (.cells #[i,h,g,e,d,c] 47);have q:=s.alloc (.cells #[i,h,g,e,d,c] 47);have u:w.heap.size<=(((w.alloc (.cells #[b,a] 25)).alloc (.cells #[v0,v1,v2] 30)).alloc (.cells #[i,h,g,e,d,c] 47)).heap.size:=by show w.heap.size<=(((w.alloc (.cells #[b,a] 25)).alloc (.cells #[v0,v1,v2] 30)).heap.push _).size;rw[Array.size_push,m];omega
 refine⟨ac (((below1 w _).alloc (by rw[n];omega) _).alloc (by rw[m];omega) _) l u,r.below l r.lt,q.below l q.lt,p.below l p.lt⟩
def vX{w:World}{g:Nat}{c b a v0 v1 v2:Value}(d:ah w g 30 [c,b,a]):ah (((w.setCell ⟨g,0,none⟩ v0).setCell ⟨g,1,none⟩ v1).setCell ⟨g,2,none⟩ v2) g 30 [v0,v1,v2]:=by
 have:=((d.set 0 v0).set 1 v1).set 2 v2;simpa using this
def ey{B g:Nat}{a w:World}{v0 v1 v2:Value}(c:Below B a w)(b:B<=g):Below B a (((w.setCell ⟨g,0,none⟩ v0).setCell ⟨g,1,none⟩ v1).setCell ⟨g,2,none⟩ v2):=((c.setCell b _).setCell b _).setCell b _
def Hh(op:Int):(aj op).word.toList.isEmpty=!(decide (1<=op)&&decide (op<=53)):=by
 have b:∀a:Fin 54,(jx.getD a.1 k7).word.toList.isEmpty=decide (a.1=0):=by decide+kernel
 have h:jx.length=54:=by decide
 have e:k7.word.toList.isEmpty=true:=by decide+kernel
 unfold aj;by_cases d:1<=op
 ·by_cases c:op<=53
  ·have:=b ⟨op.toNat,by omega⟩;rw[this,ze d,ze c,zg (by dsimp only;omega)];rfl
  ·have:jx.getD op.toNat k7=k7:=by
    rw[zd,zM (by omega)];rfl
   rw[this,zg c,zF,e];rfl
 ·have:=b ⟨0,by decide⟩;have g:op.toNat=0:=by omega
  rw[g,zg d,zG];exact this
section
variable{fs:List Fn}{gl f k:Nat}{o:Fn}{x:au}
def Nw(e:f<fs.length)(c:fs[f]=o)(d:k<o.code.length)(a:o.code[k]=x):bW fs gl f k=((decide (1<=x.op)&&decide (x.op<=53))&&decide (0<=x.pos)&&decide (x.pos<=60000)&&ax fs gl f x&&de x&&(decide (x.b=0)||cM x)&&!fp o.code k x&&cN o.code k x):=by
 subst c;subst a;unfold bW;dsimp only;rw[aC e,aC d,Hh,Bool.not_not]
def PP(e:bW fs gl f k=((decide (1<=x.op)&&decide (x.op<=53))&&decide (0<=x.pos)&&decide (x.pos<=60000)&&ax fs gl f x&&de x&&(decide (x.b=0)||cM x)&&!fp o.code k x&&cN o.code k x))(a:x.op<1∨53<x.op∨x.pos<0∨60000<x.pos):bW fs gl f k=false:=by
 rw[e];have:((decide (1<=x.op)&&decide (x.op<=53))&&decide (0<=x.pos)&&decide (x.pos<=60000))=false:=by
  rw[Bool.eq_false_iff];simp only[ne_eq,zy,decide_eq_true_eq];omega
 rw[this];simp
def If(e:bW fs gl f k=((decide (1<=x.op)&&decide (x.op<=53))&&decide (0<=x.pos)&&decide (x.pos<=60000)&&ax fs gl f x&&de x&&(decide (x.b=0)||cM x)&&!fp o.code k x&&cN o.code k x))(g:¬x.op<1)(d:¬53<x.op)(c:¬x.pos<0)(a:¬60000<x.pos):bW fs gl f k=((ax fs gl f x&&(decide (x.b=0)||cM x))&&(de x&&!fp o.code k x&&cN o.code k x)):=by
 rw[e,ze (show 1<=x.op by omega),ze (show x.op<=53 by omega),ze (show 0<=x.pos by omega),ze (show x.pos<=60000 by omega)]
 cases ax fs gl f x<;>cases de x<;>cases(decide (x.b=0)||cM x)<;>cases fp o.code k x<;>cases cN o.code k x<;>rfl
end
def Px{fs:List Fn}{gl f:Nat}{x:au}(d:(ax fs gl f x&&(decide (x.b=0)||cM x))=true)(e:x.op=29):0<=x.a∧x.a<=30:=by
 rw[zy]at d;have c:=d.1;unfold ax at c;rw[e]at c;have g:(decide (0<=x.a)&&decide (x.a<31))=true:=c;rw[zy,decide_eq_true_eq,decide_eq_true_eq]at g;omega
def PG{fs:List Fn}{gl f:Nat}{x:au}(d:(ax fs gl f x&&(decide (x.b=0)||cM x))=true)(e:x.op=32):x.a=0∨x.a=1:=by
 rw[zy]at d;have c:=d.1;unfold ax at c;rw[e]at c;have g:(decide (0<=x.a)&&decide (x.a<2))=true:=c;rw[zy,decide_eq_true_eq,decide_eq_true_eq]at g;omega
def PO{fs:List Fn}{gl f:Nat}{x:au}(e:(ax fs gl f x&&(decide (x.b=0)||cM x))=true)(g:x.op=33):0<=x.a∧x.a<3:=by
 rw[zy]at e;have c:=e.1;unfold ax at c;rw[g]at c;have d:(decide (0<=x.a)&&decide (x.a<3))=true:=c;rw[zy,decide_eq_true_eq,decide_eq_true_eq]at d;exact d
def oI{w:World}{b c:Nat}{l:List au}(j:bX w (some ⟨b,c,none⟩) l):∀i,(e:i<l.length)->b<w.heap.size∧w.cell? ⟨b,c+i * 5,none⟩=some (.int .i64 l[i].op)∧w.cell? ⟨b,c+i * 5+1,none⟩=some (.int .i64 l[i].a)∧w.cell? ⟨b,c+i * 5+2,none⟩=some (.int .i64 l[i].b)∧w.cell? ⟨b,c+i * 5+3,none⟩=some (.string l[i].text)∧w.cell? ⟨b,c+i * 5+4,none⟩=some (.int .i64 l[i].pos):=λi e=>by
 obtain⟨n,m,d,g,h⟩:=j.at_ (by omega);injection d with d;injection d with e1 e2 _;subst e1 e2;exact⟨g,h i e⟩
def Hd{n:Nat}(a:n<=60000):wrap64 ((n:Int) - 1)=(n:Int) - 1:=by unfold wrap64;omega
def eo{fs:List Fn}{gl f k:Nat}(b:∀j,j<k->bW fs gl f j=true)(a:bW fs gl f k=true):∀j,j<k+1->bW fs gl f j=true:=λj d=>by
 by_cases c:j=k
 ·subst c;exact a
 ·exact b j (by omega)
structure QF(w:World)(pc zc xc ic:List Value)(I:Nat)(wr:World):Prop where
 p:ah wr w.heap.size 25 pc
 z:ah wr (w.heap.size+1) 30 zc
 x:ah wr (w.heap.size+1+1) 47 xc
 i:ah wr I 50 ic
 below:Below w.heap.size w wr
def QF.next{w wr w':World}{pc c d e:List Value}{g:Nat}(a:QF w pc c d e g wr)(b:zz wr w'):QF w pc c d e g w':=
 ⟨a.p.below b a.p.lt,a.z.below b a.z.lt,a.x.below b a.x.lt,a.i.below b a.i.lt,ac a.below b a.below.size⟩
set_option maxRecDepth 20000 in
def Il(fs:List Fn)(c3 GA:Option Addr)(fc gl gc f:Nat)(w:World)(bc:bD w c3 fs)(L:f<fs.length)(fj:fs.length<=20000)(cg:fs[f].code.length<=60000)(ba:∀x∈fs[f].code,x.text.size<=2000000):
 Calls prog 22 #[.agg #[.slice c3 fs.length fc,.slice GA gl gc],.int .i64 f] w λe w'=>e= .returned (fW fs gl f).val∧zz w w':=by
 have cC:=za bc;have I:=za An;obtain⟨x,fl⟩:∃x,Hid (fW fs gl f=x):=⟨_,za rfl⟩
 have ed:=za (show fs[f].code.length=0->fW fs gl f=⟨130,f,⟨#[]⟩⟩from λs=>by unfold fW;rw[aC L,zn s]);obtain⟨H,aa,rfl,X,cd⟩:=bc.at_ (by omega);obtain⟨be,Q,P,ap,ao,an⟩:=cd f L;have d1:(0:Int)<=(f:Int)∧(f:Int)<(fs.length:Int):=by omega
 have d8:H≠w.heap.size:=by omega
 have d7:H≠w.heap.size+1:=by omega
 have d6:H<w.heap.size+1:=by omega
 have d5:H<w.heap.size+1+1:=by omega
 clear bc cd;by_cases W:fs[f].code.length=0
 ·have Y:=za (ed.out W);rw[W]at an;generalize fs[f]=o at be Q P ap ao an;go_enter func22,ntmps22;go_wp2_with (go_at_call 20;refine(I.out (f:Int) _ _).mono ?_;rintro u e4 ⟨rfl,ck⟩;go_must (obtain⟨ch,dn,N,dl⟩:=xv _ _ _ _ _ _ _ _ _ _ _ ck);have G:=N.cell 0;have F:=N.cell 1;have E:=N.cell 2;have D:=N.free;have C:=N.lt;have ec:=za N;have ev:=za ch;clear ck ch dn N dl);exact bodyPost_ret (aW rfl _ _ (w.heap.size+1) _ rfl (vX ec.out) rfl) rfl ⟨by rw[Y.out];rfl,ey ev.out (zE _)⟩
 ·have fm:=za W;have es:=za jZ;have J:=za (λ(k:Nat) cb Q P=>show fW fs gl f=⟨130,f,fV k⟩from by unfold fW;rw[aC L,zm W,dI (k:=k) Q P cb]);have cv:=za (λs=>show fW fs gl f=lH from by unfold fW;rw[aC L,zm W,cK s]);obtain⟨o,bj⟩:∃o,Hid (fs[f]=o):=⟨_,za rfl⟩
  have av:=za (λ(wr:World) (X:zz w wr)=>(cC.below X).code _ (zk L));rw[bj.out]at be Q P ap ao an W cg ba J cv av;have fh:((o.code.length:Int)==0)=false:=zh.2 (by omega);obtain⟨ar,a6,cf,_,_⟩:=(av.out w (zZ _ _)).at_ (by omega);rw[cf]at an av;have c1:=za (λ(wr:World) (X:zz w wr)=>oI (av.out wr X));clear cf av;have ej:=za ba;clear ba;go_enter func22,ntmps22;go_wp2_with fail;have b9:=xv (.slice (some ⟨H,aa,none⟩) fs.length fc) (.slice GA gl gc) (.int .i64 0) (.int .i64 0) (.string ⟨#[]⟩) (.string o.name) (.int .i64 o.params) (.int .i64 o.slots) (.slice o.TA o.taken.length o.tc) (.int .i64 o.around) (.slice (some ⟨ar,a6,none⟩) o.code.length o.cc) (w:=w) (zZ _ _);generalize((w.alloc (.cells #[.slice (some ⟨H,aa,none⟩) fs.length fc,.slice GA gl gc] 25)).alloc (.cells #[.int .i64 0,.int .i64 0,.string ⟨#[]⟩] 30)).alloc (.cells #[.string o.name,.int .i64 o.params,.int .i64 o.slots,.slice o.TA o.taken.length o.tc,.int .i64 o.around,.slice (some ⟨ar,a6,none⟩) o.code.length o.cc] 47)=w0 at b9 ⊢
  obtain⟨cl,b8,b7,b6⟩:=b9;have c2:=za cl;have cs:=za b8;have co:=za b7;have cp:=za b6;clear cl b8 b7 b6 be Q P ap ao an d8 d7 d6 d5 d1;go_loopw [6,7,8,9,10,11] (λa7 e1 e0 ew e3 e2 wr=> ∃k:Nat,a7= .int .i64 k∧k<=o.code.length∧Hid (∀a9,a9<k->bW fs gl f a9=true)∧Hid (ah wr w.heap.size 25 [.slice (some ⟨H,aa,none⟩) fs.length fc,.slice GA gl gc])∧Hid (ah wr (w.heap.size+1) 30 [.int .i64 0,.int .i64 0,.string ⟨#[]⟩])∧Hid (ah wr (w.heap.size+1+1) 47 [.string o.name,.int .i64 o.params,.int .i64 o.slots,.slice o.TA o.taken.length o.tc,.int .i64 o.around,.slice (some ⟨ar,a6,none⟩) o.code.length o.cc])∧Hid (zz w wr)) (λa7 _ _ _ _ _ _=>o.code.length - (intOf a7).toNat)
  case atStart=>exact⟨0,rfl,zu _,za (λa9 s=>by omega),cs,co,cp,c2⟩
  case round=>
   clear cs co cp c2;rename World=>w1;obtain⟨k,rfl,cb,h,ct,M,Y,a1⟩:=hrel;have c5:=Y.cell 5;have c4:=Y.lt;by_cases A:k<o.code.length
   ·obtain⟨d3,b5,b4,b3,b2,b1⟩:=c1.out w1 a1.out k A;have fk:(0:Int)<=(k:Int)∧(k:Int)<(o.code.length:Int):=by omega
    have d2:ar≠w1.heap.size:=by omega
    obtain⟨x,bi⟩:∃x,Hid (o.code[k]=x):=⟨_,za rfl⟩
    rw[bi.out]at b5 b4 b3 b2 b1;have c0:=za (Nw (gl:=gl) L bj.out A bi.out);have ef:=za (ej.out x (bi.out ▸ zk A));go_wp2_with (go_at_call 46;go_must (refine(es.out k _ (by omega)).mono ?_));rintro u c9 ⟨rfl,cj⟩;have v:Hid (QF w [.slice (some ⟨H,aa,none⟩) fs.length fc,.slice GA gl gc] [.int .i64 0,.int .i64 0,.string ⟨#[]⟩] [.string o.name,.int .i64 o.params,.int .i64 o.slots,.slice o.TA o.taken.length o.tc,.int .i64 o.around,.slice (some ⟨ar,a6,none⟩) o.code.length o.cc] [.int .i64 x.op,.int .i64 x.a,.int .i64 x.b,.string x.text,.int .i64 x.pos] w1.heap.size c9):=
     za (QF.next ⟨ct.alloc _,M.alloc _,Y.alloc _,ah.made w1 50 _,a1.alloc a1.size _⟩ cj)
    clear cj b5 b4 b3 b2 b1 c5 c4 ct M Y a1 d2 d3;have bq:=v.i.cell 0;have bp:=v.i.cell 1;have bo:=v.i.cell 2;have bl:=v.i.cell 3;have bk:=v.i.cell 4;have b0:=v.i.lt;by_cases O:x.op<1∨53<x.op∨x.pos<0∨60000<x.pos
    ·have r:=za (J.out k A h.out (PP c0.out O));have d4:x.op<1∨(¬x.op<1∧53<x.op)∨(¬x.op<1∧¬53<x.op∧x.pos<0)∨(¬x.op<1∧¬53<x.op∧¬x.pos<0∧60000<x.pos):=by omega
     clear O;rcases d4 with a8|⟨a8,bt⟩|⟨a8,bt,ds⟩|⟨a8,bt,ds,e9⟩
     all_goals go_wp2_with (go_at_call 20;refine(I.out (f:Int) _ _).mono ?_;rintro u c8 ⟨rfl,af⟩;have t:=za (v.next af);have G:=t.z.cell 0;have F:=t.z.cell 1;have E:=t.z.cell 2;have D:=t.z.free;have C:=t.z.lt;clear af)
     all_goals exact bodyPost_ret (aW rfl _ _ (w.heap.size+1) _ rfl (vX t.z) rfl) rfl ⟨by rw[r.out];rfl,ey t.below (zE _)⟩
    ·have Q:¬x.op<1:=λs=>O (.inl s);have P:¬53<x.op:=λs=>O (.inr (.inl s));have ap:¬x.pos<0:=λs=>O (.inr (.inr (.inl s)));have ao:¬60000<x.pos:=λs=>O (.inr (.inr (.inr s)));have cT:=za (If c0.out Q P ap ao);have em:=za (λ(wr:World) (X:zz w wr)=>Cq fs (some ⟨H,aa,none⟩) GA fc gl gc f x wr (cC.below X) L (by omega) (by omega));have dC:=v.p.cell 0;have dB:=v.p.cell 1;have dA:=v.p.lt;clear O;go_wp2_with (go_at_call 47;go_must (refine(em.out _ v.below).mono ?_));rintro u c8 ⟨rfl,af⟩;have t:=za (v.next af);clear af bq bp bo bl bk b0 dC dB dA;have bq:=t.i.cell 0;have bp:=t.i.cell 1;have bo:=t.i.cell 2;have bl:=t.i.cell 3;have bk:=t.i.cell 4;have b0:=t.i.lt
     cases K:(ax fs gl f x&&(decide (x.b=0)||cM x))with
     |false=>
      have r:=za (J.out k A h.out (by rw[cT.out,K,zG]));clear K;go_wp2_with (go_at_call 20;refine(I.out (f:Int) _ _).mono ?_;rintro u c7 ⟨rfl,ad⟩;have c:=za (t.next ad);have G:=c.z.cell 0;have F:=c.z.cell 1;have E:=c.z.cell 2;have D:=c.z.free;have C:=c.z.lt;clear ad);exact bodyPost_ret (aW rfl _ _ (w.heap.size+1) _ rfl (vX c.z) rfl) rfl ⟨by rw[r.out];rfl,ey c.below (zE _)⟩
     |true=>
      have ek:=za K;have U:=za (show bW fs gl f k=(de x&&!fp o.code k x&&cN o.code k x)from by rw[cT.out,K,Bool.true_and]);have ee:=za (λ(wr:World)=>Kb x wr ef.out (by omega) (Px K) (PG K) (PO K));have en:=za (λ(wr:World)=>GK x.op wr);clear K;go_wp2_with (first
       |(go_at_call 48;refine(ee.out _).mono ?_;rintro u c7 ⟨rfl,ad⟩;have c:=za (t.next ad);have e8:=c.i.cell 0;have df:=c.i.cell 1;have e7:=c.x.cell 5;have e6:=c.i.lt;have e5:=c.x.lt;clear ad)
       |(go_at_call 49;go_must (refine(en.out _).mono ?_)))
      rintro u c6 ⟨rfl,rfl⟩;have ff:wrap64 ((o.code.length:Int) - 1)=(o.code.length:Int) - 1:=Hd cg
      cases a2:de x with
      |false=>
       have r:=za (J.out k A h.out (by rw[U.out,a2,zG,zG]));clear a2;go_wp2_with (go_at_call 20;refine(I.out (f:Int) _ _).mono ?_;rintro u Z ⟨rfl,n⟩;have d:=za (c.next n);have G:=d.z.cell 0;have F:=d.z.cell 1;have E:=d.z.cell 2;have D:=d.z.free;have C:=d.z.lt;clear n);exact bodyPost_ret (aW rfl _ _ (w.heap.size+1) _ rfl (vX d.z) rfl) rfl ⟨by rw[r.out];rfl,ey d.below (zE _)⟩
      |true=>
       rw[a2,Bool.true_and]at U;clear a2;by_cases a3:al x.op
       ·have ab:decide (al x.op)=true:=ze a3;have ci:=jn (show ax fs gl f x=true by have:=ek.out;rw[zy]at this;exact this.1) a3;rw[aC L,bj.out]at ci;obtain⟨y,bb⟩:∃y:Nat,x.a=(y:Int):=⟨x.a.toNat,by omega⟩
        have ca:y<o.code.length:=by omega
        have a0:=za (show fp o.code k x=(decide ((y:Int)<=(k:Int))&&decide (o.code[y].op≠1)&&decide (o.code[y].op≠2))from by unfold fp;rw[ab,bb,zV,PeepPlain.aq,aC ca,Bool.true_and]);have d0:=(c1.out c6 c.below y ca).2.1;generalize o.code[y].op=q at a0 d0;rw[bb]at df;have fi:(0:Int)<=(y:Int)∧(y:Int)<(o.code.length:Int):=by omega
        clear a3 ci bb;rw[ab];by_cases cn:(y:Int)<=(k:Int)
        ·by_cases a5:q=1
         ·have ea:(q !=1)=false:=by rw[a5];rfl
          have m:=za (show bW fs gl f k=cN o.code k x from by rw[U.out,a0.out,zg (p:=q≠1) (λs=>s a5)];simp);by_cases B:k=o.code.length - 1
          ·have T:((k:Int)==(o.code.length:Int) - 1)=true:=by rw[beq_iff_eq];omega
           have V:=za B;clear B;by_cases l:x.op=50
           ·have g:=za (eo h.out (m.trans (by unfold cN;rw[ze l];simp)));have S:(x.op !=50)=false:=by rw[l];rfl
            go_wp2_with fail;go_roundw
            case rel=>exact⟨k+1,by go_num,by omega,g,c.p,c.z,c.x,c.below⟩
            case measure=>simp[intOf];omega
           ·have S:(x.op !=50)=true:=zO.2 l;by_cases j:x.op=34
            ·have g:=za (eo h.out (m.trans (by unfold cN;rw[ze j];simp)));have R:(x.op !=34)=false:=by rw[j];rfl
             go_wp2_with fail;go_roundw
             case rel=>exact⟨k+1,by go_num,by omega,g,c.p,c.z,c.x,c.below⟩
             case measure=>simp[intOf];omega
            ·have R:(x.op !=34)=true:=zO.2 j;have r:=za (J.out k A h.out (m.trans (by unfold cN;rw[zg l,zg j,zg (by have:=V.out;omega)];rfl)));go_wp2_with (go_at_call 20;refine(I.out (f:Int) _ _).mono ?_;rintro u Z ⟨rfl,n⟩;have d:=za (c.next n);have G:=d.z.cell 0;have F:=d.z.cell 1;have E:=d.z.cell 2;have D:=d.z.free;have C:=d.z.lt;clear n);exact bodyPost_ret (aW rfl _ _ (w.heap.size+1) _ rfl (vX d.z) rfl) rfl ⟨by rw[r.out];rfl,ey d.below (zE _)⟩
          ·have T:((k:Int)==(o.code.length:Int) - 1)=false:=zh.2 (by omega);have g:=za (eo h.out (m.trans (by unfold cN;rw[ze (show(k:Int)<(o.code.length:Int) - 1 by omega)];rfl)));go_wp2_with fail;go_roundw
           case rel=>exact⟨k+1,by go_num,by omega,g,c.p,c.z,c.x,c.below⟩
           case measure=>simp[intOf];omega
         ·have ea:(q !=1)=true:=zO.2 a5;by_cases a4:q=2
          ·have d9:(q !=2)=false:=by rw[a4];rfl
           have m:=za (show bW fs gl f k=cN o.code k x from by rw[U.out,a0.out,zg (p:=q≠2) (λs=>s a4)];simp);by_cases B:k=o.code.length - 1
           ·have T:((k:Int)==(o.code.length:Int) - 1)=true:=by rw[beq_iff_eq];omega
            have V:=za B;clear B;by_cases l:x.op=50
            ·have g:=za (eo h.out (m.trans (by unfold cN;rw[ze l];simp)));have S:(x.op !=50)=false:=by rw[l];rfl
             go_wp2_with fail;go_roundw
             case rel=>exact⟨k+1,by go_num,by omega,g,c.p,c.z,c.x,c.below⟩
             case measure=>simp[intOf];omega
            ·have S:(x.op !=50)=true:=zO.2 l;by_cases j:x.op=34
             ·have g:=za (eo h.out (m.trans (by unfold cN;rw[ze j];simp)));have R:(x.op !=34)=false:=by rw[j];rfl
              go_wp2_with fail;go_roundw
              case rel=>exact⟨k+1,by go_num,by omega,g,c.p,c.z,c.x,c.below⟩
              case measure=>simp[intOf];omega
             ·have R:(x.op !=34)=true:=zO.2 j;have r:=za (J.out k A h.out (m.trans (by unfold cN;rw[zg l,zg j,zg (by have:=V.out;omega)];rfl)));go_wp2_with (go_at_call 20;refine(I.out (f:Int) _ _).mono ?_;rintro u Z ⟨rfl,n⟩;have d:=za (c.next n);have G:=d.z.cell 0;have F:=d.z.cell 1;have E:=d.z.cell 2;have D:=d.z.free;have C:=d.z.lt;clear n);exact bodyPost_ret (aW rfl _ _ (w.heap.size+1) _ rfl (vX d.z) rfl) rfl ⟨by rw[r.out];rfl,ey d.below (zE _)⟩
           ·have T:((k:Int)==(o.code.length:Int) - 1)=false:=zh.2 (by omega);have g:=za (eo h.out (m.trans (by unfold cN;rw[ze (show(k:Int)<(o.code.length:Int) - 1 by omega)];rfl)));go_wp2_with fail;go_roundw
            case rel=>exact⟨k+1,by go_num,by omega,g,c.p,c.z,c.x,c.below⟩
            case measure=>simp[intOf];omega
          ·have d9:(q !=2)=true:=zO.2 a4;have r:=za (J.out k A h.out (by rw[U.out,a0.out,ze cn,ze a5,ze a4];rfl));go_wp2_with (go_at_call 20;refine(I.out (f:Int) _ _).mono ?_;rintro u Z ⟨rfl,n⟩;have d:=za (c.next n);have G:=d.z.cell 0;have F:=d.z.cell 1;have E:=d.z.cell 2;have D:=d.z.free;have C:=d.z.lt;clear n);exact bodyPost_ret (aW rfl _ _ (w.heap.size+1) _ rfl (vX d.z) rfl) rfl ⟨by rw[r.out];rfl,ey d.below (zE _)⟩
        ·have m:=za (show bW fs gl f k=cN o.code k x from by rw[U.out,a0.out,zg cn];simp);by_cases B:k=o.code.length - 1
         ·have T:((k:Int)==(o.code.length:Int) - 1)=true:=by rw[beq_iff_eq];omega
          have V:=za B;clear B;by_cases l:x.op=50
          ·have g:=za (eo h.out (m.trans (by unfold cN;rw[ze l];simp)));have S:(x.op !=50)=false:=by rw[l];rfl
           go_wp2_with fail;go_roundw
           case rel=>exact⟨k+1,by go_num,by omega,g,c.p,c.z,c.x,c.below⟩
           case measure=>simp[intOf];omega
          ·have S:(x.op !=50)=true:=zO.2 l;by_cases j:x.op=34
           ·have g:=za (eo h.out (m.trans (by unfold cN;rw[ze j];simp)));have R:(x.op !=34)=false:=by rw[j];rfl
            go_wp2_with fail;go_roundw
            case rel=>exact⟨k+1,by go_num,by omega,g,c.p,c.z,c.x,c.below⟩
            case measure=>simp[intOf];omega
           ·have R:(x.op !=34)=true:=zO.2 j;have r:=za (J.out k A h.out (m.trans (by unfold cN;rw[zg l,zg j,zg (by have:=V.out;omega)];rfl)));go_wp2_with (go_at_call 20;refine(I.out (f:Int) _ _).mono ?_;rintro u Z ⟨rfl,n⟩;have d:=za (c.next n);have G:=d.z.cell 0;have F:=d.z.cell 1;have E:=d.z.cell 2;have D:=d.z.free;have C:=d.z.lt;clear n);exact bodyPost_ret (aW rfl _ _ (w.heap.size+1) _ rfl (vX d.z) rfl) rfl ⟨by rw[r.out];rfl,ey d.below (zE _)⟩
         ·have T:((k:Int)==(o.code.length:Int) - 1)=false:=zh.2 (by omega);have g:=za (eo h.out (m.trans (by unfold cN;rw[ze (show(k:Int)<(o.code.length:Int) - 1 by omega)];rfl)));go_wp2_with fail;go_roundw
          case rel=>exact⟨k+1,by go_num,by omega,g,c.p,c.z,c.x,c.below⟩
          case measure=>simp[intOf];omega
       ·have ab:decide (al x.op)=false:=zg a3;have m:=za (show bW fs gl f k=cN o.code k x from by rw[U.out];unfold fp;rw[ab];simp);rw[ab];by_cases B:k=o.code.length - 1
        ·have T:((k:Int)==(o.code.length:Int) - 1)=true:=by rw[beq_iff_eq];omega
         have V:=za B;clear B;by_cases l:x.op=50
         ·have g:=za (eo h.out (m.trans (by unfold cN;rw[ze l];simp)));have S:(x.op !=50)=false:=by rw[l];rfl
          go_wp2_with fail;go_roundw
          case rel=>exact⟨k+1,by go_num,by omega,g,c.p,c.z,c.x,c.below⟩
          case measure=>simp[intOf];omega
         ·have S:(x.op !=50)=true:=zO.2 l;by_cases j:x.op=34
          ·have g:=za (eo h.out (m.trans (by unfold cN;rw[ze j];simp)));have R:(x.op !=34)=false:=by rw[j];rfl
           go_wp2_with fail;go_roundw
           case rel=>exact⟨k+1,by go_num,by omega,g,c.p,c.z,c.x,c.below⟩
           case measure=>simp[intOf];omega
          ·have R:(x.op !=34)=true:=zO.2 j;have r:=za (J.out k A h.out (m.trans (by unfold cN;rw[zg l,zg j,zg (by have:=V.out;omega)];rfl)));go_wp2_with (go_at_call 20;refine(I.out (f:Int) _ _).mono ?_;rintro u Z ⟨rfl,n⟩;have d:=za (c.next n);have G:=d.z.cell 0;have F:=d.z.cell 1;have E:=d.z.cell 2;have D:=d.z.free;have C:=d.z.lt;clear n);exact bodyPost_ret (aW rfl _ _ (w.heap.size+1) _ rfl (vX d.z) rfl) rfl ⟨by rw[r.out];rfl,ey d.below (zE _)⟩
        ·have T:((k:Int)==(o.code.length:Int) - 1)=false:=zh.2 (by omega);have g:=za (eo h.out (m.trans (by unfold cN;rw[ze (show(k:Int)<(o.code.length:Int) - 1 by omega)];rfl)));go_wp2_with fail;go_roundw
         case rel=>exact⟨k+1,by go_num,by omega,g,c.p,c.z,c.x,c.below⟩
         case measure=>simp[intOf];omega
   ·obtain rfl:k=o.code.length:=by omega
    have r:=za (cv.out h.out);have G:=M.cell 0;have F:=M.cell 1;have E:=M.cell 2;have D:=M.free;have C:=M.lt;go_wp2_with fail;exact bodyPost_ret (aW rfl _ _ (w.heap.size+1) _ rfl (vX M.out) rfl) rfl ⟨by rw[r.out];rfl,ey a1.out (zE _)⟩
end
end Go.Proofs.YtmecmlpoallpcaaGreatDoor

/- Parts of the proof: ValA StackD Leaves Hand FitsA FitsB FitsC RefO RefA RefB RefQ RefC RefK RefY1 RefF RefG RefH -/
import Derived.Test.YtmecmlpoallpcaaGreatDoorM07
import Derived.Test.YtmecmlpoallpcaaGreatDoorM04
import Derived.Test.YtmecmlpoallpcaaGreatDoorM09
import Derived.Test.YtmecmlpoallpcaaGreatDoorM02
import Derived.LaidEqlPtr
import Derived.Test.YtmecmlpoallpcaaGreatDoorM03
import Derived.WalkMore
import Derived.StillTailTactics
import Derived.Deep.RegionHeld3
import Derived.Deep.QuietTactic
import Derived.BigQuiet
import Derived.Laws.BytesString
import Derived.Laws.IdiomStrings
import Derived.Lib.AppendStr
import Derived.Deep.AppendLies
import Derived.WalkSmall
import Derived.Laws.AppendOwn
import Derived.Lib.ItoaMem
set_option linter.all false
set_option maxHeartbeats 8000000
namespace Go.Proofs.YtmecmlpoallpcaaGreatDoor
open Go.Proofs.Tryz
section
open Go.RowKit
def Fa:List ByteArray:=[⟨#[110,105,108]⟩,⟨#[98,111,111,108]⟩,⟨#[105,110,116]⟩,⟨#[102,108,111,97,116]⟩,⟨#[116,101,120,116]⟩,⟨#[108,105,115,116]⟩,⟨#[109,97,112]⟩,⟨#[102,117,110,99]⟩]
structure fT(w:World):Prop where
 at_:∀(j:Nat) s,Fa[j]?=some s->w.cell? ⟨7,j,none⟩=some (.string s)
 size:14<=w.heap.size
def fT.below{w w':World}(a:fT w)(c:zz w w'):fT w':=
 ⟨λb d e=>(c.cell (p:=⟨7,b,none⟩) (show 7<_ from zv (by omega) a.size)).trans (a.at_ b d e),zi a.size c.size⟩
def Jd:Value:= .agg #[.int .i64 0,.int .i64 0,.int .i64 0,.int .i64 0,.slice none 0 0]
set_option maxRecDepth 200000 in
def JE(w:World):Calls prog 227 #[Jd] w λe w'=>e= .returned (.bool true)∧zz w w':=by
 unfold Jd;go_enter func227,ntmps227;go_wp2;go_ret;exact⟨rfl,by go_grown⟩
set_option maxRecDepth 200000 in
def xk(k:Int)(f:k=1∨k=2)(w:World):Calls prog 216 #[.int .i64 k,Jd] w λe w'=>e= .returned (.bool true)∧zz w w':=by
 have b:=za JE;unfold Jd at b ⊢
 rcases f with rfl|rfl
 ·go_enter func216,ntmps216;go_wp2_with (go_at_call 227;refine(b.out _).mono ?_;rintro g d ⟨rfl,a⟩;have c:=za (ac (below1 w _) a (below1 w _).size);clear a);go_ret;exact⟨rfl,c⟩
 ·go_enter func216,ntmps216;go_wp2_with (go_at_call 227;refine(b.out _).mono ?_;rintro g d ⟨rfl,a⟩;have c:=za (ac (below1 w _) a (below1 w _).size);clear a);go_ret;exact⟨rfl,c⟩
def yf(s:ByteArray)(g:Nat)(w:World)(a:ah w g 277 (Fa.map Value.string)):Calls prog 99 #[.slice (some ⟨g,0,none⟩) 8 8,.string s] w λe w'=>e= .returned (.bool (Lib.containsS Fa s))∧w'=w:=by
 refine(dJ g 0 8 8 Fa s _ (by decide) (by omega) (kC a)).mono ?_;rintro b w' ⟨rfl,rfl⟩;exact⟨rfl,rfl⟩
set_option maxRecDepth 200000 in
def qF(s:ByteArray)(b:Lib.containsS Fa s=true)(h:s.toList.isEmpty=false)(g:¬(40:Int)<s.size)(w:World)(a:fT w):Calls prog 217 #[.string s] w λe w'=>e= .returned (.bool false)∧zz w w':=by
 have p:=a.at_ 0 _ rfl;have o:=a.at_ 1 _ rfl;have n:=a.at_ 2 _ rfl;have m:=a.at_ 3 _ rfl;have l:=a.at_ 4 _ rfl;have k:=a.at_ 5 _ rfl;have j:=a.at_ 6 _ rfl;have i:=a.at_ 7 _ rfl;have c:=za (yf s w.heap.size _ (ah.made w 277 (Fa.map Value.string)));rw[b]at c;have f:=a.size;clear a b;go_enter func217,ntmps217;go_wp2_with (go_at_call 99;refine c.out.mono ?_;rintro q d ⟨rfl,rfl⟩);go_ret;exact⟨rfl,below1 w _⟩
def cz(n:Int):aH:=mk 2 ⟨#[105,110,116]⟩ n 0 ⟨#[]⟩
def eL(n:Int):aH:=mk 1 fy n 0 ⟨#[]⟩
def xX(w:World)(a:fT w):Calls prog 217 #[.string ⟨#[105,110,116]⟩] w λe w'=>e= .returned (.bool false)∧zz w w':=qF _ (by decide) (by rw[zH];rfl) (by decide) w a
def wh(w:World)(a:fT w):Calls prog 217 #[.string ⟨#[98,111,111,108]⟩] w λe w'=>e= .returned (.bool false)∧zz w w':=qF _ (by decide) (by rw[zH];rfl) (by decide) w a
def fT.low{w w':World}{B:Nat}(c:fT w)(b:Below B w w')(f:14<=B):fT w':=
 ⟨λa d e=>(b.cell (p:=⟨7,a,none⟩) (show 7<B by omega)).trans (c.at_ a d e),zi c.size b.size⟩
def pR{w b:World}{g:Nat}{u:Value}{a:List Value}(f:g<w.heap.size)(e:Below ((w.setCell ⟨g,0,none⟩ u).alloc (.cells a.toArray 131)).heap.size ((w.setCell ⟨g,0,none⟩ u).alloc (.cells a.toArray 131)) b):
 ah b w.heap.size 131 a∧Below g w b:=by
 have c:(w.setCell ⟨g,0,none⟩ u).heap.size=w.heap.size:=by simp[World.setCell]
 have d:=ah.made (w.setCell ⟨g,0,none⟩ u) 131 a;rw[c]at d;refine⟨d.below e d.lt,ac (((zZ g w).setCell (zb _) u).alloc (by rw[c];omega) _) e (by show g<=((w.setCell _ u).heap.push _).size;rw[Array.size_push,c];omega)⟩
set_option maxRecDepth 200000 in
def vS(n:Int)(g:Nat)(w:World)(z:fT w)(c:ah w g 3 [.int .i64 100])(h:14<=g):Calls prog 186 #[(cz n).val,.pointer (some ⟨g,0,none⟩)] w λe w'=>e= .returned (.bool true)∧Below g w w':=by
 have x:=za (xk 2 (.inr rfl));have C:=za xX;have J:=c.cell 0;have I:=c.free 0;have f:=c.lt;have y:=za z;unfold Jd at x;unfold cz mk aH.val;clear c z;go_enter func186,ntmps186;go_wp2_with (first
  |(go_at_call 216;refine(x.out _).mono ?_;rintro B E ⟨rfl,b⟩
    go_must (obtain⟨a,i⟩:=pR f b);obtain⟨u,t,r,q,p,o,m,l,k,j,s,_⟩:=aA a;have H:=a.lt;have v:=za a;have d:=za i;clear b a i)
  |(go_at_call 217;refine(C.out _ (y.low d.out h)).mono ?_;rintro B D ⟨rfl,b⟩
    have a:=v.below b v.lt;have A:=za (ac d.out b (zi (Nat.le_of_lt f) d.size));clear u t r q p o m l k j s;obtain⟨u,t,r,q,p,o,m,l,k,j,s,_⟩:=aA a;have G:=a.lt;have F:=(y.low A.out h).at_ 2 _ rfl;clear b a))
 go_quiet (fail);go_wp2;go_rounds 1;go_ret;exact⟨rfl,ae A.out _⟩
set_option maxRecDepth 200000 in
def uT(n:Int)(I:n=0∨n=1)(g:Nat)(w:World)(C:fT w)(x:ah w g 3 [.int .i64 100])(v:14<=g):Calls prog 186 #[(eL n).val,.pointer (some ⟨g,0,none⟩)] w λe w'=>e= .returned (.bool true)∧Below g w w':=by
 have A:=za (xk 1 (.inl rfl));have B:=za wh;have K:=x.cell 0;have J:=x.free 0;have u:=x.lt;have y:=za C;unfold Jd at A;unfold eL mk aH.val fy;clear x C;rcases I with rfl|rfl
 ·go_enter func186,ntmps186;go_wp2_with (first
   |(go_at_call 216;refine(A.out _).mono ?_;rintro z E ⟨rfl,b⟩
     go_must (obtain⟨a,d⟩:=pR u b);obtain⟨r,q,o,m,l,k,j,i,h,f,p,_⟩:=aA a;have H:=a.lt;have s:=za a;have c:=za d;clear b a d)
   |(go_at_call 217;refine(B.out _ (y.low c.out v)).mono ?_;rintro z D ⟨rfl,b⟩
     have a:=s.below b s.lt;have t:=za (ac c.out b (zi (Nat.le_of_lt u) c.size));clear r q o m l k j i h f p;obtain⟨r,q,o,m,l,k,j,i,h,f,p,_⟩:=aA a;have G:=a.lt;have F:=(y.low t.out v).at_ 1 _ rfl;clear b a))
  go_quiet (fail);go_wp2;go_rounds 1;go_ret;exact⟨rfl,ae t.out _⟩
 ·go_enter func186,ntmps186;go_wp2_with (first
   |(go_at_call 216;refine(A.out _).mono ?_;rintro z E ⟨rfl,b⟩
     go_must (obtain⟨a,d⟩:=pR u b);obtain⟨r,q,o,m,l,k,j,i,h,f,p,_⟩:=aA a;have H:=a.lt;have s:=za a;have c:=za d;clear b a d)
   |(go_at_call 217;refine(B.out _ (y.low c.out v)).mono ?_;rintro z D ⟨rfl,b⟩
     have a:=s.below b s.lt;have t:=za (ac c.out b (zi (Nat.le_of_lt u) c.size));clear r q o m l k j i h f p;obtain⟨r,q,o,m,l,k,j,i,h,f,p,_⟩:=aA a;have G:=a.lt;have F:=(y.low t.out v).at_ 1 _ rfl;clear b a))
  go_quiet (fail);go_wp2;go_rounds 1;go_ret;exact⟨rfl,ae t.out _⟩
def sP{B:Nat}{w0 w:World}(d:Below B w0 w)(c:B<=w.heap.size)(a b:Obj):Below B w0 ((w.alloc a).alloc b):=(d.alloc c a).alloc (by show B<=(w.heap.push a).size;rw[Array.size_push];omega) b
set_option maxRecDepth 200000 in
def wE(d:aH)(c:∀(g:Nat) (w:World) (a:fT w) (R:ah w g 3 [.int .i64 100]) (hg:14<=g),Calls prog 186 #[d.val,.pointer (some ⟨g,0,none⟩)] w λe w'=>e= .returned (.bool true)∧Below g w w')(w:World)(a:fT w):Calls prog 153 #[d.val] w λe w'=>e= .returned (.bool true)∧zz w w':=by
 have z:=a.size;have f:=za c;have h:=za a;clear c a;obtain⟨u,k,t,A,l,m,o,n,p,s,q,r,x,y,v⟩:=d;unfold aH.val at f ⊢
 go_enter func153,ntmps153;go_wp2_with (go_at_call 186;refine(f.out (w.heap.size+1) _ (h.below (sP (zZ _ _) (zb _) _ _)) (am w _ 3 [.int .i64 100]) (by omega)).mono ?_;rintro B j ⟨rfl,b⟩;have i:=za (sP (zZ w.heap.size w) (zb _) _ _|>.trans (az b (zE _)));clear b);go_ret;exact⟨rfl,i⟩
end
section
open Go.RowKit Go.Proofs.PeepPlain
def IN(i:Nat)(a:i<3):Lib.indexByte [118,112,116] (bS i).toNat.toUInt8=(i:Int):=by
 have:i=0∨i=1∨i=2:=by omega
 rcases this with rfl|rfl|rfl<;>rfl
def JY(i:Nat)(a:i<3)(w:World):Calls prog 143 #[.string ⟨#[118,112,116]⟩,.int .u8 (bS i)] w λe w'=>e= .returned (.int .i64 i)∧w'=w:=by
 refine(mK _ _ _).mono ?_;rintro e w' ⟨rfl,rfl⟩;exact⟨by rw[<-IN i a],rfl⟩
def Np{w:World}{f:lu}{g:Nat}{s:List Int}{e c b a:Option Addr}(d:KD w f g s e c b a)(i:Nat)(h:i<3):w.cell? ⟨g,3+i,none⟩=some (.pointer (IB i c b a)):=by
 rw[d.row.cell];have:i=0∨i=1∨i=2:=by omega
 rcases this with rfl|rfl|rfl<;>rfl
def QJ{w:World}{e:lu}{g:Nat}{s:List Int}{f d c b:Option Addr}(a:KD w e g s f d c b)(i:Nat)(h:i<3):uM e (IB i d c b) (bS i::s):=by
 have:i=0∨i=1∨i=2:=by omega
 rcases this with rfl|rfl|rfl
 ·exact a.on0
 ·exact a.on1
 ·exact a.on2
def LN(c n:Int)(p:Option Addr)(w:World):(Instr.build 106 #[(0,.int .u8 c),(1,.pointer p),(2,.int .i64 n)]).run prog w= .ok (.agg #[.int .u8 c,.pointer p,.int .i64 n,.pointer none,.pointer none,.pointer none]) w:=by kernel_rfl
def gL(B:Nat)(c:lu)(g:Nat)(s:List Int)(i:Nat)(d:i<3)(w:World)(H:fM B w c)(n:c g=some s)(Q:s.length<=1000000)(G:B<=w.heap.size):
 Calls prog 113 #[.pointer (some ⟨g,0,none⟩),.int .u8 (bS i)] w λe w'=> ∃f p,e= .returned (.pointer (some ⟨f,0,none⟩))∧p f=some (bS i::s)∧fM B w' p∧fI c w p w':=by
 obtain⟨V,D,C,A,b⟩:=H.node g s n;have O:w.cell? ⟨g,2,none⟩=some (.int .i64 s.length):=b.row.cell 2;have kf:=b.row.free (3+i);have E:=Np b i d;have v:=za H;have N:=za n;have M:=za b;have q:=za (QJ b i d);have m:=JY i d;have T:=b.row.lt;have S:g≠w.heap.size:=by omega
 have R:(0:Int)<=(i:Int)∧(i:Int)<3:=by omega
 obtain⟨k,l⟩:∃k,k=IB i D C A:=⟨_,rfl⟩
 rw[<-l]at E q;have L:=za l;obtain⟨h,o⟩:∃h,h=bS i:=⟨_,rfl⟩
 rw[<-o]at m q ⊢
 have x:=za o;clear H n b l o
 cases k with
 |none=>
  go_enter func113,ntmps113;go_wp2_with (first
   |(go_at_call 143;refine(m _).mono ?_;rintro J j ⟨rfl,rfl⟩))
  have U:=LN h ((s.length:Int)+1) (some ⟨g,0,none⟩);have P:IntKind.i64.wrap ((s.length:Int)+1)=(s.length:Int)+1:=IntWalk.i64_in _ (by omega);go_region;have F:=Fl v.out N.out M.out i d L.out G h x.out _ rfl;obtain⟨u,t,I⟩:=F;have z:=za u;have y:=za t;clear u t;generalize(World.alloc _ _).drew=W at z y I ⊢
  go_wp2_with fail;go_ret;exact⟨j.heap.size,dH c j.heap.size (bS i::s),rfl,by unfold dH;rw[zn rfl,x.out],z.out,y⟩
 |some a=>
  rcases q.out with⟨e,_⟩|⟨f,e,r⟩
  ·cases e
  ·obtain rfl:=zj e;have K:=za r;clear r e;go_enter func113,ntmps113;go_wp2_with (first
    |(go_at_call 143;refine(m _).mono ?_;rintro J j ⟨rfl,rfl⟩))
   go_ret;exact⟨f,c,rfl,K.out,v.out,fI.refl _ _⟩
end
section
open Go.RowKit Go.Proofs.PeepPlain
def Gp(f:PeepPlain.Pt):Bool:=(aT f.takes).all λa=>decide (a≠0)
def Mq(f:PeepPlain.Pt):Bool:=(aT f.lays).all λa=>a==118||a==112||a==116
def KU(op:Int):Gp (aj op)=true∧Mq (aj op)=true∧(aj op).takes.size<=4∧(aj op).lays.size<=4:=by
 by_cases c:1<=op∧op<=53
 ·obtain⟨a,rfl⟩:∃a:Nat,op=a:=⟨op.toNat,by omega⟩
  have b:a<54:=by omega
  have:∀a:Fin 54,Gp (aj (a.val:Int))=true∧Mq (aj (a.val:Int))=true∧(aj (a.val:Int)).takes.size<=4∧(aj (a.val:Int)).lays.size<=4:=by decide
  exact this ⟨a,b⟩
 ·rw[uj (by omega)];decide
def jF(s:ByteArray):(aT s).length=s.size:=by simp[aT]
def je{s:ByteArray}{k:Nat}(a:k<s.size):(aT s)[k]?=some (s[k].toNat:Int):=by
 unfold aT;rw[zL,zo (by simpa using a)];rfl
def LG{l:List Int}{k:Nat}{c:Int}(a:l[k]?=some c):(l.take (k+1)).reverse=c::(l.take k).reverse:=by
 rw[List.take_add_one,a];simp
def Aj{l:List Int}{k:Nat}{c:Int}(b:l[k]?=some c):l.drop k=c::l.drop (k+1):=by
 obtain⟨a,d⟩:=zB.1 b;rw[List.drop_eq_getElem_cons a,d]
def Aq{c:Int}(a:(c==118||c==112||c==116)=true):∃i,i<3∧c=bS i:=by
 simp only[Bool.or_eq_true,beq_iff_eq]at a;rcases a with(a|a)|a
 ·exact⟨0,by omega,a⟩
 ·exact⟨1,by omega,a⟩
 ·exact⟨2,by omega,a⟩
def Qd(b:lu)(a c:Option Addr)(r:Option (List Int × List Int)):Prop:=match r with
 |none=>a=none
 |some r=>nU b a (some r.1)∧nU b c (some r.2)
def ua(B:Nat)(d:lu)(w:World)(r:Option (List Int × List Int))(e:Ending)(w':World):Prop:=∃c b a,e= .returned (.tuple #[.pointer c,.pointer b])∧fM B w' a∧fI d w a w'∧Qd a c b r
def gO{B:Nat}{d:lu}{w w':World}{r:Option (List Int × List Int)}(c b:Option Addr)(a:lu)(g:fM B w' a)(f:fI d w a w')(e:Qd a c b r):ua B d w r (.returned (.tuple #[.pointer c,.pointer b])) w':=⟨c,b,a,rfl,g,f,e⟩
def Gr(x:au)(s:List Int)(b:PeepPlain.Pt)(e:aj x.op=b):dX x s=(aw (aF x).1 (aF x).2.toNat s).bind λd=>(dK (aT b.takes).reverse d).bind λa=>(dp (aT b.lays) a).map λc=>(c,if x.op=36∨x.op=37 then 118::a else a):=by
 subst e;rfl
def jW{B k:Nat}{w:World}{a:lu}(H:fM B w a)(c:w.heap.size<=k):a k=none:=by
 cases b:a k with
 |none=>rfl
 |some t=>have:=H.lt b;omega
theorem oe{c:Int}:∀(n:Nat) (s r:List Int),aw c n s=some r->r.length<=s.length
 |0,s,r,h=>by rw[bC]at h;rw[zj h];exact zb _
 |n+1,[],r,h=>by simp[aw]at h
 |n+1,t::s,r,h=>by
  by_cases a:t=c∨(c=63∧(t=118∨t=112))
  ·rw[uD a]at h;have:=oe n s r h;simp;omega
  ·rw[wZ a]at h;cases h
theorem rY:∀(l s r:List Int),dK l s=some r->r.length<=s.length
 | [],s,r,h=>by simp only[dK]at h;rw[zj h];exact zb _
 |c::l,s,r,h=>by
  simp only[dK,Option.bind_eq_some_iff]at h;obtain⟨u,b,a⟩:=h;exact zi (rY l u r a) (oe _ _ _ b)
def DC(x:au):(aF x).1≠0:=by
 unfold aF;split
 ·simp
 ·split
  ·simp
  ·split
   ·simp
   ·split<;>simp
def vY(x:au)(b:0<=x.a∧x.a<=100000):(aF x).2<=1000000:=by
 unfold aF;split
 ·simp;omega
 ·split
  ·simp;omega
  ·split
   ·simp only;split
    ·omega
    ·split<;>omega
   ·split
    ·simp;omega
    ·simp
set_option maxRecDepth 20000 in
def sK(B:Nat)(f:lu)(g:Nat)(s:List Int)(x:au)(w:World)(H:fM B w f)(c5:f g=some s)(e7:s.length<=100000)(ef:B<=w.heap.size)(b7:0<=x.a∧x.a<=100000)(df:0<=x.b∧x.b<=3):
 Calls prog 75 #[.agg #[.int .i64 x.op,.int .i64 x.a,.int .i64 x.b,.string x.text,.int .i64 x.pos],.pointer (some ⟨g,0,none⟩)] w (ua B f w (dX x s)):=by
 obtain⟨c,bo⟩:∃c,aj x.op=c:=⟨_,rfl⟩
 have c6:=bU x.op c bo;have ck:=za (Gr x s c bo);have cv:=KU x.op;rw[bo]at cv;obtain⟨ct,c0,e6,e8⟩:=cv;have em:=za ct;have cg:=za c0;have c7:=vY x b7;have d4:=za (DC x);have b4:=λw=>yH x w b7 df;have ch:=za H;have es:=za c5;have ds:ah (w.alloc (.cells (aZ x).toArray 50)) w.heap.size 50 (aZ x):=ah.made w 50 (aZ x);have cn:=za (H.same (w':=w.alloc (.cells (aZ x).toArray 50)) λd l=>jz w _ d (by
  cases v:f d with
  |none=>exact absurd v l
  |some t=>exact H.lt v))
 have cc:=za ds;obtain⟨ab,b6⟩:∃ab,ab=(aF x).1:=⟨_,rfl⟩
 obtain⟨aa,b5⟩:∃aa,aa=(aF x).2:=⟨_,rfl⟩
 rw[<-b6,<-b5]at ck b4;rw[<-b5]at c7;rw[<-b6]at d4;clear H c5 bo ct c0 ds b6 b5 b7 df;go_enter func75,ntmps75;go_wp2_with (first
  |(go_at_call 111;refine(b4 _).mono ?_;rintro D d5 ⟨rfl,a9⟩
    have bt:=za (cc.below a9 cc.lt);have bl:=za (cn.same λd l=>a9.block d (by
     cases v:f d with
     |none=>exact absurd v l
     |some t=>exact cn.lt v))
    have ec:d5.cell? ⟨w.heap.size,0,none⟩=some (.int .i64 x.op):=bt.cell 0)
  |(go_at_call 112;refine(xD B f g s ab aa _ bl.out es.out d4.out c7).mono ?_;rintro D e1 ⟨⟨ea,rfl,cC⟩,rfl⟩
    have d2:=za cC)
  |(go_at_call 70;refine(c6 _).mono ?_;rintro D O ⟨rfl,av⟩))
 have dn:ah (O.alloc (.cells #[.string c.word,.int .i64 c.a,.int .i64 c.text,.string c.takes,.string c.lays] 100)) O.heap.size 100 (di c):=ah.made O 100 (di c);have dl:ah (O.alloc (.cells #[.string c.word,.int .i64 c.a,.int .i64 c.text,.string c.takes,.string c.lays] 100)) w.heap.size 50 (aZ x):=(bt.below av bt.lt).alloc _;have dA:fM B (O.alloc (.cells #[.string c.word,.int .i64 c.a,.int .i64 c.text,.string c.takes,.string c.lays] 100)) f:=bl.same λd l=>(jz O _ d (by
  cases v:f d with
  |none=>exact absurd v l
  |some t=>exact zv (bl.lt v) av.size)).trans (av.block d (by
  cases v:f d with
  |none=>exact absurd v l
  |some t=>exact bl.lt v))
 have dC:fI f w f (O.alloc (.cells #[.string c.word,.int .i64 c.a,.int .i64 c.text,.string c.takes,.string c.lays] 100)):=fI.ofOnly (S:=[]) ((((cP.ofBelow (below1 w _)).trans (cP.ofBelow (S:=[]) a9) (by simp)).trans (cP.ofBelow (S:=[]) av) (by simp)).alloc _) rfl (λd l=>jW ch.out l);have dB:f O.heap.size=none:=jW ch.out (by have:=(below1 w (.cells (aZ x).toArray 50)).size;have:=a9.size;have:=av.size;simp at *;omega);have P:=za dn;have cb:=za dl;have ap:=za dA;have ad:=za dC;have a2:=za dB;have en:=za (jW ch.out (zb _));clear dn dl dA dC dB av a9 cC bt bl cc cn c6 b4 ec;generalize ee:O.alloc _=W at P cb ap ad ⊢
 generalize O.heap.size=f0 at P a2 ⊢
 generalize c9:w.heap.size=b0 at cb en ef ⊢
 clear ee;have e5:W.cell? ⟨f0,1,none⟩=some (.int .i64 c.a):=P.cell 1;have e4:W.cell? ⟨f0,3,none⟩=some (.string c.takes):=P.cell 3;have e3:W.cell? ⟨f0,4,none⟩=some (.string c.lays):=P.cell 4;have d1:Hid ((aw ab aa.toNat s).bind (dK ((aT c.takes).take c.takes.size).reverse)=(aw ab aa.toNat s).bind (dK (aT c.takes).reverse)):=za (by rw[List.take_of_length_le (by rw[jF];exact zb _)]);have ff:=za c9;have ew:Hid (B<=W.heap.size):=za (zi (by omega) ad.size);clear c9;go_loop [1,9] (λd8 b3=> ∃(bp:Option Addr) (bq:Option (List Int)) (d:Nat) (u:Int),d8= .pointer bp∧b3= .int .i64 u∧ -1<=u∧u<c.takes.size∧Hid (u=(d:Int) - 1)∧Hid (nU f bp bq)∧Hid (bq.bind (dK ((aT c.takes).take d).reverse)=(aw ab aa.toNat s).bind (dK (aT c.takes).reverse))) (λ_ b3=>(intOf b3+1).toNat)
 case atStart=>exact⟨ea,_,c.takes.size,(c.takes.size:Int) - 1,rfl,rfl,by omega,by omega,rfl,d2,d1⟩
 case round=>
  clear d2 d1;obtain⟨bp,bq,d,u,rfl,rfl,fc,e9,b1,b2,bc⟩:=hrel
  cases bq with
  |none=>
   obtain rfl:bp=none:=b2.out;have p:Hid (dX x s=none):=za (by
    rw[ck.out];have:=bc.out;simp only[Option.bind_none]at this;rw[<-Option.bind_assoc,<-this];rfl)
   by_cases b9:0<=u
   ·go_wp2_with fail;go_ret2;exact gO none none f ap.out ad.out (by rw[p.out];rfl)
   ·have b8:¬0<=u:=b9;go_wp2_with fail;go_ret2;exact gO none none f ap.out ad.out (by rw[p.out];rfl)
  |some s1=>
   obtain⟨Y,rfl,c4⟩:=b2.out;have ar:=za c4;clear c4;by_cases b9:0<=u
   ·obtain⟨R,rfl⟩:∃R:Nat,u=(R:Int):=⟨u.toNat,by omega⟩
    have cT:R<c.takes.size:=by omega
    have c1:d=R+1:=by have:=b1.out;omega
    have c8:((c.takes[R].toNat:Nat):Int)≠0:=by
     have:=List.all_eq_true.1 em.out _ (zU (je cT));simpa using this
    have ev:=za c8;have ao:Hid ((aw ((c.takes[R].toNat:Nat):Int) 1 s1).bind (dK ((aT c.takes).take R).reverse)=(aw ab aa.toNat s).bind (dK (aT c.takes).reverse)):=za (by
     rw[<-bc.out,c1,LG (je cT)];rfl)
    clear bc b1 c1 c8 b2;go_wp2_with (first
     |(go_at_call 112;refine(xD B f Y s1 _ 1 _ ap.out ar.out ev.out (by omega)).mono ?_;rintro D e0 ⟨⟨d9,rfl,ed⟩,rfl⟩))
    go_round
    case rel=>exact⟨d9,_,R,(R:Int) - 1,rfl,rfl,by omega,by omega,rfl,ed,ao⟩
    case measure=>first|(simp[intOf];done)|(simp[intOf];omega)
   ·have b8:¬0<=u:=b9;have c2:d=0:=by have:=b1.out;omega
    have ca:Hid ((aw ab aa.toNat s).bind (dK (aT c.takes).reverse)=some s1):=za (by rw[<-bc.out,c2];rfl);have a3:Hid (dX x s=(dp (aT c.lays) s1).map λd6=>(d6,if x.op=36∨x.op=37 then 118::s1 else s1)):=za (by
     rw[ck.out,<-Option.bind_assoc,ca.out];rfl)
    have cs:W.cell? ⟨b0,0,none⟩=some (.int .i64 x.op):=cb.cell 0;have be:Hid (s1.length<=100000):=za (by
     obtain⟨e2,b8,ej⟩:=Option.bind_eq_some_iff.1 ca.out;have:=rY _ _ _ ej;have:=oe _ _ _ b8;omega)
    clear bc b1 c2 b2 ca;have bk:=ew;by_cases a1:x.op=36
    ·have bj:=za a1;rw[a1]at cs;clear a1;go_wp2_with (first
      |(go_at_call 113;refine(gL B f Y s1 0 (by omega) _ ap.out ar.out (by have:=be.out;omega) bk.out).mono ?_;rintro D Q ⟨ba,an,rfl,a7,a6,q⟩
        have bb:=za (show fI f w an Q from ad.trans q);have cl:Hid (B<=Q.heap.size):=za (zi bk.out q.size);have bi:=za (q.row P.out a2.out);have cd:=za (q.new _ P.lt a2.out);have ci:=za a7;have cf:=za a6;have cj:=za (q.keep _ _ ar.out);have d7:Q.cell? ⟨f0,4,none⟩=some (.string c.lays):=bi.cell 4;clear a7 a6 q))
     go_loopw [1,11,58] (λa5 cp E wr=> ∃(Z:Nat) (s':List Int) (d:Nat) (R':lu),a5= .pointer (some ⟨Z,0,none⟩)∧E= .int .i64 d∧d<=c.lays.size∧Hid (R' Z=some s')∧Hid (s'.length<=200000+d)∧Hid (fM B wr R')∧Hid (fI an Q R' wr)∧Hid (dp ((aT c.lays).drop d) s'=dp (aT c.lays) s1)) (λ_ _ E _=>c.lays.size - (intOf E).toNat)
     case atStart=>exact⟨Y,s1,0,an,rfl,rfl,zu _,cj,za (by have:=be.out;omega),cf,fI.refl _ _,rfl⟩
     case round=>
      rename World=>w8;obtain⟨o,e,d,G,rfl,rfl,l,N,K,I,i,J⟩:=hrel;have co:w8.cell? ⟨f0,4,none⟩=some (.string c.lays):=(i.row bi.out cd.out).cell 4;by_cases z:d<c.lays.size
      ·have c3:(0:Int)<=(d:Int)∧(d:Int)<(c.lays.size:Int):=by omega
       have T:=List.all_eq_true.1 cg.out _ (zU (je z));obtain⟨j,V,U⟩:=Aq T;have L:=za U;have af:Hid (dp (bS j::(aT c.lays).drop (d+1)) e=dp (aT c.lays) s1):=za (by rw[<-L.out,<-Aj (je z)];exact J);clear T U J;have X:Hid (B<=w8.heap.size):=za (zi cl.out i.size);generalize C:(30000:Int)=M;have d3:=za C;by_cases n:e.length+1>30000
       ·have p:Hid (dX x s=none):=za (by
         rw[a3.out,<-af.out];simp only[dp,zn n];rfl)
        have a8:M<(e.length:Int)+1:=by omega
        clear C;go_wp2_with (first
         |(go_at_call 113;rw[L.out];refine(gL B G o e j V _ I.out N.out (by have:=K.out;omega) X.out).mono ?_;rintro D r ⟨h,F,rfl,m,k,A⟩
           have a4:r.cell? ⟨h,2,none⟩=some (.int .i64 ((e.length:Int)+1)):=by
            obtain⟨_,_,_,_,y⟩:=k.node h _ m;have:=y.row.cell 2;simpa[dw]using this))
        go_ret2;exact gO none none F k ((bb.trans i.out).trans A) (by rw[p.out];rfl)
       ·have a8:¬M<(e.length:Int)+1:=by omega
        clear C;have ao:Hid (dp ((aT c.lays).drop (d+1)) (bS j::e)=dp (aT c.lays) s1):=za (by
         rw[<-af.out];simp only[dp,zm n])
        have d0:=za (Nat.le_of_not_gt n);clear n;go_wp2_with (first
         |(go_at_call 113;rw[L.out];refine(gL B G o e j V _ I.out N.out (by have:=K.out;omega) X.out).mono ?_;rintro D r ⟨h,F,rfl,m,k,A⟩
           have a4:r.cell? ⟨h,2,none⟩=some (.int .i64 ((e.length:Int)+1)):=by
            obtain⟨_,_,_,_,y⟩:=k.node h _ m;have:=y.row.cell 2;simpa[dw]using this))
        go_roundw
        case rel=>exact⟨h,bS j::e,d+1,F,rfl,by go_num,by omega,m,za (by have:=K.out;simp;omega),k,i.trans A,ao⟩
        case measure=>simp[intOf];omega
      ·obtain rfl:d=c.lays.size:=by omega
       have p:Hid (dX x s=some (e,118::s1)):=za (by
        have:=J.out;rw[List.drop_of_length_le (by rw[jF];exact zb _)]at this;rw[a3.out,<-this];simp[dp,bj.out])
       clear z l;go_wp2_with fail;go_ret2;exact gO (some ⟨o,0,none⟩) (some ⟨ba,0,none⟩) G I.out (bb.trans i.out) (by rw[p.out];exact⟨⟨o,rfl,N⟩,⟨ba,rfl,i.keep _ _ ci.out⟩⟩)
    by_cases a0:x.op=37
    ·have bj:=za a0;rw[a0]at cs;clear a0;go_wp2_with (first
      |(go_at_call 113;refine(gL B f Y s1 0 (by omega) _ ap.out ar.out (by have:=be.out;omega) bk.out).mono ?_;rintro D Q ⟨ba,an,rfl,a7,a6,q⟩
        have bb:=za (show fI f w an Q from ad.trans q);have cl:Hid (B<=Q.heap.size):=za (zi bk.out q.size);have bi:=za (q.row P.out a2.out);have cd:=za (q.new _ P.lt a2.out);have ci:=za a7;have cf:=za a6;have cj:=za (q.keep _ _ ar.out);have d7:Q.cell? ⟨f0,4,none⟩=some (.string c.lays):=bi.cell 4;clear a7 a6 q))
     go_loopw [1,11,58] (λa5 cp E wr=> ∃(Z:Nat) (s':List Int) (d:Nat) (R':lu),a5= .pointer (some ⟨Z,0,none⟩)∧E= .int .i64 d∧d<=c.lays.size∧Hid (R' Z=some s')∧Hid (s'.length<=200000+d)∧Hid (fM B wr R')∧Hid (fI an Q R' wr)∧Hid (dp ((aT c.lays).drop d) s'=dp (aT c.lays) s1)) (λ_ _ E _=>c.lays.size - (intOf E).toNat)
     case atStart=>exact⟨Y,s1,0,an,rfl,rfl,zu _,cj,za (by have:=be.out;omega),cf,fI.refl _ _,rfl⟩
     case round=>
      rename World=>w8;obtain⟨o,e,d,G,rfl,rfl,l,N,K,I,i,J⟩:=hrel;have co:w8.cell? ⟨f0,4,none⟩=some (.string c.lays):=(i.row bi.out cd.out).cell 4;by_cases z:d<c.lays.size
      ·have c3:(0:Int)<=(d:Int)∧(d:Int)<(c.lays.size:Int):=by omega
       have T:=List.all_eq_true.1 cg.out _ (zU (je z));obtain⟨j,V,U⟩:=Aq T;have L:=za U;have af:Hid (dp (bS j::(aT c.lays).drop (d+1)) e=dp (aT c.lays) s1):=za (by rw[<-L.out,<-Aj (je z)];exact J);clear T U J;have X:Hid (B<=w8.heap.size):=za (zi cl.out i.size);generalize C:(30000:Int)=M;have d3:=za C;by_cases n:e.length+1>30000
       ·have p:Hid (dX x s=none):=za (by
         rw[a3.out,<-af.out];simp only[dp,zn n];rfl)
        have a8:M<(e.length:Int)+1:=by omega
        clear C;go_wp2_with (first
         |(go_at_call 113;rw[L.out];refine(gL B G o e j V _ I.out N.out (by have:=K.out;omega) X.out).mono ?_;rintro D r ⟨h,F,rfl,m,k,A⟩
           have a4:r.cell? ⟨h,2,none⟩=some (.int .i64 ((e.length:Int)+1)):=by
            obtain⟨_,_,_,_,y⟩:=k.node h _ m;have:=y.row.cell 2;simpa[dw]using this))
        go_ret2;exact gO none none F k ((bb.trans i.out).trans A) (by rw[p.out];rfl)
       ·have a8:¬M<(e.length:Int)+1:=by omega
        clear C;have ao:Hid (dp ((aT c.lays).drop (d+1)) (bS j::e)=dp (aT c.lays) s1):=za (by
         rw[<-af.out];simp only[dp,zm n])
        have d0:=za (Nat.le_of_not_gt n);clear n;go_wp2_with (first
         |(go_at_call 113;rw[L.out];refine(gL B G o e j V _ I.out N.out (by have:=K.out;omega) X.out).mono ?_;rintro D r ⟨h,F,rfl,m,k,A⟩
           have a4:r.cell? ⟨h,2,none⟩=some (.int .i64 ((e.length:Int)+1)):=by
            obtain⟨_,_,_,_,y⟩:=k.node h _ m;have:=y.row.cell 2;simpa[dw]using this))
        go_roundw
        case rel=>exact⟨h,bS j::e,d+1,F,rfl,by go_num,by omega,m,za (by have:=K.out;simp;omega),k,i.trans A,ao⟩
        case measure=>simp[intOf];omega
      ·obtain rfl:d=c.lays.size:=by omega
       have p:Hid (dX x s=some (e,118::s1)):=za (by
        have:=J.out;rw[List.drop_of_length_le (by rw[jF];exact zb _)]at this;rw[a3.out,<-this];simp[dp,bj.out])
       clear z l;go_wp2_with fail;go_ret2;exact gO (some ⟨o,0,none⟩) (some ⟨ba,0,none⟩) G I.out (bb.trans i.out) (by rw[p.out];exact⟨⟨o,rfl,N⟩,⟨ba,rfl,i.keep _ _ ci.out⟩⟩)
    have fi:(x.op==(36:Int))=false:=zh.2 a1;have fh:(x.op==(37:Int))=false:=zh.2 a0;have bj:Hid (¬(x.op=36∨x.op=37)):=za (λek=>ek.elim a1 a0);clear a1 a0;go_wp2_with fail;go_loopw [1,11,58] (λa5 cp E wr=> ∃(Z:Nat) (s':List Int) (d:Nat) (R':lu),a5= .pointer (some ⟨Z,0,none⟩)∧E= .int .i64 d∧d<=c.lays.size∧Hid (R' Z=some s')∧Hid (s'.length<=200000+d)∧Hid (fM B wr R')∧Hid (fI f W R' wr)∧Hid (dp ((aT c.lays).drop d) s'=dp (aT c.lays) s1)) (λ_ _ E _=>c.lays.size - (intOf E).toNat)
    case atStart=>exact⟨Y,s1,0,f,rfl,rfl,zu _,ar,za (by have:=be.out;omega),ap,fI.refl _ _,rfl⟩
    case round=>
     rename World=>w8;obtain⟨o,e,d,G,rfl,rfl,l,N,K,I,i,J⟩:=hrel;have co:w8.cell? ⟨f0,4,none⟩=some (.string c.lays):=(i.row P.out a2.out).cell 4;by_cases z:d<c.lays.size
     ·have c3:(0:Int)<=(d:Int)∧(d:Int)<(c.lays.size:Int):=by omega
      have T:=List.all_eq_true.1 cg.out _ (zU (je z));obtain⟨j,V,U⟩:=Aq T;have L:=za U;have af:Hid (dp (bS j::(aT c.lays).drop (d+1)) e=dp (aT c.lays) s1):=za (by rw[<-L.out,<-Aj (je z)];exact J);clear T U J;have X:Hid (B<=w8.heap.size):=za (zi bk.out i.size);generalize C:(30000:Int)=M;have d3:=za C;by_cases n:e.length+1>30000
      ·have p:Hid (dX x s=none):=za (by
        rw[a3.out,<-af.out];simp only[dp,zn n];rfl)
       have a8:M<(e.length:Int)+1:=by omega
       clear C;go_wp2_with (first
        |(go_at_call 113;rw[L.out];refine(gL B G o e j V _ I.out N.out (by have:=K.out;omega) X.out).mono ?_;rintro D r ⟨h,F,rfl,m,k,A⟩
          have a4:r.cell? ⟨h,2,none⟩=some (.int .i64 ((e.length:Int)+1)):=by
           obtain⟨_,_,_,_,y⟩:=k.node h _ m;have:=y.row.cell 2;simpa[dw]using this))
       go_ret2;exact gO none none F k ((ad.trans i.out).trans A) (by rw[p.out];rfl)
      ·have a8:¬M<(e.length:Int)+1:=by omega
       clear C;have ao:Hid (dp ((aT c.lays).drop (d+1)) (bS j::e)=dp (aT c.lays) s1):=za (by
        rw[<-af.out];simp only[dp,zm n])
       have d0:=za (Nat.le_of_not_gt n);clear n;go_wp2_with (first
        |(go_at_call 113;rw[L.out];refine(gL B G o e j V _ I.out N.out (by have:=K.out;omega) X.out).mono ?_;rintro D r ⟨h,F,rfl,m,k,A⟩
          have a4:r.cell? ⟨h,2,none⟩=some (.int .i64 ((e.length:Int)+1)):=by
           obtain⟨_,_,_,_,y⟩:=k.node h _ m;have:=y.row.cell 2;simpa[dw]using this))
       go_roundw
       case rel=>exact⟨h,bS j::e,d+1,F,rfl,by go_num,by omega,m,za (by have:=K.out;simp;omega),k,i.trans A,ao⟩
       case measure=>simp[intOf];omega
     ·obtain rfl:d=c.lays.size:=by omega
      have p:Hid (dX x s=some (e,s1)):=za (by
       have:=J.out;rw[List.drop_of_length_le (by rw[jF];exact zb _)]at this;rw[a3.out,<-this];simp[dp,zm bj.out])
      clear z l;go_wp2_with fail;go_ret2;exact gO (some ⟨o,0,none⟩) (some ⟨Y,0,none⟩) G I.out (ad.trans i.out) (by rw[p.out];exact⟨⟨o,rfl,N⟩,⟨Y,rfl,i.keep _ _ ar.out⟩⟩)
end
section
open Go.RowKit Go.Proofs.PeepPlain
def Gd:∃j,prog.info? 106=some j∧j.size=6:=by
 have b:(prog.info? 106).map (·.size)=some 6:=by kernel_rfl
 cases a:prog.info? 106 with
 |none=>simp[a]at b
 |some i=>exact⟨i,rfl,by simpa[a]using b⟩
def Cr(a:Addr)(w:World):(binOp BinOp.eql 103 (.pointer (some a)) (.pointer (some a))).run prog w= .ok (.bool true) w:=by
 obtain⟨c,b,_⟩:=Gd;exact run_eql_ptr_same w a underlying103 b
def Co{a b:Nat}{w:World}{j i:List Value}{d c:TypeId}(h:a≠b)(g:ah w a d j)(f:ah w b c i):(binOp BinOp.eql 103 (.pointer (some ⟨a,0,none⟩)) (.pointer (some ⟨b,0,none⟩))).run prog w= .ok (.bool false) w:=by
 obtain⟨k,e,l⟩:=Gd;exact run_eql_ptr_other w underlying103 e (by omega) (by simpa using h) g f
def jA(l:List (Option Addr)):List Value:=l.map Value.pointer
def vv(l:List (Option Addr))(k:Nat)(a:Option Addr):jA (l.set k a)=(jA l).set k (.pointer a):=by simp[jA,List.map_set]
def rx{w:World}{a k:Nat}{l:List (Option Addr)}{o:Option Addr}(c:ah w a 103 (jA l))(b:l[k]?=some o):w.cell? ⟨a,k,none⟩=some (.pointer o):=by
 rw[c.cell];unfold jA;rw[zL,b];rfl
set_option maxRecDepth 20000 in
def Lx(h b d:Nat)(l:List (Option Addr))(n c:Nat)(f:Value)(todo:List Int)(k:Nat)(a:Addr)(w:World)(i:ah w b 103 (jA l))(J:l.length=n)(o:l[k]?=some none)(z:n<=1000000)(H:dT h w d 44 f todo)(s:b≠d)(r:b∉blk f)(L:h<=w.heap.size)(v:todo.length<=900000):
 Calls prog 76 #[.slice (some ⟨b,0,none⟩) n c,.pointer (some ⟨d,0,none⟩),.int .i64 k,.pointer (some a)] w λe w'=>e= .returned (.bool true)∧∃u,ah w' b 103 (jA (l.set k (some a)))∧dT h w' d 44 u (qg todo k)∧cP (b::d::blk f) w w'∧(∀g,u.ownBlock=some g->g∈blk f∨w.heap.size<=g):=by
 have A:=(zB.1 o).1;have aa:(0:Int)<=(k:Int)∧(k:Int)<(n:Int):=by omega
 have an:=rx i o;have ao:=za z;clear z;have ad:=i.free k;have y:ah (w.setCell ⟨b,k,none⟩ (.pointer (some a))) b 103 (jA (l.set k (some a))):=by rw[vv];exact i.set _ _
 have C:cP (b::d::blk f) w (w.setCell ⟨b,k,none⟩ (.pointer (some a))):=(cP.refl _ _).setCell (p:=⟨b,k,none⟩) (.inl (by simp)) _;have D:dT h (w.setCell ⟨b,k,none⟩ (.pointer (some a))) d 44 f todo:=⟨H.row.setFar (Ne.symm s) _,aE H.own λg q=>Below.heap_setCell _ _ _ _ (by rintro rfl;exact r (eC.2 q)),H.ne⟩
 have E:h<=(w.setCell ⟨b,k,none⟩ (.pointer (some a))).heap.size:=by simpa[World.setCell]using L
 have x:w.heap.size<=(w.setCell ⟨b,k,none⟩ (.pointer (some a))).heap.size:=by simp[World.setCell]
 have P:=za y;have M:=za v;clear v;have Q:=za C;have S:=za D;have T:=za E;have N:=za x;have R:=za A;have V:=za s;have U:=za r;clear i o J H y C D E x A s r;have Z:=Cr a;go_enter func76,ntmps76;go_wp2_with (first
  |(go_at_call 114;refine(Jg h d f todo k _ S.out T.out M.out).mono ?_;rintro ab Y ⟨rfl,G,B,j⟩
    have m:=j.only.row P.out (by
     intro K;rcases zC.1 K with e|e
     ·exact V.out e
     ·exact U.out e)
    have af:=rx m (show(l.set k (some a))[k]?=some (some a) by rw[List.getElem?_set];simp[R.out]);have O:=za m;have W:=za B;have F:=za j;clear m B j))
 go_ret;refine⟨rfl,G,O.out,W.out,Q.trans F.only (λX I=> .inl ?_),λg q=>?_⟩
 ·exact zT _ I
 ·rcases F.new g q with t|t
  ·exact .inl t
  ·exact .inr (zi N.out t)
set_option maxRecDepth 20000 in
def Ih(g j:Nat)(l:List (Option Addr))(n c:Nat)(k:Nat)(a:Addr)(w:World)(d:ah w g 103 (jA l))(h:l.length=n)(b:l[k]?=some (some a))(f:n<=1000000):
 Calls prog 76 #[.slice (some ⟨g,0,none⟩) n c,.pointer (some ⟨j,0,none⟩),.int .i64 k,.pointer (some a)] w λe w'=>e= .returned (.bool true)∧w'=w:=by
 have i:=(zB.1 b).1;have o:(0:Int)<=(k:Int)∧(k:Int)<(n:Int):=by omega
 have p:=rx d b;have q:=za f;clear f;clear d b h i;have m:=Cr a;go_enter func76,ntmps76;go_wp2_with fail;go_ret;exact⟨rfl,rfl⟩
set_option maxRecDepth 20000 in
def yO(j u:Nat)(l:List (Option Addr))(n c:Nat)(k:Nat)(a b:Nat)(w:World)(f:ah w j 103 (jA l))(p:l.length=n)(d:l[k]?=some (some ⟨b,0,none⟩))(r:b≠a)(g:n<=1000000)(t s:List Value)(o m:TypeId)(i:ah w a o t)(h:ah w b m s):
 Calls prog 76 #[.slice (some ⟨j,0,none⟩) n c,.pointer (some ⟨u,0,none⟩),.int .i64 k,.pointer (some ⟨a,0,none⟩)] w λe w'=>e= .returned (.bool false)∧w'=w:=by
 have q:=(zB.1 d).1;have x:(0:Int)<=(k:Int)∧(k:Int)<(n:Int):=by omega
 have y:=rx f d;have z:=za g;clear g;have v:=Co r h i;clear i h;clear f d p q;go_enter func76,ntmps76;go_wp2_with fail;go_ret;exact⟨rfl,rfl⟩
end
section
open Go.RowKit Go.Proofs.PeepPlain
def qL{d:Type}{E:Ao d}{l:List au}{g:List (Option d)}{b:List Bool}{todo t2:List Nat}{k:Nat}(a:Iz E l g b todo k)(c:∀j,j∈todo↔j∈t2):Iz E l g b t2 k where
 lenA:=a.lenA
 lenS:=a.lenS
 zero:=a.zero
 comes:=a.comes
 want:=λk h=>a.want k ((c k).2 h)
 done:=a.done
 left:=λk e f=>(a.left k e f).imp id (c k).1
theorem CB:∀(l s r:List Int),dp l s=some r->r.length<=s.length∨r.length<=30000
 | [],s,r,h=>by simp only[dp]at h;rw[zj h];exact .inl (zb _)
 |c::l,s,r,h=>by
  simp only[dp]at h;split at h
  ·cases h
  ·rename_i b;rcases CB l (c::s) r h with a|a
   ·simp at a;exact .inr (by omega)
   ·exact .inr a
def xJ:(aT (aj 36).takes).reverse=[118]∧(aT (aj 37).takes).reverse=[118]:=by decide
def Gu{x:au}{s:List Int}{r:List Int × List Int}(a:dX x s=some r)(q:s.length<=30000):r.1.length<=30000∧r.2.length<=30000:=by
 rw[Gr x s _ rfl]at a;simp only[Option.bind_eq_some_iff,Option.map_eq_some_iff]at a;obtain⟨d,i,m,c,l,h,rfl⟩:=a;have p:=oe _ _ _ i;have o:=rY _ _ _ c;refine⟨by rcases CB _ _ _ h with a|a<;>simp only<;>omega,?_⟩;simp only;split
 ·rename_i e;have f:(aT (aj x.op).takes).reverse=[118]:=by
   rcases e with a|a
   ·rw[a];exact xJ.1
   ·rw[a];exact xJ.2
  rw[f]at c;simp only[dK,Option.bind_eq_some_iff]at c;obtain⟨k,b,g⟩:=c;have j:=zj g
  cases d with
  |nil=>simp[aw]at b
  |cons t d=>
   rw[gR]at b;split at b
   ·have:=zj b;subst this j;simp at *
    omega
   ·cases b
 ·omega
def wL{l:List au}{k:Nat}{s:List Int}(a:PeepPlain.bN E0 l k s):s.length<=30000:=by
 induction a with
 |zero=>show([]:List Int).length<=_;simp
 |next _ _ he _ _ ih=>exact(Gu he ih).1
 |toA _ _ he _ ih=>exact(Gu he ih).2
def eY(l:List Bool):List Int:=l.map λa=>if a then 1 else 0
def rz(l:List Int):List Nat:=l.map Int.toNat
structure mU(Bo A V n:Nat)(keep:List Nat)(w:World)(R:lu)(ptrs:List (Option Addr))(given:List (Option (List Int)))(todo:List Int)(v:Value):Prop where
 at_:ah w A 103 (jA ptrs)
 len:ptrs.length=n
 glen:given.length=n
 pts:∀k,k<n->nU R (ptrs.getD k none) (given.getD k none)
 held:dT Bo w V 44 v todo
 nodes:fM Bo w R
 low:Bo<=w.heap.size
 far:∀x∈A::V::keep,R x=none
 own:∀g,v.ownBlock=some g->R g=none∧g∉A::keep
 kdis:∀x∈keep,x≠A∧x≠V∧x<w.heap.size
 av:A≠V
 pos:∀t∈todo,0<=t
 heap:nR todo todo.length
section
variable{Bo A V n:Nat}{keep:List Nat}{w w':World}{R R':lu}{ptrs:List (Option Addr)}{given:List (Option (List Int))}{todo:List Int}{v:Value}
def Em{o:Option Addr}{s:Option (List Int)}(a:nU R o s)(b:∀k s,R k=some s->R' k=some s):nU R' o s:=by
 cases s with
 |none=>exact a
 |some s=>
  obtain⟨d,e,c⟩:=a;exact⟨d,e,b _ _ c⟩
def mU.grew(a:mU Bo A V n keep w R ptrs given todo v)(c:fI R w R' w')(i:fM Bo w' R'):mU Bo A V n keep w' R' ptrs given todo v where
 at_:=c.row a.at_ (a.far A (by simp))
 len:=a.len
 glen:=a.glen
 pts:=λg h=>Em (a.pts g h) c.keep
 held:=⟨c.row a.held.row (a.far V (by simp)),aE a.held.own λf e=>c.block f (a.held.own.lt e).2 (a.own f e).1,a.held.ne⟩
 nodes:=i
 low:=zi a.low c.size
 far:=λd b=>c.new d (by
  rcases zC.1 b with rfl|b
  ·exact a.at_.lt
  ·rcases zC.1 b with rfl|b
   ·exact a.held.row.lt
   ·exact(a.kdis d b).2.2) (a.far d b)
 own:=λf e=>⟨c.new f (a.held.own.lt e).2 (a.own f e).1,(a.own f e).2⟩
 kdis:=λd b=>⟨(a.kdis d b).1,(a.kdis d b).2.1,zv (a.kdis d b).2.2 c.size⟩
 av:=a.av
 pos:=a.pos
 heap:=a.heap
def mU.more(a:mU Bo A V n keep w R ptrs given todo v){x:Nat}(e:fI R w R w')(f:fM Bo w' R)(j:w.heap.size<=x)(i:x<w'.heap.size):mU Bo A V n (x::keep) w' R ptrs given todo v where
 at_:=(a.grew e f).at_
 len:=a.len
 glen:=a.glen
 pts:=a.pts
 held:=(a.grew e f).held
 nodes:=f
 low:=zi a.low e.size
 far:=λh b=>by
  rcases zC.1 b with rfl|b
  ·exact a.far _ (by simp)
  ·rcases zC.1 b with rfl|b
   ·exact a.far _ (by simp)
   ·rcases zC.1 b with rfl|b
    ·exact jW a.nodes j
    ·exact a.far _ (by simp[b])
 own:=λg d=>⟨(a.own g d).1,λc=>by
  rcases zC.1 c with k|c
  ·exact(a.own g d).2 (by simp[k])
  ·rcases zC.1 c with rfl|c
   ·have:=(a.held.own.lt d).2;omega
   ·exact(a.own g d).2 (by simp[c])⟩
 kdis:=λh b=>by
  rcases zC.1 b with rfl|b
  ·have:=a.at_.lt
   have:=a.held.row.lt
   exact⟨by omega,by omega,i⟩
  ·have:=a.kdis h b
   exact⟨this.1,this.2.1,zv this.2.2 e.size⟩
 av:=a.av
 pos:=a.pos
 heap:=a.heap
def mU.less(a:mU Bo A V n keep w R ptrs given todo v){f:List Nat}(d:∀x∈f,x∈keep):mU Bo A V n f w R ptrs given todo v where
 at_:=a.at_
 len:=a.len
 glen:=a.glen
 pts:=a.pts
 held:=a.held
 nodes:=a.nodes
 low:=a.low
 far:=λx b=>a.far x (by
  rcases zC.1 b with rfl|b
  ·simp
  ·rcases zC.1 b with rfl|b
   ·simp
   ·simp[d x b])
 own:=λe g=>⟨(a.own e g).1,λc=>(a.own e g).2 (by
  rcases zC.1 c with rfl|c
  ·simp
  ·simp[d e c])⟩
 kdis:=λx b=>a.kdis x (d x b)
 av:=a.av
 pos:=a.pos
 heap:=a.heap
def mU.went(a:mU Bo A V n keep w R ptrs given todo v){v2:Value}{t2:List Int}{d:List (Option Addr)}{l:List (Option (List Int))}(e:ah w' A 103 (jA d))(q:d.length=n)(c:l.length=n)(o:∀k,k<n->nU R (d.getD k none) (l.getD k none))(s:dT Bo w' V 44 v2 t2)(i:cP (A::V::blk v) w w')(p:∀g,v2.ownBlock=some g->g∈blk v∨w.heap.size<=g)(m:∀t∈t2,0<=t)(r:nR t2 t2.length):mU Bo A V n keep w' R d l t2 v2 where
 at_:=e
 len:=q
 glen:=c
 pts:=o
 held:=s
 nodes:=a.nodes.same λg c=>i.block g (by
  cases e:R g with
  |none=>exact absurd e c
  |some t=>exact a.nodes.lt e) (λb=>by
  rcases zC.1 b with rfl|b
  ·exact c (a.far _ (by simp))
  ·rcases zC.1 b with rfl|b
   ·exact c (a.far _ (by simp))
   ·exact c (a.own g (eC.1 b)).1)
 low:=zi a.low i.size
 far:=a.far
 own:=λg c=>by
  rcases p g c with j|j
  ·exact a.own g (eC.1 j)
  ·refine⟨jW a.nodes j,λb=>?_⟩
   rcases zC.1 b with rfl|b
   ·have:=a.at_.lt;omega
   ·have:=(a.kdis g b).2.2;omega
 kdis:=λf h=>⟨(a.kdis f h).1,(a.kdis f h).2.1,zv (a.kdis f h).2.2 i.size⟩
 av:=a.av
 pos:=m
 heap:=r
def mU.stays(d:mU Bo A V n keep w R ptrs given todo v){x:Nat}{t:TypeId}{e:List Value}(f:ah w x t e)(b:x∈keep)(g:cP (A::V::blk v) w w'):ah w' x t e:=g.row f (λa=>by
 rcases zC.1 a with c|a
 ·exact(d.kdis x b).1 c
 ·rcases zC.1 a with c|a
  ·exact(d.kdis x b).2.1 c
  ·exact(d.own x (eC.1 a)).2 (by simp[b]))
def mU.kept(e:mU Bo A V n keep w R ptrs given todo v){x:Nat}{t:TypeId}{a:List Value}(c:ah w x t a)(b:x∈keep)(d:fI R w R' w'):ah w' x t a:=d.row c (e.far x (by simp[b]))
def Nx(Bo A V n:Nat)(keep:List Nat)(w:World)(R:lu)(ptrs:List (Option Addr))(given:List (Option (List Int)))(todo:List Int)(v:Value)(e:Ending)(w':World):Prop:=
 ∃(b:Nat) (t2:List Int) (v2:Value),e= .returned (.int .i64 b)∧mU Bo A V n keep w' R ptrs given t2 v2∧(∀a,a∈rz todo↔a=b∨a∈rz t2)∧t2.length+1=todo.length∧cP (A::V::blk v) w w'∧∀a∈rz todo,b<=a
def MJ(a:mU Bo A V n keep w R ptrs given todo v)(b:0<todo.length)(p:todo.length<=900000):Calls prog 74 #[.pointer (some ⟨V,0,none⟩)] w (Nx Bo A V n keep w R ptrs given todo v):=by
 refine(LC Bo V v todo w a.held b p).mono ?_;rintro l w' ⟨rfl,m,q,e⟩;have g:=ID b;have o:0<=(iD todo).1:=a.pos _ (g.mem_iff.2 (by simp));have j:cP (A::V::blk v) w w':=e.only.mono (λr i=>by simp at i ⊢;exact .inr i);refine⟨(iD todo).1.toNat,(iD todo).2,m,by rw[Int.toNat_of_nonneg o],?_,λd=>?_,by rw[nD];omega,j,λd k=>?_⟩
 ·refine a.went ?_ a.len a.glen a.pts q j e.new (λc f=>a.pos c (g.mem_iff.2 (by simp[f]))) (Hu a.heap b);exact e.only.row a.at_ (λh=>by
   rcases zC.1 h with l|h
   ·exact a.av l
   ·exact(a.own A (eC.1 h)).2 (by simp))
 ·have:d∈rz todo↔d∈rz ((iD todo).1::(iD todo).2):=by
   unfold rz;exact(g.map Int.toNat).mem_iff
  rw[this];simp[rz]
 ·unfold rz at k;obtain⟨c,f,rfl⟩:=List.mem_map.1 k;have:=ER a.heap b c f;omega
def Mp(Bo A V n:Nat)(keep:List Nat)(w:World)(R:lu)(given:List (Option (List Int)))(todo:List Int)(v:Value)(k:Nat)(s:List Int)(e:Ending)(w':World):Prop:=
 (e= .returned (.bool true)∧(given.getD k none=none∨given.getD k none=some s)∧∃d t2 c,mU Bo A V n keep w' R d (cr given k s) t2 c∧(∀b,b∈li given (rz todo) k↔b∈rz t2)∧t2.length=(li given (rz todo) k).length∧cP (A::V::blk v) w w')∨
 (e= .returned (.bool false)∧w'=w∧∃a,given.getD k none=some a∧a≠s)
def px(l:List Int):(rz l).length=l.length:=by simp[rz]
def getD_some{a:Type}{l:List (Option a)}{k:Nat}{o:Option a}(b:k<l.length)(e:l.getD k none=o):l[k]?=some o:=by
 rw[zo b,<-e,zd,zo b];rfl
def AU(a:mU Bo A V n keep w R ptrs given todo v){k g c:Nat}{s:List Int}(q:k<n)(l:R g=some s)(I:todo.length<=900000)(p:n<=1000000):
 Calls prog 76 #[.slice (some ⟨A,0,none⟩) n c,.pointer (some ⟨V,0,none⟩),.int .i64 k,.pointer (some ⟨g,0,none⟩)] w (Mp Bo A V n keep w R given todo v k s):=by
 have h:=a.pts k q;have i:k<ptrs.length:=by rw[a.len];exact q
 have L:A∉blk v:=λH=>(a.own A (eC.1 H)).2 (by simp)
 cases b:given.getD k none with
 |none=>
  rw[b]at h;have E:ptrs.getD k none=none:=h;refine(Lx Bo A V ptrs n c v todo k ⟨g,0,none⟩ w a.at_ a.len (getD_some i E) p a.held a.av L a.low I).mono ?_;rintro m w' ⟨rfl,z,D,K,x,F⟩;refine .inl ⟨rfl,.inl b,_,_,z,a.went D (by rw[zN];exact a.len) (by rw[gX];exact a.glen) (λd J=>?_) K x F (λB C=>?_) (Ex a.heap _),λd=>?_,?_,x⟩
  ·unfold cr;rw[zn b];rw[fu,bf];by_cases r:k=d
   ·subst r;rw[zn ⟨rfl,i⟩,zn ⟨rfl,by rw[a.glen];exact q⟩];exact⟨g,rfl,l⟩
   ·rw[zm (λe=>r e.1),zm (λe=>r e.1)];exact a.pts d J
  ·rcases zC.1 ((tz todo k).mem_iff.1 C)with rfl|e
   ·exact Int.natCast_nonneg _
   ·exact a.pos B e
  ·unfold li;rw[zn b];have:d∈rz (qg todo k)↔d∈rz ((k:Int)::todo):=by
    unfold rz;exact((tz todo k).map Int.toNat).mem_iff
   rw[this];simp[rz];exact Or.comm
  ·unfold li;rw[zn b,rk,zw,px];rfl
 |some u=>
  rw[b]at h;obtain⟨f,t,j⟩:=h;by_cases o:u=s
  ·subst o;have m:=a.nodes.inj f g u j l;subst m;refine(Ih A V ptrs n c k ⟨f,0,none⟩ w a.at_ a.len (getD_some i t) p).mono ?_;rintro m w' ⟨rfl,rfl⟩;have M:cr given k u=given:=by
    unfold cr;rw[zm (by rw[b];simp)]
   have y:li given (rz todo) k=rz todo:=by
    unfold li;rw[zm (by rw[b];simp)]
   exact .inl ⟨rfl,.inr b,ptrs,todo,v,by rw[M];exact a,λd=>by rw[y],by rw[y,px],cP.refl _ _⟩
  ·have G:f≠g:=by
    rintro rfl;rw[l]at j;exact o (zj j).symm
   obtain⟨_,_,_,_,O⟩:=a.nodes.node g s l;obtain⟨_,_,_,_,N⟩:=a.nodes.node f u j;refine(yO A V ptrs n c k g f w a.at_ a.len (getD_some i t) G p _ _ _ _ O.row N.row).mono ?_;rintro m w' ⟨rfl,rfl⟩;exact .inr ⟨rfl,rfl,u,b,o⟩
end
end
section
open Go.RowKit Go.Proofs.PeepPlain
def MX:(prog.info? 103).map (λi=>(i.zero,i.size,i.bytes))=some (some (.pointer none),1,8):=by kernel_rfl
def GY(n:Nat)(h:n<=2000000)(w:World):(Instr.makeSlice 102 (.int .i64 (n:Int)) (.int .i64 (n:Int))).run prog w= .ok (.slice (some ⟨w.heap.size,0,none⟩) n n) (w.alloc (.cells (jA (List.replicate n none)).toArray 103)):=by
 obtain⟨a,e,d,c,b⟩:=info_parts MX;have f:(a.bytes:Int) * (n:Int)<=281474976710656:=by rw[b];omega
 have:=run_make (P:=prog) w 102 103 a _ underlying102 e d .i64 .i64 n n (by omega) (by omega) f (by omega);have g:(madeCells (Value.pointer none).cells (n * 1)).toList=jA (List.replicate n none):=by
  have:=toList_madeCells_one (.pointer none) n;simp only[Nat.mul_one];show(madeCells #[.pointer none] n).toList=_;rw[this];simp[jA]
 rw[<-g,<-c];simpa using this
structure Oj(w:World)(CA:Option Addr)(l:List au)(fc:List Value)(wr:World)(R:lu)(ptrs:List (Option Addr))(given:List (Option (List Int)))(seen:List Bool)(todo:List Int)(v:Value):Prop where
 mid:mU w.heap.size (w.heap.size+1) (w.heap.size+1+1+1+1) (l.length+1) [w.heap.size,w.heap.size+1+1] wr R ptrs given todo v
 seen_:ah wr (w.heap.size+1+1) 3 (bv (eY seen))
 box:ah wr w.heap.size 47 fc
 look:sR E0 l given seen (rz todo)
 few:iG given+todo.length<=l.length+1
 below:Below w.heap.size w wr
 ins:bX wr CA l
 run:dV E0 l given seen (jJ E0 l)
def Po(w:World)(CA:Option Addr)(l:List au)(fc:List Value)(wr:World):Prop:=∃f d e c b a,Oj w CA l fc wr f d e c b a
def jR(w:World)(n:Nat)(fc:List Value):World:=
 (((((w.alloc (.cells fc.toArray 47)).alloc (.cells ((jA (List.replicate (n+1) none)).set 0 (.pointer (some ⟨w.heap.size+1+1+1+1+1,0,none⟩))).toArray 103)).alloc (.cells (bv (List.replicate n 0)).toArray 3)).alloc (.cells #[.int .i64 0] 3)).alloc (.cells #[.slice (some ⟨w.heap.size+1+1+1,0,none⟩) 1 1] 44)).alloc (.cells #[.int .u8 0,.pointer none,.int .i64 0,.pointer none,.pointer none,.pointer none] 106)
def A8(n:Nat):iG ((List.replicate (n+1) (none:Option (List Int))).set 0 (some []))=n:=by
 have:=xz (g:=List.replicate (n+1) (none:Option (List Int))) (k:=0) (s:=([]:List Int)) (by simp) (by simp[List.replicate_succ]);have a:iG (List.replicate (n+1) (none:Option (List Int)))=n+1:=by
  unfold iG;rw[List.countP_replicate];simp
 omega
def Fo(w:World)(CA:Option Addr)(l:List au)(fc:List Value)(q:WF l)(p:bX w CA l):
 Oj w CA l fc (jR w l.length fc) (λk=>if k=w.heap.size+1+1+1+1+1 then some []else none) ((List.replicate (l.length+1) none).set 0 (some ⟨w.heap.size+1+1+1+1+1,0,none⟩)) ((List.replicate (l.length+1) none).set 0 (some [])) (List.replicate l.length false) [0] (.slice (some ⟨w.heap.size+1+1+1,0,none⟩) 1 1):=by
 have m:Below w.heap.size w (jR w l.length fc):=(((((below1 w _).alloc (by simp only[World.size_alloc];omega) _).alloc (by simp only[World.size_alloc];omega) _).alloc (by simp only[World.size_alloc];omega) _).alloc (by simp only[World.size_alloc];omega) _).alloc (by simp only[World.size_alloc];omega) _;have o:bm w.heap.size (jR w l.length fc) (.slice (some ⟨w.heap.size+1+1+1,0,none⟩) 1 1) [0]:=by
  have:=yR (((w.alloc (.cells fc.toArray 47)).alloc (.cells ((jA (List.replicate (l.length+1) none)).set 0 (.pointer (some ⟨w.heap.size+1+1+1+1+1,0,none⟩))).toArray 103)).alloc (.cells (bv (List.replicate l.length 0)).toArray 3)) 0;simp only[World.size_alloc]at this;exact((this.alloc _).alloc _).low (by omega)
 refine⟨⟨?_,by simp,by simp,λk j=>?_,⟨?_,o,λd b=>?_⟩,⟨λd i a=>?_,λd a i g c=>?_,λd i a=>?_⟩,by unfold jR;simp;omega,λn f=>?_,λd b=>?_,λn f=>?_,by omega,by simp,λk g c=>by simp at c;omega⟩,?_,?_,?_,?_,m,p.below m,wI E0 l⟩
 ·have:=(((((ah.made (w.alloc (.cells fc.toArray 47)) 103 (jA ((List.replicate (l.length+1) none).set 0 (some ⟨w.heap.size+1+1+1+1+1,0,none⟩)))).alloc (.cells (bv (List.replicate l.length 0)).toArray 3)).alloc (.cells #[.int .i64 0] 3)).alloc (.cells #[.slice (some ⟨w.heap.size+1+1+1,0,none⟩) 1 1] 44)).alloc (.cells #[.int .u8 0,.pointer none,.int .i64 0,.pointer none,.pointer none,.pointer none] 106))
  rw[vv]at this;simp only[World.size_alloc]at this;rw[vv];exact this
 ·rw[bf,fu];simp only[List.length_replicate];by_cases h:0=k
  ·subst h;rw[zn ⟨rfl,by omega⟩,zn ⟨rfl,by omega⟩];exact⟨_,rfl,by simp⟩
  ·rw[zm (λa=>h a.1),zm (λa=>h a.1),zd,zd,List.getElem?_replicate,List.getElem?_replicate,zn j,zn j];rfl
 ·have:=(ah.made (((((w.alloc (.cells fc.toArray 47)).alloc (.cells ((jA (List.replicate (l.length+1) none)).set 0 (.pointer (some ⟨w.heap.size+1+1+1+1+1,0,none⟩))).toArray 103)).alloc (.cells (bv (List.replicate l.length 0)).toArray 3)).alloc (.cells #[.int .i64 0] 3))) 44 [.slice (some ⟨w.heap.size+1+1+1,0,none⟩) 1 1]).alloc (.cells #[.int .u8 0,.pointer none,.int .i64 0,.pointer none,.pointer none,.pointer none] 106);simp only[World.size_alloc]at this;exact this
 ·simp only[Value.ownBlock,Option.some.injEq]at b;omega
 ·split at a
  ·omega
  ·cases a
 ·split at g
  ·split at c
   ·omega
   ·cases c
  ·cases g
 ·split at a
  ·rename_i e;obtain rfl:=zj a;subst e;refine⟨none,none,none,none,⟨?_,rfl,.inl ⟨rfl,λk a=>?_⟩,.inl ⟨rfl,λk a=>?_⟩,.inl ⟨rfl,λk a=>?_⟩⟩⟩
   ·have:=ah.made ((((((w.alloc (.cells fc.toArray 47)).alloc (.cells ((jA (List.replicate (l.length+1) none)).set 0 (.pointer (some ⟨w.heap.size+1+1+1+1+1,0,none⟩))).toArray 103)).alloc (.cells (bv (List.replicate l.length 0)).toArray 3)).alloc (.cells #[.int .i64 0] 3))).alloc (.cells #[.slice (some ⟨w.heap.size+1+1+1,0,none⟩) 1 1] 44)) 106 [.int .u8 0,.pointer none,.int .i64 0,.pointer none,.pointer none,.pointer none];simp only[World.size_alloc]at this;exact this
   all_goals
    dsimp only at a;split at a
    ·cases a
    ·cases a
  ·cases a
 ·split
  ·rename_i e;simp at f;omega
  ·rfl
 ·simp only[Value.ownBlock,Option.some.injEq]at b;subst b;refine⟨by rw[zm (by omega)],?_⟩;simp;omega
 ·simp at f;have:(jR w l.length fc).heap.size=w.heap.size+6:=by unfold jR;simp
  omega
 ·have:=(((ah.made ((w.alloc (.cells fc.toArray 47)).alloc (.cells ((jA (List.replicate (l.length+1) none)).set 0 (.pointer (some ⟨w.heap.size+1+1+1+1+1,0,none⟩))).toArray 103)) 3 (bv (List.replicate l.length 0))).alloc (.cells #[.int .i64 0] 3)).alloc (.cells #[.slice (some ⟨w.heap.size+1+1+1,0,none⟩) 1 1] 44)).alloc (.cells #[.int .u8 0,.pointer none,.int .i64 0,.pointer none,.pointer none,.pointer none] 106);simp only[World.size_alloc]at this;have e:eY (List.replicate l.length false)=List.replicate l.length 0:=by simp[eY]
  rw[e];exact this
 ·exact((((((ah.made w 47 fc).alloc _).alloc _).alloc _).alloc _).alloc _)
 ·exact EC l q
 ·rw[A8];simp
def yD(w:World)(g:Nat):Nat:=match w.heap[g]? with
 |some (.cells cs _ _)=>cs.toList.countP λa=>match a with| .pointer none=>true|_=>false
 |_=>0
def FY(w:World)(g:Nat):Nat:=match w.heap[g]? with
 |some (.cells cs _ _)=>(match cs.toList with| [.slice _ n _]=>n|_=>0)
 |_=>0
def Dx{w:World}{g:Nat}{l:List (Option Addr)}(a:ah w g 103 (jA l)):yD w g=l.countP λx=>x.isNone:=by
 unfold ah at a;unfold yD;rw[a];simp only[jA,List.countP_map];congr 1;funext x
 cases x<;>rfl
def IP{w:World}{g n c:Nat}{b:Option Addr}(a:ah w g 44 [.slice b n c]):FY w g=n:=by
 unfold ah at a;unfold FY;rw[a]
theorem uO{e:lu}:∀ {ptrs:List (Option Addr)} {given:List (Option (List Int))},ptrs.length=given.length->(∀k,k<given.length->nU e (ptrs.getD k none) (given.getD k none))->(ptrs.countP λx=>x.isNone)=iG given
 | [],[],_,_=>rfl
 |p::ps,g::gs,hl,h=>by
  have a:=h 0 (by simp);have b:=uO (ptrs:=ps) (given:=gs) (by simpa using hl) (λk c=>by simpa using h (k+1) (by simpa using c));unfold iG at *
  simp only[List.countP_cons,b];congr 1;simp only[List.getD_cons_zero]at a
  cases g with
  |none=>
   have:p=none:=a;subst this;rfl
  |some s=>
   obtain⟨f,d,_⟩:=a;subst d;rfl
def mU.measure{i c b n:Nat}{e:List Nat}{w:World}{h:lu}{ptrs:List (Option Addr)}{given:List (Option (List Int))}{todo:List Int}{d:Value}(a:mU i c b n e w h ptrs given todo d):yD w c+FY w b=iG given+todo.length:=by
 obtain⟨k,j,rfl⟩:=a.held.shape;rw[Dx a.at_,IP a.held.row,uO (by rw[a.len,a.glen]) (λf g=>a.pts f (by rw[<-a.glen];exact g))]
end
section
open Go.RowKit Go.Proofs.PeepPlain
section
variable{Bo A V n:Nat}{keep:List Nat}{w w':World}{R R':lu}{ptrs:List (Option Addr)}{given:List (Option (List Int))}{todo:List Int}{v:Value}
def mU.wrote(a:mU Bo A V n keep w R ptrs given todo v){x:Nat}(b:cP [x] w w')(d:x∈keep):mU Bo A V n keep w' R ptrs given todo v where
 at_:=b.row a.at_ (by simpa using λh=>(a.kdis x d).1 h.symm)
 len:=a.len
 glen:=a.glen
 pts:=a.pts
 held:=⟨b.row a.held.row (by simpa using λh=>(a.kdis x d).2.1 h.symm),b.own a.held.own (λc e=>by
  have:=(a.own c e).2
  simp only[zC,not_or]at this
  simp only[List.mem_singleton]
  rintro rfl
  exact this.2 d),a.held.ne⟩
 nodes:=a.nodes.same λc e=>b.block c (by
  cases i:R c with
  |none=>exact absurd i e
  |some t=>exact a.nodes.lt i) (by
  simp only[List.mem_singleton]
  rintro rfl
  exact e (a.far c (by simp[d])))
 low:=zi a.low b.size
 far:=a.far
 own:=a.own
 kdis:=λf g=>⟨(a.kdis f g).1,(a.kdis f g).2.1,zv (a.kdis f g).2.2 b.size⟩
 av:=a.av
 pos:=a.pos
 heap:=a.heap
def mU.alloc(a:mU Bo A V n keep w R ptrs given todo v)(o:Obj):mU Bo A V n (w.heap.size::keep) (w.alloc o) R ptrs given todo v:=
 a.more (fI.ofOnly (S:=[]) ((cP.refl _ _).alloc o) rfl (λf d=>jW a.nodes d)) (a.nodes.same λc e=>jz w o c (by
   cases b:R c with
   |none=>exact absurd b e
   |some t=>exact a.nodes.lt b)) (zb _) (by simp)
end
def PX(Bo A V n:Nat)(keep:List Nat)(w:World)(R:lu)(given:List (Option (List Int)))(todo:List Int)(v:Value)(k:Nat)(s:List Int)(w':World):Prop:=
 ∃c t2 b,mU Bo A V n keep w' R c (cr given k s) t2 b∧(∀a,a∈li given (rz todo) k↔a∈rz t2)∧t2.length=(li given (rz todo) k).length∧cP (A::V::blk v) w w'
section
variable{Bo A V n:Nat}{keep:List Nat}{w w':World}{R R':lu}{ptrs:List (Option Addr)}{given:List (Option (List Int))}{todo:List Int}{v:Value}
def ri(j:mU Bo A V n keep w R ptrs given todo v){k c:Nat}{s:List Int}{o:Option Addr}(h:k<n)(b:nU R o (some s))(g:todo.length<=900000)(f:n<=1000000)(i:given.getD k none=none∨given.getD k none=some s)(x:Int)(d:x=(k:Int)):
 Calls prog 76 #[.slice (some ⟨A,0,none⟩) n c,.pointer (some ⟨V,0,none⟩),.int .i64 x,.pointer o] w λe w'=>e= .returned (.bool true)∧PX Bo A V n keep w R given todo v k s w':=by
 subst d;obtain⟨l,rfl,b⟩:=b;refine(AU j h b g f).mono ?_;rintro e w' (⟨rfl,_,p2,t2,v2,a⟩|⟨_,_,u,hu,hne⟩)
 ·exact⟨rfl,p2,t2,v2,a⟩
 ·rcases i with a|a
  ·rw[hu]at a;cases a
  ·rw[hu]at a;exact absurd (zj a) hne
def vj(l:mU Bo A V n keep w R ptrs given todo v){k c:Nat}{s u:List Int}{o:Option Addr}(j:k<n)(b:nU R o (some s))(i:todo.length<=900000)(h:n<=1000000)(d:given.getD k none=some u)(g:u≠s)(x:Int)(f:x=(k:Int)):
 Calls prog 76 #[.slice (some ⟨A,0,none⟩) n c,.pointer (some ⟨V,0,none⟩),.int .i64 x,.pointer o] w λe w'=>e= .returned (.bool false)∧w'=w:=by
 subst f;obtain⟨m,rfl,b⟩:=b;refine(AU l j b i h).mono ?_;rintro e w' (⟨rfl,a,_⟩|⟨rfl,rfl,_⟩)
 ·rcases a with a|a
  ·rw[d]at a;cases a
  ·rw[d]at a;exact absurd (zj a) g
 ·exact⟨rfl,rfl⟩
structure Carry(w:World)(fc:List Value)(seen:List Bool)(x:au)(xb:Nat)(wr:World):Prop where
 seen_:ah wr (w.heap.size+1+1) 3 (bv (eY seen))
 box:ah wr w.heap.size 47 fc
 xr:ah wr xb 50 [.int .i64 x.op,.int .i64 x.a,.int .i64 x.b,.string x.text,.int .i64 x.pos]
 below:Below w.heap.size w wr
def Carry.grew{w0 wr d:World}{fc:List Value}{e:List Bool}{x:au}{c:Nat}(C:Carry w0 fc e x c wr)(a:mU w0.heap.size A V n [c,w0.heap.size,w0.heap.size+1+1] wr R ptrs given todo v)(b:fI R wr R' d):Carry w0 fc e x c d:=
 ⟨a.kept C.seen_ (by simp) b,a.kept C.box (by simp) b,a.kept C.xr (by simp) b,C.below.trans (b.below a.low a.nodes.low)⟩
def Carry.only{w0 wr e:World}{fc:List Value}{f:List Bool}{x:au}{d:Nat}(C:Carry w0 fc f x d wr)(b:mU w0.heap.size A V n [d,w0.heap.size,w0.heap.size+1+1] wr R ptrs given todo v)(h:w0.heap.size<=A)(g:w0.heap.size<=V)(c:cP (A::V::blk v) wr e):Carry w0 fc f x d e:=
 ⟨b.stays C.seen_ (by simp) c,b.stays C.box (by simp) c,b.stays C.xr (by simp) c,C.below.trans (c.below (λi a=>by
   rcases zC.1 a with rfl|a
   ·exact h
   ·rcases zC.1 a with rfl|a
    ·exact g
    ·exact(b.held.own.lt (eC.1 a)).1) b.low)⟩
def Carry.below1{w0 wr:World}{fc:List Value}{d:List Bool}{x:au}{b:Nat}(C:Carry w0 fc d x b wr){c:World}(a:zz wr c)(e:w0.heap.size<=wr.heap.size):Carry w0 fc d x b c:=
 ⟨C.seen_.below a C.seen_.lt,C.box.below a C.box.lt,C.xr.below a C.xr.lt,C.below.trans (az a e)⟩
def mU.below(a:mU Bo A V n keep w R ptrs given todo v)(c:zz w w'):mU Bo A V n keep w' R ptrs given todo v:=
 a.grew (fI.ofOnly (S:=[]) (cP.ofBelow c) rfl (λg e=>jW a.nodes e)) (a.nodes.same λd f=>c.block d (by
   cases b:R d with
   |none=>exact absurd b f
   |some t=>exact a.nodes.lt b))
end
def yu{l:List au}{k:Nat}{s:List Int}(d:k<l.length)(f:PeepPlain.bN E0 l k s)(e:dX (l.getD k default) s=none):¬PeepPlain.vA E0 l:=λg=>by
 obtain⟨b,c⟩:=g.goes k s d f;have a:dX (l.getD k default) s=some b:=c;rw[e]at a
 cases a
def mx{l:List au}{k:Nat}{s u:List Int}(c:PeepPlain.bN E0 l k s)(b:PeepPlain.bN E0 l k u)(a:u≠s):¬PeepPlain.vA E0 l:=λd=>a (d.one k u s b c)
def lS{l:List au}{g:List (Option (List Int))}{k:Nat}{s:List Int}{t t2:List Int}(a:k<g.length)(b:t2.length=(li g (rz t) k).length):iG (cr g k s)+t2.length=iG g+t.length:=by
 have:=Jo (s:=s) (todo:=rz t) a;rw[b,this,px]
def nu{g:List (Option (List Int))}{k:Nat}(s:List Int):(g.getD k none=none∨g.getD k none=some s)∨∃u,g.getD k none=some u∧u≠s:=by
 cases b:g.getD k none with
 |none=>exact .inl (.inl rfl)
 |some u=>
  by_cases a:u=s
  ·subst a;exact .inl (.inr rfl)
  ·exact .inr ⟨u,rfl,a⟩
def Iv(l:List Bool)(k:Nat):eY (l.set k true)=(eY l).set k 1:=by simp[eY,List.map_set]
set_option maxRecDepth 20000 in
def sb(cs:ByteArray)(cp co c7:Int)(df CA:Option Addr)(ck cl a7:Nat)(l:List au)(w:World)(e2:WF l)(cT:bX w CA l)(f2:l.length<=100000)(fn:∀k,k<l.length->(0<=(l.getD k default).a∧(l.getD k default).a<=100000)∧0<=(l.getD k default).b∧(l.getD k default).b<=3):
 Calls prog 41 #[.agg #[.string cs,.int .i64 cp,.int .i64 co,.slice df ck cl,.int .i64 c7,.slice CA l.length a7]] w λe w'=>(∃r:Int,e= .returned (.int .i64 r)∧((r= -1↔PeepPlain.vA E0 l)∧r=jJ E0 l)∧ -1<=r∧r<=1000000)∧zz w w':=by
 have gF:wrap64 ((l.length:Int)+1)=(l.length:Int)+1:=by
  unfold wrap64;omega
 have g0:∀w,(Instr.makeSlice 102 (.int .i64 ((l.length:Int)+1)) (.int .i64 ((l.length:Int)+1))).run prog w= .ok (.slice (some ⟨w.heap.size,0,none⟩) (l.length+1) (l.length+1)) (w.alloc (.cells (jA (List.replicate (l.length+1) none)).toArray 103)):=λw=>GY (l.length+1) (by omega) w;have g1:=λw=>rN l.length (by omega) w;obtain⟨b,C,rfl,b3,f4⟩:=cT.at_ e2.pos;have gt:=za f4;clear f4;have bi:=za cT;have ba:=za e2;have hC:=za cT.old;have dA:=za fn;have s:=za f2;clear cT e2 fn f2;go_enter func41,ntmps41;go_wp2_with fail;go_step3;go_wp2_with fail;go_step3;go_wp2_with fail;go_loopw [2,6,7,8,9] (λhr hq hp ho hn wr=>Hid (Po w (some ⟨b,C,none⟩) l [.string cs,.int .i64 cp,.int .i64 co,.slice df ck cl,.int .i64 c7,.slice (some ⟨b,C,none⟩) l.length a7] wr)) (λ_ _ _ _ _ wr=>yD wr (w.heap.size+1)+FY wr (w.heap.size+1+1+1+1))
 case atStart=>exact za ⟨_,_,_,_,_,_,Fo w (some ⟨b,C,none⟩) l [.string cs,.int .i64 cp,.int .i64 co,.slice df ck cl,.int .i64 c7,.slice (some ⟨b,C,none⟩) l.length a7] ba.out bi.out⟩
 case round=>
  clear g0 g1 gF;rename World=>w2;obtain⟨R,ptrs,given,u,todo,v,a5⟩:=hrel.out;have h:=za a5;have b9:=za a5.mid.measure;obtain⟨he,gz,rfl⟩:=a5.mid.held.shape;have ha:w2.cell? ⟨w.heap.size+1+1+1+1,0,none⟩=some (.slice he todo.length gz):=a5.mid.held.cellR;have hd:w2.cell? ⟨w.heap.size,5,none⟩=some (.slice (some ⟨b,C,none⟩) l.length a7):=a5.box.cell 5;have f3:Hid (todo.length<=200000):=za (by have:=a5.few;have:=s.out;omega);clear a5 hrel;by_cases ga:0<todo.length
  ·have hm:=za ga;go_upto_region 7 with(first
    |(go_at_call 74;refine(MJ h.mid hm.out (by have:=f3.out;omega)).mono ?_;rintro x f ⟨k,t2,fi,rfl,gc,ft,f0,fo,fs⟩
      have e4:=za gc;have b8:=za ft;have e8:=za f0;have dB:=za fo;have hh:=za fs;clear gc ft f0 fo fs))
   have o:k<l.length:=(h.look.want k ((b8.out k).2 (.inl rfl))).1;have b0:k<u.length:=by rw[h.look.lenS];exact o
   have g3:(0:Int)<=(k:Int)∧(k:Int)<(l.length:Int):=by omega
   have bb:Hid (ah f (w.heap.size+1+1) 3 (bv (eY u))):=za (h.mid.stays h.seen_ (by simp) dB.out);have d1:=za (h.mid.stays h.box (by simp) dB.out);have O:Hid (zz w f):=za (h.below.trans (dB.below (λc P=>by
    rcases zC.1 P with rfl|P
    ·omega
    ·rcases zC.1 P with rfl|P
     ·omega
     ·exact(h.mid.held.own.lt (eC.1 P)).1) h.mid.low))
   have gq:Hid (bX f (some ⟨b,C,none⟩) l):=za (bi.below O.out);have c6:=yB bb.out (show k<(eY u).length by simp[eY];exact b0);have en:(eY u)[k]'(by simp[eY];exact b0)=if u.getD k false then 1 else 0:=by
    simp only[eY,List.getElem_map];rw[zd,zo b0];rfl
   rw[en]at c6;by_cases a6:u.getD k false=true
   ·rw[zn a6]at c6;have hj:=za (Ij h.look b8.out a6);clear en a6 b0;go_wp2_with fail;go_roundw
    case rel=>exact za ⟨R,ptrs,given,u,t2,fi,⟨e4.out,bb.out,d1.out,hj.out,by have:=h.few;have:=e8.out;omega,O.out,gq.out,h.run⟩⟩
    case measure=>
     rw[b9.out,e4.measure];have:=e8.out;omega
   ·rw[zm a6]at c6;have hg:Hid (u.getD k false=false):=za (by simpa using a6);have hb:=bb.free k;obtain⟨c,P⟩:∃c,c=l[k]:=⟨_,rfl⟩
    obtain⟨e1,e0,ew,ev,es⟩:=gt.out k o;rw[<-P]at e1 e0 ew ev es;have e5:=za P;have hc:f.cell? ⟨w.heap.size,5,none⟩=some (.slice (some ⟨b,C,none⟩) l.length a7):=d1.cell 5;have ed:=O.size;have g2:=bb.lt;have g4:b≠w.heap.size+1+1:=by omega
    have g9:=(O.cell (p:=⟨b,C+k * 5,none⟩) b3).trans e1;have g8:=(O.cell (p:=⟨b,C+k * 5+1,none⟩) b3).trans e0;have g7:=(O.cell (p:=⟨b,C+k * 5+2,none⟩) b3).trans ew;have g6:=(O.cell (p:=⟨b,C+k * 5+3,none⟩) b3).trans ev;have g5:=(O.cell (p:=⟨b,C+k * 5+4,none⟩) b3).trans es;clear en a6 b0 P e1 e0 ew ev es;go_upto_region 10 with fail;have ea:(f.setCell ⟨w.heap.size+1+1,k,none⟩ (.int .i64 1)).heap.size=f.heap.size:=by simp[World.setCell]
    have q:=(e4.wrote (x:=w.heap.size+1+1) ((cP.refl [w.heap.size+1+1] f).setCell (p:=⟨w.heap.size+1+1,k,none⟩) (.inl (by simp)) (.int .i64 1)) (by simp)).alloc (.cells #[.int .i64 c.op,.int .i64 c.a,.int .i64 c.b,.string c.text,.int .i64 c.pos] 50);have a8:=(bb.out.set k (.int .i64 1)).alloc (.cells #[.int .i64 c.op,.int .i64 c.a,.int .i64 c.b,.string c.text,.int .i64 c.pos] 50);rw[<-gV,<-Iv]at a8;have ch:=(d1.setFar (p:=⟨w.heap.size+1+1,k,none⟩) (by show w.heap.size≠w.heap.size+1+1;omega) (.int .i64 1)).alloc (.cells #[.int .i64 c.op,.int .i64 c.a,.int .i64 c.b,.string c.text,.int .i64 c.pos] 50);have aa:=ah.made (f.setCell ⟨w.heap.size+1+1,k,none⟩ (.int .i64 1)) 50 [.int .i64 c.op,.int .i64 c.a,.int .i64 c.b,.string c.text,.int .i64 c.pos];have cg:=(O.setCell (p:=⟨w.heap.size+1+1,k,none⟩) (by show w.heap.size<=w.heap.size+1+1;omega) (.int .i64 1)).alloc (by rw[ea];exact ed) (.cells #[.int .i64 c.op,.int .i64 c.a,.int .i64 c.b,.string c.text,.int .i64 c.pos] 50);obtain⟨B,bo⟩:=(h.look.want k ((b8.out k).2 (.inl rfl))).2;have fk:=q.pts k (by omega);rw[bo]at fk;obtain⟨av,ec,ej⟩:=fk;have ef:=h.look.comes k B bo;have ct:l.getD k default=c:=by rw[e5.out];exact iz o
    have cC:=rx q.at_ (getD_some (by rw[q.len];omega) ec);have fx:=sK w.heap.size R av B c _ q.nodes ej (by have:=wL ef;omega) q.low (by have:=(dA.out k o).1;rw[ct]at this;exact this) (by have:=(dA.out k o).2;rw[ct]at this;exact this);have a4:=JC h.look b8.out;rw[ea]at q aa;replace a4:=za a4;replace q:=za q;replace a8:=za a8;replace ch:=za ch;have c8:=za aa;replace cg:=za cg;have dl:=za bo;have an:=za (NQ h.look ((b8.out k).2 (.inl rfl)) hh.out bo hg.out);have af:=za h.run;have gh:=za ej;have cf:=za ef;have a9:=za ct;have c5:=aa.cell 0;have c4:=aa.cell 1;have c3:=aa.cell 2;have c2:=aa.cell 3;have c1:=aa.cell 4;simp only[List.getElem?_cons_zero,List.getElem?_cons_succ]at c5 c4 c3 c2 c1;have hy:(0:Int)<=(k:Int)∧(k:Int)<((l.length+1:Nat):Int):=by omega
    have hv:Hid (w.heap.size<=f.heap.size):=za ed;have gl:=za ec;clear bo ec ej ef ct aa g9 g8 g7 g6 g5 hc c6 hb ed g2 g4 ea ha hd;have gT:=cC;clear gT;obtain⟨c9,f9⟩:∃c9,c9=(f.setCell ⟨w.heap.size+1+1,k,none⟩ (.int .i64 1)).alloc (.cells #[.int .i64 c.op,.int .i64 c.a,.int .i64 c.b,.string c.text,.int .i64 c.pos] 50):=⟨_,rfl⟩
    rw[<-f9]at fx q a8 ch c8 cg c5 c4 c3 c2 c1 cC ⊢
    clear f9;have gx:=za (show ptrs[k]?=some (some ⟨av,0,none⟩)from getD_some (by rw[q.len];omega) gl.out);have e6:=za (show B.length<=100000∧(0<=c.a∧c.a<=100000)∧0<=c.b∧c.b<=3 from⟨by have:=wL cf.out;omega,by have:=(dA.out k o).1;rw[a9.out]at this;exact this,by have:=(dA.out k o).2;rw[a9.out]at this;exact this⟩);clear fx;have g3:(0:Int)<=(k:Int)∧(k:Int)<(l.length:Int)+1:=by omega
    have hx:(k:Int)<=(l.length:Int):=by omega
    go_region_held3 (λw'=>w'.cell? ⟨f.heap.size,0,none⟩=some (.int .i64 c.op)∧w'.cell? ⟨f.heap.size,1,none⟩=some (.int .i64 c.a)∧w'.cell? ⟨f.heap.size,2,none⟩=some (.int .i64 c.b)∧w'.cell? ⟨f.heap.size,3,none⟩=some (.string c.text)∧w'.cell? ⟨f.heap.size,4,none⟩=some (.int .i64 c.pos)∧w'.cell? ⟨w.heap.size+1,k,none⟩=some (.pointer (some ⟨av,0,none⟩)))
     (first|exact⟨c5,c4,c3,c2,c1,cC⟩|exact⟨b5,b4,c0,em,ek,gb⟩|go_keep)
     (first|(go_at_call 75;refine(sK w.heap.size R av B c _ (q.nodes.same (w':=c9.drew) (λ_ _=>rfl)) gh.out e6.1 q.low e6.2.1 e6.2.2).mono ?_;rintro x d4 ⟨gC,hs,b6,rfl,fr,Z,f1⟩;have cv:fI R c9 b6 d4:=⟨Z.os,Z.tape,Z.output,Z.size,Z.block,Z.keep,Z.new⟩;have a0:=q.kept c8.out (by simp) cv;have b5:=a0.cell 0;have b4:=a0.cell 1;have c0:=a0.cell 2;have em:=a0.cell 3;have ek:=a0.cell 4;simp only[List.getElem?_cons_zero,List.getElem?_cons_succ]at b5 b4 c0 em ek;have e3:=q.grew cv fr;have gb:=rx e3.at_ gx.out;have gs:=za cv;have i:=za e3;have hf:=za a0;have be:=za f1;clear Z cv a0 e3 fr f1))
    have S:Hid (Carry w [.string cs,.int .i64 cp,.int .i64 co,.slice df ck cl,.int .i64 c7,.slice (some ⟨b,C,none⟩) l.length a7] (u.set k true) c f.heap.size d4):=za (Carry.grew ⟨a8.out,ch.out,c8.out,cg⟩ q.out gs.out);have t:Hid (iG given+t2.length+1<=l.length+1∧iG given+t2.length<iG given+todo.length∧t2.length<=200000):=za (by have:=h.few;have:=e8.out;have:=f3.out;omega);have hw:k<l.length:=o;have m:Hid (PeepPlain.aq l k=c.op):=za (by show(l.getD k default).op=_;rw[a9.out]);clear c5 c4 c3 c2 c1 cC em ek gb q a8 ch c8 cg gx gl gh d1 bb dB gq O hf gs gt
    cases ar:dX c B with
    |none=>
     rw[ar]at be;obtain rfl:gC=none:=be.out;have a2:=za (yu o cf.out (by rw[a9.out];exact ar));have fc:Hid ((k:Int)=jJ E0 l):=za (Eq.symm (y7 af.out an.out (show E0.eff (l.getD k default) B=none by rw[a9.out];exact ar)));clear ar be b5 b4 c0;go_wp2_with fail;unfold Exit.noGoto;dsimp only;go_ret;exact⟨⟨k,rfl,⟨⟨λd=>by omega,λd=>absurd d a2.out⟩,fc⟩,by omega,by have:=s.out;omega⟩,S.below⟩
    |some r=>
     rw[ar]at be;obtain⟨fm,fl⟩:=be.out;have ds:=za fm;have dn:=za fl;obtain⟨hz,rfl,_⟩:=fm;have z:Hid (E0.eff (l.getD k default) B=some r):=za (by rw[a9.out];exact ar);clear ar be fl b4 c0;have b4:d4.cell? ⟨f.heap.size,1,none⟩=some (.int .i64 c.a):=S.xr.cell 1;by_cases Q:c.op=50
     ·have a1:=za Q;have a3:Hid (sR E0 l given (u.set k true) (rz t2)):=za (oA a4.out dl.out z.out (λ_ d=>absurd (m.trans a1.out) d) (λd=>by rw[m.out,a1.out]at d;exact absurd d (by decide)));have ee:decide (al 50)=false:=by decide
      rw[Q]at b5;clear Q;go_wp2_with (first
       |(go_at_call 73;refine(iT _ _).mono ?_;rintro x L ⟨rfl,g⟩
         have j:=za (S.below1 g i.low);have y:=za (i.below g);clear g))
      go_roundw
      case rel=>exact za ⟨b6,ptrs,given,u.set k true,t2,fi,⟨y.less (by simp),j.seen_,j.box,a3.out,by have:=t.out;omega,j.below,bi.below j.below,KT af.out an.out z.out (m.trans a1.out)⟩⟩
      case measure=>
       rw[b9.out,y.measure];exact t.2.1
     by_cases M:c.op=34
     ·have a1:=za M;have I:al (PeepPlain.aq l k):=by rw[m.out,M];exact dz
      have E:=za (ba.high k o I);have bl:c.a=(bE l k:Int):=by have:=mT o (ba.low k o I);rw[<-e5.out]at this;exact this
      have D:=za bl;have cd:Hid (PeepPlain.bN E0 l (bE l k) r.2):=za (.toA cf.out o z.out I);have ee:decide (al 34)=true:=by decide
      rw[M]at b5;clear M I bl;rcases nu (g:=given) (k:=bE l k) r.2 with J|⟨fj,G,H⟩
      ·have F:=za J;have ca:=za (rF a4.out E.out cd.out);have d0:Hid ((cr given (bE l k) r.2).getD (bE l k) none=some r.2):=za (nP (by rw[i.glen];have:=E.out;omega) J);clear J;go_wp2_with (first
        |(go_at_call 73;refine(iT _ _).mono ?_;rintro x L ⟨rfl,g⟩
          have j:=za (S.below1 g i.low);have y:=za (i.below g);have ci:L.cell? ⟨f.heap.size,1,none⟩=some (.int .i64 c.a):=j.xr.cell 1;clear g)
        |(go_at_call 76;refine(ri y.out (k:=bE l k) (by have:=E.out;omega) dn.out (by have:=t.out;omega) (by have:=s.out;omega) F.out _ D.out).mono ?_;rintro x cj ⟨rfl,d8,cn,d5,bk,bq,bt,bp⟩
          have T:=za (j.only y.out (by omega) (by omega) bp);have b7:=za bk;have e7:=za bq;have e9:=za bt;clear bk bq bt bp))
       have a3:Hid (sR E0 l (cr given (bE l k) r.2) (u.set k true) (rz cn)):=za (oA (qL ca.out e7.out) (dM dl.out) z.out (λd=>absurd (m.trans a1.out) d) (λ_=>d0.out));have cb:=za (lS (l:=l) (s:=r.2) (by rw[i.glen];have:=E.out;omega) e9.out);go_roundw
       case rel=>exact za ⟨b6,d8,_,u.set k true,cn,d5,⟨b7.less (by simp),T.seen_,T.box,a3.out,by have:=t.out;have:=cb.out;omega,T.below,bi.below T.below,Lw af.out an.out z.out (m.trans a1.out) F.out⟩⟩
       case measure=>
        rw[b9.out,b7.measure];have:=t.out;have:=cb.out;omega
      ·have ad:=za G;have ao:=za H;have a2:=za (mx cd.out (a4.comes _ _ G) H);clear G H;go_wp2_with (first
        |(go_at_call 73;refine(iT _ _).mono ?_;rintro x L ⟨rfl,g⟩
          have j:=za (S.below1 g i.low);have y:=za (i.below g);have ci:L.cell? ⟨f.heap.size,1,none⟩=some (.int .i64 c.a):=j.xr.cell 1;clear g)
        |(go_at_call 76;refine(vj y.out (k:=bE l k) (by have:=E.out;omega) dn.out (by have:=t.out;omega) (by have:=s.out;omega) ad.out ao.out _ D.out).mono ?_;rintro x cj ⟨rfl,rfl⟩))
       unfold Exit.noGoto;dsimp only;go_ret;exact⟨⟨c.a,rfl,⟨⟨λd=>by have:=D.out;omega,λd=>absurd d a2.out⟩,D.trans (vn af.out an.out z.out (m.trans a1.out) ad.out ao.out).symm⟩,by have:=D.out;omega,by have:=D.out;have:=s.out;have:=E.out;omega⟩,j.below⟩
     have N:Hid (k+1<l.length):=za (by
      rcases Nat.lt_or_ge (k+1) l.length with d|d
      ·exact d
      ·have e:l.length - 1=k:=by omega
       have:=ba.last;rw[e,m.out]at this;rcases this with d|d
       ·exact absurd d Q
       ·exact absurd d M)
     have f5:PeepPlain.bN E0 l (k+1) r.1:= .next cf.out o z.out (by rw[m.out];exact M) (by rw[m.out];exact Q);have gv:=za f5;have K:Hid (wrap64 ((k:Int)+1)=(k:Int)+1):=za (by unfold wrap64;have:=s.out;omega);have hB:(c.op==(34:Int))=false:=zh.2 M;have hu:(c.op !=(34:Int))=true:=zO.2 M;have hA:(c.op==(50:Int))=false:=zh.2 Q;have ht:(c.op !=(50:Int))=true:=zO.2 Q;have d3:=za M;have d2:=za Q;clear f5 M Q;rcases nu (g:=given) (k:=k+1) r.1 with J|⟨fj,G,H⟩
     ·have F:=za J;have ff:=za F.out;have ca:=za (rF a4.out N.out gv.out);have d0:Hid ((cr given (k+1) r.1).getD (k+1) none=some r.1):=za (nP (by rw[i.glen];have:=N.out;omega) J);clear J;by_cases I:al c.op
      ·have ee:decide (al c.op)=true:=ze I;have b1:al (PeepPlain.aq l k):=by rw[m.out];exact I
       have E:=za (ba.high k o b1);have bl:c.a=(bE l k:Int):=by have:=mT o (ba.low k o b1);rw[<-e5.out]at this;exact this
       have D:=za bl;have cd:Hid (PeepPlain.bN E0 l (bE l k) r.2):=za (.toA cf.out o z.out b1);have gm:=za b1;clear I b1 bl;rcases nu (g:=cr given (k+1) r.1) (k:=bE l k) r.2 with J|⟨fj,G,H⟩
       ·have gr:=za J;have hi:Hid ((cr (cr given (k+1) r.1) (bE l k) r.2).getD (bE l k) none=some r.2):=za (nP (by rw[gX,i.glen];have:=E.out;omega) J);clear J;go_wp2_with (first
         |(have b2:=F.out;go_at_call 76;refine(ri i.out (k:=k+1) (by have:=N.out;omega) ds.out (by have:=t.out;omega) (by have:=s.out;omega) F.out _ (by first|omega|exact K.trans (by omega)|(have:=K.out;omega))).mono ?_;rintro x bj ⟨rfl,d9,d7,d6,U,X,Y,W⟩
           have ap:=za (S.only i.out (by omega) (by omega) W);have ab:=za U;have dC:=za X;have bc:=za Y;have fh:bj.cell? ⟨f.heap.size,0,none⟩=some (.int .i64 c.op):=ap.xr.cell 0;clear U X Y W F b2)
         |(go_at_call 73;refine(iT _ _).mono ?_;rintro x L ⟨rfl,g⟩
           have j:=za (ap.below1 g ab.low);have y:=za (ab.below g);have ci:L.cell? ⟨f.heap.size,1,none⟩=some (.int .i64 c.a):=j.xr.cell 1;clear g)
         |(go_at_call 76;refine(ri y.out (k:=bE l k) (by have:=E.out;omega) dn.out (by have:=s.out;have:=t.out;have:=(lS (l:=l) (s:=r.1) (by rw[i.glen];have:=N.out;omega) bc.out);omega) (by have:=s.out;omega) gr.out _ D.out).mono ?_;rintro x cj ⟨rfl,d8,cn,d5,bk,bq,bt,bp⟩
           have T:=za (j.only y.out (by omega) (by omega) bp);have b7:=za bk;have e7:=za bq;have e9:=za bt;clear bk bq bt bp))
        have cc:=za (lS (l:=l) (s:=r.1) (by rw[i.glen];have:=N.out;omega) bc.out);have cb:=za (lS (l:=l) (s:=r.2) (by rw[gX,i.glen];have:=E.out;omega) e9.out);have a3:=za (oA (qL (rF (qL ca.out dC.out) E.out cd.out) e7.out) (dM (dM dl.out)) z.out (λ_ _=>dM d0.out) (λ_=>hi.out));go_roundw
        case rel=>exact za ⟨b6,d8,_,u.set k true,cn,d5,⟨b7.less (by simp),T.seen_,T.box,a3.out,by have:=t.out;have:=cc.out;have:=cb.out;omega,T.below,bi.below T.below,AW af.out an.out z.out (by rw[m.out];exact d2) (by rw[m.out];exact d3) ff.out gm.out gr.out⟩⟩
        case measure=>
         rw[b9.out,b7.measure];have:=t.out;have:=cc.out;have:=cb.out;omega
       ·have ad:=za G;have ao:=za H;have a2:=za (mx cd.out (ca.comes _ _ G) H);clear G H;go_wp2_with (first
         |(have b2:=F.out;go_at_call 76;refine(ri i.out (k:=k+1) (by have:=N.out;omega) ds.out (by have:=t.out;omega) (by have:=s.out;omega) F.out _ (by first|omega|exact K.trans (by omega)|(have:=K.out;omega))).mono ?_;rintro x bj ⟨rfl,d9,d7,d6,U,X,Y,W⟩
           have ap:=za (S.only i.out (by omega) (by omega) W);have ab:=za U;have dC:=za X;have bc:=za Y;have fh:bj.cell? ⟨f.heap.size,0,none⟩=some (.int .i64 c.op):=ap.xr.cell 0;clear U X Y W F b2)
         |(go_at_call 73;refine(iT _ _).mono ?_;rintro x L ⟨rfl,g⟩
           have j:=za (ap.below1 g ab.low);have y:=za (ab.below g);have ci:L.cell? ⟨f.heap.size,1,none⟩=some (.int .i64 c.a):=j.xr.cell 1;clear g)
         |(go_at_call 76;refine(vj y.out (k:=bE l k) (by have:=E.out;omega) dn.out (by have:=s.out;have:=t.out;have:=(lS (l:=l) (s:=r.1) (by rw[i.glen];have:=N.out;omega) bc.out);omega) (by have:=s.out;omega) ad.out ao.out _ D.out).mono ?_;rintro x cj ⟨rfl,rfl⟩))
        unfold Exit.noGoto;dsimp only;go_ret;exact⟨⟨c.a,rfl,⟨⟨λd=>by have:=D.out;omega,λd=>absurd d a2.out⟩,D.trans (qe af.out an.out z.out (by rw[m.out];exact d2) (by rw[m.out];exact d3) ff.out gm.out ad.out ao.out).symm⟩,by have:=D.out;omega,by have:=D.out;have:=s.out;have:=E.out;omega⟩,j.below⟩
      ·have ee:decide (al c.op)=false:=zg I;have go:Hid (¬al (PeepPlain.aq l k)):=za (by rw[m.out];exact I);clear I;go_wp2_with (first
        |(have b2:=F.out;go_at_call 76;refine(ri i.out (k:=k+1) (by have:=N.out;omega) ds.out (by have:=t.out;omega) (by have:=s.out;omega) F.out _ (by first|omega|exact K.trans (by omega)|(have:=K.out;omega))).mono ?_;rintro x bj ⟨rfl,d9,d7,d6,U,X,Y,W⟩
          have ap:=za (S.only i.out (by omega) (by omega) W);have ab:=za U;have dC:=za X;have bc:=za Y;have fh:bj.cell? ⟨f.heap.size,0,none⟩=some (.int .i64 c.op):=ap.xr.cell 0;clear U X Y W F b2)
        |(go_at_call 73;refine(iT _ _).mono ?_;rintro x L ⟨rfl,g⟩
          have j:=za (ap.below1 g ab.low);have y:=za (ab.below g);have ci:L.cell? ⟨f.heap.size,1,none⟩=some (.int .i64 c.a):=j.xr.cell 1;clear g))
       have cc:=za (lS (l:=l) (s:=r.1) (by rw[i.glen];have:=N.out;omega) bc.out);have a3:=za (oA (qL ca.out dC.out) (dM dl.out) z.out (λ_ _=>d0.out) (λd=>absurd d go.out));go_roundw
       case rel=>exact za ⟨b6,d9,_,u.set k true,d7,d6,⟨y.less (by simp),j.seen_,j.box,a3.out,by have:=t.out;have:=cc.out;omega,j.below,bi.below j.below,Cs af.out an.out z.out (by rw[m.out];exact d2) (by rw[m.out];exact d3) ff.out go.out⟩⟩
       case measure=>
        rw[b9.out,y.measure];have:=t.out;have:=cc.out;omega
     ·have ad:=za G;have ao:=za H;have a2:=za (mx gv.out (a4.comes _ _ G) H);clear G H;go_wp2_with (first
       |(go_at_call 76;refine(vj i.out (k:=k+1) (by have:=N.out;omega) ds.out (by have:=t.out;omega) (by have:=s.out;omega) ad.out ao.out _ (by first|omega|(have:=K.out;omega))).mono ?_;rintro x cj ⟨rfl,rfl⟩))
      unfold Exit.noGoto;dsimp only;go_ret;exact⟨⟨_,rfl,⟨⟨λd=>by rw[K.out]at d;omega,λd=>absurd d a2.out⟩,K.trans (qn af.out an.out z.out (by rw[m.out];exact d2) (by rw[m.out];exact d3) ad.out ao.out).symm⟩,by rw[K.out];omega,by rw[K.out];have:=s.out;omega⟩,S.below⟩
  ·obtain rfl:todo=[]:=zD (by omega);have hk:=za (JD h.look);have hl:=za h.below;have fc:=za (Eq.symm (CQ h.run (DK h.look)));clear ga;go_wp2_with fail;unfold Exit.noGoto;dsimp only;go_ret;exact⟨⟨-1,rfl,⟨⟨λ_=>hk.out,λ_=>rfl⟩,fc⟩,by omega,by omega⟩,hl⟩
end
section
open Go.RowKit Go.Proofs.PeepPlain
def gN(fs:List Fn):Nat:=(fs.map (·.code.length)).sum
def EX(fs:List Fn):gN (fs.take 0)=0:=by simp[gN]
def Ez(fs:List Fn)(k:Nat)(a:k<fs.length):gN (fs.take (k+1))=gN (fs.take k)+fs[k].code.length:=by
 unfold gN;rw[List.take_add_one,zo a,Option.toList_some,List.map_append,List.sum_append];simp only[List.map_cons,List.map_nil,List.sum_cons,List.sum_nil,Nat.add_zero]
def LO(fs:List Fn)(k:Nat):gN (fs.take k)<=gN fs:=by
 have a:gN fs=gN (fs.take k)+gN (fs.drop k):=by
  unfold gN;rw[<-List.sum_append,<-List.map_append,List.take_append_drop]
 omega
set_option maxRecDepth 20000 in
def xA(fs:List Fn)(gl:Nat)(c GA:Option Addr)(fc gc:Nat)(w:World)(n:bD w c fs)(I:fs.length<=2000000)(k:gN fs<=2000000):
 Calls prog 16 #[.agg #[.slice c fs.length fc,.slice GA gl gc]] w λe w'=>e= .returned (.int .i64 (gN fs))∧zz w w':=by
 have p:=za n;have D:=za k;clear n k;go_enter func16,ntmps16;go_wp2_with fail;have b:=za (ah.made w 25 [.slice c fs.length fc,.slice GA gl gc]);have d:=za (p.below (below1 w (.cells #[.slice c fs.length fc,.slice GA gl gc] 25)));have f:=za (below1 w (.cells #[.slice c fs.length fc,.slice GA gl gc] 25));generalize w.alloc (.cells #[.slice c fs.length fc,.slice GA gl gc] 25)=w1 at b d f;go_loopw [3,4] (λq g wr=> ∃(a:Nat),g= .int .i64 a∧q= .int .i64 (gN (fs.take a))∧a<=fs.length∧Hid (ah wr w.heap.size 25 [.slice c fs.length fc,.slice GA gl gc])∧Hid (bD wr c fs)∧Hid (zz w wr)) (λ_ g _=>fs.length - (intOf g).toNat)
 case atStart=>exact⟨0,rfl,by rw[EX];rfl,zu _,b,d,f⟩
 case round=>
  clear b d f p;obtain⟨a,rfl,rfl,J,b,d,f⟩:=hrel;have F:=b.cell 0;have E:=b.cell 1;have H:=b.lt;by_cases j:a<fs.length
  ·obtain⟨M,G,rfl,L,l⟩:=d.at_ (by omega);obtain⟨C,B,A,z,y,x⟩:=l a j;clear C B A y z l;have K:(0:Int)<=(a:Int)∧(a:Int)<(fs.length:Int):=by omega
   have i:=Ez fs a j;have v:=LO fs (a+1);have u:=D.out;have m:gN (fs.take a)+fs[a].code.length<=2000000:=by omega
   have h:=za i;clear i v u;generalize fs[a]=o at x m h;generalize gN (fs.take a)=s at m h;go_wp2_with fail;go_roundw
   case rel=>exact⟨a+1,by go_num,by rw[h.out];go_num,by omega,b,d,f⟩
   case measure=>simp[intOf];omega
  ·obtain rfl:a=fs.length:=by omega
   have t:gN (fs.take fs.length)=gN fs:=by rw[List.take_length]
   go_wp2_with fail;go_ret;exact⟨zp (λr:Nat=>Ending.returned (.int .i64 (r:Int))) t,f⟩
def ut(a b:List Int):Bool:=a==b
def tg{l:List Int}{k:Nat}(a:k<l.length):(l.map (Value.int .i64))[k]?=some (.int .i64 l[k]):=by rw[zL,zo a];rfl
def BU(w:World)(a:Bool)(e:Ending)(w':World):Prop:=e= .returned (.bool a)∧∃b,w'=w.drewN b
set_option maxRecDepth 20000 in
def Iw(A B:Option Addr)(D C:Nat)(l m:List Int)(w:World)(n:bd w A (l.map (Value.int .i64)))(k:bd w B (m.map (Value.int .i64)))(L:l.length<=2000000)(K:m.length<=2000000):
 Calls prog 30 #[.slice A l.length D,.slice B m.length C] w (BU w (ut l m)):=by
 by_cases f:l.length=m.length
 ·have q:((l.length:Int)=(m.length:Int)):=by omega
  have H:=za n;have G:=za k;clear n k;rw[<-f];have e:∃g,ut l m=g:=⟨_,rfl⟩
  obtain⟨g,e⟩:=e;rw[e];have x:=za e;have p:=za f;clear e f q;go_enter func30,ntmps30;go_wp2_with fail;go_loopw [5] (λi wr=> ∃(a c:Nat),wr=w.drewN c∧i= .int .i64 a∧a<=l.length∧Hid (l.take a=m.take a)) (λi _=>l.length - (intOf i).toNat)
  case atStart=>exact⟨0,0,rfl,rfl,zu _,za (by simp)⟩
  case round=>
   obtain⟨a,c,rfl,rfl,M,z⟩:=hrel;by_cases s:a<l.length
   ·obtain⟨R,J,rfl,P,u⟩:=H.out (by simp;omega);obtain⟨Q,I,rfl,O,t⟩:=G.out (by have:=p.out;simp;omega);have r:a<m.length:=by have:=p.out;omega
    have v:=u a _ (tg s);have o:=t a _ (tg r);clear u t;have N:(0:Int)<=(a:Int)∧(a:Int)<(l.length:Int):=by omega
    have S:=za (show(∃h,h=l[a])from⟨_,rfl⟩);by_cases b:l[a]=m[a]
    ·have E:=za b;have F:Hid (l.take (a+1)=m.take (a+1)):=za (by rw[List.take_add_one,List.take_add_one,z.out,zo s,zo r,b]);rw[<-b]at o;clear b E;generalize l[a]=h at v o;go_wp2_with fail;go_quiet (fail);go_wp2_with fail;go_roundw
     case rel=>exact⟨a+1,c+nq,rfl,by go_num,by omega,F⟩
     case measure=>simp[intOf];omega
    ·have d:g=false:=by
      rw[<-x.out];unfold ut;rw[zh];intro j;subst j;exact b rfl
     subst d;generalize l[a]=h at v b;generalize m[a]=y at o b;go_wp2_with fail;go_quiet (fail);go_wp2_with fail;go_ret;exact⟨rfl,c+nq,by rw[World.drewN_drewN]⟩
   ·obtain rfl:a=l.length:=by omega
    have d:g=true:=by
     rw[<-x.out];unfold ut;have:=z.out;rw[List.take_length,p.out,List.take_length]at this;rw[beq_iff_eq];exact this
    subst d;go_wp2_with fail;go_ret;exact⟨rfl,c,rfl⟩
 ·have d:ut l m=false:=by
   unfold ut;rw[zh];intro j;exact f (by rw[j])
  rw[d];have q:¬((l.length:Int)=(m.length:Int)):=by omega
  clear n k;go_enter func30,ntmps30;go_wp2_with fail;go_ret;exact⟨rfl,0,rfl⟩
end
section
open Go.RowKit Go.Proofs.PeepPlain
def DR(b:UInt8)(w:World):Calls prog 42 #[.int .u8 (b.toNat:Int)] w λe w'=>e= .returned (.bool (cE b))∧w'=w:=by
 obtain⟨d,a⟩:∃d,cE b=d:=⟨_,rfl⟩
 rw[a];unfold cE at a;generalize b.toNat=c at a;have f:=za a;clear a;go_enter func42,ntmps42;go_wp2_with fail
 all_goals go_ret
 all_goals refine⟨ag ?_,rfl⟩
 all_goals rw[<-f.out,zA]
 all_goals simp only[Bool.or_eq_true,zy,decide_eq_true_eq,beq_iff_eq,iff_true,iff_false,Bool.false_eq_true]
 all_goals omega
def Ip(b:UInt8)(w:World):Calls prog 43 #[.int .u8 (b.toNat:Int)] w λe w'=>e= .returned (.bool (eg b))∧w'=w:=by
 obtain⟨d,a⟩:∃d,eg b=d:=⟨_,rfl⟩
 rw[a];unfold eg at a;generalize b.toNat=c at a;have f:=za a;clear a;go_enter func43,ntmps43;go_wp2_with fail
 all_goals go_ret
 all_goals refine⟨ag ?_,rfl⟩
 all_goals rw[<-f.out,zA]
 all_goals simp only[Bool.or_eq_true,zy,decide_eq_true_eq,beq_iff_eq,iff_true,iff_false,Bool.false_eq_true]
 all_goals omega
def uN:dv=[⟨#[97,110,121]⟩,⟨#[98,114,101,97,107]⟩,⟨#[99,97,115,101]⟩,⟨#[99,111,110,116,105,110,117,101]⟩,⟨#[100,101,102,97,117,108,116]⟩,⟨#[100,101,102,101,114]⟩,⟨#[101,108,115,101]⟩,⟨#[102,97,108,108,116,104,114,111,117,103,104]⟩,⟨#[102,97,108,115,101]⟩,⟨#[102,111,114]⟩,⟨#[102,117,110,99]⟩,⟨#[105,102]⟩,⟨#[105,110]⟩,⟨#[109,97,112]⟩,⟨#[110,105,108]⟩,⟨#[112,114,111,116,111,99,111,108]⟩,⟨#[114,101,116,117,114,110]⟩,⟨#[115,116,114,117,99,116]⟩,⟨#[115,119,105,116,99,104]⟩,⟨#[116,114,117,101]⟩,⟨#[116,121,112,101]⟩,⟨#[118,97,114]⟩]:=by decide+kernel
def G8(w:World):Calls prog 77 #[] w λe w'=>e= .returned (.slice (some ⟨w.heap.size,0,none⟩) dv.length dv.length)∧ah w' w.heap.size 9 (dv.map Value.string)∧zz w w':=by
 rw[uN];go_enter func77,ntmps77;go_wp2_with fail;go_ret;exact⟨rfl,ah.made w 9 _,below1 w _⟩
def Ck(l:List ByteArray)(s:ByteArray)(k:Nat):Prop:=∀a,a<k->l.getD a ByteArray.empty≠s
def uk{l:List ByteArray}{s:ByteArray}{k:Nat}(c:Ck l s k)(b:l.getD k ByteArray.empty≠s):Ck l s (k+1):=λa e=>by
 by_cases d:a=k
 ·subst d;exact b
 ·exact c a (by omega)
def LZ{l:List ByteArray}{k:Nat}(a:k<l.length):l.getD k ByteArray.empty∈l:=by
 rw[zd,zo a];exact zk a
def qo{l:List ByteArray}{s:ByteArray}{k:Nat}(a:k<l.length)(b:l.getD k ByteArray.empty=s):Lib.containsS l s=true:=
 (Lib.containsS_iff l s).2 (b ▸ LZ a)
def mY{l:List ByteArray}{s:ByteArray}(d:Ck l s l.length):Lib.containsS l s=false:=by
 rw[Bool.eq_false_iff];intro c;obtain⟨b,a,e⟩:=zQ ((Lib.containsS_iff l s).1 c);refine d b a ?_;rw[zd,zo a];exact e
def lO{a b:ByteArray}(c:a.toList=b.toList):a=b:=by
 rw[zH,zH]at c
 cases a;cases b;simp at c;simp[c]
def yY{a b:ByteArray}(c:a≠b):(a.toList==b.toList)=false:=zh.2 λd=>c (lO d)
def st{w:World}{c:Option Addr}{l:List ByteArray}(h:bd w c (l.map Value.string))(g:0<l.length):∃b a,c=some ⟨b,a,none⟩∧b<w.heap.size∧∀k,k<l.length->w.cell? ⟨b,a+k,none⟩=some (.string (l.getD k ByteArray.empty)):=by
 obtain⟨b,a,i,d,f⟩:=h (by simpa using g);refine⟨b,a,i,d,λk e=>f k _ ?_⟩;rw[zL,zd,zo e];rfl
def Ly(s:ByteArray)(w:World):Calls prog 44 #[.string s] w λe w'=>e= .returned (.bool (Lib.containsS dv s))∧zz w w':=by
 obtain⟨a,g⟩:∃a,a=dv:=⟨_,rfl⟩
 have z:a.length<=22:=by rw[g];decide+kernel
 rw[<-g];have o:=za G8;rw[<-g]at o;clear g;go_enter func44,ntmps44;go_wp2_with (go_at_call 77;refine(o.out _).mono ?_;rintro C u ⟨rfl,j,m⟩);have d:=za m;have f:=za j;clear j m;go_loopw [2,4] (λr h wr=> ∃b:Nat,h= .int .i64 b∧b<=a.length∧Hid (Ck a s b)∧r= .bool false∧Hid (ah wr w.heap.size 9 (a.map Value.string))∧Hid (zz w wr)) (λ_ h _=>a.length - (intOf h).toNat)
 case atStart=>exact⟨0,rfl,zu _,za (λv B=>by omega),rfl,f,d⟩
 case round=>
  clear f d;rename World=>w3;obtain⟨b,rfl,A,q,rfl,f,d⟩:=hrel;by_cases k:b<a.length
  ·have l:w3.cell? ⟨w.heap.size,b,none⟩=some (.string (a.getD b ByteArray.empty)):=by
    have:=kC f.out b k;rwa [zP]at this
   have n:=za (λc=>qo (s:=s) k c);have p:=za (λc=>uk q.out c);generalize a.getD b ByteArray.empty=x at l n p;by_cases c:x=s
   ·have i:=za (n.out c);rw[c]at l;clear c;go_wp2_with fail;go_ret;exact⟨ag i.out,d⟩
   ·have y:=yY c;have t:=za (p.out c);clear c;go_wp2_with fail;go_roundw
    case rel=>exact⟨b+1,by go_num,by omega,t,rfl,f,d⟩
    case measure=>simp[intOf];omega
  ·obtain rfl:b=a.length:=by omega
   have i:=za (mY q.out);go_wp2_with fail;go_ret;exact⟨ag i.out,d⟩
def lz{s:ByteArray}(f:0<s.size):jl s=(cE s[0]&&decide (∀k (b:k<s.size),1<=k->(cE s[k]||eg s[k])=true)):=by
 unfold jl;rw[zA,zy,decide_eq_true_eq,decide_eq_true_eq];constructor
 ·intro b;refine⟨?_,λk a c=>?_⟩
  ·have:=b 0 f;simpa[cZ]using this
  ·have:=b k a;unfold cZ at this;rw[ze (show k≠0 by omega),Bool.true_and]at this;exact this
 ·rintro⟨c,e⟩ k a;unfold cZ;by_cases d:k=0
  ·subst d;rw[c,Bool.true_or]
  ·rw[ze d,Bool.true_and];exact e k a (by omega)
def Am(s:ByteArray)(n:Nat):Prop:=∀a (h:a<s.size),1<=a->a<n->(cE s[a]||eg s[a])=true
def CD{s:ByteArray}{n:Nat}(e:Am s n)(g:n<s.size)(c:(cE s[n]||eg s[n])=true):Am s (n+1):=λa b d h=>by
 by_cases f:a=n
 ·subst f;exact c
 ·exact e a b d (by omega)
def vQ{s:ByteArray}(a:0<s.size)(b:cE s[0]=false):bF s=false:=by
 unfold bF;rw[lz a,b,zG,zG]
def yy{s:ByteArray}{n:Nat}(c:n<s.size)(e:1<=n)(b:(cE s[n]||eg s[n])=false):bF s=false:=by
 unfold bF;rw[lz (by omega),zg (p:=∀a (b:a<s.size),1<=a->(cE s[a]||eg s[a])=true) (λd=>by rw[d n c e]at b;cases b),zF,zG]
def xH{s:ByteArray}(c:¬(s.size≠0∧s.size<=40)):bF s=false:=by
 unfold bF;by_cases a:s.size≠0
 ·rw[zg (p:=s.size<=40) (λb=>c ⟨a,b⟩),zG,zF,zF]
 ·rw[zg a,zG,zF]
def Ma{s:ByteArray}(f:0<s.size)(d:s.size<=40)(e:cE s[0]=true)(c:Am s s.size):bF s=!Lib.containsS dv s:=by
 unfold bF;rw[lz f,e,ze (p:=∀a (h:a<s.size),1<=a->(cE s[a]||eg s[a])=true) (λa b g=>c a b g b),ze (show s.size≠0 by omega),ze d];simp
set_option maxRecDepth 20000 in
def lP(s:ByteArray)(w:World)(K:s.size<=2000000):Calls prog 19 #[.string s] w λe w'=>e= .returned (.bool (bF s))∧zz w w':=by
 have m:=za DR;have C:=za Ip;have G:=za (Ly s);by_cases o:s.size≠0∧s.size<=40
 ·obtain⟨i,A⟩:=o;have r:0<s.size:=by omega
  have E:(s.toList==[])=false:=zh.2 (λe=>i (by
   rw[zH]at e;have:=zp List.length e;simpa using this))
  cases g:cE s[0]with
  |false=>
   have c:=za (vQ r g);have u:=za g;clear g;go_enter func19,ntmps19;go_wp2_with (go_at_call 42;refine(m.out s[0] _).mono ?_;rw[u.out];rintro d x ⟨rfl,rfl⟩);go_ret;exact⟨ag c.out,zZ _ _⟩
  |true=>
   have I:=za (Ma r A g);have u:=za g;clear g;go_enter func19,ntmps19;go_wp2_with (go_at_call 42;refine(m.out s[0] _).mono ?_;rw[u.out];rintro d x ⟨rfl,rfl⟩);go_loopw [2,4] (λD q wr=> ∃a:Nat,q= .int .i64 a∧1<=a∧a<=s.size∧Hid (Am s a)∧D= .bool false∧Hid (zz x wr)) (λ_ q _=>s.size - (intOf q).toNat)
   case atStart=>exact⟨1,rfl,zb _,r,za (λJ p O N=>by omega),rfl,za (zZ _ _)⟩
   case round=>
    rename World=>w3;obtain⟨a,rfl,F,L,B,rfl,n⟩:=hrel;by_cases y:a<s.size
    ·have f:=za (λp=>CD B.out y p);have k:=za (λp=>yy y F p)
     cases b:cE s[a]with
     |true=>
      rw[b]at f;have l:=za b;have t:=za (f.out rfl);clear b f k;go_wp2_with (go_at_call 42;refine(m.out s[a] _).mono ?_;rw[l.out];rintro d j ⟨rfl,rfl⟩);go_roundw
      case rel=>exact⟨a+1,by go_num,by omega,by omega,t,rfl,n⟩
      case measure=>simp[intOf];omega
     |false=>
      cases h:eg s[a]with
      |true=>
       rw[b,h]at f;have l:=za b;have v:=za h;have t:=za (f.out rfl);clear b h f k;go_wp2_with (first|(go_at_call 42;refine(m.out s[a] _).mono ?_;rw[l.out];rintro d j ⟨rfl,rfl⟩)|(go_at_call 43;refine(C.out s[a] _).mono ?_;rw[v.out];rintro d j ⟨rfl,rfl⟩));go_roundw
       case rel=>exact⟨a+1,by go_num,by omega,by omega,t,rfl,n⟩
       case measure=>simp[intOf];omega
      |false=>
       rw[b,h]at k;have l:=za b;have v:=za h;have c:=za (k.out rfl);clear b h f k;go_wp2_with (first|(go_at_call 42;refine(m.out s[a] _).mono ?_;rw[l.out];rintro d j ⟨rfl,rfl⟩)|(go_at_call 43;refine(C.out s[a] _).mono ?_;rw[v.out];rintro d j ⟨rfl,rfl⟩));go_ret;exact⟨ag c.out,n⟩
    ·obtain rfl:a=s.size:=by omega
     have c:=za (I.out B.out);go_wp2_with (go_at_call 44;refine(G.out _).mono ?_;rintro d j ⟨rfl,z⟩;have H:=za (ac n.out z n.size);clear z);go_ret;exact⟨ag c.out,H⟩
 ·have c:=za (xH o);by_cases i:s.size=0
  ·obtain rfl:s=⟨#[]⟩:=by
    apply lO;rw[zH,zH];exact zD (by simpa using i)
   clear o i;go_enter func19,ntmps19;go_wp2_with fail;go_ret;exact⟨ag c.out,zZ _ _⟩
  ·have A:¬(s.size:Int)<=40:=by omega
   have M:(40:Int)<s.size:=by omega
   have E:(s.toList==[])=false:=zh.2 (λe=>i (by
    rw[zH]at e;have:=zp List.length e;simpa using this))
   clear o i;go_enter func19,ntmps19;go_wp2_with fail;go_ret;exact⟨ag c.out,zZ _ _⟩
end
section
open Go.RowKit Go.Proofs.PeepPlain
def Dp(s:ByteArray)(a:List ByteArray)(t:Option Addr)(c:Nat)(w:World)(k:bd w t (a.map Value.string))(D:a.length<=2000000):Calls prog 82 #[.string s,.slice t a.length c] w λe w'=>e= .returned (.bool (Lib.containsS a s))∧w'=w:=by
 have v:=za k;clear k;by_cases n:0<a.length
 ·obtain⟨F,A,rfl,i,l⟩:=st v.out n;have z:=za l;clear l;go_enter func82,ntmps82;go_wp2_with fail;go_loopw [4,5] (λh f wr=> ∃d:Nat,f= .int .i64 d∧d<=a.length∧Hid (Ck a s d)∧h= .bool false∧Hid (wr=w)) (λ_ f _=>a.length - (intOf f).toNat)
  case atStart=>exact⟨0,rfl,zu _,za (λu o=>by omega),rfl,za rfl⟩
  case round=>
   obtain⟨d,rfl,E,r,rfl,j⟩:=hrel;obtain rfl:=j.out;rename World=>w3;by_cases i:d<a.length
   ·have m:=z.out d i;have p:=za (λb=>qo (s:=s) i b);have q:=za (λb=>uk r.out b);generalize a.getD d ByteArray.empty=x at m p q;by_cases b:x=s
    ·have g:=za (p.out b);rw[b]at m;clear b;go_wp2_with fail;go_ret;exact⟨ag g.out,rfl⟩
    ·have C:=yY b;have y:=za (q.out b);clear b;go_wp2_with fail;go_roundw
     case rel=>exact⟨d+1,by go_num,by omega,y,rfl,za trivial⟩
     case measure=>simp[intOf];omega
   ·obtain rfl:d=a.length:=by omega
    have g:=za (mY r.out);go_wp2_with fail;go_ret;exact⟨ag g.out,rfl⟩
 ·obtain rfl:a=[]:=zD (by omega);clear n;have g:=za (show Lib.containsS [] s=false from mY (λu o=>by simp at o));have B:(([]:List ByteArray).length:Int)=0:=rfl;go_enter func82,ntmps82;go_wp2_with fail;go_loopw [4,5] (λh f wr=>f= .int .i64 0∧h= .bool false∧Hid (wr=w)) (λ_ f _=>0)
  case atStart=>exact⟨rfl,rfl,za rfl⟩
  case round=>
   obtain⟨rfl,rfl,j⟩:=hrel;obtain rfl:=j.out;go_wp2_with fail;go_ret;exact⟨ag g.out,rfl⟩
def eQ:List ByteArray:=aJ rS
def mh:eQ=[⟨#[97,112,112,101,110,100]⟩,⟨#[99,97,112]⟩,⟨#[99,111,112,121]⟩,⟨#[100,101,108,101,116,101]⟩,⟨#[108,101,110]⟩,⟨#[109,97,107,101]⟩,⟨#[112,97,110,105,99]⟩,⟨#[112,114,105,110,116]⟩,⟨#[114,101,99,111,118,101,114]⟩,⟨#[115,104,111,119]⟩,⟨#[116,121,112,101,111,102]⟩]:=by decide+kernel
def DI(w:World):Calls prog 84 #[] w λe w'=>e= .returned (.slice (some ⟨w.heap.size,0,none⟩) eQ.length eQ.length)∧bd w' (some ⟨w.heap.size,0,none⟩) (eQ.map Value.string)∧zz w w':=by
 rw[mh];go_enter func84,ntmps84;go_wp2_with fail;go_ret;exact⟨rfl,bd.row (ah.made w 9 _) (λc b a=>a),below1 w _⟩
def ws:bF ⟨#[97,110,121]⟩=false:=by decide+kernel
def Gw(s:ByteArray):Bool:=dj s false true
def yC(s:ByteArray)(w:World)(d:s.size<=2000000):Calls prog 116 #[.string s] w λe w'=>e= .returned (.bool (Gw s))∧zz w w':=by
 have b:=za (lP s w d);obtain⟨c,a⟩:∃c,Gw s=c:=⟨_,rfl⟩
 rw[a];unfold Gw dj Oi at a;generalize bF s=n at b a;have g:=za a;clear a;go_enter func116,ntmps116;go_wp2_with (go_at_call 19;refine b.out.mono ?_;rintro j i ⟨rfl,f⟩;have h:=za f;clear f)
 all_goals go_ret
 all_goals refine⟨ag ?_,h⟩
 all_goals rw[<-g.out]
 all_goals clear g b h d
 all_goals grind
def qK(s:ByteArray)(p:Int)(a:Bool)(w:World)(j:s.size<=2000000):Calls prog 81 #[.string s,.int .i64 p,.bool a] w λe w'=>e= .returned (.bool (dj s (p==1) a))∧zz w w':=by
 have h:=za (lP s w j);have b:=za (yC s w j);obtain⟨k,d⟩:∃k,dj s (p==1) a=k:=⟨_,rfl⟩
 rw[d];unfold dj Oi at d;have i:=za (show Oi s [97,110,121]=true->bF s=false from λq=>by
  obtain rfl:s=⟨#[97,110,121]⟩:=lO (by rw[zx q,zH]);exact ws)
 unfold Gw dj at b;unfold Oi at b i;generalize bF s=n at h d b i;have f:=za d;clear d j;by_cases l:p=1
 ·subst l;go_enter func81,ntmps81;go_wp2_with (go_at_call 19;refine h.out.mono ?_;rintro r m ⟨rfl,c⟩;have g:=za c;clear c)
  all_goals go_ret
  all_goals refine⟨ag ?_,g⟩
  all_goals rw[<-f.out]
  all_goals clear f h b g
  all_goals grind
 ·have o:(p==1)=false:=zh.2 l;rw[o]at f;go_enter func81,ntmps81;go_wp2_with (go_at_call 116;refine b.out.mono ?_;rintro r m ⟨rfl,c⟩;have g:=za c;clear c)
  all_goals go_ret
  all_goals refine⟨ag ?_,g⟩
  all_goals rw[<-f.out]
  all_goals have t:=i.out
  all_goals clear f h b g i
  all_goals grind
def nH(a n:Int)(w:World):Calls prog 78 #[.int .i64 a,.int .i64 n] w λe w'=>e= .returned (.bool (decide (0<=a)&&decide (a<n)))∧w'=w:=by
 obtain⟨c,b⟩:∃c,(decide (0<=a)&&decide (a<n))=c:=⟨_,rfl⟩
 rw[b];have d:=za b;clear b;go_enter func78,ntmps78;go_wp2_with fail
 all_goals go_ret
 all_goals refine⟨ag ?_,rfl⟩
 all_goals rw[<-d.out]
 all_goals clear d
 all_goals grind
def GK(op:Int)(w:World):Calls prog 49 #[.int .i64 op] w λe w'=>e= .returned (.bool (decide (al op)))∧w'=w:=by
 obtain⟨b,a⟩:∃b,decide (al op)=b:=⟨_,rfl⟩
 rw[a];have c:=za a;clear a;go_enter func49,ntmps49;go_wp2_with fail
 all_goals go_ret
 all_goals refine⟨ag ?_,rfl⟩
 all_goals rw[<-c.out]
 all_goals clear c
 all_goals unfold al
 all_goals grind
end
section
open Go.RowKit Go.Proofs.PeepPlain
def kY(op:Int)(w:World):Calls prog 63 #[.int .i64 op] w λe w'=>e= .returned (.bool (decide (al op)))∧w'=w:=by
 obtain⟨b,a⟩:∃b,decide (al op)=b:=⟨_,rfl⟩
 rw[a];have c:=za a;clear a;go_enter func63,ntmps63;go_wp2_with fail
 all_goals go_ret
 all_goals refine⟨ag ?_,rfl⟩
 all_goals rw[<-c.out]
 all_goals clear c
 all_goals unfold al
 all_goals grind
end
section
open Go.RowKit Go.Proofs.PeepPlain
def lY(c:UInt8)(l:List UInt8):Lib.index (c::l) [46]=if c=46 then 0 else if Lib.index l [46]== -1 then -1 else Lib.index l [46]+1:=by
 rw[Lib.index];by_cases a:c=46
 ·subst a;rfl
 ·have:([46]:List UInt8).isPrefixOf (c::l)=false:=by
   simp[List.isPrefixOf];exact λb=>a b.symm
  rw[this,zm (by simp),zm a]
theorem wQ:∀(l:List UInt8), -1<=Lib.index l [46]
 | []=>by decide
 |c::l=>by
  have:=wQ l;rw[lY];split
  ·decide
  ·split
   ·decide
   ·omega
theorem sx:∀(l:List UInt8) (i:Nat),l[i]?=some 46->(∀j,j<i->l[j]?≠some 46)->Lib.index l [46]=i
 | [],i,h,_=>by simp at h
 |c::l,0,h,_=>by
  rw[lY,zn (by simpa using h)];rfl
 |c::l,i+1,h,hn=>by
  have a:=hn 0 (by omega);have:=sx l i (by simpa using h) (λj b=>by have:=hn (j+1) (by omega);simpa using this);rw[lY,zm (by simpa using a),this,zm (by simp)];rfl
theorem uK:∀(l:List UInt8) (n:Nat),(∀j,j<n->l[j]?≠some 46)->Lib.index l [46]= -1∨(n:Int)<=Lib.index l [46]
 | [],n,a=> .inl (by decide)
 |c::l,0,a=>by have:=wQ (c::l);omega
 |c::l,n+1,hn=>by
  have d:=hn 0 (by omega);have:=uK l n (λj e=>by have:=hn (j+1) (by omega);simpa using this);rw[lY,zm (by simpa using d)];rcases this with a|a
  ·rw[a];exact .inl rfl
  ·have b:(Lib.index l [46]== -1)=false:=zh.2 (by omega);rw[b];exact .inr (by simp;omega)
theorem uY:∀(l:List UInt8),Lib.index l [46]<l.length
 | []=>by decide
 |c::l=>by
  have:=uY l;rw[lY,List.length_cons];split
  ·omega
  ·split
   ·omega
   ·omega
def lr{s:ByteArray}(b:40<s.size):bF s=false:=xH (λa=>by omega)
def fS(s:ByteArray)(k:Nat)(a:k<s.size):s.data.toList[k]?=some s[k]:=by
 rw[zo (by simpa using a),Array.getElem_toList];rfl
def BJ(s:ByteArray)(k:Nat):Prop:=∀a,a<k->s.data.toList[a]?≠some 46
def Eh{s:ByteArray}{k:Nat}(e:BJ s k)(c:k<s.size)(d:s[k]≠46):BJ s (k+1):=λa f=>by
 by_cases b:a=k
 ·subst b;rw[fS s a c];exact λb=>d (zj b)
 ·exact e a (by omega)
def vU{s:ByteArray}{k:Nat}(c:BJ s k)(e:k=s.size∨40<k):eH s=bF s:=by
 unfold eH f6 Lib.cut;rcases uK _ k c with a|a
 ·rw[a,zm (by decide)];simp
 ·have f:=uY s.data.toList;have d:s.data.toList.length=s.size:=by simp
  have b:40<s.size:=by omega
  rw[lr b,zn (by omega)];dsimp only;rw[lr,zG];show 40<(List.toArray _).size;rw[List.size_toArray,zR];omega
def yU(s:ByteArray)(k:Nat):(⟨(s.data.toList.take k).toArray⟩:ByteArray)=s.extract 0 k:=by
 apply ByteArray.ext;apply Array.ext';simp
def eO(s:ByteArray)(k:Nat):(⟨(s.data.toList.drop k).toArray⟩:ByteArray)=s.extract k s.size:=by
 apply ByteArray.ext;apply Array.ext';simp;exact(List.take_of_length_le (by simp)).symm
def Bf{s:ByteArray}{k:Nat}(d:BJ s k)(a:k<s.size)(c:s[k]=46):eH s=(bF (s.extract 0 k)&&bF (s.extract (k+1) s.size)):=by
 have b:=sx s.data.toList k (by rw[fS s k a,c]) d;unfold eH f6 Lib.cut;rw[b,zn (by omega)];dsimp only;rw[zV,yU,show k+([46]:List UInt8).length=k+1 from rfl,eO];simp
set_option maxRecDepth 20000 in
def Ac(s:ByteArray)(w:World)(o:s.size<=2000000):Calls prog 45 #[.string s] w λe w'=>e= .returned (.bool (eH s))∧zz w w':=by
 have l:=za (λt w u=>lP t w u);have k:=za o;clear o;go_enter func45,ntmps45;go_wp2_with fail;go_loopw [2,3] (λr i wr=> ∃a:Nat,i= .int .i64 a∧a<=s.size∧a<=82∧Hid (BJ s a)∧r= .bool false∧Hid (zz w wr)) (λ_ i _=>100 - (intOf i).toNat)
 case atStart=>exact⟨0,rfl,zu _,by omega,za (λB J=>by omega),rfl,za (zZ _ _)⟩
 case round=>
  rename World=>w3;obtain⟨a,rfl,F,E,m,rfl,c⟩:=hrel;by_cases f:a<s.size∧a<=81
  ·obtain⟨f,D⟩:=f;have C:(a:Int)<=81:=by omega
   by_cases g:s[a]=46
   ·have v:s[a].toNat=46:=by rw[g];rfl
    have h:=za (Bf m.out f g);have q:=za (λw=>l.out (s.extract 0 a) w (by simp[ByteArray.size_extract];have:=k.out;omega));have z:=za (λw=>l.out (s.extract (a+1) s.size) w (by simp[ByteArray.size_extract];have:=k.out;omega));go_wp2_with (first
     |(go_at_call 19;(with_reducible refine(q.out _).mono ?_);rintro j n ⟨rfl,b⟩;have d:=za (ac c.out b c.size);clear b q)
     |(go_at_call 19;(with_reducible refine(z.out _).mono ?_);rintro j A ⟨rfl,b⟩;have y:=za (ac d.out b d.size);clear b))
    all_goals go_ret
    all_goals refine⟨ag ?_,y⟩
    all_goals rw[h.out]
    all_goals grind
   ·have v:¬s[a].toNat=46:=λe=>g (UInt8.toNat_inj.1 e);have G:((s[a].toNat:Int)==46)=false:=zh.2 (by omega);have x:=za (Eh m.out f g);go_wp2_with fail;go_roundw
    case rel=>exact⟨a+1,by go_num,by omega,by omega,x,rfl,c⟩
    case measure=>simp[intOf];omega
  ·have h:=za (vU m.out (show a=s.size∨40<a by omega));have p:=za (λw=>l.out s w k.out);by_cases I:a<s.size
   ·have H:¬(a:Int)<=81:=by omega
    go_wp2_with (go_at_call 19;refine(p.out _).mono ?_;rintro j n ⟨rfl,b⟩;have d:=za (ac c.out b c.size);clear b)
    all_goals go_ret
    all_goals exact⟨ag h.out,d⟩
   ·go_wp2_with (go_at_call 19;refine(p.out _).mono ?_;rintro j n ⟨rfl,b⟩;have d:=za (ac c.out b c.size);clear b)
    all_goals go_ret
    all_goals exact⟨ag h.out,d⟩
end
section
open Go.RowKit
def vg(B:Nat)(w:World)(n:Nat):Below B w (w.drewN n):=ae (zZ _ _) n
def AQ{w:World}{B e size n c:Nat}{f:Option Addr}{h:List Value}(k:w.ownsRow B e size (.slice f n c) n h)(l:0<n):∃g,f=some ⟨g,0,none⟩∧n<=c∧c<=maxLen:=by
 rcases k.2 with⟨d,p⟩|⟨g,cap,q,d,o,m,i,j,_⟩
 ·omega
 ·injection d with h1 h2 h3;subst h1 h3;exact⟨g,rfl,i,j⟩
structure dr(es:List TypeId)(B0:Nat)(w w':World):Prop where
 below:Below B0 w w'
 other:∀(k:Nat) cs t fr,w.heap[k]?=some (.cells cs t fr)->t∉es->w'.heap[k]?=w.heap[k]?
section
variable{es:List TypeId}{B0:Nat}{a b c w w':World}
def dr.refl(es:List TypeId)(B0:Nat)(w:World):dr es B0 w w:=⟨zZ _ _,λ_ _ _ _ _ _=>rfl⟩
def dr.trans(h:dr es B0 a b)(k:dr es B0 b c):dr es B0 a c:=
 ⟨h.below.trans k.below,λe j d i g f=>(k.other e j d i ((h.other e j d i g f).trans g) f).trans (h.other e j d i g f)⟩
def dr.alloc(g:dr es B0 a w)(f:B0<=w.heap.size)(o:Obj):dr es B0 a (w.alloc o):=
 g.trans ⟨(zZ _ _).alloc f o,λd j h i e _=>Below.heap_alloc w o d (Array.getElem?_eq_some_iff.1 e).1⟩
def dr.drew(d:dr es B0 a w):dr es B0 a w.drew:=d.trans ⟨(zZ _ _).drew,λ_ _ _ _ _ _=>rfl⟩
def dr.drewN(d:dr es B0 a w)(n:Nat):dr es B0 a (w.drewN n):=d.trans ⟨vg _ _ _,λ_ _ _ _ _ _=>rfl⟩
def dr.row(h:dr es B0 w w'){g:Nat}{t:TypeId}{e:List Value}(d:ah w g t e)(f:t∉es):ah w' g t e:=(h.other g _ t _ d f).trans d
def dr.own(k:dr es B0 w w'){B n size:Nat}{e:TypeId}{g:Value}{f:List Value}(h:w.ownsRow B e size g n f)(j:e∉es):w'.ownsRow B e size g n f:=
 aE h λm d=>by
  rcases h.2 with⟨rfl,_⟩|⟨l,cap,o,rfl,_,i,_⟩
  ·simp[Value.ownBlock]at d
  ·simp[Value.ownBlock]at d;subst d;exact k.other _ _ _ _ i j
def dr.size(d:dr es B0 w w'):w.heap.size<=w'.heap.size:=d.below.size
def dr.grown(p:dr es B0 a w){B n size:Nat}{e:TypeId}{i:Value}{l:List Value}(j:w.ownsRow B e size i n l)(o:e∈es)(k:w.grownBy w' i.ownBlock)(s:B0<=B)(r:B<=w.heap.size):dr es B0 a w':=
 p.trans ⟨(zZ _ _).grown k (by omega) (λg d=>by have:=(j.lt g d).1;omega),λg x q u d m=>k.block g (Array.getElem?_eq_some_iff.1 d).1 (λh=>by
   rcases j.2 with⟨rfl,_⟩|⟨t,cap,v,rfl,_,f,_⟩
   ·simp[Value.ownBlock]at h
   ·simp[Value.ownBlock]at h;subst h;rw[d]at f;injection f with f;injection f with _ ht';subst ht';exact m o)⟩
def dr.setCell(m:dr es B0 a w){g i:Nat}{t:TypeId}{n:List Value}(d:ah w g t n)(j:t∈es)(l:B0<=g)(u:Value):dr es B0 a (w.setCell ⟨g,i,none⟩ u):=
 m.trans ⟨(zZ _ _).setCell l u,λf q o p k h=>zY w ⟨g,i,none⟩ f u (λe=>by
   subst e;unfold ah at d;rw[k]at d;injection d with d;injection d with _ e;subst e;exact h j)⟩
def dr.more{f:List TypeId}(d:dr es B0 a b)(j:∀e∈es,e∈f):dr f B0 a b:=⟨d.below,λh n g m l i=>d.other h n g m l (λk=>i (j _ k))⟩
def dr.low{e:Nat}(d:dr es B0 a b)(h:e<=B0):dr es e a b:=⟨⟨d.below.os,d.below.tape,d.below.output,d.below.size,λf g=>d.below.block f (by omega)⟩,d.other⟩
end
def QS:(prog.info? 5).map (λi=>(i.zero,i.size,i.bytes))=some (some (.int .u8 0),1,1):=by kernel_rfl
def GR{k:Array Oper}{j:List Oper}{o:Oper}{a:Act}{m:Exit->Act->World->Prop}(s x:Operand)(e n:Nat)(h:Value)(g d:List Value)(w:World)
 (D:o.guard=none)(B:o.op= .call {callee:= .builtin .append,args:= #[s,x],argTypes:= #[113,113]})
 (z:a.eval s=h)(l:w.ownsRow e 5 1 h n g)(u:a.eval x= .slice (some ⟨w.heap.size,0,none⟩) d.length d.length)
 (G:∀i∈d,i.oneCell'=true)(I:n+d.length<=140737488355328)(F:e<=w.heap.size)
 (H:∀f w',w'.ownsRow e 5 1 f (n+d.length) (g++d)->dr [5] e w w'->wpList prog k m j (a.put o.dst f) w'):wpList prog k m (o::j) a (w.alloc (.cells d.toArray 5)):=by
 obtain⟨q,C,r,y,t⟩:=info_parts QS;refine wpList_append_own (w.alloc (.cells d.toArray 5)) D s x 113 B e 5 q (.int .u8 0) 1 1 underlying113 C r y t rfl (by decide) h n g z (l.alloc _) ⟨w.heap.size,0,none⟩ d.length d.length d u (by omega) ?_ G (by simp only[maxLen];omega) (by omega) (by simp;omega) ?_
 ·intro p i v;have:=(ah.made w 5 d).cell p;rw[Addr.add_lit,zP,this];exact v
 ·intro f w' A E _;exact H f w' A (((dr.refl _ _ _).alloc F _).grown (l.alloc _) (by simp) E (zb _) (by simp;omega))
def vp{w:World}{B n:Nat}{e:Value}{l:List UInt8}(d:w.ownsRow B 5 1 e n (Lib.byteCells l)):(convert 113 9 e).run prog w= .ok (.string ⟨l.toArray⟩) w:=by
 have f:l.length=n:=by have:=d.1;simpa[Lib.byteCells]using this
 rcases d.2 with⟨rfl,rfl⟩|⟨g,cap,j,rfl,_,_⟩
 ·obtain rfl:l=[]:=zD f;rw[run_convert_bytes_string w 113 9 5 none 0 0 underlying113 underlying5 underlying9];rfl
 ·subst f;exact run_convert_bytes_back w 113 9 5 _ cap l underlying113 underlying5 underlying9 (λh i=>d.cells (g:=g) rfl h _ (by simp[Lib.byteCells,i]))
def rU(a b:List UInt8):Lib.byteCells (a++b)=Lib.byteCells a++Lib.byteCells b:=by simp[Lib.byteCells]
def iK(a:List UInt8):(Lib.byteCells a).length=a.length:=by simp[Lib.byteCells]
def gS(e:Nat)(w:World)(d:Value)(l:List UInt8):Prop:=w.ownsRow e 5 1 d l.length (Lib.byteCells l)
def gS.alloc{e:Nat}{w:World}{d:Value}{l:List UInt8}(f:gS e w d l)(o:Obj):gS e (w.alloc o) d l:=zX f o
def gS.drewN{e:Nat}{w:World}{d:Value}{l:List UInt8}(f:gS e w d l)(n:Nat):gS e (w.drewN n) d l:=f
def gS.nil(d:Nat)(w:World):gS d w (.slice none 0 0) []:=World.ownsRow_nil _ _ _ _
def FN{i:Array Oper}{h:List Oper}{o:Oper}{a:Act}{k:Exit->Act->World->Prop}(s x:Operand)(e:Nat)(g:Value)(l d:List UInt8)(w:World)(j:Array Value)
 (t:o.guard=none)(q:o.op= .call {callee:= .builtin .append,args:= #[s,x],argTypes:= #[113,113]})
 (n:a.eval s=g)(p:gS e w g l)(u:j=(Lib.byteCells d).toArray)(m:a.eval x= .slice (some ⟨w.heap.size,0,none⟩) d.length d.length)
 (r:l.length+d.length<=140737488355328)(v:e<=w.heap.size)
 (A:∀f w',gS e w' f (l++d)->dr [5] e w w'->wpList prog i k h (a.put o.dst f) w'):wpList prog i k (o::h) a (w.alloc (.cells j 5)):=by
 subst u;refine GR s x e l.length g (Lib.byteCells l) (Lib.byteCells d) w t q n p (by rw[iK];exact m) (by simp[Lib.byteCells,Value.oneCell']) (by rw[iK];exact r) v ?_;intro f w' z y;refine A f w' ?_ y;unfold gS;rw[zw,rU];rwa [iK]at z
def mH(n:Nat):List UInt8:=if h:n=0 then []else UInt8.ofNat (48+n % 10)::mH (n / 10)
termination_by n
decreasing_by omega
def lJ:mH 0=[]:=by rw[mH];simp
def nQ{n:Nat}(d:n≠0):mH n=UInt8.ofNat (48+n % 10)::mH (n / 10):=by rw[mH];simp[d]
theorem fE:∀(k n:Nat),n<10 ^ k->(mH n).length<=k
 |0,n,h=>by
  have:n=0:=by simpa using h
  subst this;rw[lJ];simp
 |k+1,n,h=>by
  by_cases d:n=0
  ·subst d;rw[lJ];simp
  ·rw[nQ d,List.length_cons];have:=fE k (n / 10) (by rw[Nat.pow_succ]at h;omega);omega
def C8:∀(n:Nat),n≠0->(mH n).reverse=Lib.decDigits n:=by
 intro n
 induction n using Nat.strongRecOn with
 |ind n ih=>
  intro e;rw[nQ e,Lib.decDigits,List.reverse_cons];by_cases d:n<10
  ·rw[dif_pos d];have:n / 10=0:=by omega
   rw[this,lJ,show n % 10=n by omega];rfl
  ·rw[dif_neg d,ih (n / 10) (by omega) (by omega)]
def eb(l:List UInt8)(k:Nat):List UInt8:=(List.range l.length).map λd=>if d<k∨l.length - k<=d then l.getD (l.length - 1 - d) 0 else l.getD d 0
def dU(l:List UInt8)(k:Nat):(eb l k).length=l.length:=by simp[eb]
def rj(l:List UInt8):eb l 0=l:=by
 apply List.ext_getElem
 ·simp[eb]
 ·intro e f d;simp[eb];rw[zm (by omega)];simp[zo d]
def qX(l:List UInt8):eb l (l.length / 2)=l.reverse:=by
 apply List.ext_getElem
 ·simp[eb]
 ·intro d g e;rw[List.getElem_reverse];simp only[eb,List.getElem_map,List.getElem_range];have f:d<l.length:=by simpa using e
  split
  ·rw[zd,zo (by omega)];rfl
  ·have:l.length - 1 - d=d:=by omega
   rw[zd,zo (by omega)];simp[this]
def iJ(l:List UInt8)(k j:Nat)(d:j<l.length):(eb l k)[j]?=some (if j<k∨l.length - k<=j then l.getD (l.length - 1 - j) 0 else l.getD j 0):=by
 simp[eb,d]
def ra(l:List UInt8)(k:Nat)(i:k<l.length / 2):
 ((eb l k).set k (l.getD (l.length - 1 - k) 0)).set (l.length - 1 - k) (l.getD k 0)=eb l (k+1):=by
 apply List.ext_getElem?;intro d;by_cases f:d<l.length
 ·rw[iJ l (k+1) d f];simp only[List.getElem?_set,zN,dU];by_cases h:l.length - 1 - k=d
  ·rw[zn h,zn (by omega),zn (by omega)];congr 2;omega
  ·rw[zm h];by_cases e:k=d
   ·rw[zn e,zn (by omega),zn (by omega),e]
   ·rw[zm e,iJ l k d f];congr 1;by_cases g:d<k∨l.length - k<=d
    ·rw[zn g,zn (by omega)]
    ·rw[zm g,zm (by omega)]
 ·rw[zM (by simp[dU];omega),zM (by rw[dU];omega)]
def gS.stored{f g c n:Nat}{w:World}{l:List UInt8}(e:gS f w (.slice (some ⟨g,0,none⟩) n c) l)(j:Nat)(u:UInt8):gS f (w.setCell ⟨g,j,none⟩ (.int .u8 u.toNat)) (.slice (some ⟨g,0,none⟩) n c) (l.set j u):=by
 unfold gS at *
 have h:n=l.length:=by
  rcases e.2 with⟨d,k⟩|⟨_,_,_,d,_⟩
  ·cases d
  ·injection d
 subst h;have:=(World.ownsRow.stored e j (.int .u8 u.toNat)).1;rw[zN];have i:(Lib.byteCells l).set j (.int .u8 u.toNat)=Lib.byteCells (l.set j u):=by simp[Lib.byteCells,List.map_set]
 rwa [i]at this
def gS.below{d g c n:Nat}{w:World}{l:List UInt8}(e:gS d w (.slice (some ⟨g,0,none⟩) n c) l)(j:Nat)(u:Value):Below d w (w.setCell ⟨g,j,none⟩ u):=
 (zZ _ _).setCell (e.lt g rfl).1 u
def gS.cell{f g c n:Nat}{w:World}{l:List UInt8}(e:gS f w (.slice (some ⟨g,0,none⟩) n c) l){j:Nat}{u:UInt8}(d:l[j]?=some u):w.cell? ⟨g,j,none⟩=some (.int .u8 u.toNat):=by
 have:=e.cells (g:=g) rfl j (.int .u8 u.toNat) (by simp[Lib.byteCells,d]);rw[Addr.add_lit,zP]at this;exact this
def JM{d:Nat}{w:World}(l:List UInt8)(f:d<=w.heap.size)(g:l.length<=9223372036854775807):gS d (w.alloc (.cells (Lib.byteCells l).toArray 5)) (.slice (some ⟨w.heap.size,0,none⟩) l.length l.length) l:=by
 have:=World.ownsRow_lit (base:=d) (e:=5) (size:=1) w (Lib.byteCells l).toArray l.length f (by simp only[maxLen];omega) (by simp[Lib.byteCells]);exact this
def uA(n:Nat)(d:n<208):Lib.byteCells [UInt8.ofNat (48+n)]=[.int .u8 (48+(n:Int))]:=by
 simp only[Lib.byteCells,List.map_cons,List.map_nil,UInt8.toNat_ofNat'];congr 2;have:(48+n) % 2 ^ 8=48+n:=Nat.mod_eq_of_lt (by omega);rw[this];omega
set_option maxRecDepth 200000 in
def wd(w:World)(d:Nat)(r:d<10 ^ 18):Calls prog 46 #[.int .i64 d] w λM w'=>M= .returned (.string ⟨(Lib.itoa d).toArray⟩)∧zz w w':=by
 by_cases J:d<10
 ·obtain⟨b,n⟩:∃b,b=UInt8.ofNat (48+d):=⟨_,rfl⟩
  have F:Hid (Lib.itoa d=[b]):=by
   show Lib.itoa d=_;rw[Lib.itoa_nonneg,Lib.decDigits_one J,n]
  have q:=JM (w:=w) [b] (zb _) (by simp);rw[n,uA d (by omega),<-n]at q;have G:(convert 113 9 (.slice (some ⟨w.heap.size,0,none⟩) 1 1)).run prog (w.alloc (.cells #[.int .u8 (48+(d:Int))] 5))=_:=vp q;have j:Hid (Below w.heap.size w (w.alloc (.cells #[.int .u8 (48+(d:Int))] 5))):=(zZ _ _).alloc (zb _) _;clear q n;go_enter func46,ntmps46;go_wp2;go_ret;exact⟨by rw[F.out];rfl,j⟩
 ·have W:(decide ((d:Int)<10))=false:=zg (by omega);go_enter func46,ntmps46;go_wp2_with fail;go_loopw [0,4] (λk b wr=> ∃(h:Nat) (l:List UInt8),k= .int .i64 h∧h<10 ^ 18∧Hid (gS w.heap.size wr b l)∧Hid (l++mH h=mH d)∧Hid (zz w wr)) (λk _ _=>(intOf k).toNat)
  case atStart=>exact⟨d,[],rfl,r,gS.nil _ _,rfl,zZ _ _⟩
  case round=>
   obtain⟨h,l,rfl,R,g,o,j⟩:=hrel;rename World=>w1;by_cases y:h=0
   ·subst y;have i:=g.out;have u:l=mH d:=by have:=o.out;rw[lJ,List.append_nil]at this;exact this
    rw[u]at i;obtain⟨e,m⟩:∃e,e=mH d:=⟨_,rfl⟩
    rw[<-m]at i;have X:e.length<=18:=by rw[m];exact fE 18 d r
    have H:0<e.length:=by rw[m,nQ (by omega)];simp
    have I:Hid (e.reverse=Lib.itoa d):=by show e.reverse=_;rw[m,Lib.itoa_nonneg];exact C8 d (by omega)
    obtain⟨aa,t,rfl⟩:=lR i;obtain⟨s,rfl,V,U⟩:=AQ i H;have z:=za i;clear i u m g o;go_wp2_with fail;go_loopw [6] (λk wr=> ∃f:Nat,k= .int .i64 f∧f<=e.length / 2∧Hid (gS w.heap.size wr (.slice (some ⟨s,0,none⟩) e.length t) (eb e f))∧Hid (zz w wr)) (λk _=>e.length / 2 - (intOf k).toNat)
    case atStart=>exact⟨0,rfl,zu _,by rw[rj];exact z,j⟩
    case round=>
     rename World=>w2;clear z j;obtain⟨f,rfl,T,g,j⟩:=hrel;by_cases D:f<e.length / 2
     ·have L:=g.cell (iJ e f f (by omega));have K:=g.cell (iJ e f (e.length - 1 - f) (by omega));rw[zm (by omega)]at L K;have Z:w2.frozen? ⟨s,f,none⟩=false:=World.ownsRow.frozenAt (n:=(eb e f).length) (cap:=t) (by have:=g.out;unfold gS at this;rw[dU]at this ⊢;exact this) f;have Y:w2.frozen? ⟨s,e.length - 1 - f,none⟩=false:=World.ownsRow.frozenAt (n:=(eb e f).length) (cap:=t) (by have:=g.out;unfold gS at this;rw[dU]at this ⊢;exact this) _;have p:=((g.stored f (e.getD (e.length - 1 - f) 0)).stored (e.length - 1 - f) (e.getD f 0))
      rw[ra e f D]at p;have v:=(j.trans (g.below f (.int .u8 (e.getD (e.length - 1 - f) 0).toNat))).trans ((g.stored f (e.getD (e.length - 1 - f) 0)).below (e.length - 1 - f) (.int .u8 (e.getD f 0).toNat));have N:=za p;have O:=za v;clear p v;go_wp2_with fail;go_roundw
      case rel=>exact⟨f+1,rfl,by omega,N.out,O⟩
      case measure=>simp[intOf];omega
     ·obtain rfl:f=e.length / 2:=by omega
      have i:=g.out;rw[qX,I.out]at i;have G:=vp i;clear g i;go_wp2_with fail;go_ret;exact⟨rfl,j⟩
   ·have A:=j.size;have S:l.length<=18:=by
     have:=o.out;have x:=fE 18 d r;rw[<-this]at x;simp at x;omega
    have B:Hid ((l++ [UInt8.ofNat (48+h % 10)])++mH (h / 10)=mH d):=by
     have:=o.out;rw[nQ y]at this;show _=_;rw[<-this];simp
    go_wp2_with (at_builtin;refine FN (.tmp 30) (.tmp 34) w.heap.size _ l [UInt8.ofNat (48+h % 10)] _ _ rfl rfl rfl g.out (by rw[uA _ (by omega)];simp) rfl (by simp;omega) A ?_;intro Q P C E);go_roundw
    case rel=>exact⟨h / 10,_,by go_num,by omega,C,B.out,j.trans E.below⟩
    case measure=>simp[intOf];omega
end
section
set_option maxRecDepth 200000
open Go.RowKit
def oX(w:World)(d:Nat)(V:0<d)(T:d<=9223372036854775808)(h:Int)(B:h= -(d:Int)):Calls prog 46 #[.int .i64 h] w λaa w'=>aa= .returned (.string ⟨(Lib.itoa h).toArray⟩)∧zz w w':=by
 have Q:decide ((0:Int)<=h)=false:=zg (by omega);have P:decide (h<(0:Int))=true:=ze (by omega);have X:Hid (Lib.itoa h=45::Lib.decDigits d):=by
  show Lib.itoa h=_;rw[B];exact Lib.itoa_neg d V
 have af:=za B;clear B;go_enter func46,ntmps46;go_wp2_with fail;go_loopw [0,4] (λk ad wr=> ∃(c:Nat) (f:List UInt8) (i:Int),k= .int .i64 i∧c<=9223372036854775808∧Hid (i= -(c:Int))∧Hid (gS w.heap.size wr ad f)∧Hid (f++mH c=mH d)∧Hid (zz w wr)) (λk _ _=>(-(intOf k)).toNat)
 case atStart=>exact⟨d,[],h,rfl,T,af,gS.nil _ _,rfl,zZ _ _⟩
 case round=>
  obtain⟨c,f,i,rfl,ar,y,e,A,g⟩:=hrel;rename World=>w1;by_cases O:c=0
  ·subst O;have S:i=0:=by have:=y.out;omega
   subst S;have p:=e.out;have E:f=mH d:=by have:=A.out;rw[lJ,List.append_nil]at this;exact this
   have K:f.length<=19:=by rw[E];exact fE 19 d (by omega)
   have t:=g.size;have M:Hid ((f++ [45]).reverse=Lib.itoa h):=by
    show _=_;rw[X.out,List.reverse_append,E,C8 d (by omega)];rfl
   clear A E p Q P;go_wp2_with (at_builtin;refine FN (.tmp 39) (.tmp 40) w.heap.size _ f [45] _ _ rfl rfl rfl e.out (by rfl) rfl (by simp;omega) t ?_;intro H r j n);obtain⟨b,x⟩:∃b,b=f++ [45]:=⟨_,rfl⟩
   rw[<-x]at j M;have W:0<b.length:=by rw[x];simp
   have a3:b.length<=20:=by rw[x];simp;omega
   obtain⟨bc,G,rfl⟩:=lR j;obtain⟨F,rfl,a1,a0⟩:=AQ j W;have R:=za j;have bb:Hid (zz w r):=g.trans n.below;clear j x e g n K;rename Hid (zz w r)=>g;go_loopw [6] (λk wr=> ∃a:Nat,k= .int .i64 a∧a<=b.length / 2∧Hid (gS w.heap.size wr (.slice (some ⟨F,0,none⟩) b.length G) (eb b a))∧Hid (zz w wr)) (λk _=>b.length / 2 - (intOf k).toNat)
   case atStart=>exact⟨0,rfl,zu _,by rw[rj];exact R,g⟩
   case round=>
    rename World=>w2;clear R g;obtain⟨a,rfl,av,e,g⟩:=hrel;by_cases U:a<b.length / 2
    ·have Z:=e.cell (iJ b a a (by omega));have Y:=e.cell (iJ b a (b.length - 1 - a) (by omega));rw[zm (by omega)]at Z Y;have Q:w2.frozen? ⟨F,a,none⟩=false:=World.ownsRow.frozenAt (n:=(eb b a).length) (cap:=G) (by have:=e.out;unfold gS at this;rw[dU]at this ⊢;exact this) a;have P:w2.frozen? ⟨F,b.length - 1 - a,none⟩=false:=World.ownsRow.frozenAt (n:=(eb b a).length) (cap:=G) (by have:=e.out;unfold gS at this;rw[dU]at this ⊢;exact this) _;have C:=((e.stored a (b.getD (b.length - 1 - a) 0)).stored (b.length - 1 - a) (b.getD a 0))
     rw[ra b a U]at C;have L:=(g.trans (e.below a (.int .u8 (b.getD (b.length - 1 - a) 0).toNat))).trans ((e.stored a (b.getD (b.length - 1 - a) 0)).below (b.length - 1 - a) (.int .u8 (b.getD a 0).toNat));have an:=za C;have ao:=za L;clear C L;go_wp2_with fail;go_roundw
     case rel=>exact⟨a+1,rfl,by omega,an.out,ao⟩
     case measure=>simp[intOf];omega
    ·obtain rfl:a=b.length / 2:=by omega
     have p:=e.out;rw[qX,M.out]at p;have a2:=vp p;clear e p;go_wp2_with fail;go_ret;exact⟨rfl,g⟩
  ·have t:=g.size;have K:f.length<=19:=by
    have:=A.out;have N:=fE 19 d (by omega);rw[<-this]at N;simp at N;omega
   have u:Hid ((f++ [UInt8.ofNat (48+c % 10)])++mH (c / 10)=mH d):=by
    have:=A.out;rw[nQ O]at this;show _=_;rw[<-this];simp
   have s:=y.out;have ba:(i==0)=false:=by simp;omega
   have a9:(i !=0)=true:=by simp;omega
   have ab:i.tdiv 10= -((c / 10:Nat):Int):=by rw[s,Int.neg_tdiv,Int.tdiv_eq_ediv_of_nonneg (Int.natCast_nonneg c)];omega
   have q:i.tmod 10= -((c % 10:Nat):Int):=by rw[s,Int.neg_tmod,Int.tmod_eq_emod_of_nonneg (Int.natCast_nonneg c)];omega
   obtain⟨m,v⟩:∃m,m= -((c / 10:Nat):Int):=⟨_,rfl⟩
   rw[<-v]at ab;have z:=za v;have a4:wrap64 m=m:=by unfold wrap64;omega
   by_cases D:c % 10=0
   ·rw[D]at q u;have a8:i.tmod 10=0:=by rw[q];rfl
    clear q s v D;go_wp2_with (at_builtin;refine FN (.tmp 30) (.tmp 34) w.heap.size _ f [UInt8.ofNat (48+0)] _ _ rfl rfl rfl e.out (by rfl) rfl (by simp;omega) t ?_;intro H r j n);go_roundw
    case rel=>exact⟨c / 10,_,m,by go_num,by omega,z,j,u.out,g.trans n.below⟩
    case measure=>have:=y.out;have:=z.out;simp[intOf];omega
   ·obtain⟨l,I⟩:∃l,l=c % 10:=⟨_,rfl⟩
    rw[<-I]at q u D;have ap:l<10:=by omega
    obtain⟨o,J⟩:∃o,o= -(l:Int):=⟨_,rfl⟩
    rw[<-J]at q;have a7:decide (o<0)=true:=ze (by omega);have a6:wrap64 (-o)=(l:Int):=by unfold wrap64;omega
    have a5:o<0:=by omega
    clear s v J I;go_wp2_with (at_builtin;refine FN (.tmp 30) (.tmp 34) w.heap.size _ f [UInt8.ofNat (48+l)] _ _ rfl rfl rfl e.out (by rw[uA _ (by omega)]) rfl (by simp;omega) t ?_;intro H r j n);go_roundw
    case rel=>exact⟨c / 10,_,m,by go_num,by omega,z,j,u.out,g.trans n.below⟩
    case measure=>have:=y.out;have:=z.out;simp[intOf];omega
end
section
open Go.RowKit Go.Proofs.PeepPlain
def Qa:(prog.info? 9).map (λi=>(i.zero,i.size,i.bytes))=some (some (.string ⟨#[]⟩),1,16):=by kernel_rfl
def Ka(l:List ByteArray):List Value:=l.map Value.string
def pi(Bo:Nat)(w:World)(v:Value)(l:List ByteArray):Prop:=w.ownsRow Bo 9 1 v l.length (Ka l)
section
variable{Bo:Nat}{w w':World}{v:Value}{l:List ByteArray}
def pi.nil(Bo:Nat)(w:World):pi Bo w (.slice none 0 0) []:=World.ownsRow_nil _ _ _ _
def pi.alloc(a:pi Bo w v l)(o:Obj):pi Bo (w.alloc o) v l:=zX a o
def pi.lt(b:pi Bo w v l){g:Nat}(a:v.ownBlock=some g):Bo<=g∧g<w.heap.size:=zW b g a
def pi.shape(a:pi Bo w v l):∃b c,v= .slice b l.length c:=lR a
def pi.lies{e:Option Addr}{n c:Nat}(a:pi Bo w (.slice e n c) l):bd w e (l.map Value.string):=λi=>by
 have j:0<l.length:=by simpa using i
 obtain⟨b,o,k,m,_⟩:=World.ownsRow.form a j;injection k with e1 e2 e3;subst e1;refine⟨b,0,rfl,(a.lt rfl).2,λg f h=>?_⟩;have d:=World.ownsRow.cells a (g:=b) rfl g f h;rw[Addr.add_lit,zP]at d;rw[zP];exact d
end
def Oh{d:Array Oper}{c:List Oper}{o:Oper}{a:Act}{g:Exit->Act->World->Prop}(s x:Operand)(Bo:Nat)(v:Value)(l:List ByteArray)(t:ByteArray)(w:World)(f:Array Value)
 (B:o.guard=none)(y:o.op= .call {callee:= .builtin .append,args:= #[s,x],argTypes:= #[23,23]})
 (r:a.eval s=v)(e:pi Bo w v l)(D:f= #[.string t])(n:a.eval x= .slice (some ⟨w.heap.size,0,none⟩) 1 1)
 (K:l.length<=2000001)(E:Bo<=w.heap.size)
 (F:∀b w',pi Bo w' b (l++ [t])->Below Bo w w'->wpList prog d g c (a.put o.dst b) w'):wpList prog d g (o::c) a (w.alloc (.cells f 9)):=by
 subst D;obtain⟨j,A,k,q,m⟩:=info_parts Qa;refine wpList_append_lies (w.alloc (.cells #[.string t] 9)) B s x 23 y Bo 9 j (.string ⟨#[]⟩) 1 16 underlying23 A k q m rfl (by decide) v l.length (Ka l) r (zX e _) ⟨w.heap.size,0,none⟩ 1 1 [.string t] n (by simp) ?_ (by simp[Value.oneCell']) (by omega) (by simp only[maxLen];omega) (by omega) (by simp;omega) _ rfl ?_
 ·intro i H p;have:=(ah.made w 9 [.string t]).cell i;rw[Addr.add_lit,zP,this];exact p
 ·intro M cap h u C L J;refine F _ h ?_ ?_
  ·show World.ownsRow _ _ _ _ _ _ _;rw[zw];have G:Ka (l++ [t])=Ka l++ [.string t]:=by simp[Ka]
   rw[G];exact u
  ·exact((zZ Bo w).alloc E _).grown C (by simp;omega) (λI z=>(e.lt z).1)
def pN{s:ByteArray}(a:Lib.indexB s kF= -1):aJ s=[s]:=by
 unfold aJ;exact Lib.splitB_miss _ _ _ _ a
def xG{s:ByteArray}{i:Nat}(a:Lib.indexB s kF=i):aJ s=s.extract 0 i::aJ (s.extract (i+1) s.size):=by
 unfold aJ;rw[Lib.countB_hit s kF i (by decide) a,Nat.add_comm,Lib.splitB_hit _ _ _ _ i a];rfl
def jp(c:UInt8)(l:List UInt8):Lib.index (c::l) [32]=if c=32 then 0 else if Lib.index l [32]== -1 then -1 else Lib.index l [32]+1:=by
 rw[Lib.index];by_cases a:c=32
 ·subst a;rfl
 ·have:([32]:List UInt8).isPrefixOf (c::l)=false:=by
   simp[List.isPrefixOf];exact λb=>a b.symm
  rw[this,zm (by simp),zm a]
theorem so:∀(l:List UInt8) (i:Nat),l[i]?=some 32->(∀j,j<i->l[j]?≠some 32)->Lib.index l [32]=i
 | [],i,h,_=>by simp at h
 |c::l,0,h,_=>by
  rw[jp,zn (by simpa using h)];rfl
 |c::l,i+1,h,hn=>by
  have a:=hn 0 (by omega);have:=so l i (by simpa using h) (λj b=>by have:=hn (j+1) (by omega);simpa using this);rw[jp,zm (by simpa using a),this,zm (by simp)];rfl
theorem uh:∀(l:List UInt8),(∀j:Nat,l[j]?≠some 32)->Lib.index l [32]= -1
 | [],_=>by decide
 |c::l,hn=>by
  have a:=hn 0;have:=uh l (λj=>by have:=hn (j+1);simpa using this);rw[jp,zm (by simpa using a),this];rfl
def Kh(s:ByteArray)(f j:Nat):(s.extract f s.size).data.toList[j]?=s.data.toList[f+j]?:=by
 rw[<-eO];simp
structure kS(s:ByteArray)(k f:Nat)(o:List ByteArray):Prop where
 low:f<=k
 clear_:∀j,f<=j->j<k->s.data.toList[j]?≠some 32
 all:aJ s=o++aJ (s.extract f s.size)
def yd(s:ByteArray):kS s 0 0 []where
 low:=zb _
 clear_:=λa _ b=>by omega
 all:=by
  have:s.extract 0 s.size=s:=by apply ByteArray.ext;simp
  rw[this]
  rfl
def EK{s:ByteArray}{k f:Nat}{o:List ByteArray}(b:kS s k f o)(d:k<s.size)(e:s[k]≠32):kS s (k+1) f o where
 low:=by have:=b.low;omega
 clear_:=λa g h=>by
  by_cases c:a=k
  ·subst c
   rw[fS s a d]
   exact λc=>e (zj c)
  ·exact b.clear_ a g (by omega)
 all:=b.all
def Dh{s:ByteArray}{k f:Nat}{o:List ByteArray}(a:kS s k f o)(c:k<s.size)(e:s[k]=32):kS s (k+1) (k+1) (o++ [s.extract f k])where
 low:=zb _
 clear_:=λb n m=>by omega
 all:=by
  have i:=a.low
  have d:Lib.indexB (s.extract f s.size) kF=((k - f:Nat):Int):=by
   refine so _ _ ?_ (λb j=>?_)
   ·rw[Kh,show f+(k - f)=k by omega,fS s k c,e]
   ·rw[Kh]
    exact a.clear_ _ (by omega) (by omega)
  rw[a.all,xG d,List.append_assoc]
  have h:(s.extract f s.size).extract 0 (k - f)=s.extract f k:=by
   apply ByteArray.ext
   simp[Array.extract_extract]
   congr 1
   omega
  have g:(s.extract f s.size).extract (k - f+1) (s.extract f s.size).size=s.extract (k+1) s.size:=by
   rw[<-eO,<-eO,<-eO]
   simp only[List.toList_toArray,List.drop_drop]
   rw[show f+(k - f+1)=k+1 by omega]
  rw[h,g]
  rfl
def Ch{s:ByteArray}{f:Nat}{o:List ByteArray}(a:kS s s.size f o):aJ s=o++ [s.extract f s.size]:=by
 rw[a.all,pN];refine uh _ (λb=>?_);rw[Kh];by_cases c:f+b<s.size
 ·exact a.clear_ _ (by omega) c
 ·rw[zM (by simp;omega)];simp
def xp{s:ByteArray}{k f:Nat}{o:List ByteArray}(b:kS s k f o):o.length<=s.size+1:=by
 have a:=zp List.length b.all;rw[zw,fO]at a;have:=kU s;omega
def IZ{k n:Nat}(b:k<=n+1)(a:n<=2000000):wrap64 ((k:Int)+1)=(k:Int)+1:=by unfold wrap64;omega
def FZ{o:List ByteArray}{n:Nat}(b:o.length<=n+1)(a:n<=2000000):o.length<=2000001:=by omega
def Rd{n k:Nat}(a:k<=n):n+2 - (intOf (.int .i64 ((k:Int)+1))).toNat<n+2 - (intOf (.int .i64 (k:Int))).toNat:=by simp[intOf];omega
def ov(l:List ByteArray)(w:World)(e:Ending)(w':World):Prop:=(∃a b,e= .returned (.slice a l.length b)∧bd w' a (l.map Value.string))∧zz w w'
def ov.mk_{l:List ByteArray}{w w':World}{a:Option Addr}{c:Nat}(d:bd w' a (l.map Value.string))(b:zz w w'):ov l w (.returned (.slice a l.length c)) w':=⟨⟨a,c,rfl,d⟩,b⟩
set_option maxRecDepth 20000 in
def GU(s:ByteArray)(w:World)(x:s.size<=2000000):Calls prog 117 #[.string s] w (ov (aJ s) w):=by
 have q:=za x;clear x;go_enter func117,ntmps117;go_wp2_with fail;go_loopw [3,4,5] (λv z n wr=> ∃(a c:Nat) (d:List ByteArray),n= .int .i64 a∧z= .int .i64 c∧a<=s.size+1∧Hid (a<=s.size->kS s a c d)∧Hid (s.size<a->d=aJ s)∧Hid (pi w.heap.size wr v d)∧Hid (zz w wr)) (λ_ _ n _=>s.size+2 - (intOf n).toNat)
 case atStart=>exact⟨0,0,[],rfl,rfl,zu _,za (λ_=>yd s),za (λm=>by omega),za (pi.nil _ _),za (zZ _ _)⟩
 case round=>
  rename World=>w2;obtain⟨a,c,d,rfl,rfl,D,y,I,i,e⟩:=hrel;have o:wrap64 ((a:Int)+1)=(a:Int)+1:=IZ D q.out;by_cases j:a<s.size
  ·have b:=y.out (by omega);have E:c<=a:=b.low;have C:(a:Int)<=s.size:=by omega
   have J:((a:Int)==(s.size:Int))=false:=zh.2 (by omega);have t:=za (xp b);by_cases k:s[a]=32
   ·have G:s[a].toNat=32:=by rw[k];rfl
    have h:=za (Dh b j k);have p:=za e.size;clear b;go_wp2_with (at_builtin;refine Oh (.tmp 22) (.tmp 27) w.heap.size _ d (s.extract c a) _ _ rfl rfl rfl i.out rfl rfl (FZ t.out q.out) p.out ?_;intro B A f g;have r:=za f;have u:=za (e.trans g);clear f g);go_roundw
    case rel=>exact⟨a+1,a+1,_,by go_num,by go_num,by omega,za (λ_=>h.out),za (λm=>by omega),r,u⟩
    case measure=>rw[o];exact Rd (Nat.le_of_lt j)
   ·have G:¬s[a].toNat=32:=λH=>k (UInt8.toNat_inj.1 H);have K:((s[a].toNat:Int)==32)=false:=zh.2 (by omega);have h:=za (EK b j k);clear b;go_wp2_with fail;go_roundw
    case rel=>exact⟨a+1,c,d,by go_num,rfl,by omega,za (λ_=>h.out),za (λm=>by omega),i,e⟩
    case measure=>rw[o];exact Rd (Nat.le_of_lt j)
  ·by_cases F:a=s.size
   ·subst F;have b:=y.out (zb _);have E:c<=s.size:=b.low;have t:=za (xp b);have h:=za (Ch b);have p:=za e.size;clear b;go_wp2_with (at_builtin;refine Oh (.tmp 22) (.tmp 27) w.heap.size _ d (s.extract c s.size) _ _ rfl rfl rfl i.out rfl rfl (FZ t.out q.out) p.out ?_;intro B A f g;have r:=za f;have u:=za (e.trans g);clear f g);go_roundw
    case rel=>exact⟨s.size+1,s.size+1,_,by go_num,by go_num,by omega,za (λm=>by omega),za (λm=>h.symm),r,u⟩
    case measure=>rw[o];exact Rd (zb _)
   ·obtain rfl:a=s.size+1:=by omega
    obtain rfl:=I.out (by omega);have C:¬((s.size:Int)+1)<=s.size:=by omega
    obtain⟨M,L,rfl⟩:=i.shape;go_wp2_with fail;go_ret;exact ov.mk_ i.lies e.out
end
section
open Go.RowKit Go.Proofs.PeepPlain
def jt(l:List ByteArray)(u k:Nat):Prop:=bF (l.getD k ByteArray.empty)=true∧∀a,u<=a->a<k->l.getD a ByteArray.empty≠l.getD k ByteArray.empty
def kr(l:List ByteArray)(u n:Nat):Prop:=∀a,a<n->jt l u a
instance(l:List ByteArray)(u k:Nat):Decidable (∀j,u<=j->j<k->l.getD j ByteArray.empty≠l.getD k ByteArray.empty):=
 decidable_of_iff (∀j,j<k->u<=j->l.getD j ByteArray.empty≠l.getD k ByteArray.empty) ⟨λh j a b=>h j b a,λh j b a=>h j a b⟩
instance(l:List ByteArray)(u k:Nat):Decidable (jt l u k):=inferInstanceAs (Decidable (_∧_))
instance(l:List ByteArray)(u n:Nat):Decidable (kr l u n):=inferInstanceAs (Decidable (∀k,k<n->jt l u k))
def ik(s:ByteArray)(n:Int)(u:Nat):Bool:=decide (s.size<=2000)&&(decide (((aJ s).length:Int)=n)&&decide (kr (aJ s) u (aJ s).length))
def Bb{s:ByteArray}{n:Int}{u:Nat}(a:¬s.size<=2000):ik s n u=false:=by
 unfold ik;rw[zg a,zG]
def yX{s:ByteArray}{n:Int}{u:Nat}(a:¬((aJ s).length:Int)=n):ik s n u=false:=by
 unfold ik;rw[zg a,zG,zF]
def GX{s:ByteArray}{n:Int}{u k:Nat}(a:k<(aJ s).length)(c:¬jt (aJ s) u k):ik s n u=false:=by
 unfold ik;rw[zg (p:=kr (aJ s) u (aJ s).length) (λb=>c (b k a)),zF,zF]
def Ef{s:ByteArray}{n:Int}{u:Nat}(c:s.size<=2000)(b:((aJ s).length:Int)=n)(a:kr (aJ s) u (aJ s).length):ik s n u=true:=by
 unfold ik;rw[ze c,ze b,ze a];rfl
def yG{l:List ByteArray}{u n:Nat}(c:kr l u n)(b:jt l u n):kr l u (n+1):=λa e=>by
 by_cases d:a=n
 ·subst d;exact b
 ·exact c a (by omega)
def qx(l:List ByteArray)(u k j:Nat):Prop:=∀a,u<=a->a<j->l.getD a ByteArray.empty≠l.getD k ByteArray.empty
def wk{l:List ByteArray}{u k j:Nat}(d:qx l u k j)(b:l.getD j ByteArray.empty≠l.getD k ByteArray.empty):qx l u k (j+1):=λa c f=>by
 by_cases e:a=j
 ·subst e;exact b
 ·exact d a c (by omega)
def Im{l:List ByteArray}{u k j:Nat}(b:bF (l.getD k ByteArray.empty)=true)(d:qx l u k j)(e:k<=j):jt l u k:=⟨b,λa c f=>d a c (by omega)⟩
def Pi{l:List ByteArray}{u k j:Nat}(c:u<=j)(b:j<k)(d:l.getD j ByteArray.empty=l.getD k ByteArray.empty):¬jt l u k:=λa=>a.2 j c b d
def Fx(s:ByteArray)(k:Nat)(a:s.size<=2000):((aJ s).getD k ByteArray.empty).size<=2000000:=by
 have:=sz (s:=s) (k:=k);omega
def Iy(s:ByteArray):0<(aJ s).length:=by rw[fO];omega
def Jw(s:ByteArray)(a:s.size<=2000):(aJ s).length<=2001:=by rw[fO];have:=kU s;omega
set_option maxRecDepth 20000 in
def xN(s:ByteArray)(n:Int)(u:Nat)(w:World)(P:s.size<=2000000)(ao:u<=2000):Calls prog 83 #[.string s,.int .i64 n,.int .i64 u] w λe w'=>e= .returned (.bool (ik s n u))∧zz w w':=by
 have Z:=za (GU s w P);have bc:=za (λan w ap=>lP an w ap);by_cases f:s.size<=2000
 ·have E:¬(2000:Int)<(s.size:Int):=by omega
  have b3:=za f;have aa:=za (λa=>Fx s a f);have ab:=za (Iy s);have Q:=Jw s f;have M:=za (λ(a:Nat) S c=>GX (s:=s) (n:=n) (u:=u) (k:=a) S c);have A:=za (λc=>yX (s:=s) (n:=n) (u:=u) c);have v:=za (λE a2=>Ef (s:=s) (n:=n) (u:=u) f E a2);obtain⟨O,X⟩:∃O,Hid (ik s n u=O):=⟨_,za rfl⟩
  rw[X.out]at M A v ⊢
  generalize aJ s=l at Z aa ab Q M A v;clear P f X;go_enter func83,ntmps83;go_wp2_with (go_at_call 117;refine Z.out.mono ?_);rintro V N ⟨⟨b4,bt,rfl,R⟩,d⟩;have be:=za R;have h:=za d;clear R d;obtain⟨F,C,rfl,T,U⟩:=st be.out ab.out;have K:=za U;have J:=za T;clear U T;by_cases j:(l.length:Int)=n
  ·subst j;have a4:=za (v.out rfl);clear v A;have b2:=za ao;have bp:=Q;go_wp2_with fail;go_loopw [6,8,9,10] (λB g bi bj wr=> ∃a:Nat,g= .int .i64 a∧a<=l.length∧Hid (kr l u a)∧B= .bool false∧Hid (zz N wr)) (λ_ g _ _ _=>l.length - (intOf g).toNat)
   case atStart=>exact⟨0,rfl,zu _,za (λb c=>by omega),rfl,za (zZ _ _)⟩
   case round=>
    rename World=>w3;obtain⟨a,rfl,S,ad,rfl,i⟩:=hrel;by_cases D:a<l.length
    ·have k:=(i.cell (p:=⟨F,C+a,none⟩) J.out).trans (K.out a D);have z:=za (λw=>bc.out (l.getD a ByteArray.empty) w (aa.out a));have x:=za (λc=>M.out a D c);have ba:=za (λc=>yG ad.out c)
     cases d:bF (l.getD a ByteArray.empty)with
     |false=>
      have o:=za d;have H:=za (x.out (λc=>by rw[c.1]at d;cases d));generalize l.getD a ByteArray.empty=r at k z o;clear d;go_wp2_with (go_at_call 19;refine(z.out _).mono ?_;rw[o.out];rintro V af ⟨rfl,m⟩;have L:=za (ac i.out m i.size);clear m);go_ret;exact⟨ag H.out,h.trans (az L.out h.size)⟩
     |true=>
      have o:=za d;have a5:=za (λ(b:Nat)=>Im (l:=l) (u:=u) (k:=a) (j:=b) d);have a3:=za (λ(b:Nat) h1 f c=>x.out (Pi (l:=l) (u:=u) (k:=a) (j:=b) h1 f c));have a9:=za (λ(b:Nat) c j=>wk (l:=l) (u:=u) (k:=a) (j:=b) c j);obtain⟨r,W⟩:∃r,Hid (l.getD a ByteArray.empty=r):=⟨_,za rfl⟩
      rw[W.out]at k z o;clear d;go_wp2_with (go_at_call 19;refine(z.out _).mono ?_;rw[o.out];rintro V af ⟨rfl,m⟩;have L:=za (ac i.out m i.size);clear m);clear k;go_loopw [6,10] (λB g wr=> ∃b:Nat,g= .int .i64 b∧u<=b∧(b<=a∨b=u)∧Hid (qx l u a b)∧B= .bool false∧Hid (zz N wr)) (λ_ g _=>a - (intOf g).toNat)
      case atStart=>exact⟨u,rfl,zb _,.inr rfl,za (λg b1 b0=>by omega),rfl,L⟩
      case round=>
       rename World=>w5;obtain⟨b,rfl,a0,bq,Y,rfl,q⟩:=hrel;by_cases av:b<a
       ·have ar:b<l.length:=by omega
        have a1:=(q.cell (p:=⟨F,C+b,none⟩) J.out).trans (K.out b ar);have k:=(q.cell (p:=⟨F,C+a,none⟩) J.out).trans (K.out a D);have G:=za (a3.out b a0 av);have I:=za (a9.out b Y.out);rw[W.out]at k G I;generalize l.getD b ByteArray.empty=y at a1 G I;by_cases t:y=r
        ·have H:=za (G.out t);subst t;have bk:(y.toList==y.toList)=true:=by simp
         go_wp2_with fail;go_quiet (fail);go_wp2_with fail;go_ret;exact⟨ag H.out,h.trans (az (ae q.out nq) h.size)⟩
        ·have bl:=yY t;have a8:=za (I.out t);go_wp2_with fail;go_quiet (fail);go_wp2_with fail;go_roundw
         case rel=>exact⟨b+1,by go_num,by omega,by omega,a8,rfl,za (ae q.out nq)⟩
         case measure=>simp[intOf];omega
       ·have bb:=za (ba.out (a5.out b Y.out (by omega)));go_wp2_with fail;go_roundw
        case rel=>exact⟨a+1,by go_num,by omega,bb,rfl,q⟩
        case measure=>simp[intOf];omega
    ·obtain rfl:a=l.length:=by omega
     have a6:=za (a4.out ad.out);go_wp2_with fail;go_ret;exact⟨ag a6.out,h.trans (az i.out h.size)⟩
  ·have bo:((l.length:Int) !=n)=true:=zO.2 j;have a7:=za (A.out j);go_wp2_with fail;go_ret;exact⟨ag a7.out,h⟩
 ·have x:=za (Bb (n:=n) (u:=u) f);have E:(2000:Int)<(s.size:Int):=by omega
  clear f;go_enter func83,ntmps83;go_wp2_with fail;go_ret;exact⟨ag x.out,zZ _ _⟩
end
section
open Go.RowKit Go.Proofs.PeepPlain
theorem rB:∀(l:List UInt8), -1<=Lib.index l [32]
 | []=>by decide
 |c::l=>by
  have:=rB l;rw[jp];split
  ·decide
  ·split
   ·decide
   ·omega
theorem pO:∀(l:List UInt8),Lib.index l [32]<l.length
 | []=>by decide
 |c::l=>by
  have:=pO l;rw[jp,List.length_cons];split
  ·omega
  ·split
   ·omega
   ·omega
def Hj:∀(n:Nat) (s:ByteArray),s.size<=n->((aJ s).map λt=>t.size+1).sum=s.size+1:=by
 intro n
 induction n with
 |zero=>
  intro s b;have f:=pO s.data.toList;have d:=rB s.data.toList;have g:s.data.toList.length=s.size:=by simp
  rw[pN (show Lib.index s.data.toList [32]= -1 by omega)];simp
 |succ n ih=>
  intro s b;have f:=pO s.data.toList;have d:=rB s.data.toList;have g:s.data.toList.length=s.size:=by simp
  by_cases c:Lib.index s.data.toList [32]= -1
  ·rw[pN c];simp
  ·obtain⟨a,e⟩:∃a:Nat,Lib.index s.data.toList [32]=a:=⟨(Lib.index s.data.toList [32]).toNat,by omega⟩
   rw[xG (i:=a) e,List.map_cons,List.sum_cons,ih _ (by simp[ByteArray.size_extract];omega)];simp[ByteArray.size_extract];omega
def IS(l:List ByteArray)(a:∀t∈l,t.size<=40):(l.map λt=>t.size+1).sum<=41 * l.length:=by
 induction l with
 |nil=>simp
 |cons t l ih=>
  have:=a t (by simp);have:=ih (λb c=>a b (by simp[c]));simp only[List.map_cons,List.sum_cons,List.length_cons];omega
def Bq{t:ByteArray}(a:bF t=true):t.size<=40:=by
 apply Classical.byContradiction;intro b;rw[lr (by omega)]at a
 cases a
def sJ{s:ByteArray}(c:∀k,k<(aJ s).length->bF ((aJ s).getD k ByteArray.empty)=true)(e:(aJ s).length<=31):s.size<=2000:=by
 have g:=Hj s.size s (zb _);have f:=IS (aJ s) (λd b=>by
  obtain⟨k,a,rfl⟩:=zQ b;have:=c k a;rw[zd,zo a]at this;exact Bq this)
 omega
def oZ(l:List ByteArray)(k:Nat)(e:k<l.length)(x:ByteArray):x∈(l.take k).drop 1↔ ∃j,1<=j∧j<k∧l.getD j ByteArray.empty=x:=by
 constructor
 ·intro d;obtain⟨b,c,a⟩:=zQ d;simp only[List.length_drop,zR]at c;refine⟨b+1,by omega,by omega,?_⟩;rw[zd,zo (by omega)];rw[<-a];simp[List.getElem_drop,List.getElem_take,Nat.add_comm]
 ·rintro⟨j,g,f,a⟩;rw[zd,zo (by omega)]at a;refine List.mem_iff_getElem.2 ⟨j - 1,by simp only[List.length_drop,zR];omega,?_⟩;rw[<-a];simp only[List.getElem_drop,List.getElem_take,Option.getD_some];congr 1;omega
def jT{l:List ByteArray}{k:Nat}(c:k<l.length):fz l k=true↔jt l 1 k:=by
 unfold fz jt;rw[zy,decide_eq_true_eq];have j:(¬1<pY (l.getD k ByteArray.empty) ((l.take (k+1)).drop 1))↔ ∀a,1<=a->a<k->l.getD a ByteArray.empty≠l.getD k ByteArray.empty:=by
  by_cases n:k=0
  ·subst n;constructor
   ·intro _ a d h;omega
   ·intro _;have:pY (l.getD 0 ByteArray.empty) ((l.take (0+1)).drop 1)<=((l.take (0+1)).drop 1).length:=uw _ _;simp only[List.length_drop,zR]at this;omega
  ·rw[nA c (by omega),nk,zn rfl];have d:pY (l.getD k ByteArray.empty) ((l.take k).drop 1)=0↔ ∀b∈(l.take k).drop 1,¬b=l.getD k ByteArray.empty:=by
    unfold pY;rw[List.countP_eq_zero];simp
   constructor
   ·intro i a g f e;have h:=d.1 (by omega) _ ((oZ l k c _).2 ⟨a,g,f,rfl⟩);exact h e
   ·intro i;have:=d.2 (λb m e=>by
     obtain⟨a,g,f,o⟩:=(oZ l k c b).1 m;exact i a g f (o.trans e))
    omega
 rw[j]
def xV{s:ByteArray}{n:Int}(f:n<=31):ik s n 1=dY s n:=by
 rw[zA];unfold ik dY;simp only[zy,decide_eq_true_eq];constructor
 ·rintro⟨_,c,e⟩;exact⟨λb a=>(jT a).2 (e b a),c⟩
 ·rintro⟨d,c⟩;refine⟨sJ (λb a=>((jT a).1 (d b a)).1) (by omega),c,λb a=>(jT a).1 (d b a)⟩
def Id{s:ByteArray}:ik s 2 2=dY s 2:=by
 rw[zA];unfold ik dY;simp only[zy,decide_eq_true_eq];have g:∀a,(aJ s).length=2->a<(aJ s).length->(jt (aJ s) 2 a↔jt (aJ s) 1 a):=λa c b=>by
  unfold jt;constructor
  ·rintro⟨f,_⟩;exact⟨f,λh d e=>by omega⟩
  ·rintro⟨f,_⟩;exact⟨f,λh d e=>by omega⟩
 constructor
 ·rintro⟨_,c,e⟩;exact⟨λa b=>(jT b).2 ((g a (by omega) b).1 (e a b)),c⟩
 ·rintro⟨d,c⟩;refine⟨sJ (λa b=>((jT b).1 (d a b)).1) (by omega),c,λa b=>(g a (by omega) b).2 ((jT b).1 (d a b))⟩
end
end Go.Proofs.YtmecmlpoallpcaaGreatDoor

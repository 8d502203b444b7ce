/- Parts of the proof: Fine Recs StkP StkW StkX StkQ -/
import Derived.Test.YtmecmlpoallpcaaGreatDoorM09
import Derived.Test.YtmecmlpoallpcaaGreatDoorM02
import Derived.Test.YtmecmlpoallpcaaGreatDoorM03
import Derived.Deep.QuietTactic
import Derived.BigQuiet
import Derived.RegionTactic
import Derived.IntWalk
import Derived.Deep.RegionHeld3
import Derived.Deep.RegionLaw
import Derived.Deep.DeepCutAuto
set_option linter.all false
set_option maxHeartbeats 8000000
namespace Go.Proofs.YtmecmlpoallpcaaGreatDoor
open Go.Proofs.Tryz
section
open Go.RowKit Go.Proofs.PeepPlain
def cM(x:au):Bool:=decide (x.op=26)&&(decide (x.b=1)||(decide (x.a=2)&&(decide (x.b=2)||decide (x.b=3))))
def fp(l:List au)(k:Nat)(x:au):Bool:=decide (al x.op)&&decide (x.a<=k)&&decide (PeepPlain.aq l x.a.toNat≠1)&&decide (PeepPlain.aq l x.a.toNat≠2)
def cN(l:List au)(k:Nat)(x:au):Bool:=decide ((k:Int)<l.length - 1)||decide (x.op=50)||decide (x.op=34)
def bW(fs:List Fn)(gl:Nat)(f k:Nat):Bool:=
 let o:=fs.getD f default
 let x:=o.code.getD k default
 !(aj x.op).word.toList.isEmpty&&decide (0<=x.pos)&&decide (x.pos<=60000)&&ax fs gl f x&&de x&&(decide (x.b=0)||cM x)&&!fp o.code k x&&cN o.code k x
def jN{w c:World}(b a v0 v1 v2 v3 v4:Value)(d:Below ((w.alloc (.cells #[b,a] 25)).alloc (.cells #[v0,v1,v2,v3,v4] 50)).heap.size ((w.alloc (.cells #[b,a] 25)).alloc (.cells #[v0,v1,v2,v3,v4] 50)) c):
 zz w c∧ah c w.heap.size 25 [b,a]∧ah c (w.heap.size+1) 50 [v0,v1,v2,v3,v4]:=by
 have e:(w.alloc (.cells #[b,a] 25)).heap.size=w.heap.size+1:=by show(w.heap.push _).size=_;rw[Array.size_push]
 have i:((w.alloc (.cells #[b,a] 25)).alloc (.cells #[v0,v1,v2,v3,v4] 50)).heap.size=w.heap.size+1+1:=by show((w.alloc (.cells #[b,a] 25)).heap.push _).size=_;rw[Array.size_push,e]
 have h:ah (w.alloc (.cells #[b,a] 25)) w.heap.size 25 [b,a]:=ah.made w 25 [b,a];have f:ah ((w.alloc (.cells #[b,a] 25)).alloc (.cells #[v0,v1,v2,v3,v4] 50)) (w.heap.size+1) 50 [v0,v1,v2,v3,v4]:=e ▸ ah.made (w.alloc (.cells #[b,a] 25)) 50 [v0,v1,v2,v3,v4];have g:=h.alloc (.cells #[v0,v1,v2,v3,v4] 50);exact⟨ac ((below1 w _).alloc (by rw[e];omega) _) d (by rw[i];omega),g.below d g.lt,f.below d f.lt⟩
def ah.next{w b:World}{a:Obj}{g:Nat}{t:TypeId}{d:List Value}(c:ah w g t d)(e:Below (w.alloc a).heap.size (w.alloc a) b):ah b g t d:=(c.alloc a).below e (c.alloc a).lt
def j7{B:Nat}{w a c:World}{b:Obj}(f:Below B w a)(e:B<=a.heap.size)(d:Below (a.alloc b).heap.size (a.alloc b) c):Below B w c:=ac (f.alloc e b) d (by show B<=(a.heap.push b).size;rw[Array.size_push];omega)
set_option maxRecDepth 20000 in
def Is(fs:List Fn)(b3 GA:Option Addr)(fc gl gc f k:Nat)(w:World)(o:Fn)(x:au)(G:bD w b3 fs)(b2:aX w)(N:f<fs.length)(av:fs[f]=o)(ca:fs.length<=100000)(cb:k<o.code.length)(ap:o.code[k]=x)(d7:o.code.length<=200000)(ar:x.text.size<=2000000)
 (a7:(aj x.op).word.toList.isEmpty=false)(ci:0<=x.pos)(ch:x.pos<=60000)(a6:ax fs gl f x=true)(a5:de x=true)(v:al x.op->0<=x.a∧x.a<o.code.length)(bk:Bool)(c:((decide (x.b=0)||cM x)&&!fp o.code k x&&cN o.code k x)=bk):
 Calls prog 40 #[.agg #[.slice b3 fs.length fc,.slice GA gl gc],.int .i64 f,.int .i64 k] w λe w'=>e= .returned (.bool bk)∧zz w w':=by
 obtain⟨X,P⟩:∃X,aj x.op=X:=⟨_,rfl⟩
 have cc:=bU x.op X P;rw[P]at a7;have cC:=za G;have b1:=za (show bX w o.CA o.code from G.code o (av ▸ zk N));obtain⟨b,dC,rfl,d8,a2⟩:=G.at_ (by omega);obtain⟨bc,bb,ba,a9,a8,Q⟩:=a2 f N;rw[av]at bc bb ba a9 a8 Q;obtain⟨bj,Z,cg,a4,M⟩:=b1.at_ (by omega);rw[cg]at Q;obtain⟨ao,an,af,ad,ab⟩:=M k cb;rw[ap]at ao an af ad ab;have ct:=za M;have cv:=za b2;have cp:=za ar;have bt:=za c;have cs:=za v;clear c v;have b0:=za a6;have bq:=za a5;have d1:¬x.pos<0:=by omega
 have d0:¬60000<x.pos:=by omega
 clear G a2 M b2 ar ci ch a6 a5 ap b1 bc bb ba a9 a8 P;go_enter func40,ntmps40;go_wp2_with (first
  |(go_at_call 70;refine(cc _).mono ?_;rintro R ds ⟨rfl,s⟩;go_must (obtain⟨a3,l,g⟩:=jN _ _ _ _ _ _ _ s);have b9:=g.lt;have b8:=l.lt;have c0:=l.cell 0;have c1:=l.cell 1;have U:=g.cell 0;have T:=g.cell 1;have S:=g.cell 2;have co:=g.cell 3;have cn:=g.cell 4;have W:=za a3;have bp:=za l;have bo:=za g;clear s a3 l g)
  |(go_at_call 71;go_must (refine(lv fs _ GA fc gl gc f x _ (cC.below (W.alloc (by omega) _)) N ca).mono ?_);rw[b0.out];rintro R dn ⟨rfl,j⟩;have g:=bo.next j;have l:=bp.next j;have b6:=g.lt;have b7:=l.lt;have bi:=g.cell 0;have be:=g.cell 1;have cl:=g.cell 2;have ck:=g.cell 3;have cj:=g.cell 4;have I:=za (j7 W.out (by omega) j);have V:=za g;clear c0 c1 U T S co cn j l g)
  |(go_at_call 72;go_must (refine(xi x _ cp.out (cv.below I.out)).mono ?_)))
 rw[bq.out];rintro R dl ⟨rfl,O⟩;have g:=V.below O V.lt;have U:=g.cell 0;have T:=g.cell 1;have S:=g.cell 2;have d2:=g.lt;have C:=za (ac I.out O I.size);have bl:=za g;clear bi be cl ck cj O g bq b0 b6 b7 b9 b8 bp bo V I W ao an af ad ab Q a7;have c:=bt.out;clear bt;refine dite (x.op=26) (λr=>?c44) (λr=>?c45)
 case' c44=>
  have B:=za (show decide (al (26:Int))=false from rfl);have y:fp o.code k x=false:=by unfold fp;rw[show decide (al x.op)=false from by rw[r];rfl];rfl
  have a0:cN o.code k x=decide ((k:Int)<o.code.length - 1):=by unfold cN;rw[r];simp
  rw[y,a0,Bool.not_false,Bool.and_true]at c;clear y a0;refine dite (x.b=1) (λt=>?c20) (λt=>?c21)
  case' c20=>
   have h:(decide (x.b=0)||cM x)=true:=by unfold cM;rw[r,t];simp
   rw[h]at c;clear h;rw[Bool.true_and]at c;refine dite ((k:Int)<o.code.length - 1) (λd=>?c0) (λd=>?c1)
   case' c0=>
    rw[ze d]at c
   case' c1=>
    rw[zg d]at c
  case' c21=>
   refine dite (x.a=2) (λF=>?c18) (λF=>?c19)
   case' c18=>
    refine dite (x.b=2) (λs=>?c12) (λs=>?c13)
    case' c12=>
     have h:(decide (x.b=0)||cM x)=true:=by unfold cM;rw[r,s,F];simp
     rw[h]at c;clear h;rw[Bool.true_and]at c;refine dite ((k:Int)<o.code.length - 1) (λd=>?c2) (λd=>?c3)
     case' c2=>
      rw[ze d]at c
     case' c3=>
      rw[zg d]at c
    case' c13=>
     refine dite (x.b=3) (λj=>?c10) (λj=>?c11)
     case' c10=>
      have h:(decide (x.b=0)||cM x)=true:=by unfold cM;rw[r,j,F];simp
      rw[h]at c;clear h;rw[Bool.true_and]at c;refine dite ((k:Int)<o.code.length - 1) (λd=>?c4) (λd=>?c5)
      case' c4=>
       rw[ze d]at c
      case' c5=>
       rw[zg d]at c
     case' c11=>
      refine dite (x.b=0) (λi=>?c8) (λi=>?c9)
      case' c8=>
       have h:(decide (x.b=0)||cM x)=true:=by unfold cM;rw[i];simp
       rw[h]at c;clear h;rw[Bool.true_and]at c;refine dite ((k:Int)<o.code.length - 1) (λd=>?c6) (λd=>?c7)
       case' c6=>
        rw[ze d]at c
       case' c7=>
        rw[zg d]at c
      case' c9=>
       have b4:(x.b==1)=false:=zh.2 t;have dB:(x.b==2)=false:=zh.2 s;have dA:(x.b==3)=false:=zh.2 j;have Y:(x.b !=0)=true:=zO.2 i;have h:(decide (x.b=0)||cM x)=false:=by unfold cM;simp[i,t,s,j]
       rw[h]at c;clear h;rw[zG]at c
   case' c19=>
    refine dite (x.b=0) (λi=>?c16) (λi=>?c17)
    case' c16=>
     have h:(decide (x.b=0)||cM x)=true:=by unfold cM;rw[i];simp
     rw[h]at c;clear h;rw[Bool.true_and]at c;refine dite ((k:Int)<o.code.length - 1) (λd=>?c14) (λd=>?c15)
     case' c14=>
      rw[ze d]at c
     case' c15=>
      rw[zg d]at c
    case' c17=>
     have b4:(x.b==1)=false:=zh.2 t;have Y:(x.b !=0)=true:=zO.2 i;have h:(decide (x.b=0)||cM x)=false:=by unfold cM;simp[i,t,F]
     rw[h]at c;clear h;rw[zG]at c
 case' c45=>
  have h:(decide (x.b=0)||cM x)=decide (x.b=0):=by unfold cM;simp[r]
  rw[h]at c;clear h;refine dite (x.b=0) (λi=>?c42) (λi=>?c43)
  case' c42=>
   rw[ze i,Bool.true_and]at c;refine dite (al x.op) (λn=>?c40) (λn=>?c41)
   case' c40=>
    have B:=za (ze n);obtain⟨cf,cd⟩:=cs.out n;obtain⟨m,v⟩:∃b5:Nat,x.a=(b5:Int):=⟨x.a.toNat,by omega⟩
    have a1:m<o.code.length:=by omega
    have d6:(m:Int)<(o.code.length:Int):=by omega
    have aa:=(ct.out m a1).1;have K:PeepPlain.aq o.code x.a.toNat=o.code[m].op:=by rw[v,zV];unfold PeepPlain.aq;rw[zd,zo a1];rfl
    unfold fp at c;rw[ze n,K,Bool.true_and,v]at c;generalize o.code[m].op=q at aa c K;clear K n cf cd;refine dite ((m:Int)<=(k:Int)) (λL=>?c32) (λL=>?c33)
    case' c32=>
     rw[ze L,Bool.true_and]at c;refine dite (q=1) (λu=>?c28) (λu=>?c29)
     case' c28=>
      rw[u,show decide ((1:Int)≠1)=false from rfl,zG,Bool.not_false,Bool.true_and]at c;unfold cN at c;have d5:(q !=1)=false:=by rw[u];rfl
      refine dite ((k:Int)<o.code.length - 1) (λd=>?c22) (λd=>?c23)
      case' c22=>
       rw[ze d]at c
      case' c23=>
       rw[zg d]at c
     case' c29=>
      refine dite (q=2) (λD=>?c26) (λD=>?c27)
      case' c26=>
       rw[D,show decide ((2:Int)≠2)=false from rfl,zF,Bool.not_false,Bool.true_and]at c;unfold cN at c;refine dite ((k:Int)<o.code.length - 1) (λd=>?c24) (λd=>?c25)
       case' c24=>
        rw[ze d]at c
       case' c25=>
        rw[zg d]at c
      case' c27=>
       rw[ze u,ze D,Bool.true_and,Bool.not_true,zG]at c;have d4:(q !=1)=true:=zO.2 u;have d3:(q !=2)=true:=zO.2 D
    case' c33=>
     rw[zg L,zG,zG,Bool.not_false,Bool.true_and]at c;unfold cN at c;refine dite ((k:Int)<o.code.length - 1) (λd=>?c30) (λd=>?c31)
     case' c30=>
      rw[ze d]at c
     case' c31=>
      rw[zg d]at c
   case' c41=>
    have B:=za (zg n);have y:fp o.code k x=false:=by unfold fp;rw[zg n];rfl
    rw[y,Bool.not_false,Bool.true_and]at c;clear y n;unfold cN at c;refine dite ((k:Int)<o.code.length - 1) (λd=>?c38) (λd=>?c39)
    case' c38=>
     rw[ze d,Bool.true_or,Bool.true_or]at c
    case' c39=>
     rw[zg d,Bool.false_or]at c;refine dite (x.op=50) (λz=>?c36) (λz=>?c37)
     case' c36=>
      rw[ze z,Bool.true_or]at c;rw[z]at B
     case' c37=>
      rw[zg z,Bool.false_or]at c;refine dite (x.op=34) (λA=>?c34) (λA=>?c35)
      case' c34=>
       rw[ze A]at c;rw[A]at B
      case' c35=>
       rw[zg A]at c
  case' c43=>
   rw[zg i,zG,zG]at c;have Y:(x.b !=0)=true:=zO.2 i
 all_goals
  have H:=za c;clear c;go_wp2_with (go_at_call 73;go_must (refine(iT _ _).mono ?_);rw[B.out];rintro R df ⟨rfl,E⟩;have J:=bl.below E bl.lt;have bi:=J.cell 0;have be:=J.cell 1;(try(have c9:=(E.cell (p:=⟨bj,Z+m * 5,none⟩) (zv a4 C.size)).trans ((C.cell (p:=⟨bj,Z+m * 5,none⟩) a4).trans aa)));have cT:=za (ac C.out E C.size);clear E J U T S)
  all_goals(go_ret;exact⟨ag (by first|exact H.symm|(rw[<-H.out];simp[d];done)|(rw[<-H.out];simp[d,z,A];done)|(rw[<-H.out,zA];simp;omega)),by first|exact cT|exact C.out⟩)
end
section
open Go.RowKit Go.Proofs.PeepPlain
structure JW where
 v:Value
 e:TypeId
 size:Nat
 n:Nat
 xs:List Value
structure eS(Bo:Nat)(K:List Nat)(w:World)(p:Nat)(ty:TypeId)(rs:List JW):Prop where
 row:ah w p ty (rs.map (·.v))
 own:∀r∈rs,w.ownsRow Bo r.e r.size r.v r.n r.xs
 apart:∀i j,(hi:i<rs.length)->(hj:j<rs.length)->i≠j->sG rs[i].v rs[j].v
 np:∀r∈rs,r.v.ownBlock≠some p
 low:Bo<=p
 pK:p∉K
 nK:∀r∈rs,∀g,r.v.ownBlock=some g->g∉K
 kl:∀k∈K,k<w.heap.size
structure iy(Bo:Nat)(K:List Nat)(w w':World):Prop where
 below:Below Bo w w'
 keep:∀k∈K,w'.heap[k]?=w.heap[k]?
def iy.refl(Bo:Nat)(K:List Nat)(w:World):iy Bo K w w:=⟨zZ _ _,λ_ _=>rfl⟩
def iy.ofDrew{Bo:Nat}{K:List Nat}{w w':World}(a:iy Bo K w.drew w'):iy Bo K w w':=⟨⟨a.below.os,a.below.tape,a.below.output,a.below.size,a.below.block⟩,a.keep⟩
def iy.trans{Bo:Nat}{K:List Nat}{a b c:World}(g:iy Bo K a b)(f:iy Bo K b c):iy Bo K a c:=⟨g.below.trans f.below,λd e=>(f.keep d e).trans (g.keep d e)⟩
def iy.row{Bo:Nat}{K:List Nat}{w w':World}(d:iy Bo K w w'){g:Nat}{t:TypeId}{a:List Value}(b:ah w g t a)(c:g∈K):ah w' g t a:=(d.keep g c).trans b
def iy.less{Bo:Nat}{K b:List Nat}{w w':World}(a:iy Bo K w w')(d:∀k∈b,k∈K):iy Bo b w w':=⟨a.below,λk c=>a.keep k (d k c)⟩
def iy.made{Bo:Nat}{K:List Nat}{w w':World}(a:zz w w')(d:Bo<=w.heap.size)(c:∀k∈K,k<w.heap.size):iy Bo K w w':=⟨az a d,λk b=>a.block k (c k b)⟩
section
variable{Bo:Nat}{K:List Nat}{w w' w1:World}{p:Nat}{ty:TypeId}{rs:List JW}
def eS.lt(a:eS Bo K w p ty rs):p<w.heap.size:=a.row.lt
def eS.below(a:eS Bo K w p ty rs)(b:zz w w'):eS Bo K w' p ty rs where
 row:=a.row.below b a.row.lt
 own:=λc d=>aE (a.own c d) λe h=>b.block e (zW (a.own c d) e h).2
 apart:=a.apart
 np:=a.np
 low:=a.low
 pK:=a.pK
 nK:=a.nK
 kl:=λf g=>zv (a.kl f g) b.size
def eS.alloc(a:eS Bo K w p ty rs)(o:Obj):eS Bo K (w.alloc o) p ty rs:=a.below (below1 w o)
def eS.drewN(a:eS Bo K w p ty rs)(n:Nat):eS Bo K (w.drewN n) p ty rs:=a.below (ae (zZ _ _) n)
def eS.more(b:eS Bo K w p ty rs){x:Nat}(f:x<w.heap.size)(g:x≠p)(h:∀r∈rs,r.v.ownBlock≠some x):eS Bo (x::K) w p ty rs where
 row:=b.row
 own:=b.own
 apart:=b.apart
 np:=b.np
 low:=b.low
 pK:=λa=>by
  rcases zC.1 a with a|a
  ·exact g a.symm
  ·exact b.pK a
 nK:=λr c i d a=>by
  rcases zC.1 a with a|a
  ·subst a;exact h r c d
  ·exact b.nK r c i d a
 kl:=λe a=>by
  rcases zC.1 a with a|a
  ·subst a;exact f
  ·exact b.kl e a
def eS.moreNew(a:eS Bo K w p ty rs)(e:zz w w'){x:Nat}(g:w.heap.size<=x)(c:x<w'.heap.size):eS Bo (x::K) w' p ty rs:=
 (a.below e).more c (by have:=a.lt;omega) λb d f=>by have:=(zW (a.own b d) x f).2;omega
def eS.fewer(a:eS Bo K w p ty rs){d:List Nat}(c:∀k∈d,k∈K):eS Bo d w p ty rs where
 row:=a.row
 own:=a.own
 apart:=a.apart
 np:=a.np
 low:=a.low
 pK:=λb=>a.pK (c _ b)
 nK:=λe f h g b=>a.nK e f h g (c _ b)
 kl:=λk b=>a.kl k (c k b)
structure Dg(Bo:Nat)(w:World)(p:Nat)(ty:TypeId)(rs:List JW)(r r':JW)(w1:World):Prop where
 row:ah w1 p ty (rs.map (·.v))
 own:w1.ownsRow Bo r'.e r'.size r'.v r'.n r'.xs
 below:Below Bo w w1
 same:∀k,k<w.heap.size->r.v.ownBlock≠some k->w1.heap[k]?=w.heap[k]?
 new:∀k,r'.v.ownBlock=some k->r.v.ownBlock=some k∨w.heap.size<=k
def eS.put{h:World}(a:eS Bo K w p ty rs){i:Nat}{r l:JW}(g:rs[i]?=some r)(U:Dg Bo w p ty rs r l w1)(I:ah h p ty ((rs.set i l).map (·.v)))(G:∀B,B<=p->Below B w1 h)(y:∀k,k≠p->h.heap[k]?=w1.heap[k]?):
 eS Bo K h p ty (rs.set i l)∧iy Bo K w h:=by
 obtain⟨n,J⟩:=zB.1 g;subst J;have t:rs[i]∈rs:=zk n;have F:=U.below;have D:=U.same;have m:=U.new;have L:=U.own;have E:l.v.ownBlock≠some p:=λe=>by
  rcases m p e with b|b
  ·exact a.np _ t b
  ·have:=a.lt;omega
 refine⟨⟨I,λr g=>?_,λA z s o q=>?_,λr g=>?_,a.low,a.pK,λr g c d=>?_,λk f=>?_⟩,⟨F.trans (G Bo a.low),λk f=>?_⟩⟩
 ·obtain⟨C,x,rfl⟩:=zQ g;rw[zN]at x;by_cases e:i=C
  ·subst e;rw[List.getElem_set_self];exact aE L λc d=>y c (by rintro rfl;exact E d)
  ·rw[List.getElem_set_ne e];have u:=zk x;refine aE (a.own _ u) λc d=>(y c (by rintro rfl;exact a.np _ u d)).trans (D c (zW (a.own _ u) c d).2 (a.apart C i x n (Ne.symm e) c d))
 ·rw[zN]at s o;by_cases e:i=A
  ·subst e;rw[List.getElem_set_self,List.getElem_set_ne q];intro c d j;rcases m c d with b|b
   ·exact a.apart i z n o q c b j
   ·have:=(zW (a.own _ (zk o)) c j).2;omega
  ·by_cases H:i=z
   ·subst H;rw[List.getElem_set_self,List.getElem_set_ne e];intro c d j;rcases m c j with b|b
    ·exact a.apart A i s n q c d b
    ·have:=(zW (a.own _ (zk s)) c d).2;omega
   ·rw[List.getElem_set_ne e,List.getElem_set_ne H];exact a.apart A z s o q
 ·rcases List.mem_or_eq_of_mem_set g with b|b
  ·exact a.np r b
  ·subst b;exact E
 ·rcases List.mem_or_eq_of_mem_set g with b|b
  ·exact a.nK r b c d
  ·subst b;intro f;rcases m c d with b|b
   ·exact a.nK _ t c b f
   ·have:=a.kl c f;omega
 ·have N:=a.kl k f;have j:=F.size;have M:=(G 0 (zu _)).size;omega
 ·exact(y k (by rintro rfl;exact a.pK f)).trans (D k (a.kl k f) λe=>a.nK _ t k e f)
def eS.stored(b:eS Bo K w p ty rs){i:Nat}(x:i<rs.length){g cap:Nat}(m:rs[i].v= .slice (some ⟨g,0,none⟩) rs[i].n cap)(j:Nat)(u:Value):
 eS Bo K (w.setCell ⟨g,j,none⟩ u) p ty (rs.set i {rs[i]with xs:=rs[i].xs.set j u})∧iy Bo K w (w.setCell ⟨g,j,none⟩ u):=by
 have f:rs[i]∈rs:=zk x;have l:rs[i].v.ownBlock=some g:=by rw[m];rfl
 have o:=b.own _ f;have F:=(zW o g l).1;rw[m]at o;obtain⟨z,L⟩:=World.ownsRow.stored o j u;rw[<-m]at z;have q:∀a,a≠g->(w.setCell ⟨g,j,none⟩ u).heap[a]?=w.heap[a]?:=λa c=>zY _ _ _ _ c;refine⟨⟨?_,λk h=>?_,λB A s r H=>?_,λk h=>?_,b.low,b.pK,λk h g y=>?_,λa c=>?_⟩,⟨Below.setCell (p:=⟨g,j,none⟩) (zZ _ _) F _,λa c=>q a (by rintro rfl;exact b.nK _ f _ l c)⟩⟩
 ·have d:(rs.set i {rs[i]with xs:=rs[i].xs.set j u}).map (·.v)=rs.map (·.v):=by
   rw[List.map_set];apply List.ext_getElem
   ·simp
   ·intro a J I;rw[List.getElem_set];split
    ·rename_i d;subst d;simp
    ·rfl
  rw[d];exact(q p (by rintro rfl;exact b.np _ f l)).trans b.row
 ·obtain⟨a,c,rfl⟩:=zQ h;rw[zN]at c;by_cases d:i=a
  ·subst d;rw[List.getElem_set_self];exact z
  ·rw[List.getElem_set_ne d];have E:=zk c;exact aE (b.own _ E) λC D=>q C (by rintro rfl;exact b.apart a i c x (Ne.symm d) _ D l)
 ·rw[zN]at s r;have t:∀a (c:a<rs.length) (G:a<(rs.set i {rs[i]with xs:=rs[i].xs.set j u}).length),(rs.set i {rs[i]with xs:=rs[i].xs.set j u})[a].v=rs[a].v:=λa c G=>by
   rw[List.getElem_set];split
   ·rename_i d;subst d;rfl
   ·rfl
  rw[t B s,t A r];exact b.apart B A s r H
 ·rcases List.mem_or_eq_of_mem_set h with e|e
  ·exact b.np k e
  ·subst e;exact b.np rs[i] f
 ·rcases List.mem_or_eq_of_mem_set h with e|e
  ·exact b.nK k e g y
  ·subst e;exact b.nK rs[i] f g y
 ·have:=b.kl a c;simp only[World.setCell,Array.size_modify];exact this
end
def eS.drew{Bo:Nat}{K:List Nat}{w:World}{p:Nat}{ty:TypeId}{rs:List JW}(a:eS Bo K w p ty rs):eS Bo K w.drew p ty rs:=a.drewN 1
def eS.putCell{Bo:Nat}{K:List Nat}{w w1:World}{p:Nat}{ty:TypeId}{rs:List JW}(e:eS Bo K w p ty rs){i:Nat}{r a:JW}(b:rs[i]?=some r)(U:Dg Bo w p ty rs r a w1):
 eS Bo K (w1.setCell ⟨p,i,none⟩ a.v) p ty (rs.set i a)∧iy Bo K w (w1.setCell ⟨p,i,none⟩ a.v):=
 e.put b U (by have:=U.row.set i a.v;rw[<-List.map_set]at this;exact this) (λg d=>(zZ _ _).setCell (p:=⟨p,i,none⟩) d _) (λf c=>zY _ _ _ _ c)
def Dc{o:Oper}{a:Act}{C:Act->World->Prop}{Z:Exit->Act->World->Prop}(s x:Operand)(l e:TypeId)(size k:Nat)(z:Value){Bo:Nat}{K:List Nat}{w:World}{p:Nat}{ty:TypeId}{rs:List JW}(m:eS Bo K w p ty rs)(i:Nat)(d:Value)(n:Nat)(g:List Value)(L:rs[i]?=some ⟨d,e,size,n,g⟩)(c:List Value)(A:Array Value)
 (O:o.op= .call {callee:= .builtin .append,args:= #[s,x],argTypes:= #[l,l]})(q:prog.underlying l=some (.slice e))(S:(prog.info? e).map (λi=>(i.zero,i.size,i.bytes))=some (some z,size,k))(F:z.cells.size=size)(M:0<size)(V:k<=64)
 (J:a.eval s=d)(U:A=c.toArray)(H:a.eval x= .slice (some ⟨w.heap.size,0,none⟩) 1 1)(R:c.length=1 * size)(X:∀r∈c,r.oneCell'=true)(ab:n<=2000000)(W:Bo<=w.heap.size)
 (Y:∀j cap w1,Dg Bo w p ty rs ⟨d,e,size,n,g⟩ ⟨.slice (some ⟨j,0,none⟩) (n+1) cap,e,size,n+1,g++c⟩ w1->C (a.put o.dst (.slice (some ⟨j,0,none⟩) (n+1) cap)) w1):o.wp prog a (w.alloc (.cells A e)) C Z:=by
 subst U;have u:=zU L;obtain⟨D,T,E,I,G⟩:=info_parts S;have v:w.ownsRow Bo e size d n g:=m.own _ u;have P:=m.np _ u;refine wp_append_lies (w.alloc (.cells c.toArray e)) s x l O Bo e D z size k q T E I G F M d n g J (zX v _) ⟨w.heap.size,0,none⟩ 1 1 c H R ?_ X (by omega) (by simp only[maxLen];omega) ?_ (by simp;omega) _ rfl ?_
 ·intro B r q;have:=(ah.made w e c).cell B;rw[Addr.add_lit,zP,this];exact q
 ·have:(n+1) * k<=2000001 * 64:=Nat.mul_le_mul (by omega) V;omega
 ·intro j cap w1 N y h aa;have t:∀b,b<w.heap.size->d.ownBlock≠some b->w1.heap[b]?=w.heap[b]?:=λb f Q=>(y.block b (by simp;omega) (λe=>Q e.symm)).trans (jz w _ b f);refine Y j cap w1 ⟨(t p m.lt P).trans m.row,N,((zZ Bo w).alloc W _).grown y (by simp;omega) (λb f=>(zW v b f).1),t,λb f=>?_⟩;simp only[Value.ownBlock,Option.some.injEq]at f;subst f;rcases h with h|h
  ·exact .inl h
  ·right;rw[h];simp
def KB{l:Array Oper}{k:List Oper}{o:Oper}{a:Act}{m:Exit->Act->World->Prop}(s x:Operand)(g e:TypeId)(size j:Nat)(z:Value){Bo:Nat}{K:List Nat}{w:World}{p:Nat}{ty:TypeId}{rs:List JW}(O:eS Bo K w p ty rs)(i:Nat)(d:Value)(n:Nat)(c:List Value)(y:rs[i]?=some ⟨d,e,size,n,c⟩)(b:List Value)(h:Array Value)
 (F:o.guard=none)(B:o.op= .call {callee:= .builtin .append,args:= #[s,x],argTypes:= #[g,g]})(u:prog.underlying g=some (.slice e))(E:(prog.info? e).map (λi=>(i.zero,i.size,i.bytes))=some (some z,size,j))(r:z.cells.size=size)(A:0<size)(H:j<=64)
 (v:a.eval s=d)(G:h=b.toArray)(t:a.eval x= .slice (some ⟨w.heap.size,0,none⟩) 1 1)(D:b.length=1 * size)(L:∀q∈b,q.oneCell'=true)(C:n<=2000000)(I:Bo<=w.heap.size)
 (M:∀f cap w1,Dg Bo w p ty rs ⟨d,e,size,n,c⟩ ⟨.slice (some ⟨f,0,none⟩) (n+1) cap,e,size,n+1,c++b⟩ w1->wpList prog l m k (a.put o.dst (.slice (some ⟨f,0,none⟩) (n+1) cap)) w1):wpList prog l m (o::k) a (w.alloc (.cells h e)):=
 wpList_plain F λ_ J=>Dc s x g e size j z O i d n c y b h B u E r A H v G t D L C I λf cap w1 N=>J _ _ (M f cap w1 N)
def Ep{j:Array Oper}{o:Oper}{a:Act}{C:Act->World->Prop}{N:Exit->Act->World->Prop}{E:Prop}(s x:Operand)(f e:TypeId)(size h:Nat)(z:Value){Bo:Nat}{K:List Nat}{w:World}{p:Nat}{ty:TypeId}{rs:List JW}(O:eS Bo K w p ty rs)(i:Nat)(d:Value)(n:Nat)(c:List Value)(v:rs[i]?=some ⟨d,e,size,n,c⟩)(b:List Value)(g:Array Value)
 (G:o.guard=none)(A:o.op= .call {callee:= .builtin .append,args:= #[s,x],argTypes:= #[f,f]})(t:prog.underlying f=some (.slice e))(F:(prog.info? e).map (λi=>(i.zero,i.size,i.bytes))=some (some z,size,h))(m:z.cells.size=size)(y:0<size)(I:h<=64)
 (u:a.eval s=d)(H:g=b.toArray)(q:a.eval x= .slice (some ⟨w.heap.size,0,none⟩) 1 1)(D:b.length=1 * size)(L:∀l∈b,l.oneCell'=true)(B:n<=2000000)(J:Bo<=w.heap.size)
 (M:∀k cap w1,Dg Bo w p ty rs ⟨d,e,size,n,c⟩ ⟨.slice (some ⟨k,0,none⟩) (n+1) cap,e,size,n+1,c++b⟩ w1->C (a.put o.dst (.slice (some ⟨k,0,none⟩) (n+1) cap)) w1):if Region.wanted o (yielded j a.tmps)=true then Oper.wp prog o a (w.alloc (.cells g e)) C N else E:=by
 have r:Region.wanted o (yielded j a.tmps)=true:=by simp[Region.wanted,G]
 rw[zn r];exact Dc s x f e size h z O i d n c v b g A t F m y I u H q D L B J M
end
end Go.Proofs.YtmecmlpoallpcaaGreatDoor
namespace Go.Proofs.PeepPlain
section
def aI(i:Nat):Int:=if i=0 then 118 else if i=1 then 112 else 116
def mM(c:Int):Int:=if c=118 then 0 else if c=112 then 1 else 2
def iA(x:Int):Prop:=x=118∨x=112∨x=116
def oq(i:Nat):iA (aI i):=by
 unfold aI iA;split
 ·exact .inl rfl
 ·split
  ·exact .inr (.inl rfl)
  ·exact .inr (.inr rfl)
def fL{i:Nat}(a:i<3):mM (aI i)=i:=by
 have:i=0∨i=1∨i=2:=by omega
 rcases this with rfl|rfl|rfl<;>rfl
def DP{i j:Nat}(b:i<3)(a:j<3)(e:aI i=aI j):i=j:=by
 have d:=fL b;have c:=fL a;rw[e,c]at d;omega
def Bp{x a:Int}(c:iA x)(b:iA a)(d:mM x=mM a):x=a:=by
 rcases c with rfl|rfl|rfl<;>rcases b with rfl|rfl|rfl<;>first|rfl|(exfalso;revert d;decide)
def Qy:List Int->Int
 | []=> -1
 |c::_=>mM c
structure mQ(S:List (List Int)):Prop where
 zero:S[0]?=some []
 nodup:S.Nodup
 closed:∀x t,x::t∈S->t∈S∧iA x
def vB(S:List (List Int)):List Int:=S.map Qy
def kg(S:List (List Int)):List Int:=S.map λs=>(S.idxOf s.tail:Int)
def lI(S:List (List Int)):List Int:=S.map λs=>(s.length:Int)
def IU(S:List (List Int))(s:List Int)(i:Nat):Int:=if aI i::s∈S then(S.idxOf (aI i::s):Int)else 0
def Ra(S:List (List Int))(s:List Int):List Int:=[IU S s 0,IU S s 1,IU S s 2]
def fZ(S:List (List Int)):List Int:=S.flatMap (Ra S)
def yz(S:List (List Int))(s:List Int):(Ra S s).length=3:=rfl
def GG(S:List (List Int))(s:List Int){i:Nat}(a:i<3):(Ra S s)[i]?=some (IU S s i):=by
 have:i=0∨i=1∨i=2:=by omega
 rcases this with rfl|rfl|rfl<;>rfl
def um{S:List (List Int)}(b:S.Nodup){k:Nat}{s:List Int}(e:S[k]?=some s):S.idxOf s=k:=by
 obtain⟨d,a⟩:=zB.1 e;have c:s∈S:=a ▸ zk d;have f:=List.idxOf_lt_length_iff.2 c;have g:S[S.idxOf s]=s:=List.getElem_idxOf f;exact(List.getElem_inj b).1 (g.trans a.symm)
def DM{S:List (List Int)}{s:List Int}(b:s∈S):S[S.idxOf s]?=some s:=by
 have a:=List.idxOf_lt_length_iff.2 b;rw[zo a,List.getElem_idxOf a]
theorem xw{f:List Int->List Int}(a:∀s,(f s).length=3):∀S:List (List Int),(S.flatMap f).length=S.length * 3
 | []=>rfl
 |s::S=>by rw[List.flatMap_cons,zw,a,xw a S,List.length_cons];omega
theorem qY{f:List Int->List Int}(a:∀s,(f s).length=3):∀(S:List (List Int)) (k j:Nat),j<3->(S.flatMap f)[k * 3+j]?=(S[k]?).bind λs=>(f s)[j]?
 | [],k,j,_=>by simp
 |s::S,0,j,h=>by
  rw[List.flatMap_cons,Nat.zero_mul,zP,zS (by rw[a];exact h)];rfl
 |s::S,k+1,j,h=>by
  rw[List.flatMap_cons,zJ (by rw[a];omega),a,show(k+1) * 3+j - 3=k * 3+j by omega,qY a S k j h];rfl
def Ba{S:List (List Int)}{k i:Nat}{s:List Int}(b:S[k]?=some s)(a:i<3):(fZ S)[k * 3+i]?=some (IU S s i):=by
 unfold fZ;rw[qY (yz S) S k i a,b];exact GG S s a
def Ix(S:List (List Int)):(fZ S).length=S.length * 3:=xw (yz S) S
section
variable{S:List (List Int)}{k i:Nat}{s:List Int}
def NH(a:S[k]?=some s):(vB S)[k]?=some (Qy s):=by unfold vB;rw[zL,a];rfl
def nC(a:S[k]?=some s):(lI S)[k]?=some (s.length:Int):=by unfold lI;rw[zL,a];rfl
def IH(O:mQ S){x:Int}{t:List Int}(a:S[k]?=some (x::t)):∃j:Nat,(kg S)[k]?=some (j:Int)∧S[j]?=some t:=by
 refine⟨S.idxOf t,by unfold kg;rw[zL,a];rfl,DM (O.closed x t (zU a)).1⟩
def Mf(O:mQ S)(c:S[k]?=some s)(d:i<3)(a:aI i::s∈S):∃j:Nat,(fZ S)[k * 3+i]?=some (j:Int)∧j≠0∧S[j]?=some (aI i::s):=by
 refine⟨S.idxOf (aI i::s),by rw[Ba c d,IU,zn a],λe=>?_,DM a⟩;have b:=DM a;rw[e,O.zero]at b
 cases b
def L8(b:S[k]?=some s)(c:i<3)(a:aI i::s∉S):(fZ S)[k * 3+i]?=some 0:=by rw[Ba b c,IU,zm a]
def Cm(O:mQ S)(a:S[k]?=some s):k=0↔s=[]:=by
 constructor
 ·rintro rfl;rw[O.zero]at a;exact(zj a).symm
 ·rintro rfl;have c:=um O.nodup a;have b:=um O.nodup O.zero;omega
def sY(O:mQ S){j:Nat}(a:S[k]?=some s)(b:S[j]?=some s):k=j:=by
 have d:=um O.nodup a;have c:=um O.nodup b;omega
def xU{S:List (List Int)}{n t:List Int}(a:t∈S):(S++ [n]).idxOf t=S.idxOf t:=by rw[List.idxOf_append,zn a]
def KY{S:List (List Int)}{n:List Int}(a:n∉S):(S++ [n]).idxOf n=S.length:=by
 rw[List.idxOf_append,zm a,List.idxOf_cons_self];omega
def MS(O:mQ S)(f:S[k]?=some s)(h:i<3)(e:aI i::s∉S):mQ (S++ [aI i::s])where
 zero:=by
  have:=(zB.1 O.zero).1
  rw[zS this]
  exact O.zero
 nodup:=List.nodup_append.2 ⟨O.nodup,by simp,λl g j d=>by rw[List.mem_singleton]at d;subst d;rintro rfl;exact e g⟩
 closed:=λb c a=>by
  rcases List.mem_append.1 a with a|a
  ·exact⟨List.mem_append_left _ (O.closed b c a).1,(O.closed b c a).2⟩
  ·rw[List.mem_singleton]at a
   injection a with h1 h2
   subst h1 h2
   exact⟨List.mem_append_left _ (zU f),oq i⟩
def Nd(a:i<3):vB (S++ [aI i::s])=vB S++ [(i:Int)]:=by
 unfold vB;rw[List.map_append];show _++ [mM (aI i)]=_;rw[fL a]
def Kg:lI (S++ [aI i::s])=lI S++ [(s.length:Int)+1]:=by
 unfold lI;rw[List.map_append];rfl
def Ic(O:mQ S)(c:S[k]?=some s):kg (S++ [aI i::s])=kg S++ [(k:Int)]:=by
 unfold kg;rw[List.map_append];have d:S.map (λa=>((S++ [aI i::s]).idxOf a.tail:Int))=S.map (λa=>(S.idxOf a.tail:Int)):=by
  refine List.map_congr_left λa b=>?_;have:a.tail∈S:=by
   cases a with
   |nil=>exact b
   |cons x a=>exact(O.closed x a b).1
  rw[xU this]
 rw[d];show _++ [((S++ [aI i::s]).idxOf s:Int)]=_;rw[xU (zU c),um O.nodup c]
def CN{n t:List Int}{j:Nat}(c:aI j::t≠n):IU (S++ [n]) t j=IU S t j:=by
 unfold IU;by_cases a:aI j::t∈S
 ·rw[zn a,zn (List.mem_append_left _ a),xU a]
 ·rw[zm a,zm (λb=>by
   rcases List.mem_append.1 b with b|b
   ·exact a b
   ·exact c (List.mem_singleton.1 b))]
def I9(O:mQ S)(f:S[k]?=some s)(r:i<3)(n:aI i::s∉S):fZ (S++ [aI i::s])=(fZ S++ [0,0,0]).set (k * 3+i) (S.length:Int):=by
 have x:=(zB.1 f).1;apply List.ext_getElem?;intro b;have a:b % 3<3:=Nat.mod_lt _ (by omega);have h:b=b / 3 * 3+b % 3:=by omega
 generalize b / 3=q at h;generalize b % 3=j at h a;subst h;unfold fZ;rw[qY (yz _) _ q j a];have c:=Ix S;unfold fZ at c;by_cases d:q<S.length
 ·rw[zS d,zo d,Option.bind_some,GG _ _ a];by_cases m:q=k∧j=i
  ·obtain⟨rfl,rfl⟩:=m;have o:S[q]=s:=zj ((zo d).symm.trans f);rw[List.getElem?_set_self (by rw[zw,c];omega),o,IU,zn (List.mem_append_right _ (List.mem_singleton.2 rfl)),KY n]
  ·have e:k * 3+i≠q * 3+j:=by omega
   rw[List.getElem?_set_ne e,zS (by rw[c];omega),qY (yz _) _ q j a,zo d,Option.bind_some,GG _ _ a,CN];intro t;injection t with h1 h2;have v:=DP a r h1;have u:=sY O (zo d) (h2 ▸ f);exact m ⟨u,v⟩
 ·by_cases p:q=S.length
  ·subst p;have e:k * 3+i≠S.length * 3+j:=by omega
   rw[zJ (by omega),Nat.sub_self,List.getElem?_set_ne e,zJ (by rw[c];omega),c,Nat.add_sub_cancel_left];show(Ra (S++ [aI i::s]) (aI i::s))[j]?=_;rw[GG _ _ a];have w:IU (S++ [aI i::s]) (aI i::s) j=0:=by
    rw[CN (λg=>by have:=zp List.length g;simp at this),IU,zm (λg=>n (O.closed _ _ g).1)]
   rw[w];have:j=0∨j=1∨j=2:=by omega
   rcases this with rfl|rfl|rfl<;>rfl
  ·rw[zM (l:=S++ [aI i::s]) (by simp;omega),zM (by rw[zN,zw,c];simp;omega)];rfl
end
def ai(op a b:Int):Int × Int:=
 if op=1∨op=2∨op=34 then(0,0)
 else if op=3∨op=4∨op=5∨op=6∨op=7∨op=8∨op=9∨op=10∨op=11∨op=23∨op=31 then(0,1)
 else if op=12∨op=13∨op=14∨op=15∨op=16∨op=35∨op=36∨op=37∨op=50 then(1,0)
 else if op=17∨op=33 then(1,2)
 else if op=18∨op=20∨op=21∨op=22∨op=30∨op=32 then(1,1)
 else if op=19∨op=24 then(2,1)
 else if op=25 then(2,2)
 else if op=26 then(if b=0 then a+1 else if b=3 then a - 1 else a,1)
 else if op=27∨op=29∨op=47 then(a,1)
 else if op=28 then(2 * a,1)
 else if op=46 then(a+1,1)
 else if op=48 then(a+1,0)
 else if op=49 then(a,0)
 else(-1,0)
def nz(m:Int)(t:List Int):List Int:=List.replicate m.toNat 118++t
def bu(i:au)(s:List Int):Option (Option (List Int) × Option (List Int)):=
 if 0<=(ai i.op i.a i.b).1 then
  (aw 118 (ai i.op i.a i.b).1.toNat s).map λc=>
   if i.op=50 then(none,none)
   else if i.op=34 then(none,some (nz (ai i.op i.a i.b).2 c))
   else if i.op=35 then(some (nz (ai i.op i.a i.b).2 c),some (nz (ai i.op i.a i.b).2 c))
   else if i.op=36∨i.op=37 then(some (nz (ai i.op i.a i.b).2 c),some (118::nz (ai i.op i.a i.b).2 c))
   else(some (nz (ai i.op i.a i.b).2 c),none)
 else if i.op=38∨i.op=39∨i.op=40 then some (some (112::s),none)
 else if i.op=41 then(aw 118 1 s).map λc=>(some (112::c),none)
 else if i.op=42 then(aw 118 2 s).map λc=>(some (112::c),none)
 else if i.op=43 then((aw 118 1 s).or (aw 112 1 s)).map λc=>(some (112::c),none)
 else if i.op=44 then(aw 112 1 s).map λc=>(some (118::s),none)
 else if i.op=45 then((aw 118 1 s).bind (aw 112 1)).map λc=>(some c,none)
 else if i.op=51 then(aw 118 1 s).map λc=>(some (116::c),none)
 else if i.op=52 then(aw 116 1 s).map λc=>(some (118::118::s),some c)
 else(aw 116 i.a.toNat s).map λc=>(some c,none)
def xK(o:Option (List Int)):Prop:=∃a,o=some a∧30000<a.length
def js(i:au)(s:List Int):Option (Option (List Int) × Option (List Int))->Prop
 |none=>dX i s=none
 |some (on,th)=>((xK on∨xK th)->dX i s=none)∧(¬(xK on∨xK th)->∃r,dX i s=some r∧(∀t,on=some t->r.1=t)∧(∀t,th=some t->r.2=t))∧(on=none↔(i.op=34∨i.op=50))∧(th=none↔ ¬al i.op)
end
end Go.Proofs.PeepPlain
namespace Go.Proofs.YtmecmlpoallpcaaGreatDoor
open Go.Proofs.Tryz
section
open Go.RowKit Go.Proofs.PeepPlain
def NE:(prog.info? 118).map (λi=>(i.zero,i.size,i.bytes))=some (some (.agg #[.int .i64 0,.int .i64 0,.int .i64 0]),3,24):=by kernel_rfl
def ij(a c b d:Value)(S:List (List Int)):List JW:=[⟨a,3,1,S.length,bv (vB S)⟩,⟨c,3,1,S.length,bv (kg S)⟩,⟨b,3,1,S.length,bv (lI S)⟩,⟨d,118,3,S.length,bv (fZ S)⟩]
structure cQ(Bo:Nat)(K:List Nat)(w:World)(p:Nat)(S:List (List Int)):Prop where
 ok:mQ S
 recs:∃vt vb vh va,eS Bo K w p 85 (ij vt vb vh va S)
section
variable{Bo:Nat}{K:List Nat}{w w':World}{p:Nat}{S:List (List Int)}
def cQ.below(H:cQ Bo K w p S)(e:zz w w'):cQ Bo K w' p S:=by
 obtain⟨a,c,b,d,f⟩:=H.recs;exact⟨H.ok,a,c,b,d,f.below e⟩
def cQ.lt(H:cQ Bo K w p S):p<w.heap.size:=by
 obtain⟨b,d,c,e,a⟩:=H.recs;exact a.lt
def cQ.pos(H:cQ Bo K w p S):0<S.length:=(zB.1 H.ok.zero).1
def cQ.moreNew(H:cQ Bo K w p S)(g:zz w w'){x:Nat}(f:w.heap.size<=x)(e:x<w'.heap.size):cQ Bo (x::K) w' p S:=by
 obtain⟨a,c,b,d,h⟩:=H.recs;exact⟨H.ok,a,c,b,d,h.moreNew g f e⟩
def cQ.fewer(H:cQ Bo K w p S){a:List Nat}(f:∀k∈a,k∈K):cQ Bo a w p S:=by
 obtain⟨b,d,c,e,g⟩:=H.recs;exact⟨H.ok,b,d,c,e,g.fewer f⟩
structure Qz(w:World)(p:Nat)(S:List (List Int))(gt ct gb cb gh ch ga ca:Nat):Prop where
 c0:w.cell? ⟨p,0,none⟩=some (.slice (some ⟨gt,0,none⟩) S.length ct)
 c1:w.cell? ⟨p,1,none⟩=some (.slice (some ⟨gb,0,none⟩) S.length cb)
 c2:w.cell? ⟨p,2,none⟩=some (.slice (some ⟨gh,0,none⟩) S.length ch)
 c3:w.cell? ⟨p,3,none⟩=some (.slice (some ⟨ga,0,none⟩) S.length ca)
 lp:p<w.heap.size
 lt:gt<w.heap.size
 lb:gb<w.heap.size
 lh:gh<w.heap.size
 la:ga<w.heap.size
 top:∀(k:Nat) v,(vB S)[k]?=some v->w.cell? ⟨gt,k,none⟩=some (.int .i64 v)
 below:∀(k:Nat) v,(kg S)[k]?=some v->w.cell? ⟨gb,k,none⟩=some (.int .i64 v)
 high:∀(k:Nat) v,(lI S)[k]?=some v->w.cell? ⟨gh,k,none⟩=some (.int .i64 v)
 above:∀(k:Nat) v,(fZ S)[k]?=some v->w.cell? ⟨ga,k,none⟩=some (.int .i64 v)
def gg{Bo:Nat}{w:World}{e:TypeId}{size g n c:Nat}{l:List Int}(b:w.ownsRow Bo e size (.slice (some ⟨g,0,none⟩) n c) n (bv l)):g<w.heap.size∧∀(k:Nat) a,l[k]?=some a->w.cell? ⟨g,k,none⟩=some (.int .i64 a):=by
 refine⟨(zW b g rfl).2,λk a d=>?_⟩;have:=World.ownsRow.cells b (g:=g) rfl k (.int .i64 a) (by unfold bv;rw[zL,d];rfl);rw[Addr.add_lit,zP]at this;exact this
def cQ.open_(H:cQ Bo K w p S):∃gt f d h c g e i,eS Bo K w p 85 (ij (.slice (some ⟨gt,0,none⟩) S.length f) (.slice (some ⟨d,0,none⟩) S.length h) (.slice (some ⟨c,0,none⟩) S.length g) (.slice (some ⟨e,0,none⟩) S.length i) S)∧Qz w p S gt f d h c g e i:=by
 have b:=H.pos;obtain⟨n,q,o,r,a⟩:=H.recs;have m:w.ownsRow Bo 3 1 n S.length (bv (vB S)):=a.own ⟨n,3,1,S.length,bv (vB S)⟩ (by simp[ij]);have l:w.ownsRow Bo 3 1 q S.length (bv (kg S)):=a.own ⟨q,3,1,S.length,bv (kg S)⟩ (by simp[ij]);have k:w.ownsRow Bo 3 1 o S.length (bv (lI S)):=a.own ⟨o,3,1,S.length,bv (lI S)⟩ (by simp[ij]);have j:w.ownsRow Bo 118 3 r S.length (bv (fZ S)):=a.own ⟨r,118,3,S.length,bv (fZ S)⟩ (by simp[ij]);obtain⟨gt,f,rfl,_⟩:=World.ownsRow.form m b;obtain⟨d,h,rfl,_⟩:=World.ownsRow.form l b;obtain⟨c,g,rfl,_⟩:=World.ownsRow.form k b;obtain⟨e,i,rfl,_⟩:=World.ownsRow.form j b;refine⟨gt,f,d,h,c,g,e,i,a,⟨a.row.cell 0,a.row.cell 1,a.row.cell 2,a.row.cell 3,a.lt,(gg m).1,(gg l).1,(gg k).1,(gg j).1,(gg m).2,(gg l).2,(gg k).2,(gg j).2⟩⟩
end
def tK(S:List (List Int))(o:Option (List Int))(w:World)(e:Ending)(w':World):Prop:=
 (match o with|some t=> ∃a:Nat,S[a]?=some t∧e= .returned (.tuple #[.int .i64 a,.bool true])|none=>e= .returned (.tuple #[.int .i64 0,.bool false]))∧zz w w'
def KE{S:List (List Int)}{a:Option (List Int)}{w:World}(b:a=none):tK S a w (.returned (.tuple #[.int .i64 0,.bool false])) w:=by
 subst b;exact⟨rfl,zZ _ _⟩
def Nq{S:List (List Int)}{a:Option (List Int)}{w:World}{t:List Int}{j:Nat}(c:a=some t)(b:S[j]?=some t):tK S a w (.returned (.tuple #[.int .i64 j,.bool true])) w:=by
 subst c;exact⟨⟨j,b,rfl⟩,zZ _ _⟩
def KX{c x:Int}{n:Nat}{s:List Int}(b:iA c)(d:x≠c):aw c (n+1) (x::s)=none:=by
 simp only[aw];rw[zm];rintro(e|⟨e,_⟩)
 ·exact d e
 ·rcases b with a|a|a<;>omega
def MI{c:Int}{n:Nat}{s:List Int}:aw c (n+1) (c::s)=aw c n s:=by simp only[aw];rw[zn (.inl trivial)]
set_option maxRecDepth 20000 in
def Mj(Bo:Nat)(K:List Nat)(p:Nat)(S:List (List Int))(k i:Nat)(s:List Int)(n:Int)(w:World)(H:cQ Bo K w p S)(D:S[k]?=some s)(G:i<3)(t:n<=1000000)(Y:S.length<=1000000):
 Calls prog 86 #[.pointer (some ⟨p,0,none⟩),.int .i64 k,.int .i64 i,.int .i64 n] w (tK S (aw (aI i) n.toNat s) w):=by
 obtain⟨M,af,ab,ao,aa,an,ad,ap,_,I⟩:=H.open_;have e:=za I;have o:=za H.ok;have q:=za G;have b:=za D;have Q:=e.c0;have P:=e.c1;have R:=e.lp;have U:=e.lt;have T:=e.lb;obtain⟨d,a⟩:∃d,Hid (aw (aI i) n.toNat s=d):=⟨_,za rfl⟩
 rw[a.out];clear H I D G;go_enter func86,ntmps86;go_wp2_with fail;go_loopw [1,3] (λN r wr=> ∃(A:Nat) (s':List Int) (n':Int),wr=w∧N= .int .i64 A∧r= .int .i64 n'∧n'<=1000000∧Hid (S[A]?=some s')∧Hid (aw (aI i) n'.toNat s'=d)) (λ_ r _=>(intOf r).toNat)
 case atStart=>exact⟨k,s,n,rfl,rfl,rfl,t,b,a⟩
 case round=>
  clear b a t;obtain⟨c,y,h,rfl,rfl,rfl,t,b,a⟩:=hrel;have V:c<S.length:=(zB.1 b.out).1;have W:(0:Int)<=(c:Int)∧(c:Int)<(S.length:Int):=by omega
  by_cases Z:0<h
  ·obtain⟨j,rfl⟩:∃j:Nat,h=((j+1:Nat):Int):=⟨(h - 1).toNat,by omega⟩
   rw[zV]at a
   cases y with
   |nil=>
    have L:((c:Int)==0)=true:=by rw[(Cm o.out b.out).2 rfl];rfl
    have f:Hid (d=none):=za (by rw[<-a.out];rfl);go_wp2_with fail;go_ret2;exact KE f.out
   |cons x s2=>
    have L:((c:Int)==0)=false:=zh.2 (λm=>by have:=(Cm o.out b.out).1 (by omega);cases this);have C:=e.top c _ (NH b.out);have l:=(o.closed x s2 (zU b.out)).2;have B:wr.cell? ⟨M,c,none⟩=some (.int .i64 (mM x)):=C;clear C;by_cases g:x=aI i
    ·subst g;have v:(mM (aI i)==(i:Int))=true:=by rw[fL q.out];exact beq_self_eq_true _
     have u:(mM (aI i) !=(i:Int))=false:=by rw[fL q.out];simp
     obtain⟨J,F,E⟩:=IH o.out b.out;have X:=e.below c _ F;have O:=za E;have f:Hid (aw (aI i) j s2=d):=za (by rw[<-a.out,MI]);clear F E l a b;generalize mM (aI i)=z at B v u;go_wp2_with fail;go_roundw
     case rel=>exact⟨J,s2,j,trivial,rfl,by go_num,by omega,O,by rw[zV];exact f⟩
     case measure=>simp[intOf]
    ·have v:(mM x==(i:Int))=false:=zh.2 (λm=>g (Bp l (oq i) (by rw[m,fL q.out])));have u:(mM x !=(i:Int))=true:=zO.2 (λm=>g (Bp l (oq i) (by rw[m,fL q.out])));have f:Hid (d=none):=za (by rw[<-a.out,KX (oq i) g]);clear l a g b;generalize mM x=z at B v u;go_wp2_with fail;go_ret2;exact KE f.out
  ·have f:Hid (d=some y):=za (by rw[<-a.out,show h.toNat=0 by omega,bC]);clear a;go_wp2_with fail;go_ret2;exact Nq f.out b.out
end
section
open Go.RowKit Go.Proofs.PeepPlain
def GF:(prog.info? 44).map (·.size)=some 1:=by kernel_rfl
def NR:(prog.info? 83).map (·.size)=some 1:=by kernel_rfl
def dZ{l:List Int}{k:Nat}{a:Int}(b:l[k]?=some a):(bv l)[k]?=some (.int .i64 a):=by unfold bv;rw[zL,b];rfl
def K5{j:Nat}{h:List Nat}{w:World}{p:Nat}{S:List (List Int)}{k i:Nat}{s:List Int}(O:mQ S)(a:S[k]?=some s)(b:i<3)(g:aI i::s∉S){c e d f:Value}
 (l:eS j h w p 85 [⟨c,3,1,S.length+1,bv (vB S)++ [.int .i64 i]⟩,⟨e,3,1,S.length+1,bv (kg S)++ [.int .i64 k]⟩,⟨d,3,1,S.length+1,bv (lI S)++ [.int .i64 ((s.length:Int)+1)]⟩,⟨f,118,3,S.length+1,(bv (fZ S)++ [Value.int .i64 0,Value.int .i64 0,Value.int .i64 0]).set (k * 3+i) (Value.int .i64 S.length)⟩]):
 cQ j h w p (S++ [aI i::s]):=by
 refine⟨MS O a b g,c,e,d,f,?_⟩;unfold ij;rw[Nd b,Ic O a,Kg,I9 O a b g,zw,eM,eM,eM,gV,eM];exact l
def BY(c:Nat)(b:List Nat)(p:Nat)(S:List (List Int))(n:Nat)(t:List Int)(w:World)(e:Ending)(w':World):Prop:=
 ∃(a:List (List Int)) (j:Nat),e= .returned (.int .i64 j)∧S<+:a∧a.length<=S.length+n∧a[j]?=some t∧cQ c b w' p a∧iy c b w w'
set_option maxRecDepth 20000 in
def Oa(d:Nat)(u:List Nat)(p:Nat)(S:List (List Int))(k i n:Nat)(s:List Int)(w:World)(H:cQ d u w p S)(af:S[k]?=some s)(ao:i<3)(c8:n<=1000)(d0:S.length<=1000000)(c6:s.length<=1000000):
 Calls prog 87 #[.pointer (some ⟨p,0,none⟩),.int .i64 k,.int .i64 i,.int .i64 n] w (BY d u p S n (List.replicate n (aI i)++s) w):=by
 have l:=za H;have I:=za ao;have h:=za af;clear H af ao;go_enter func87,ntmps87;go_wp2_with fail;go_loopw [1,3] (λb6 O wr=> ∃(X b:Nat) (S':List (List Int)),b6= .int .i64 X∧O= .int .i64 b∧b<=n∧Hid (S'[X]?=some (List.replicate (n - b) (aI i)++s))∧Hid (S<+:S')∧S'.length<=S.length+(n - b)∧Hid (cQ d u wr p S')∧Hid (iy d u w wr)) (λ_ O _=>(intOf O).toNat)
 case atStart=>exact⟨k,n,S,rfl,rfl,zb _,by rw[Nat.sub_self];exact h,List.prefix_refl _,by omega,l,iy.refl _ _ _⟩
 case round=>
  clear h l;obtain⟨e,b,a,rfl,rfl,c9,h,Q,df,l,R⟩:=hrel;obtain⟨d2,d3,b4,b5,A,C,a4,a9,bq,bi⟩:=l.open_;have f:=za bi;have J:=za bq;have bp:=za l.ok;have cl:=f.c0;have W:=f.c1;have V:=f.c2;have L:=f.c3;have q:=f.lp;have cC:=f.lt;have cv:=f.lb;have ct:=f.lh;have cs:=f.la;have dl:e<a.length:=(zB.1 h.out).1;have dn:(0:Int)<=(e:Int)∧(e:Int)<(a.length:Int):=by omega
  clear bq bi;by_cases d1:0<b
  ·obtain⟨b,rfl⟩:∃b0:Nat,b=b0+1:=⟨b - 1,by omega⟩
   obtain⟨c,P⟩:∃c,List.replicate (n - (b+1)) (aI i)++s=c:=⟨_,rfl⟩
   have bo:=za (show List.replicate (n - b) (aI i)++s=aI i::c by rw[<-P,show n - b=(n - (b+1))+1 by omega,List.replicate_succ];rfl);rw[P]at h;have dB:=I.out;have dA:(0:Int)<=(i:Int)∧(i:Int)<3:=by omega
   by_cases z:aI i::c∈a
   ·obtain⟨Y,r,b1,an⟩:=Mf bp.out h.out I.out z;have b3:=f.above _ _ r;have ds:((Y:Int)==0)=false:=zh.2 (by omega);have G:=za an;clear z r b1 an;go_wp2_with fail;go_roundw
    case rel=>exact⟨Y,b,a,rfl,by go_num,by omega,by rw[bo.out];exact G,Q,by omega,l,R⟩
    case measure=>simp[intOf]
   ·have r:=L8 h.out I.out z;have b3:=f.above _ _ r;have G:=za r;have b8:=za z;have cd:=za (show d<=wr.heap.size from zi J.low (Nat.le_of_lt J.lt));have F:=za (show a.length<=2000000 by omega);clear r;go_wp2_with (first
     |(at_builtin;refine KB (.tmp 34) (.tmp 36) 44 3 1 8 (.int .i64 0) J.out 0 _ _ _ rfl [.int .i64 i] _ rfl rfl underlying44 mP rfl (by decide) (by decide) rfl rfl rfl rfl (by simp[Value.oneCell']) F.out cd.out ?_;intro a6 a8 cg be
       have bl:=za be;clear be)
     |(refine aP (.tmp 39) (.tmp 37) 44 p 0 85 _ [.slice (some ⟨a6,0,none⟩) (a.length+1) a8] _ _ rfl rfl rfl rfl rfl GF (by simp[Value.oneCell']) bl.row (by simp[ij]) ?_;intro U ab a2 ar
       have m:=za (J.put (i:=0) rfl bl.out ab a2 ar);have W:U.cell? ⟨p,1,none⟩=some (.slice (some ⟨b4,0,none⟩) a.length b5):=m.1.row.cell 1;have q:=m.1.row.lt;have cc:=za (show d<=U.heap.size from zi m.1.low (Nat.le_of_lt m.1.lt));clear ab a2 ar)
     |(at_builtin;refine KB (.tmp 44) (.tmp 46) 44 3 1 8 (.int .i64 0) m.1 1 _ _ _ rfl [.int .i64 e] _ rfl rfl underlying44 mP rfl (by decide) (by decide) rfl rfl rfl rfl (by simp[Value.oneCell']) F.out cc.out ?_;intro a5 a7 cf bc
       have bk:=za bc;clear bc W q)
     |(refine aP (.tmp 49) (.tmp 47) 44 p 1 85 _ [.slice (some ⟨a5,0,none⟩) (a.length+1) a7] _ _ rfl rfl rfl rfl rfl GF (by simp[Value.oneCell']) bk.row (by simp[ij]) ?_;intro o aa a1 ap
       have j:=za (m.1.put (i:=1) rfl bk.out aa a1 ap);have V:o.cell? ⟨p,2,none⟩=some (.slice (some ⟨A,0,none⟩) a.length C):=j.1.row.cell 2;have q:=j.1.row.lt;have M:o.ownsRow d 3 1 (.slice (some ⟨A,0,none⟩) a.length C) a.length (bv (lI a)):=j.1.own ⟨.slice (some ⟨A,0,none⟩) a.length C,3,1,a.length,bv (lI a)⟩ (by simp[ij]);have b2:=(gg M).2 e _ (nC h.out);have cp:=(gg M).1;have cb:=za (show d<=o.heap.size from zi j.1.low (Nat.le_of_lt j.1.lt));clear aa a1 ap M))
    have c5:c.length<=2000000:=by rw[<-P,zw,List.length_replicate];omega
    have c4:IntKind.i64.wrap ((c.length:Int)+1)=(c.length:Int)+1:=IntWalk.i64_in _ (by omega);have cT:wrap64 ((c.length:Int)+1)=(c.length:Int)+1:=by unfold wrap64;omega
    have co:=World.new_ne o _ V;have cn:=World.new_ne o _ b2;simp only[Act.put];go_cut [] (λT=> ∃B E,Hid (eS d u T p 85 [⟨.slice (some ⟨a6,0,none⟩) (a.length+1) a8,3,1,a.length+1,bv (vB a)++ [.int .i64 i]⟩,⟨.slice (some ⟨a5,0,none⟩) (a.length+1) a7,3,1,a.length+1,bv (kg a)++ [.int .i64 e]⟩,⟨.slice (some ⟨B,0,none⟩) (a.length+1) E,3,1,a.length+1,bv (lI a)++ [.int .i64 ((c.length:Int)+1)]⟩,⟨.slice (some ⟨a4,0,none⟩) a.length a9,118,3,a.length,bv (fZ a)⟩])∧Hid (iy d u o T))
    case first=>
     go_region_law (first|(refine Ep (.tmp 54) (.tmp 63) 44 3 1 8 (.int .i64 0) j.1.drew 2 _ _ _ (by rfl) [.int .i64 ((c.length:Int)+1)] _ (by rfl) (by rfl) underlying44 mP (by rfl) (by decide) (by decide) (by rfl) (by rfl) (by rfl) (by rfl) (by simp[Value.oneCell']) F.out cb.out ?_;intro B E bt bb;have x:=za bb;have ck:bt.cell? ⟨p,2,none⟩=some (.slice (some ⟨A,0,none⟩) a.length C):=x.row.cell 2;have cj:=x.row.free 2;have ci:=x.row.lt;clear bb))
     all_goals go_wp2_with fail
     all_goals go_meet
     all_goals exact⟨B,E,za (j.1.drew.putCell (i:=2) rfl x.out).1,za (j.1.drew.putCell (i:=2) rfl x.out).2.ofDrew⟩
    case rest=>
     obtain⟨B,E,v,b7⟩:=hcut;have L:wc.cell? ⟨p,3,none⟩=some (.slice (some ⟨a4,0,none⟩) a.length a9):=v.row.cell 3;have q:=v.row.lt;have ca:=za (show d<=wc.heap.size from zi v.low (Nat.le_of_lt v.lt));go_wp2_with (first
      |(at_builtin;refine KB (.tmp 71) (.tmp 73) 83 118 3 24 (.agg #[.int .i64 0,.int .i64 0,.int .i64 0]) v.out 3 _ _ _ rfl [.int .i64 0,.int .i64 0,.int .i64 0] _ rfl rfl underlying83 NE rfl (by decide) (by decide) rfl rfl rfl rfl (by simp[Value.oneCell']) F.out ca.out ?_;intro t D ch ba
        have bj:=za ba;clear ba L q)
      |(refine aP (.tmp 76) (.tmp 74) 83 p 3 85 _ [.slice (some ⟨t,0,none⟩) (a.length+1) D] _ _ rfl rfl rfl rfl rfl NR (by simp[Value.oneCell']) bj.row (by simp) ?_;intro K ad a3 av
        have y:=za (v.put (i:=3) rfl bj.out ad a3 av);have L:K.cell? ⟨p,3,none⟩=some (.slice (some ⟨t,0,none⟩) (a.length+1) D):=y.1.row.cell 3;have q:=y.1.row.lt;have N:K.ownsRow d 118 3 (.slice (some ⟨t,0,none⟩) (a.length+1) D) (a.length+1) (bv (fZ a)++ [.int .i64 0,.int .i64 0,.int .i64 0]):=y.1.own ⟨_,118,3,_,_⟩ (zk (n:=3) (by simp));have c7:K.cell? ⟨t,e * 3+i,none⟩=some (.int .i64 0):=by
         have a0:=World.ownsRow.cells N (g:=t) rfl (e * 3+i) (.int .i64 0) (by rw[zS (zB.1 (dZ G.out)).1];exact dZ G.out);rw[Addr.add_lit,zP]at a0;exact a0
        have dC:=World.ownsRow.frozenAt N (e * 3+i);clear ad a3 av N))
     go_roundw
     case rel=>
      have Z:=y.1.stored (i:=3) (by simp) (g:=t) (cap:=D) rfl (e * 3+i) (.int .i64 a.length);refine⟨a.length,b,a++ [aI i::c],rfl,by go_num,by omega,?_,?_,?_,za (K5 bp.out h.out I.out b8.out Z.1),za ?_⟩
      ·rw[bo.out];exact za (by rw[zJ (zb _),Nat.sub_self];rfl)
      ·exact za (Q.trans (List.prefix_append _ _))
      ·rw[zw];simp only[List.length_cons,List.length_nil];omega
      ·exact(((R.trans m.2).trans j.2).trans b7.out).trans (y.2.trans Z.2)
     case measure=>simp[intOf]
  ·have b9:=za (show b=0 by omega);go_wp2_with fail;go_ret;refine⟨a,e,rfl,Q.out,by omega,?_,l.out,R⟩;have:=h.out;rw[b9.out,Nat.sub_zero]at this;exact this
end
end Go.Proofs.YtmecmlpoallpcaaGreatDoor
namespace Go.Proofs.PeepPlain
section
theorem oC(c:Int):∀(m n:Nat) (s:List Int),aw c (m+n) s=(aw c m s).bind (aw c n)
 |0,n,s=>by rw[bC,zP];rfl
 |m+1,n,[]=>by rw[show m+1+n=(m+n)+1 by omega];rfl
 |m+1,n,t::s=>by
  rw[show m+1+n=(m+n)+1 by omega];simp only[aw];split
  ·exact oC c m n s
  ·rfl
theorem wH:∀(k:Nat) (s:List Int),dK (List.replicate k 118) s=aw 118 k s
 |0,s=>by rw[bC];rfl
 |k+1,s=>by
  rw[List.replicate_succ,show k+1=1+k by omega,oC];simp only[dK];congr 1;funext t;exact wH k t
theorem By:∀(m:Nat) (t:List Int),dp (List.replicate m 118) t=if 30000<t.length+m∧0<m then none else some (List.replicate m 118++t)
 |0,t=>by simp[dp]
 |m+1,t=>by
  rw[List.replicate_succ];simp only[dp];rw[By m (118::t)];have e:List.replicate m (118:Int)++118::t=118::List.replicate m 118++t:=by
   rw[<-List.replicate_succ,List.replicate_succ',List.append_assoc];rfl
  rw[e];by_cases b:t.length+1>30000
  ·rw[zn b,zn (by omega)]
  ·rw[zm b];by_cases a:30000<(118::t).length+m∧0<m
   ·rw[zn a,zn (by simp at a;omega)]
   ·rw[zm a,zm (by simp at a ⊢;omega)]
theorem mi(c:Int):∀(n:Nat) (s t:List Int),aw c n s=some t->t.length+n=s.length
 |0,s,t,h=>by rw[bC]at h;rw[zj h];rfl
 |n+1,[],t,h=>by cases h
 |n+1,x::s,t,h=>by
  simp only[aw]at h;split at h
  ·have:=mi c n s t h;simp only[List.length_cons];omega
  ·cases h
def Lv(i:au)(s:List Int){n:Int}{q m:Nat}(e:aF i=(118,n))(d:(aT (aj i.op).takes).reverse=List.replicate q 118)(c:aT (aj i.op).lays=List.replicate m 118){N:Nat}(b:n.toNat+q=N):
 dX i s=(aw 118 N s).bind λt=>if 30000<t.length+m∧0<m then none else some (List.replicate m 118++t,if i.op=36∨i.op=37 then 118::t else t):=by
 rw[fd i s _ _ e d c,<-b,oC,Option.bind_assoc];congr 1;funext u;rw[wH];congr 1;funext t;rw[By];by_cases a:30000<t.length+m∧0<m
 ·rw[zn a,zn a];rfl
 ·rw[zm a,zm a];rfl
def bQ{t:List Int}:xK (some t)↔30000<t.length:=by
 constructor
 ·rintro⟨c,a,b⟩;rw[zj a];exact b
 ·exact λa=>⟨t,rfl,a⟩
def fH:¬xK none:=by rintro⟨b,a,c⟩;cases a
def IG{op:Int}(a:op≠34∧op≠35∧op≠36∧op≠37∧op≠52):¬al op:=by
 rintro(e|e|e|e|e)
 ·exact a.1 e
 ·exact a.2.1 e
 ·exact a.2.2.1 e
 ·exact a.2.2.2.1 e
 ·exact a.2.2.2.2 e
def aM(i:au)(s:List Int){n:Int}{q m N:Nat}(t:ai i.op i.a i.b=((N:Int),(m:Int)))(y:aF i=(118,n))(r:(aT (aj i.op).takes).reverse=List.replicate q 118)(l:aT (aj i.op).lays=List.replicate m 118)(u:n.toNat+q=N)(B:s.length<=30000)
 (x:i.op=34->m=0)(w:i.op=35->m=0)(v:i.op=36∨i.op=37->m=0∧1<=N)(F:i.op≠52):js i s (bu i s):=by
 have e:=Lv i s y r l u;unfold bu;rw[t];dsimp only;rw[zn (Int.natCast_nonneg N),zV];unfold nz;rw[zV]
 cases p:aw 118 N s with
 |none=>
  rw[p]at e;exact e
 |some d=>
  rw[p,Option.bind_some]at e;have A:=mi _ _ _ _ p;rw[Option.map_some];by_cases h:i.op=50
  ·rw[zn h];refine⟨λc=>(c.elim fH fH).elim,λ_=>?_,by simp[h],by simp[al,h]⟩;have D:m=0:=by
    rw[h]at l;have z:aT (aj 50).lays=[]:=by decide
    rw[z]at l;have:=zp List.length l;simpa using this.symm
   rw[e,zm (by omega)];exact⟨_,rfl,λd c=>(by cases c),λd c=>by cases c⟩
  rw[zm h];by_cases k:i.op=34
  ·rw[zn k];have g:=x k;subst g;refine⟨λc=>?_,λ_=>?_,by simp[k],by simp[al,k]⟩
   ·rcases c with c|c
    ·exact(fH c).elim
    ·have:=bQ.1 c;simp at this;omega
   ·rw[e,zm (by omega)];refine⟨_,rfl,λd c=>(by cases c),λf c=>?_⟩;rw[<-zj c];show(if i.op=36∨i.op=37 then 118::d else d)=_;rw[zm (by omega)];rfl
  rw[zm k];by_cases j:i.op=35
  ·rw[zn j];have g:=w j;subst g;refine⟨λc=>?_,λ_=>?_,by simp[j],by simp[al,j]⟩
   ·rcases c with c|c
    ·have:=bQ.1 c;simp at this;omega
    ·have:=bQ.1 c;simp at this;omega
   ·rw[e,zm (by omega)];refine⟨_,rfl,λf c=>zj c,λf c=>?_⟩;rw[<-zj c];show(if i.op=36∨i.op=37 then 118::d else d)=_;rw[zm (by omega)];rfl
  rw[zm j];by_cases o:i.op=36∨i.op=37
  ·rw[zn o];obtain⟨g,E⟩:=v o;subst g;refine⟨λc=>?_,λ_=>?_,?_,?_⟩
   ·rcases c with c|c
    ·have:=bQ.1 c;simp at this;omega
    ·have:=bQ.1 c;simp at this;omega
   ·rw[e,zm (by omega)];refine⟨_,rfl,λf c=>zj c,λf c=>?_⟩;rw[<-zj c];show(if i.op=36∨i.op=37 then 118::d else d)=_;rw[zn o];rfl
   ·constructor
    ·intro c;cases c
    ·intro c;omega
   ·constructor
    ·intro c;cases c
    ·intro c;exact absurd (by unfold al;omega) c
  rw[zm o];refine⟨λc=>?_,λc=>?_,?_,?_⟩
  ·rcases c with c|c
   ·have:=bQ.1 c;rw[zw,List.length_replicate]at this;rw[e,zn (by omega)]
   ·exact(fH c).elim
  ·have C:¬30000<d.length+m:=λr=>c (.inl (bQ.2 (by rw[zw,List.length_replicate];omega)));rw[e,zm (by omega)];exact⟨_,rfl,λf c=>zj c,λf c=>by cases c⟩
  ·constructor
   ·intro c;cases c
   ·intro c;omega
  ·constructor
   ·intro _;exact IG (by omega)
   ·intro _;rfl
def wN(c d:Int)(s:List Int):dK [c,d] s=(aw c 1 s).bind (aw d 1):=by
 simp only[dK];congr 1;funext t
 cases aw d 1 t<;>rfl
def lU(c:Int)(s:List Int):dK [c] s=aw c 1 s:=by
 simp only[dK]
 cases aw c 1 s<;>rfl
def Lj(c:Int)(t:List Int):dp [c] t=if t.length+1>30000 then none else some (c::t):=by simp only[dp]
def AJ(c d:Int)(t:List Int):dp [c,d] t=if 30000<t.length+2 then none else some (d::c::t):=by
 simp only[dp,List.length_cons];by_cases b:30000<t.length+2
 ·rw[zn b];by_cases a:t.length+1>30000
  ·rw[zn a]
  ·rw[zm a]
   try simp
   try omega
 ·rw[zm b,zm (by omega)]
  try simp
  try omega
def Du(c d e:Int)(t:List Int):dp [c,d,e] t=if 30000<t.length+3 then none else some (e::d::c::t):=by
 have f:dp [c,d,e] t=if t.length+1>30000 then none else dp [d,e] (c::t):=by simp only[dp]
 rw[f,AJ];simp only[List.length_cons];by_cases b:30000<t.length+3
 ·rw[zn b];by_cases a:t.length+1>30000
  ·rw[zn a]
  ·rw[zm a]
   try simp
   try omega
 ·rw[zm b,zm (by omega)]
  try simp
  try omega
def kE(i:au)(s:List Int)(c:Int)(o:Option (List Int))(j:∀t,o=some t->t.length<=s.length)(e:bu i s=o.map λt=>(some (c::t),none))(b:dX i s=o.bind λt=>(dp [c] t).map λu=>(u,t))(d:¬al i.op)(k:i.op≠50):js i s (bu i s):=by
 rw[e]
 cases o with
 |none=>exact b
 |some t=>
  rw[Option.bind_some,Lj]at b;rw[Option.map_some];have l:i.op≠34:=λh=>d (.inl h);refine⟨λa=>?_,λa=>?_,?_,?_⟩
  ·rcases a with a|a
   ·have:=bQ.1 a;simp only[List.length_cons]at this;rw[b,zn (by omega)];rfl
   ·exact(fH a).elim
  ·have f:¬30000<(c::t).length:=λg=>a (.inl (bQ.2 g));simp only[List.length_cons]at f;rw[b,zm (by omega)];exact⟨_,rfl,λu a=>zj a,λu a=>by cases a⟩
  ·constructor
   ·intro a;cases a
   ·intro a;omega
  ·exact⟨λ_=>d,λ_=>rfl⟩
def xE(i:au)(s:List Int)(o:Option (List Int))(h:s.length<=30000)(f:∀t,o=some t->t.length<=s.length)(e:bu i s=o.map λt=>(some t,none))(b:dX i s=o.map λt=>(t,t))(c:¬al i.op)(j:i.op≠50):js i s (bu i s):=by
 rw[e]
 cases o with
 |none=>exact b
 |some t=>
  rw[Option.map_some]at b ⊢
  have k:i.op≠34:=λg=>c (.inl g);have:=f t rfl;refine⟨λa=>?_,λa=>⟨_,b,λd a=>zj a,λd a=>by cases a⟩,?_,?_⟩
  ·rcases a with a|a
   ·have:=bQ.1 a;omega
   ·exact(fH a).elim
  ·constructor
   ·intro a;cases a
   ·intro a;omega
  ·exact⟨λ_=>c,λ_=>rfl⟩
def Cz{s:List Int}(a:∀x∈s,iA x):aw 63 1 s=(aw 118 1 s).or (aw 112 1 s):=by
 cases s with
 |nil=>rfl
 |cons t s=>
  have:=a t (by simp);simp only[gR];rcases this with rfl|rfl|rfl<;>simp
def kT{c:Int}{n:Nat}{s t:List Int}(a:aw c n s=some t):t.length<=s.length:=by
 have:=mi c n s t a;omega
def aN(i:au)(a:i.op≠26∧i.op≠27∧i.op≠28∧i.op≠29∧i.op≠46∧i.op≠47∧i.op≠48∧i.op≠49∧i.op≠53):aF i=(118,0):=by
 obtain⟨k,j,h,g,f,e,d,c,b⟩:=a;unfold aF;rw[zm (by omega),zm (by omega),zm (by omega),zm (by omega)]
set_option maxRecDepth 20000 in
def NW(i:au)(s:List Int)(C:1<=i.op)(l:i.op<=53)(z:0<=i.a)(y:0<=i.b∧i.b<=3)(u:i.op=26->1<=i.a)(f:s.length<=30000)(t:∀x∈s,iA x):js i s (bu i s):=by
 obtain⟨op,a,b,e,pos⟩:=i;dsimp only at C l z y u;obtain⟨d,rfl⟩:∃d:Nat,a=(d:Int):=⟨a.toNat,by omega⟩
 have v:op=1∨op=2∨op=3∨op=4∨op=5∨op=6∨op=7∨op=8∨op=9∨op=10∨op=11∨op=12∨op=13∨op=14∨op=15∨op=16∨op=17∨op=18∨op=19∨op=20∨op=21∨op=22∨op=23∨op=24∨op=25∨op=26∨op=27∨op=28∨op=29∨op=30∨op=31∨op=32∨op=33∨op=34∨op=35∨op=36∨op=37∨op=38∨op=39∨op=40∨op=41∨op=42∨op=43∨op=44∨op=45∨op=46∨op=47∨op=48∨op=49∨op=50∨op=51∨op=52∨op=53:=by omega
 rcases v with rfl|rfl|rfl|rfl|rfl|rfl|rfl|rfl|rfl|rfl|rfl|rfl|rfl|rfl|rfl|rfl|rfl|rfl|rfl|rfl|rfl|rfl|rfl|rfl|rfl|rfl|rfl|rfl|rfl|rfl|rfl|rfl|rfl|rfl|rfl|rfl|rfl|rfl|rfl|rfl|rfl|rfl|rfl|rfl|rfl|rfl|rfl|rfl|rfl|rfl|rfl|rfl|rfl
 ·exact aM ⟨1,(d:Int),b,e,pos⟩ s (n:=0) (q:=0) (m:=0) (N:=0) (by simp[ai]) (aN _ (by simp)) (by dsimp only;decide) (by dsimp only;decide) (by omega) f (by simp) (by simp) (by simp) (by simp)
 ·exact aM ⟨2,(d:Int),b,e,pos⟩ s (n:=0) (q:=0) (m:=0) (N:=0) (by simp[ai]) (aN _ (by simp)) (by dsimp only;decide) (by dsimp only;decide) (by omega) f (by simp) (by simp) (by simp) (by simp)
 ·exact aM ⟨3,(d:Int),b,e,pos⟩ s (n:=0) (q:=0) (m:=1) (N:=0) (by simp[ai]) (aN _ (by simp)) (by dsimp only;decide) (by dsimp only;decide) (by omega) f (by simp) (by simp) (by simp) (by simp)
 ·exact aM ⟨4,(d:Int),b,e,pos⟩ s (n:=0) (q:=0) (m:=1) (N:=0) (by simp[ai]) (aN _ (by simp)) (by dsimp only;decide) (by dsimp only;decide) (by omega) f (by simp) (by simp) (by simp) (by simp)
 ·exact aM ⟨5,(d:Int),b,e,pos⟩ s (n:=0) (q:=0) (m:=1) (N:=0) (by simp[ai]) (aN _ (by simp)) (by dsimp only;decide) (by dsimp only;decide) (by omega) f (by simp) (by simp) (by simp) (by simp)
 ·exact aM ⟨6,(d:Int),b,e,pos⟩ s (n:=0) (q:=0) (m:=1) (N:=0) (by simp[ai]) (aN _ (by simp)) (by dsimp only;decide) (by dsimp only;decide) (by omega) f (by simp) (by simp) (by simp) (by simp)
 ·exact aM ⟨7,(d:Int),b,e,pos⟩ s (n:=0) (q:=0) (m:=1) (N:=0) (by simp[ai]) (aN _ (by simp)) (by dsimp only;decide) (by dsimp only;decide) (by omega) f (by simp) (by simp) (by simp) (by simp)
 ·exact aM ⟨8,(d:Int),b,e,pos⟩ s (n:=0) (q:=0) (m:=1) (N:=0) (by simp[ai]) (aN _ (by simp)) (by dsimp only;decide) (by dsimp only;decide) (by omega) f (by simp) (by simp) (by simp) (by simp)
 ·exact aM ⟨9,(d:Int),b,e,pos⟩ s (n:=0) (q:=0) (m:=1) (N:=0) (by simp[ai]) (aN _ (by simp)) (by dsimp only;decide) (by dsimp only;decide) (by omega) f (by simp) (by simp) (by simp) (by simp)
 ·exact aM ⟨10,(d:Int),b,e,pos⟩ s (n:=0) (q:=0) (m:=1) (N:=0) (by simp[ai]) (aN _ (by simp)) (by dsimp only;decide) (by dsimp only;decide) (by omega) f (by simp) (by simp) (by simp) (by simp)
 ·exact aM ⟨11,(d:Int),b,e,pos⟩ s (n:=0) (q:=0) (m:=1) (N:=0) (by simp[ai]) (aN _ (by simp)) (by dsimp only;decide) (by dsimp only;decide) (by omega) f (by simp) (by simp) (by simp) (by simp)
 ·exact aM ⟨12,(d:Int),b,e,pos⟩ s (n:=0) (q:=1) (m:=0) (N:=1) (by simp[ai]) (aN _ (by simp)) (by dsimp only;decide) (by dsimp only;decide) (by omega) f (by simp) (by simp) (by simp) (by simp)
 ·exact aM ⟨13,(d:Int),b,e,pos⟩ s (n:=0) (q:=1) (m:=0) (N:=1) (by simp[ai]) (aN _ (by simp)) (by dsimp only;decide) (by dsimp only;decide) (by omega) f (by simp) (by simp) (by simp) (by simp)
 ·exact aM ⟨14,(d:Int),b,e,pos⟩ s (n:=0) (q:=1) (m:=0) (N:=1) (by simp[ai]) (aN _ (by simp)) (by dsimp only;decide) (by dsimp only;decide) (by omega) f (by simp) (by simp) (by simp) (by simp)
 ·exact aM ⟨15,(d:Int),b,e,pos⟩ s (n:=0) (q:=1) (m:=0) (N:=1) (by simp[ai]) (aN _ (by simp)) (by dsimp only;decide) (by dsimp only;decide) (by omega) f (by simp) (by simp) (by simp) (by simp)
 ·exact aM ⟨16,(d:Int),b,e,pos⟩ s (n:=0) (q:=1) (m:=0) (N:=1) (by simp[ai]) (aN _ (by simp)) (by dsimp only;decide) (by dsimp only;decide) (by omega) f (by simp) (by simp) (by simp) (by simp)
 ·exact aM ⟨17,(d:Int),b,e,pos⟩ s (n:=0) (q:=1) (m:=2) (N:=1) (by simp[ai]) (aN _ (by simp)) (by dsimp only;decide) (by dsimp only;decide) (by omega) f (by simp) (by simp) (by simp) (by simp)
 ·exact aM ⟨18,(d:Int),b,e,pos⟩ s (n:=0) (q:=1) (m:=1) (N:=1) (by simp[ai]) (aN _ (by simp)) (by dsimp only;decide) (by dsimp only;decide) (by omega) f (by simp) (by simp) (by simp) (by simp)
 ·exact aM ⟨19,(d:Int),b,e,pos⟩ s (n:=0) (q:=2) (m:=1) (N:=2) (by simp[ai]) (aN _ (by simp)) (by dsimp only;decide) (by dsimp only;decide) (by omega) f (by simp) (by simp) (by simp) (by simp)
 ·exact aM ⟨20,(d:Int),b,e,pos⟩ s (n:=0) (q:=1) (m:=1) (N:=1) (by simp[ai]) (aN _ (by simp)) (by dsimp only;decide) (by dsimp only;decide) (by omega) f (by simp) (by simp) (by simp) (by simp)
 ·exact aM ⟨21,(d:Int),b,e,pos⟩ s (n:=0) (q:=1) (m:=1) (N:=1) (by simp[ai]) (aN _ (by simp)) (by dsimp only;decide) (by dsimp only;decide) (by omega) f (by simp) (by simp) (by simp) (by simp)
 ·exact aM ⟨22,(d:Int),b,e,pos⟩ s (n:=0) (q:=1) (m:=1) (N:=1) (by simp[ai]) (aN _ (by simp)) (by dsimp only;decide) (by dsimp only;decide) (by omega) f (by simp) (by simp) (by simp) (by simp)
 ·exact aM ⟨23,(d:Int),b,e,pos⟩ s (n:=0) (q:=0) (m:=1) (N:=0) (by simp[ai]) (aN _ (by simp)) (by dsimp only;decide) (by dsimp only;decide) (by omega) f (by simp) (by simp) (by simp) (by simp)
 ·exact aM ⟨24,(d:Int),b,e,pos⟩ s (n:=0) (q:=2) (m:=1) (N:=2) (by simp[ai]) (aN _ (by simp)) (by dsimp only;decide) (by dsimp only;decide) (by omega) f (by simp) (by simp) (by simp) (by simp)
 ·exact aM ⟨25,(d:Int),b,e,pos⟩ s (n:=0) (q:=2) (m:=2) (N:=2) (by simp[ai]) (aN _ (by simp)) (by dsimp only;decide) (by dsimp only;decide) (by omega) f (by simp) (by simp) (by simp) (by simp)
 ·have D:=u rfl;have w:b=0∨b=1∨b=2∨b=3:=by omega
  rcases w with rfl|rfl|rfl|rfl
  ·exact aM ⟨26,(d:Int),0,e,pos⟩ s (n:=(d+1:Int)) (q:=0) (m:=1) (N:=d+1) (by simp[ai]) (by simp[aF]) (by dsimp only;decide) (by dsimp only;decide) (by omega) f (by simp) (by simp) (by simp) (by simp)
  ·exact aM ⟨26,(d:Int),1,e,pos⟩ s (n:=(d:Int)) (q:=0) (m:=1) (N:=d) (by simp[ai]) (by simp[aF]) (by dsimp only;decide) (by dsimp only;decide) (by omega) f (by simp) (by simp) (by simp) (by simp)
  ·exact aM ⟨26,(d:Int),2,e,pos⟩ s (n:=(d:Int)) (q:=0) (m:=1) (N:=d) (by simp[ai]) (by simp[aF]) (by dsimp only;decide) (by dsimp only;decide) (by omega) f (by simp) (by simp) (by simp) (by simp)
  ·exact aM ⟨26,(d:Int),3,e,pos⟩ s (n:=(d - 1:Int)) (q:=0) (m:=1) (N:=d - 1) (by simp[ai];omega) (by simp[aF]) (by dsimp only;decide) (by dsimp only;decide) (by omega) f (by simp) (by simp) (by simp) (by simp)
 ·exact aM ⟨27,(d:Int),b,e,pos⟩ s (n:=(d:Int)) (q:=0) (m:=1) (N:=d) (by simp[ai]) (by simp[aF]) (by dsimp only;decide) (by dsimp only;decide) (by omega) f (by simp) (by simp) (by simp) (by simp)
 ·exact aM ⟨28,(d:Int),b,e,pos⟩ s (n:=(2 * d:Int)) (q:=0) (m:=1) (N:=(2 * d)) (by simp[ai]) (by simp[aF]) (by dsimp only;decide) (by dsimp only;decide) (by omega) f (by simp) (by simp) (by simp) (by simp)
 ·exact aM ⟨29,(d:Int),b,e,pos⟩ s (n:=(d:Int)) (q:=0) (m:=1) (N:=d) (by simp[ai]) (by simp[aF]) (by dsimp only;decide) (by dsimp only;decide) (by omega) f (by simp) (by simp) (by simp) (by simp)
 ·exact aM ⟨30,(d:Int),b,e,pos⟩ s (n:=0) (q:=1) (m:=1) (N:=1) (by simp[ai]) (aN _ (by simp)) (by dsimp only;decide) (by dsimp only;decide) (by omega) f (by simp) (by simp) (by simp) (by simp)
 ·exact aM ⟨31,(d:Int),b,e,pos⟩ s (n:=0) (q:=0) (m:=1) (N:=0) (by simp[ai]) (aN _ (by simp)) (by dsimp only;decide) (by dsimp only;decide) (by omega) f (by simp) (by simp) (by simp) (by simp)
 ·exact aM ⟨32,(d:Int),b,e,pos⟩ s (n:=0) (q:=1) (m:=1) (N:=1) (by simp[ai]) (aN _ (by simp)) (by dsimp only;decide) (by dsimp only;decide) (by omega) f (by simp) (by simp) (by simp) (by simp)
 ·exact aM ⟨33,(d:Int),b,e,pos⟩ s (n:=0) (q:=1) (m:=2) (N:=1) (by simp[ai]) (aN _ (by simp)) (by dsimp only;decide) (by dsimp only;decide) (by omega) f (by simp) (by simp) (by simp) (by simp)
 ·exact aM ⟨34,(d:Int),b,e,pos⟩ s (n:=0) (q:=0) (m:=0) (N:=0) (by simp[ai]) (aN _ (by simp)) (by dsimp only;decide) (by dsimp only;decide) (by omega) f (by simp) (by simp) (by simp) (by simp)
 ·exact aM ⟨35,(d:Int),b,e,pos⟩ s (n:=0) (q:=1) (m:=0) (N:=1) (by simp[ai]) (aN _ (by simp)) (by dsimp only;decide) (by dsimp only;decide) (by omega) f (by simp) (by simp) (by simp) (by simp)
 ·exact aM ⟨36,(d:Int),b,e,pos⟩ s (n:=0) (q:=1) (m:=0) (N:=1) (by simp[ai]) (aN _ (by simp)) (by dsimp only;decide) (by dsimp only;decide) (by omega) f (by simp) (by simp) (by simp) (by simp)
 ·exact aM ⟨37,(d:Int),b,e,pos⟩ s (n:=0) (q:=1) (m:=0) (N:=1) (by simp[ai]) (aN _ (by simp)) (by dsimp only;decide) (by dsimp only;decide) (by omega) f (by simp) (by simp) (by simp) (by simp)
 ·exact kE ⟨38,(d:Int),b,e,pos⟩ s 112 (some s) (λj g=>by rw[zj g];exact zb _) (by simp[bu,ai]) (by rw[fd _ s [] [112] (aN _ (by simp)) (by dsimp only;decide) (by dsimp only;decide)];simp[bC,dK]) (by dsimp only;decide) (by simp)
 ·exact kE ⟨39,(d:Int),b,e,pos⟩ s 112 (some s) (λj g=>by rw[zj g];exact zb _) (by simp[bu,ai]) (by rw[fd _ s [] [112] (aN _ (by simp)) (by dsimp only;decide) (by dsimp only;decide)];simp[bC,dK]) (by dsimp only;decide) (by simp)
 ·exact kE ⟨40,(d:Int),b,e,pos⟩ s 112 (some s) (λj g=>by rw[zj g];exact zb _) (by simp[bu,ai]) (by rw[fd _ s [] [112] (aN _ (by simp)) (by dsimp only;decide) (by dsimp only;decide)];simp[bC,dK]) (by dsimp only;decide) (by simp)
 ·exact kE ⟨41,(d:Int),b,e,pos⟩ s 112 (aw 118 1 s) (λj g=>kT g) (by simp[bu,ai]) (by rw[fd _ s [118] [112] (aN _ (by simp)) (by dsimp only;decide) (by dsimp only;decide)];simp[bC,lU]) (by dsimp only;decide) (by simp)
 ·exact kE ⟨42,(d:Int),b,e,pos⟩ s 112 (aw 118 2 s) (λj g=>kT g) (by simp[bu,ai]) (by rw[fd _ s [118,118] [112] (aN _ (by simp)) (by dsimp only;decide) (by dsimp only;decide),show(2:Nat)=1+1 from rfl,oC];simp[bC,wN]) (by dsimp only;decide) (by simp)
 ·exact kE ⟨43,(d:Int),b,e,pos⟩ s 112 ((aw 118 1 s).or (aw 112 1 s)) (λj g=>by rw[<-Cz t]at g;exact kT g) (by simp[bu,ai]) (by rw[fd _ s [63] [112] (aN _ (by simp)) (by dsimp only;decide) (by dsimp only;decide)];simp[bC,lU,Cz t]) (by dsimp only;decide) (by simp)
 ·have h:=fd ⟨44,(d:Int),b,e,pos⟩ s [112] [112,118] (aN _ (by simp)) (by dsimp only;decide) (by dsimp only;decide);have p:bu ⟨44,(d:Int),b,e,pos⟩ s=(aw 112 1 s).map λj=>(some (118::s),none):=by simp[bu,ai]
  rw[p];simp only[Int.toNat_zero,bC,Option.bind_some,lU,AJ]at h
  cases s with
  |nil=>exact h.trans rfl
  |cons x s=>
   rw[gR]at h ⊢
   simp only[List.length_cons]at f;by_cases k:x=112
   ·rw[zn (.inl k)]at h ⊢
    rw[Option.bind_some]at h;rw[Option.map_some];subst k;refine⟨λg=>?_,λg=>?_,by simp,by simp[al]⟩
    ·rcases g with g|g
     ·have:=bQ.1 g;simp only[List.length_cons]at this;rw[h,zn (show 30000<s.length+2 by omega)];rfl
     ·exact(fH g).elim
    ·have r:¬30000<(118::112::s).length:=λl=>g (.inl (bQ.2 l));simp only[List.length_cons]at r;rw[zm (show ¬30000<s.length+2 by omega)]at h;exact⟨_,h,λo g=>zj g,λo g=>by cases g⟩
   ·rw[zm (by omega)]at h ⊢
    exact h
 ·exact xE ⟨45,(d:Int),b,e,pos⟩ s ((aw 118 1 s).bind (aw 112 1)) f (λj g=>by obtain⟨o,B,A⟩:=Option.bind_eq_some_iff.1 g;have:=kT B;have:=kT A;omega) (by simp[bu,ai]) (by rw[fd _ s [118,112] [] (aN _ (by simp)) (by dsimp only;decide) (by dsimp only;decide)];simp[bC,wN,dp,Option.map_eq_bind];rfl) (by dsimp only;decide) (by simp)
 ·exact aM ⟨46,(d:Int),b,e,pos⟩ s (n:=(d:Int)) (q:=1) (m:=1) (N:=(d+1)) (by simp[ai]) (by simp[aF]) (by dsimp only;decide) (by dsimp only;decide) (by omega) f (by simp) (by simp) (by simp) (by simp)
 ·exact aM ⟨47,(d:Int),b,e,pos⟩ s (n:=(d:Int)) (q:=0) (m:=1) (N:=d) (by simp[ai]) (by simp[aF]) (by dsimp only;decide) (by dsimp only;decide) (by omega) f (by simp) (by simp) (by simp) (by simp)
 ·exact aM ⟨48,(d:Int),b,e,pos⟩ s (n:=(d:Int)) (q:=1) (m:=0) (N:=(d+1)) (by simp[ai]) (by simp[aF]) (by dsimp only;decide) (by dsimp only;decide) (by omega) f (by simp) (by simp) (by simp) (by simp)
 ·exact aM ⟨49,(d:Int),b,e,pos⟩ s (n:=(d:Int)) (q:=0) (m:=0) (N:=d) (by simp[ai]) (by simp[aF]) (by dsimp only;decide) (by dsimp only;decide) (by omega) f (by simp) (by simp) (by simp) (by simp)
 ·exact aM ⟨50,(d:Int),b,e,pos⟩ s (n:=0) (q:=1) (m:=0) (N:=1) (by simp[ai]) (aN _ (by simp)) (by dsimp only;decide) (by dsimp only;decide) (by omega) f (by simp) (by simp) (by simp) (by simp)
 ·exact kE ⟨51,(d:Int),b,e,pos⟩ s 116 (aw 118 1 s) (λj g=>kT g) (by simp[bu,ai]) (by rw[fd _ s [118] [116] (aN _ (by simp)) (by dsimp only;decide) (by dsimp only;decide)];simp[bC,lU]) (by dsimp only;decide) (by simp)
 ·have h:=fd ⟨52,(d:Int),b,e,pos⟩ s [116] [116,118,118] (aN _ (by simp)) (by dsimp only;decide) (by dsimp only;decide);have p:bu ⟨52,(d:Int),b,e,pos⟩ s=(aw 116 1 s).map λj=>(some (118::118::s),some j):=by simp[bu,ai]
  rw[p];simp only[Int.toNat_zero,bC,Option.bind_some,lU,Du]at h
  cases s with
  |nil=>exact h.trans rfl
  |cons x s=>
   rw[gR]at h ⊢
   simp only[List.length_cons]at f;by_cases k:x=116
   ·rw[zn (.inl k)]at h ⊢
    rw[Option.bind_some]at h;rw[Option.map_some];subst k;refine⟨λg=>?_,λg=>?_,by simp,by simp[al]⟩
    ·rcases g with g|g
     ·have:=bQ.1 g;simp only[List.length_cons]at this;rw[h,zn (show 30000<s.length+3 by omega)];rfl
     ·have:=bQ.1 g;omega
    ·have r:¬30000<(118::118::116::s).length:=λl=>g (.inl (bQ.2 l));simp only[List.length_cons]at r;rw[zm (show ¬30000<s.length+3 by omega)]at h;exact⟨_,h,λo g=>zj g,λo g=>zj g⟩
   ·rw[zm (by omega)]at h ⊢
    exact h
 ·exact xE ⟨53,(d:Int),b,e,pos⟩ s (aw 116 d s) f (λj g=>kT g) (by simp[bu,ai]) (by rw[fd _ s [] [] (c:=116) (n:=(d:Int)) (by simp[aF]) (by dsimp only;decide) (by dsimp only;decide)];simp[dK,dp];cases aw 116 d s<;>rfl) (by dsimp only;decide) (by simp)
end
end Go.Proofs.PeepPlain

/- Parts of the proof: GlobOf KnownP KnownW SmallW OnceP -/
import Derived.Test.YtmecmlpoallpcaaGreatDoorM11
import Derived.Test.YtmecmlpoallpcaaGreatDoorRows
import Derived.Deep.Slices
import Derived.ProofKit
import Derived.OpenShut
import Derived.Lib.LaidTab
import Derived.Shelf.Vars
import Derived.Stop.Joined
import Derived.Test.YtmecmlpoallpcaaGreatDoorM20
import Derived.Test.YtmecmlpoallpcaaGreatDoorM09
import Derived.Deep.QuietTactic
import Derived.BigQuiet
import Derived.Test.YtmecmlpoallpcaaGreatDoorM23
set_option linter.all false
set_option maxHeartbeats 8000000
namespace Go.Proofs.YtmecmlpoallpcaaGreatDoor
open Go.Proofs.Tryz
section
open Go.ChangeShapes Go.WideShapes Go.ChangeAt Go.RowKit Go.Deep
def gI{P:Program}{x:String × DataW Unit}{r:List (String × DataW Unit)}{w:World}(g:laidMet P (x::r) w):laidMet P r w:=by
 obtain⟨j,⟨l,i,n,m,k,a,_,_,_,_,c,rfl⟩,d,e⟩:=g;exact⟨a,c,(List.nodup_append.1 d).2.1,λh b f=>e h b (List.mem_append_right _ f)⟩
def xM{P:Program}{n:String}{d:DataW Unit}{r:List (String × DataW Unit)}{w:World}(i:laidMet P ((n,d)::r) w):
 ∃g t a b p,P.globalNamed n=some g∧(P.globals[g]?).map (·.type)=some t∧w.var? P n=some a∧DataW.trod (λ_=>()) P w 0 (λ_=>true) false b t a.toList=some (d,p):=by
 obtain⟨k,⟨g,t,a,b,p,j,h,f,e,c,_,_⟩,_,_⟩:=i;exact⟨g,t,a,b,p,h,f,e,c⟩
def Ct{s t:ByteArray}(a:s.data.toList=t.data.toList):s=t:=by
 cases s;cases t;simp at a;simp[a]
def vL{H:Type}{D:TypeId × Value->H}{P:Program}{w:World}{base:Nat}{l:Nat->Bool}{v:Bool}{g:Nat}{t e:TypeId}{n:Nat}{h:List Value}{c:List ByteArray}{p:List MemPlace}
 (q:P.underlying t=some (.array n e))(x:P.underlying e=some .string)(z:P.cellsOf e=1)(y:P.cellsOf t=n)
 (b:DataW.trod D P w base l v g t h=some (.agg (c.map λs=> .lit (.string s.data.toList)),p)):h=c.map Value.string:=by
 cases g with
 |zero=>simp[DataW.trod]at b
 |succ g=>
  simp only[DataW.trod,q,z,y,Nat.mul_one]at b;split at b
  ·rename_i K;obtain⟨d,k,o⟩:=Option.map_eq_some_iff.1 b;have j:d.map (·.1)=c.map λs=>(DataW.lit (.string s.data.toList):DataW H):=by
    have:=zp Prod.fst o;simpa using this
   have J:d.length=n:=by simpa using Lib.mapM_length k
   have I:c.length=n:=by
    have:=zp List.length j;simp at this;omega
   apply List.ext_getElem?;intro a;by_cases r:a<n
   ·obtain⟨L,B,u⟩:=Lib.mapM_at k a a (by simp[r]);obtain⟨i,A,F,_⟩:=DataW.trod_string x u;have C:h[a]?=some (.string i):=by
     have:=zp (·[0]?) A;simpa[List.getElem?_take,List.getElem?_drop]using this
    have f:(d.map (·.1))[a]?=some (DataW.lit (.string i.data.toList):DataW H):=by simp[B,F]
    rw[j]at f;simp only[zL,Option.map_eq_some_iff,DataW.lit.injEq,Lit.string.injEq]at f;obtain⟨G,m,E⟩:=f;obtain rfl:=Ct E;simp[C,m]
   ·rw[zM (by omega),zM (by simp;omega)]
  ·cases b
def EE{H:Type}{i:TypeId × Value->H}{P:Program}{w:World}{base:Nat}{e:Nat->Bool}{h:Bool}{c:Nat}{t:TypeId}{d:List Value}{x:DataW H × List MemPlace}{f:Array (String × TypeId)}
 (g:P.underlying t=some (.interface f))(a:DataW.trod i P w base e h c t d=some x):∃b,d=[b]∧FB b:=by
 cases c with
 |zero=>simp[DataW.trod]at a
 |succ n=>
  unfold DataW.trod at a;rw[g]at a;split at a<;>first|exact⟨_,rfl,.inl rfl⟩|exact⟨_,rfl,.inr ⟨_,_,rfl⟩⟩|simp_all
def OW:prog.globalNamed "strings.asciiSpace" =some 0:=by kernel_rfl
def Ob:(prog.globals[0]?).map (·.type)=some 182:=by kernel_rfl
def Ro:prog.globalNamed "internal/strconv.uint64pow10" =some 3:=by kernel_rfl
def QR:(prog.globals[3]?).map (·.type)=some 262:=by kernel_rfl
def RJ:prog.globalNamed "strconv.ErrSyntax" =some 5:=by kernel_rfl
def Qv:(prog.globals[5]?).map (·.type)=some 34:=by kernel_rfl
def Rh:prog.globalNamed "strconv.ErrRange" =some 6:=by kernel_rfl
def Qn:(prog.globals[6]?).map (·.type)=some 34:=by kernel_rfl
def QO:prog.globalNamed "guise/value.own" =some 7:=by kernel_rfl
def QI:(prog.globals[7]?).map (·.type)=some 277:=by kernel_rfl
def KC:prog.cellsOf 182=256:=by kernel_rfl
def Kq:prog.cellsOf 262=20:=by kernel_rfl
def Ln:prog.cellsOf 277=8:=by kernel_rfl
def LY:prog.cellsOf 126=1:=by kernel_rfl
def Pb:prog.cellsOf 5=1:=by kernel_rfl
def NJ:prog.cellsOf 9=1:=by kernel_rfl
def EW:(Rows.laid_strings_asciiSpace (H:=Unit))=Lib.tabData .u8 Lib.asciiSpaceTab:=by kernel_rfl
def Mk:(Rows.laid_internal_strconv_uint64pow10 (H:=Unit))=Lib.tabData .u64 Lib.pow10Tab:=by kernel_rfl
def Ll:(Rows.laid_guise_value_own (H:=Unit))= .agg (Fa.map λa=> .lit (.string a.data.toList)):=by kernel_rfl
def CX{c:World}{n:String}{d:DataW Unit}{g:Nat}{r:List (String × DataW Unit)}(b:prog.globalNamed n=some g)(h:(prog.globals[g]?).map (·.type)=some 34)(k:laidMet prog ((n,d)::r) c):∃a,c.cell? ⟨g,0,none⟩=some a∧FB a:=by
 obtain⟨s,p,o,t,q,i,f,e,j⟩:=xM k;obtain rfl:=zj (b.symm.trans i);obtain rfl:=zj (h.symm.trans f);obtain⟨a,m,l⟩:=EE underlying34 j;refine⟨a,?_,l⟩;rw[World.var?_cell b e 0];have:o.toList[0]?=some a:=by rw[m];rfl
 simpa using this
def IW{P:Program}{w:World}{g:Nat}{t:TypeId}{zero:Array Value}(d:w.ShapedOpen P)(b:g<P.globals.size)(c:((begin P (λ_ _=>0) default).world.heap[g]?).bind Obj.row?=some (zero,t)):g<w.heap.size:=by
 obtain⟨e,a,_⟩:=d.1 g zero t b c;exact(Array.getElem?_eq_some_iff.1 a).1
def LH{a:World}(e:a.ShapedOpen prog)(u:laidMet prog Rows.peepOnceUptoRow.laid a):aX a∧fT a:=by
 have d:14<=a.heap.size:=IW (g:=13) (t:=218) (zero:= #[.pointer none]) e (zx (by kernel_rfl)) (by kernel_rfl);have m:=gI (gI u);have k:=gI (gI m);have j:=gI k;have i:=gI (gI j);have v:=gI i;have l:laidMet prog (("internal/strconv.uint64pow10",Rows.laid_internal_strconv_uint64pow10)::_) a:=m;have h:laidMet prog (("strings.asciiSpace",Rows.laid_strings_asciiSpace)::_) a:=i;have g:laidMet prog (("guise/value.own",Rows.laid_guise_value_own)::_) a:=v;rw[Mk]at l;rw[EW]at h;rw[Ll]at g;refine⟨⟨Lib.tabIs_of_head OW Ob underlying182 underlying5 Pb KC h,?_,CX RJ Qv j,CX Rh Qn k,Lib.tabIs_of_head Ro QR underlying262 underlying126 LY Kq l,d⟩,?_,d⟩
 ·exact cell_of_shapedOpen_int (g:=4) (t:=3) (zero:= #[.int .i64 0]) e (zx (by kernel_rfl)) (by kernel_rfl) rfl (by kernel_rfl) (by kernel_rfl) underlying3
 ·obtain⟨f,b,w,y,x,r,p,o,s⟩:=xM g;obtain rfl:=zj (QO.symm.trans r);obtain rfl:=zj (QI.symm.trans p);have t:=vL underlying277 underlying9 NJ Ln s;intro c n q;rw[World.var?_cell QO o c];have:w.toList[c]?=some (.string n):=by rw[t,zL,q];rfl
  simpa using this
end
section
open Go.RowKit Go.Proofs.PeepPlain
def t1:ByteArray:=⟨#[49]⟩
def t2:ByteArray:=⟨#[50]⟩
def t3:ByteArray:=⟨#[51]⟩
def t0:ByteArray:=⟨#[]⟩
def kc:List au:=[⟨3,0,0,⟨#[49]⟩,0⟩,⟨3,0,0,⟨#[50]⟩,0⟩,⟨19,0,0,⟨#[43]⟩,0⟩,⟨50,0,0,⟨#[]⟩,0⟩]
def kd:List au:=[⟨3,0,0,⟨#[51]⟩,0⟩,⟨50,0,0,⟨#[]⟩,0⟩]
def QX:bB ⟨#[49]⟩=some 1:=by kernel_rfl
def QG:bB ⟨#[50]⟩=some 2:=by kernel_rfl
def Rf:bB ⟨#[51]⟩=some 3:=by kernel_rfl
def QY:E0.eff ⟨3,0,0,⟨#[49]⟩,0⟩ []=some ([118],[]):=by decide
def QL:E0.eff ⟨3,0,0,⟨#[50]⟩,0⟩ [118]=some ([118,118],[118]):=by decide
def Qq:∃r,E0.eff ⟨19,0,0,⟨#[43]⟩,0⟩ [118,118]=some ([118],r):=⟨_,rfl⟩
def RQ:∃r,E0.eff ⟨50,0,0,⟨#[]⟩,0⟩ [118]=some r:=⟨_,rfl⟩
def yS{l:List au}(b:∀x∈l,¬al x.op){k:Nat}:¬al (PeepPlain.aq l k):=by
 unfold PeepPlain.aq;by_cases a:k<l.length
 ·rw[aC a];exact b _ (zk a)
 ·rw[zd,zM (by omega)];decide
def Fz:∀x∈kc,¬al x.op:=by decide
def Le:∀x∈kd,¬al x.op:=by decide
def vH{l:List au}(c:∀x∈l,¬al x.op):dd l=List.replicate l.length false:=by
 unfold dd;rw[List.eq_replicate_iff];refine⟨by simp,λf a=>?_⟩;rw[List.mem_map]at a;obtain⟨d,_,rfl⟩:=a;rw[decide_eq_false_iff_not];rintro⟨e,_,b,_⟩;exact yS c b
def qq{l:List au}(b:∀x∈l,¬al x.op):PeepPlain.threads l=l:=by
 unfold PeepPlain.threads;rw[show l.map (gn l)=l.map id from List.map_congr_left λx a=>by unfold gn;rw[zm (b x a)];rfl,List.map_id]
def xF{l:List au}(e:∀x∈l,¬al x.op)(c:∀k,k<l.length->PeepPlain.ko l k):¬ky l (idle l):=by
 rintro⟨k,b,d⟩;rcases(jb l).2 k b|>.1 d with a|a
 ·exact a (c k b)
 ·exact yS e (k:=k) (by rw[a.1];exact dz)
def Lm:∀k,k<kc.length->PeepPlain.ko kc k:=by
 have d:PeepPlain.ko kc 0:= .zero;have c:PeepPlain.ko kc 1:= .next d (by decide) (by decide) (by decide);have b:PeepPlain.ko kc 2:= .next c (by decide) (by decide) (by decide);have e:PeepPlain.ko kc 3:= .next b (by decide) (by decide) (by decide);intro k a;have a:k<4:=a
 match k,a with
 |0,_=>exact d
 |1,_=>exact c
 |2,_=>exact b
 |3,_=>exact e
def Me:∀k,k<kd.length->PeepPlain.ko kd k:=by
 have b:PeepPlain.ko kd 0:= .zero;have c:PeepPlain.ko kd 1:= .next b (by decide) (by decide) (by decide);intro k a;have a:k<2:=a
 match k,a with
 |0,_=>exact b
 |1,_=>exact c
def QH:O0.cst ⟨3,0,0,⟨#[49]⟩,0⟩=some (.int 1):=by show cm (au.mk 3 0 0 ⟨#[49]⟩ 0)=some (gD.int 1);unfold cm;rw[zn rfl,QX];rfl
def RK:O0.cst ⟨3,0,0,⟨#[50]⟩,0⟩=some (.int 2):=by show cm (au.mk 3 0 0 ⟨#[50]⟩ 0)=some (gD.int 2);unfold cm;rw[zn rfl,QG];rfl
def Qp:O0.cst ⟨3,0,0,⟨#[51]⟩,0⟩=some (.int 3):=by show cm (au.mk 3 0 0 ⟨#[51]⟩ 0)=some (gD.int 3);unfold cm;rw[zn rfl,Rf];rfl
def Ry:O0.bi ⟨#[43]⟩ (.int 1) (.int 2)=some (.int 3):=by
 show iF ⟨#[43]⟩ (.int 1) (.int 2)=some (.int 3);unfold iF bg;rw[zH,zm (by decide),zm (by decide)];dsimp only;rw[zn rfl,show wrap64 ((1:Int)+2)=3 from by kernel_rfl]
def Ri:O0.lay (.int 3) 0=⟨3,0,0,⟨#[51]⟩,0⟩:=by
 show gQ (.int 3) 0=_;unfold gQ;dsimp only;rw[show Lib.itoa 3=[51]from by kernel_rfl]
def oJ{S:cU}(a:folds O0 S=(S,false)):aV O0 S=S:=by
 rw[aV,dif_neg (by rw[a];simp),a]
def Ks{S b:cU}(a:folds O0 S=(b,true)):aV O0 S=aV O0 b:=by
 rw[aV,dif_pos (by rw[a]),a]
def kf:List au:=[⟨3,0,0,⟨#[51]⟩,0⟩,⟨3,0,0,⟨#[50]⟩,0⟩,⟨19,0,0,⟨#[43]⟩,0⟩,⟨50,0,0,⟨#[]⟩,0⟩]
def Dy(l:List au)(m o:List Bool)(k:Nat):folds O0 ⟨l,m,o,[k]⟩=(⟨l,m,o,[k]⟩,false):=rfl
def RS(m o:List Bool)(a:m.getD 1 true=false):folds O0 ⟨kc,m,o,[1,0]⟩=(⟨kc,m,o,[1,0]⟩,false):=by
 unfold folds;dsimp only;rw[a,show kc.getD 0 default=⟨3,0,0,⟨#[49]⟩,0⟩from rfl,QH];rfl
def Ru:folds O0 ⟨kc,[false,false,false,false],[false,false,false,false],[2,1,0]⟩=(⟨kf,[false,false,false,false],[false,true,true,false],[0]⟩,true):=by
 unfold folds;dsimp only;rw[show kc.getD 1 default=⟨3,0,0,⟨#[50]⟩,0⟩from rfl,RK,show kc.getD 0 default=⟨3,0,0,⟨#[49]⟩,0⟩from rfl];dsimp only;rw[QH,show(kc.getD 2 default).text=⟨#[43]⟩from rfl];dsimp only;rw[Ry];dsimp only;rw[Ri];rfl
def Re(m o:List Bool)(a:m.getD 3 true=false):folds O0 ⟨kf,m,o,[3,0]⟩=(⟨kf,m,o,[3,0]⟩,false):=by
 unfold folds;dsimp only;rw[a,show kf.getD 0 default=⟨3,0,0,⟨#[51]⟩,0⟩from rfl,Qp];rfl
def Rt(m o:List Bool)(a:m.getD 1 true=false):folds O0 ⟨kd,m,o,[1,0]⟩=(⟨kd,m,o,[1,0]⟩,false):=by
 unfold folds;dsimp only;rw[a,show kd.getD 0 default=⟨3,0,0,⟨#[51]⟩,0⟩from rfl,Qp];rfl
def wJ:bM O0 kc=⟨kf,[false,false,false,false],[false,true,true,false],[3,0]⟩:=by
 unfold bM;rw[vH Fz];show bI O0 [0,1,2,3] ⟨kc,[false,false,false,false],[false,false,false,false],[]⟩=_;rw[bI,oJ (Dy _ _ _ _),bI,oJ (RS _ _ rfl),bI,Ks Ru,oJ (Dy _ _ _ _),bI,oJ (Re _ _ rfl),bI]
def wM:bM O0 kd=⟨kd,[false,false],[false,false],[1,0]⟩:=by
 unfold bM;rw[vH Le];show bI O0 [0,1] ⟨kd,[false,false],[false,false],[]⟩=_;rw[bI,oJ (Dy _ _ _ _),bI,oJ (Rt _ _ rfl),bI]
def Ew:PeepPlain.eq kf [false,true,true,false]=kd:=by rfl
def uq:cw cS kc=kd:=by
 rw[su (qq Fz) (xF Fz Lm) (by rw[wJ];exact⟨1,by decide,rfl⟩),wJ];dsimp only;rw[Ew,sE (qq Le) (xF Le Me) (by
  rw[wM];rintro⟨b,a,c⟩;have a:b<2:=a
  match b,a with
  |0,_=>cases c
  |1,_=>cases c),wM]
def vD(a:Option Addr):Fn:=⟨⟨#[]⟩,0,1,none,[],0, -1,a,kc,4⟩
def tW{k:Nat}{s:List Int}(a:PeepPlain.bN E0 kc k s):(k=0∧s=[])∨(k=1∧s=[118])∨(k=2∧s=[118,118])∨(k=3∧s=[118]):=by
 induction a with
 |zero=>exact .inl ⟨rfl,rfl⟩
 |next h0 h1 h2 h3 h4 ih=>
  rcases ih with⟨rfl,rfl⟩|⟨rfl,rfl⟩|⟨rfl,rfl⟩|⟨rfl,rfl⟩
  ·have:=h2.symm.trans QY;injection this with this;subst this;exact .inr (.inl ⟨rfl,rfl⟩)
  ·have:=h2.symm.trans QL;injection this with this;subst this;exact .inr (.inr (.inl ⟨rfl,rfl⟩))
  ·obtain⟨c,b⟩:=Qq;have:=h2.symm.trans b;injection this with this;subst this;exact .inr (.inr (.inr ⟨rfl,rfl⟩))
  ·exact absurd rfl h4
 |toA h0 h1 h2 h3 ih=>exact absurd h3 (yS Fz)
def NO:PeepPlain.vA E0 kc where
 goes:=λd c j g=>by
  rcases tW g with⟨rfl,rfl⟩|⟨rfl,rfl⟩|⟨rfl,rfl⟩|⟨rfl,rfl⟩
  ·exact⟨_,QY⟩
  ·exact⟨_,QL⟩
  ·obtain⟨i,a⟩:=Qq
   exact⟨_,a⟩
  ·exact RQ
 one:=λd c h f e=>by
  rcases tW f with⟨a,rfl⟩|⟨a,rfl⟩|⟨a,rfl⟩|⟨a,rfl⟩<;>rcases tW e with⟨b,rfl⟩|⟨b,rfl⟩|⟨b,rfl⟩|⟨b,rfl⟩<;>first|rfl|(exfalso;omega)
def Pd:(aj 19).word.toList.isEmpty=false:=rd (by kernel_rfl)
def OP:(aj 50).word.toList.isEmpty=false:=rd (by kernel_rfl)
def Pa:de ⟨3,0,0,⟨#[49]⟩,0⟩=true:=by
 unfold de;dsimp only;rw[show(aj 3).text=12 from rfl,zn rfl];unfold ce;rw[QX];rfl
def Pu:de ⟨3,0,0,⟨#[50]⟩,0⟩=true:=by
 unfold de;dsimp only;rw[show(aj 3).text=12 from rfl,zn rfl];unfold ce;rw[QG];rfl
def Pc:de ⟨19,0,0,⟨#[43]⟩,0⟩=true:=by kernel_rfl
def PU:de ⟨50,0,0,⟨#[]⟩,0⟩=true:=by kernel_rfl
def Ps(a:Option Addr)(k:Nat)(b:k<4):bW [vD a] 0 0 k=true:=by
 match k,b with
 |0,_=>
  show(!(aj 3).word.toList.isEmpty&&decide ((0:Int)<=0)&&decide ((0:Int)<=60000)&&ax [vD a] 0 0 ⟨3,0,0,⟨#[49]⟩,0⟩&&de ⟨3,0,0,⟨#[49]⟩,0⟩&&(decide ((0:Int)=0)||cM ⟨3,0,0,⟨#[49]⟩,0⟩)&&!fp kc 0 ⟨3,0,0,⟨#[49]⟩,0⟩&&cN kc 0 ⟨3,0,0,⟨#[49]⟩,0⟩)=true;rw[Lc,Pa];rfl
 |1,_=>
  show(!(aj 3).word.toList.isEmpty&&decide ((0:Int)<=0)&&decide ((0:Int)<=60000)&&ax [vD a] 0 0 ⟨3,0,0,⟨#[50]⟩,0⟩&&de ⟨3,0,0,⟨#[50]⟩,0⟩&&(decide ((0:Int)=0)||cM ⟨3,0,0,⟨#[50]⟩,0⟩)&&!fp kc 1 ⟨3,0,0,⟨#[50]⟩,0⟩&&cN kc 1 ⟨3,0,0,⟨#[50]⟩,0⟩)=true;rw[Lc,Pu];rfl
 |2,_=>
  show(!(aj 19).word.toList.isEmpty&&decide ((0:Int)<=0)&&decide ((0:Int)<=60000)&&ax [vD a] 0 0 ⟨19,0,0,⟨#[43]⟩,0⟩&&de ⟨19,0,0,⟨#[43]⟩,0⟩&&(decide ((0:Int)=0)||cM ⟨19,0,0,⟨#[43]⟩,0⟩)&&!fp kc 2 ⟨19,0,0,⟨#[43]⟩,0⟩&&cN kc 2 ⟨19,0,0,⟨#[43]⟩,0⟩)=true;rw[Pd,Pc];rfl
 |3,_=>
  show(!(aj 50).word.toList.isEmpty&&decide ((0:Int)<=0)&&decide ((0:Int)<=60000)&&ax [vD a] 0 0 ⟨50,0,0,⟨#[]⟩,0⟩&&de ⟨50,0,0,⟨#[]⟩,0⟩&&(decide ((0:Int)=0)||cM ⟨50,0,0,⟨#[]⟩,0⟩)&&!fp kc 3 ⟨50,0,0,⟨#[]⟩,0⟩&&cN kc 3 ⟨50,0,0,⟨#[]⟩,0⟩)=true;rw[OP,PU];rfl
def Gq(d:Option Addr):bs [vD d] []where
 many:=rfl
 globals:=rfl
 heads:=λa b=>by
  have c:a=0:=by simpa using b
  subst c
  show(er (vD d)&&dE (vD d))=true
  unfold dE
  rw[<-gE]
  rfl
 some_:=λa b=>by
  have c:a=0:=by simpa using b
  subst c
  exact(by decide:(4:Nat)≠0)
 fine:=λa e b f=>by
  have c:a=0:=by simpa using b
  subst c
  exact Ps d e f
 fits:=λa b=>by
  have c:a=0:=by simpa using b
  subst c
  exact NO
def GD(e:Option Addr):Small [vD e] []where
 nf:=(by decide:(1:Nat)<=2000000)
 all:=by show aY _ 1<=_;simp[aY,vD,kc]
 ng:=(by decide:(0:Nat)<=2000000)
 names:=λg=>by
  show(([]:List ByteArray).getD g ByteArray.empty).size<=_
  rw[List.getD_nil]
  exact zu _
 each:=λc b=>by
  have d:c=vD e:=by simpa using b
  subst d
  simp[vD,ByteArray.size]
 text:=λc b f a=>by
  have d:c=vD e:=by simpa using b
  subst d
  have a:f∈kc:=a
  simp[kc]at a
  rcases a with rfl|rfl|rfl|rfl<;>simp[ByteArray.size]
end
section
open Go.RowKit Go.Proofs.PeepPlain
abbrev QP(w:World):World:=w.alloc (.cells #[.int .i64 3,.int .i64 0,.int .i64 0,.string ⟨#[49]⟩,.int .i64 0,.int .i64 3,.int .i64 0,.int .i64 0,.string ⟨#[50]⟩,.int .i64 0,.int .i64 19,.int .i64 0,.int .i64 0,.string ⟨#[43]⟩,.int .i64 0,.int .i64 50,.int .i64 0,.int .i64 0,.string ⟨#[]⟩,.int .i64 0] 50)
abbrev Q7(w:World):World:=(QP w).alloc (.cells #[.string ⟨#[]⟩,.int .i64 0,.int .i64 1,.slice none 0 0,.int .i64 (-1),.slice (some ⟨w.heap.size,0,none⟩) 4 4] 47)
abbrev Rl(w:World):World:=(Q7 w).alloc (.cells #[.slice (some ⟨w.heap.size+1,0,none⟩) 1 1,.slice none 0 0] 25)
structure Ai(w wx:World):Prop where
 fns:bD wx (some ⟨w.heap.size+1,0,none⟩) [vD (some ⟨w.heap.size,0,none⟩)]
 row:ah wx (w.heap.size+2) 25 [.slice (some ⟨w.heap.size+1,0,none⟩) 1 1,.slice none 0 0]
 below:Below w.heap.size w wx
def Cg{w:World}{g:Nat}{t:TypeId}{b:List Value}(a:ah w g t b):bd w (some ⟨g,0,none⟩) b:=λ_=>⟨g,0,rfl,a.lt,λc e d=>by rw[zP,a.cell c];exact d⟩
def AO(w:World):Ai w (Rl w):=by
 have d:(QP w).heap.size=w.heap.size+1:=by show(w.heap.push _).size=_;rw[Array.size_push]
 have e:(Q7 w).heap.size=w.heap.size+2:=by show((QP w).heap.push _).size=_;rw[Array.size_push,d]
 have h:ah (QP w) w.heap.size 50 (bV kc):=ah.made w 50 (bV kc);have g:ah (Q7 w) (w.heap.size+1) 47 (cx [vD (some ⟨w.heap.size,0,none⟩)]):=by
  have:=ah.made (QP w) 47 (cx [vD (some ⟨w.heap.size,0,none⟩)]);rw[d]at this;exact this
 have f:ah (Rl w) (w.heap.size+2) 25 [.slice (some ⟨w.heap.size+1,0,none⟩) 1 1,.slice none 0 0]:=by
  have:=ah.made (Q7 w) 25 [.slice (some ⟨w.heap.size+1,0,none⟩) 1 1,.slice none 0 0];rw[e]at this;exact this
 refine⟨⟨Cg (g.alloc _),λb a=>?_,λb a=>?_⟩,f,bG w _ _ _⟩
 ·have c:b=vD (some ⟨w.heap.size,0,none⟩):=by simpa using a
  subst c;exact Cg ((h.alloc _).alloc _)
 ·have c:b=vD (some ⟨w.heap.size,0,none⟩):=by simpa using a
  subst c;exact bd.none_ _ _
def Pg(w:World)(e:Ending)(w':World):Prop:=e= .returned (.bool true)∧zz w w'
set_option maxRecDepth 20000 in
def uF(w:World)(x:∀a,zz w a->aX a∧fT a):Calls prog 5 #[] w (Pg w):=by
 have L:=za (λ(a:World) (h:Ai w a)=>mF [vD (some ⟨w.heap.size,0,none⟩)] [] (some ⟨w.heap.size+1,0,none⟩) none 1 0 a h.fns (bd.none_ _ _) (λi Q=>x i (ac h.below Q h.below.size)) (GD _) (Gq _));have ad:=za (λ(a i:World) (h:Ai w a) (c:zz a i)=>vf [vD (some ⟨w.heap.size,0,none⟩)] [] (some ⟨w.heap.size+1,0,none⟩) none 1 0 i (h.fns.below c) (bd.none_ _ _) (λO o=>x O (ac (ac h.below c h.below.size) o (zi h.below.size c.size))) (GD _) (Gq _));have af:=za (AO w);clear x;go_enter func5,ntmps5;go_wp2_with (go_at_call 9;refine(L.out _ af.out).mono ?_);rintro Z n ⟨Y,y,t,v,s,rfl,E,V,q,c,T,S,U⟩;obtain⟨b,rfl⟩:∃b,Y=[b]:=List.length_eq_one_iff.1 q.1;have C:b.code=kd:=(q.2 0 Nat.one_pos Nat.one_pos).2.2.2.2.2.trans uq;have e:=za (AO w);have u:=za (e.row.below c e.row.lt);have f:=za c;have an:=za E;have M:=za C;have ab:=u.cell 0;have aa:=u.cell 1;have o:=u.lt;clear E V q c T S U C L;generalize Rl w=w3 at e f;go_wp2_with (go_at_call 10;refine(ad.out _ _ e.out (f.alloc f.size _)).mono ?_);rintro Z g ⟨X,P,p,A,rfl,l⟩;obtain⟨d,rfl⟩:∃d,X=[d]:=List.length_eq_one_iff.1 p.1;have B:d.code=kd:=(p.2 0 Nat.one_pos Nat.one_pos).2.2.2.2.2.trans uq;have R:P=2:=by
  rw[A];show((aY [vD (some ⟨w.heap.size,0,none⟩)] 1:Nat):Int) - ((aY [d] 1:Nat):Int)=2;rw[show aY [d] 1=d.code.length from by simp[aY],B,show aY [vD (some ⟨w.heap.size,0,none⟩)] 1=4 from by simp[aY,vD,kc]];rfl
 subst R;have K:=za ((ah.made n 25 [.slice y 1 t,.slice v 0 s]).below l (ah.made n 25 _).lt);have N:=za ((an.below (below1 n (.cells #[.slice y 1 t,.slice v 0 s] 25))).below l);have ao:=za (ac e.below (ac (f.alloc f.size (.cells #[.slice y 1 t,.slice v 0 s] 25)) l (zi f.size (by simp))) e.below.size);obtain⟨J,z,rfl,a0,D⟩:=N.at_ Nat.one_pos;have I:=(D 0 Nat.one_pos).2.2.2.2.2;have r:=N.code b (by simp);rw[M.out]at r;obtain⟨m,j,W,av,k⟩:=r.at_ (by decide);have H:=(k 0 (by decide)).1;have F:=(k 0 (by decide)).2.2.2.1;have G:=(k 1 (by decide)).1;have a4:g.cell? ⟨J,z+5,none⟩=some (.slice (some ⟨m,j,none⟩) 2 b.cc):=by
  have:g.cell? ⟨J,z+0 * 6+5,none⟩=some (.slice b.CA b.code.length b.cc):=I;rw[M.out,W]at this;simpa[kd]using this
 have a3:g.cell? ⟨m,j,none⟩=some (.int .i64 3):=by simpa[kd]using H
 have a1:g.cell? ⟨m,j+3,none⟩=some (.string ⟨#[51]⟩):=by simpa[kd]using F
 have a2:g.cell? ⟨m,j+5,none⟩=some (.int .i64 50):=by simpa[kd]using G
 have ap:=K.cell 0;have ar:=K.lt;clear I H F G k D r ab aa o l p A B;go_wp2_with fail;go_ret;exact⟨rfl,ao⟩
end
section
open Go.RowKit Go.Proofs.PeepPlain
def Dm(w:World)(e:Ending)(w':World):Prop:=(∃a,e= .returned (.bool a))∧zz w w'
def ow{w w':World}{e:Ending}{b:Bool}(c:e= .returned (.bool b))(a:zz w w'):Dm w e w':=⟨⟨b,c⟩,a⟩
set_option maxRecDepth 20000 in
def Dr(fs:List Fn)(gl:Nat)(d GA:Option Addr)(fc gc:Nat)(w:World)(l:bD w d fs)(G:fs.length<=2000000)(F:gl<=2000000)(j:∀f∈fs,f.code.length<=2000000∧f.taken.length<=2000000):
 Calls prog 6 #[.agg #[.slice d fs.length fc,.slice GA gl gc]] w (Dm w):=by
 have m:=za l;have A:=za j;clear l j;by_cases O:(4000:Int)<(fs.length:Int)
 ·go_enter func6,ntmps6;go_wp2_with fail;go_ret;exact ow rfl (below1 w _)
 by_cases N:(4000:Int)<(gl:Int)
 ·go_enter func6,ntmps6;go_wp2_with fail;go_ret;exact ow rfl (below1 w _)
 go_enter func6,ntmps6;go_wp2_with fail;have c:=za (ah.made w 25 [.slice d fs.length fc,.slice GA gl gc]);have e:=za (m.below (below1 w (.cells #[.slice d fs.length fc,.slice GA gl gc] 25)));have b:=za (below1 w (.cells #[.slice d fs.length fc,.slice GA gl gc] 25));generalize w.alloc (.cells #[.slice d fs.length fc,.slice GA gl gc] 25)=w1 at c e b;go_loopw [2,3,4] (λp n g wr=> ∃(a:Nat) (h:Int),g= .int .i64 a∧p= .bool false∧n= .int .i64 h∧a<=fs.length∧Hid (ah wr w.heap.size 25 [.slice d fs.length fc,.slice GA gl gc])∧Hid (bD wr d fs)∧Hid (zz w wr)) (λ_ _ g _=>fs.length - (intOf g).toNat)
 case atStart=>exact⟨0,0,rfl,rfl,rfl,zu _,c,e,b⟩
 case round=>
  clear c e b m;obtain⟨a,h,rfl,rfl,rfl,H,c,e,b⟩:=hrel;have C:=c.cell 0;have B:=c.cell 1;have E:=c.lt;by_cases i:a<fs.length
  ·obtain⟨P,D,rfl,J,k⟩:=e.at_ (by omega);obtain⟨y,x,v,u,t,s⟩:=k a i;clear y x v t k;have I:(0:Int)<=(a:Int)∧(a:Int)<(fs.length:Int):=by omega
   obtain⟨r,q⟩:=A.out _ (zk i);generalize fs[a]=o at u s r q;by_cases M:(4000:Int)<(o.code.length:Int)
   ·go_wp2_with fail;go_ret;exact ow rfl b.out
   by_cases L:(4000:Int)<(o.taken.length:Int)
   ·go_wp2_with fail;go_ret;exact ow rfl b.out
   go_wp2_with fail;go_quiet (fail);generalize wrap64 (wrap64 (h+(o.code.length:Int))+(o.taken.length:Int))=z;by_cases K:(4000:Int)<z
   ·go_wp2_with fail;go_ret;exact ow rfl (ae b.out nq)
   go_wp2_with fail;go_roundw
   case rel=>exact⟨a+1,z,by go_num,rfl,rfl,by omega,c.drewN nq,e.below (ae (zZ _ _) nq),ae b.out nq⟩
   case measure=>simp[intOf];omega
  ·obtain rfl:a=fs.length:=by omega
   go_wp2_with fail;go_ret;exact ow rfl b.out
end
section
open Go.RowKit Go.Proofs.PeepPlain
def uX{fs i:List Fn}{gs:List ByteArray}(j:bs fs gs)(d:Small fs gs)(a:iE fs i):Small i gs where
 nf:=by rw[a.1];exact d.nf
 all:=by
  have:=qi a (λb c l=>na j a c l) fs.length (zb _)
  rw[a.1]
  exact zi this d.all
 ng:=d.ng
 names:=d.names
 each:=λm f=>by
  obtain⟨b,c,rfl⟩:=zQ f
  have e:b<fs.length:=by rw[<-a.1];exact c
  obtain⟨o,s,r,n,q,_⟩:=a.2 b e c
  rw[o,n]
  exact d.each _ (zk e)
 text:=λm f p g=>by
  obtain⟨b,c,rfl⟩:=zQ f
  have e:b<fs.length:=by rw[<-a.1];exact c
  rw[(a.2 b e c).2.2.2.2.2]at g
  obtain⟨k,h,rfl⟩:=zQ g
  have:=mB cS iR _ fs[b].code (zb _) (vC j d e) k h
  rw[aC h]at this
  exact this.2
def nB{fs:List Fn}{gs:List ByteArray}(e:bs fs gs):∀f∈fs,f.taken.length<=2000000∧f.code.length<=2000000:=λf d=>by
 obtain⟨c,b,rfl⟩:=zQ d;have a:=dF e.many;have:=(a.2.2.2.2 c b).2;have:=iq b;have:=a.2.2.2.1;omega
def Dk{fs:List Fn}{gs:List ByteArray}(b:Small fs gs):∀f∈fs,f.code.length<=2000000∧f.taken.length<=2000000:=λf c=>by
 obtain⟨d,a,rfl⟩:=zQ c;have:=iq a;have:=b.all;exact⟨by omega,(b.each _ (zk a)).2⟩
def Mm{fs b a:List Fn}(f:iE fs b)(e:iE fs a):∀k,k<=fs.length->aY a k=aY b k:=by
 intro k
 induction k with
 |zero=>intro _;rfl
 |succ k ih=>
  intro g;have d:k<b.length:=by rw[f.1];omega
  have c:k<a.length:=by rw[e.1];omega
  rw[dS a k c,dS b k d,ih (by omega),(f.2 k (by omega) d).2.2.2.2.2,(e.2 k (by omega) c).2.2.2.2.2]
end
end Go.Proofs.YtmecmlpoallpcaaGreatDoor

/- Parts of the proof: RefJ -/
import Derived.Test.YtmecmlpoallpcaaGreatDoorM11
import Derived.Test.YtmecmlpoallpcaaGreatDoorM09
import Derived.Test.YtmecmlpoallpcaaGreatDoorM10
import Derived.RegionTactic
import Derived.Deep.QuietTactic
import Derived.BigQuiet
set_option linter.all false
set_option maxHeartbeats 8000000
namespace Go.Proofs.YtmecmlpoallpcaaGreatDoor
open Go.Proofs.Tryz
section
set_option maxRecDepth 20000
open Go.RowKit Go.Proofs.PeepPlain
def Ek(a:Int):bP a 2=(decide (a=0)||decide (a=1)):=by
 unfold bP;rw[zA];simp only[zy,Bool.or_eq_true,decide_eq_true_eq];omega
section
variable(fs:List Fn)(A GA:Option Addr)(fc gl gc f:Nat)(op a b pos:Int)(s:ByteArray)(w:World)
def kO(d:Bool):Prop:=Calls prog 47 #[.agg #[.slice A fs.length fc,.slice GA gl gc],.int .i64 f,.agg #[.int .i64 op,.int .i64 a,.int .i64 b,.string s,.int .i64 pos]] w λe c=>e= .returned (.bool d)∧zz w c
variable{fs A GA fc gl gc f op a b pos s w}
def Og{c:Bool}(d:∀u,c=u->kO fs A GA fc gl gc f op a b pos s w u):kO fs A GA fc gl gc f op a b pos s w c:=d c rfl
def Rk(h:bD w A fs)(i:f<fs.length)(t:fs.length<=2000000)(d:op≠26)(g:b≠0):kO fs A GA fc gl gc f op a b pos s w (false):=by
 unfold kO;obtain⟨c,r,rfl,z,e⟩:=h.at_ (by omega);obtain⟨p,n,m,l,k,j⟩:=e f i;have u:(0:Int)<=(f:Int)∧(f:Int)<(fs.length:Int):=by omega
 have y:c≠w.heap.size:=by omega
 have x:c≠w.heap.size+1:=by omega
 have v:c<w.heap.size+1:=by omega
 clear h;generalize fs[f]=o at p n m l k j;clear e;have t1:(op !=26)=true:=zO.2 d;have t2:(b !=0)=true:=zO.2 g;have t3:(op==26)=false:=zh.2 d;have q:(b==0)=false:=zh.2 g;go_enter func47,ntmps47;go_wp2_with fail;go_ret;exact⟨rfl,by go_grown⟩
def RL(i:bD w A fs)(g:f<fs.length)(y:fs.length<=2000000)(j:b=0):
 ((op=33)->kO fs A GA fc gl gc f op a b pos s w (bP a 3))∧
 ((op=9∨op=12∨op=13∨op=38)->kO fs A GA fc gl gc f op a b pos s w (bP a (fs.getD f default).slots))∧
 ((op=10∨op=14∨op=39)->kO fs A GA fc gl gc f op a b pos s w (bP a gl))∧
 ((op=11∨op=15∨op=40)->kO fs A GA fc gl gc f op a b pos s w (bP a (fs.getD f default).taken.length))∧
 ((op=27∨op=28∨op=46∨op=47∨op=48∨op=49∨op=53)->kO fs A GA fc gl gc f op a b pos s w (bP a 20001))∧
 ((op=29)->kO fs A GA fc gl gc f op a b pos s w (bP a 31))∧
 ((op=34∨op=35∨op=36∨op=37∨op=52)->kO fs A GA fc gl gc f op a b pos s w (bP a (fs.getD f default).code.length)):=by
 subst j;have t:=za nH;rw[zd,zo g,Option.getD_some];obtain⟨d,x,rfl,E,h⟩:=i.at_ (by omega);obtain⟨q,p,n,m,l,k⟩:=h f g;have z:(0:Int)<=(f:Int)∧(f:Int)<(fs.length:Int):=by omega
 have D:d≠w.heap.size:=by omega
 have C:d≠w.heap.size+1:=by omega
 have B:d<w.heap.size+1:=by omega
 clear i;generalize fs[f]=o at q p n m l k ⊢
 clear h;refine⟨?_,?_,?_,?_,?_,?_,?_⟩
 all_goals
  intro c;refine Og λv e=>?_;have r:=za e;clear e
  repeat' (apply Or.elim c<;>(clear c;intro c))
 all_goals
  subst c;unfold kO;go_enter func47,ntmps47;go_wp2_with (go_at_call 78;refine(t.out _ _ _).mono ?_;rintro F u ⟨rfl,rfl⟩);go_ret;exact⟨ag r.symm,by go_grown⟩
def Rp(h:bD w A fs)(q:f<fs.length)(v:fs.length<=2000000)(r:b=0):
 ((op=6∨op=8∨op=22∨op=23∨op=32)->kO fs A GA fc gl gc f op a b pos s w (bP a 2))∧
 ((op=21)->kO fs A GA fc gl gc f op a b pos s w (decide (1<=a)&&decide (a<=7))):=by
 subst r;obtain⟨d,u,rfl,C,g⟩:=h.at_ (by omega);obtain⟨n,m,l,k,j,i⟩:=g f q;have x:(0:Int)<=(f:Int)∧(f:Int)<(fs.length:Int):=by omega
 have B:d≠w.heap.size:=by omega
 have z:d≠w.heap.size+1:=by omega
 have y:d<w.heap.size+1:=by omega
 clear h;generalize fs[f]=o at n m l k j i;clear g;refine⟨?_,?_⟩
 all_goals
  intro c;refine Og λt e=>?_;have p:=za e;clear e
  repeat' (apply Or.elim c<;>(clear c;intro c))
 all_goals
  subst c;unfold kO;go_enter func47,ntmps47;go_wp2_with fail
  all_goals go_ret
  all_goals refine⟨ag ?_,by go_grown⟩
  all_goals rw[<-p.out]
  all_goals(try rw[Ek])
  all_goals clear p n m l k j i
  all_goals first|rfl|grind|(rw[zA];simp;omega)|(simp[*];done)
def Qe(h:bD w A fs)(r:f<fs.length)(v:fs.length<=2000000)(q:op=26):kO fs A GA fc gl gc f op a b pos s w ((decide (a=2)||decide (a=3))&&(decide (b=0)||cM ⟨26,a,b,s,pos⟩)):=by
 unfold kO;subst q;have p:=za nH;obtain⟨c,u,rfl,C,g⟩:=h.at_ (by omega);obtain⟨n,m,l,k,j,i⟩:=g f r;have x:(0:Int)<=(f:Int)∧(f:Int)<(fs.length:Int):=by omega
 have B:c≠w.heap.size:=by omega
 have z:c≠w.heap.size+1:=by omega
 have y:c<w.heap.size+1:=by omega
 clear h;generalize fs[f]=o at n m l k j i;clear g;obtain⟨e,d⟩:∃e,Hid (((decide (a=2)||decide (a=3))&&(decide (b=0)||cM ⟨26,a,b,s,pos⟩))=e):=⟨_,za rfl⟩
 rw[d.out];go_enter func47,ntmps47;go_wp2_with (go_at_call 78;refine(p.out _ _ _).mono ?_;rintro D t ⟨rfl,rfl⟩)
 all_goals go_ret
 all_goals refine⟨ag ?_,by go_grown⟩
 all_goals rw[<-d.out]
 all_goals unfold cM
 all_goals clear d n m l k j i p
 all_goals grind
def Qu(C:bD w A fs)(I:f<fs.length)(M:fs.length<=2000000)(G:op=31)(J:b=0):kO fs A GA fc gl gc f op a b pos s w (decide (0<a)&&decide (a<fs.length)&&(decide ((fs.getD a.toNat default).around= -1)||decide ((fs.getD a.toNat default).around=f))):=by
 unfold kO;subst G J;have n:=za nH;obtain⟨r,K,rfl,R,g⟩:=C.at_ (by omega);obtain⟨m,l,k,j,i,h⟩:=g f I;have N:(0:Int)<=(f:Int)∧(f:Int)<(fs.length:Int):=by omega
 have Q:r≠w.heap.size:=by omega
 have P:r≠w.heap.size+1:=by omega
 have O:r<w.heap.size+1:=by omega
 clear C;by_cases x:0<a
 ·by_cases p:a<fs.length
  ·obtain⟨c,H⟩:∃c:Nat,a=(c:Int):=⟨a.toNat,by omega⟩
   subst H;have y:c<fs.length:=by omega
   have D:=(g c y).2.2.2.2.1;clear g;have z:(0:Int)<=(c:Int)∧(c:Int)<(fs.length:Int):=by omega
   have F:fs.getD (c:Int).toNat default=fs[c]:=by rw[zV,zd,zo y,Option.getD_some]
   rw[F,ze x,ze p];have B:decide (0<=(c:Int))=true:=ze z.1;have e:decide ((c:Int)<(fs.length:Int))=true:=ze z.2;have d:=za (λw=>n.out (c:Int) (fs.length:Int) w);rw[B,e]at d;generalize fs[f]=o at m l k j i h;generalize fs[c]=ok at D ⊢
   obtain⟨v,t⟩:∃v,Hid ((true&&true&&(decide (ok.around= -1)||decide (ok.around=(f:Int))))=v):=⟨_,za rfl⟩
   rw[t.out];clear F B e;go_enter func47,ntmps47;go_wp2_with (go_at_call 78;refine(d.out _).mono ?_;rintro E u ⟨rfl,rfl⟩)
   all_goals go_ret
   all_goals refine⟨ag ?_,by go_grown⟩
   all_goals rw[<-t.out]
   all_goals clear t m l k j i h D n d
   all_goals grind
  ·rw[zg p,zF,zG];have e:decide (a<(fs.length:Int))=false:=zg p;have d:=za (λw=>n.out a (fs.length:Int) w);rw[e,zF]at d;clear g e;generalize fs[f]=o at m l k j i h;go_enter func47,ntmps47;go_wp2_with (go_at_call 78;refine(d.out _).mono ?_;rintro E u ⟨rfl,rfl⟩)
   all_goals go_ret
   all_goals exact⟨ag (by simp),by go_grown⟩
 ·rw[zg x,zG,zG];clear g;generalize fs[f]=o at m l k j i h;have L:a<=0:=by omega
  have d:=za (λw=>n.out a (fs.length:Int) w);generalize(decide (0<=a)&&decide (a<(fs.length:Int)))=q at d
  cases q
  all_goals go_enter func47,ntmps47
  all_goals go_wp2_with (go_at_call 78;refine(d.out _).mono ?_;rintro E u ⟨rfl,rfl⟩)
  all_goals go_ret
  all_goals exact⟨ag (by simp),by go_grown⟩
def Rm(e:bD w A fs)(h:f<fs.length)(ab:fs.length<=2000000)(g:op≠6∧op≠8∧op≠9∧op≠10∧op≠11∧op≠12∧op≠13∧op≠14∧op≠15∧op≠21∧op≠22∧op≠23∧op≠26∧op≠27∧op≠28∧op≠29∧op≠31∧op≠32∧op≠33∧op≠34∧op≠35∧op≠36∧op≠37∧op≠38∧op≠39∧op≠40∧op≠46∧op≠47∧op≠48∧op≠49∧op≠52∧op≠53)(i:b=0):kO fs A GA fc gl gc f op a b pos s w (decide (a=0)):=by
 unfold kO;subst i;have t:(op==6)=false:=zh.2 (by omega);have r:(op==8)=false:=zh.2 (by omega);have q:(op==9)=false:=zh.2 (by omega);have Z:(op==10)=false:=zh.2 (by omega);have Y:(op==11)=false:=zh.2 (by omega);have X:(op==12)=false:=zh.2 (by omega);have W:(op==13)=false:=zh.2 (by omega);have V:(op==14)=false:=zh.2 (by omega);have U:(op==15)=false:=zh.2 (by omega);have T:(op==21)=false:=zh.2 (by omega);have S:(op==22)=false:=zh.2 (by omega);have R:(op==23)=false:=zh.2 (by omega);have Q:(op==26)=false:=zh.2 (by omega);have O:(op==27)=false:=zh.2 (by omega);have N:(op==28)=false:=zh.2 (by omega);have M:(op==29)=false:=zh.2 (by omega);have L:(op==31)=false:=zh.2 (by omega);have K:(op==32)=false:=zh.2 (by omega);have J:(op==33)=false:=zh.2 (by omega);have I:(op==34)=false:=zh.2 (by omega);have H:(op==35)=false:=zh.2 (by omega);have G:(op==36)=false:=zh.2 (by omega);have F:(op==37)=false:=zh.2 (by omega);have E:(op==38)=false:=zh.2 (by omega);have D:(op==39)=false:=zh.2 (by omega);have C:(op==40)=false:=zh.2 (by omega);have B:(op==46)=false:=zh.2 (by omega);have z:(op==47)=false:=zh.2 (by omega);have y:(op==48)=false:=zh.2 (by omega);have x:(op==49)=false:=zh.2 (by omega);have v:(op==52)=false:=zh.2 (by omega);have u:(op==53)=false:=zh.2 (by omega);have P:(op !=26)=true:=zO.2 (by omega);clear g;obtain⟨c,aa,rfl,ap,d⟩:=e.at_ (by omega);obtain⟨p,n,m,l,k,j⟩:=d f h;have ad:(0:Int)<=(f:Int)∧(f:Int)<(fs.length:Int):=by omega
 have ao:c≠w.heap.size:=by omega
 have an:c≠w.heap.size+1:=by omega
 have af:c<w.heap.size+1:=by omega
 clear e;generalize fs[f]=o at p n m l k j;clear d;go_enter func47,ntmps47;go_wp2_with fail
 all_goals go_ret
 all_goals exact⟨ag (by first|rfl|grind),by go_grown⟩
end
def Cq(fs:List Fn)(A GA:Option Addr)(fc gl gc f:Nat)(x:au)(w:World)(i:bD w A fs)(h:f<fs.length)(g:fs.length<=2000000)(l:1<=x.op∧x.op<=53):
 Calls prog 47 #[.agg #[.slice A fs.length fc,.slice GA gl gc],.int .i64 f,.agg #[.int .i64 x.op,.int .i64 x.a,.int .i64 x.b,.string x.text,.int .i64 x.pos]] w λe w'=>e= .returned (.bool (ax fs gl f x&&(decide (x.b=0)||cM x)))∧zz w w':=by
 obtain⟨op,a,b,s,pos⟩:=x;dsimp only at l ⊢
 show kO fs A GA fc gl gc f op a b pos s w _;by_cases j:op=26
 ·subst j;have e:ax fs gl f ⟨26,a,b,s,pos⟩=(decide (a=2)||decide (a=3)):=rfl;rw[e];exact Qe i h g rfl
 have m:cM ⟨op,a,b,s,pos⟩=false:=by
  unfold cM;rw[zg j,zG]
 rw[m,Bool.or_false];by_cases d:b=0
 ·rw[ze d,Bool.and_true];obtain⟨v,u,t,r,p,o,y⟩:=RL (op:=op) (a:=a) (pos:=pos) (s:=s) (GA:=GA) (fc:=fc) (gl:=gl) (gc:=gc) i h g d;obtain⟨z,q⟩:=Rp (op:=op) (a:=a) (pos:=pos) (s:=s) (GA:=GA) (fc:=fc) (gl:=gl) (gc:=gc) i h g d;by_cases c:op=6∨op=8∨op=22∨op=23∨op=32
  ·have e:ax fs gl f ⟨op,a,b,s,pos⟩=(bP a 2):=by
    rcases c with rfl|rfl|rfl|rfl|rfl<;>rfl
   rw[e];exact z c
  have J:=c;clear c;by_cases c:op=33
  ·have e:ax fs gl f ⟨op,a,b,s,pos⟩=(bP a 3):=by
    subst c<;>rfl
   rw[e];exact v c
  have H:=c;clear c;by_cases c:op=9∨op=12∨op=13∨op=38
  ·have e:ax fs gl f ⟨op,a,b,s,pos⟩=(bP a (fs.getD f default).slots):=by
    rcases c with rfl|rfl|rfl|rfl<;>rfl
   rw[e];exact u c
  have G:=c;clear c;by_cases c:op=10∨op=14∨op=39
  ·have e:ax fs gl f ⟨op,a,b,s,pos⟩=(bP a gl):=by
    rcases c with rfl|rfl|rfl<;>rfl
   rw[e];exact t c
  have F:=c;clear c;by_cases c:op=11∨op=15∨op=40
  ·have e:ax fs gl f ⟨op,a,b,s,pos⟩=(bP a (fs.getD f default).taken.length):=by
    rcases c with rfl|rfl|rfl<;>rfl
   rw[e];exact r c
  have E:=c;clear c;by_cases c:op=21
  ·have e:ax fs gl f ⟨op,a,b,s,pos⟩=(decide (1<=a)&&decide (a<=7)):=by
    subst c<;>rfl
   rw[e];exact q c
  have D:=c;clear c;by_cases c:op=27∨op=28∨op=46∨op=47∨op=48∨op=49∨op=53
  ·have e:ax fs gl f ⟨op,a,b,s,pos⟩=(bP a 20001):=by
    rcases c with rfl|rfl|rfl|rfl|rfl|rfl|rfl<;>rfl
   rw[e];exact p c
  have C:=c;clear c;by_cases c:op=29
  ·have e:ax fs gl f ⟨op,a,b,s,pos⟩=(bP a 31):=by
    subst c<;>rfl
   rw[e];exact o c
  have B:=c;clear c;by_cases c:op=34∨op=35∨op=36∨op=37∨op=52
  ·have e:ax fs gl f ⟨op,a,b,s,pos⟩=(bP a (fs.getD f default).code.length):=by
    rcases c with rfl|rfl|rfl|rfl|rfl<;>rfl
   rw[e];exact y c
  have I:=c;clear c;by_cases k:op=31
  ·subst k;exact Qu i h g rfl d
  have e:ax fs gl f ⟨op,a,b,s,pos⟩=decide (a=0):=by
   have n:op=1∨op=2∨op=3∨op=4∨op=5∨op=7∨op=16∨op=17∨op=18∨op=19∨op=20∨op=24∨op=25∨op=30∨op=41∨op=42∨op=43∨op=44∨op=45∨op=50∨op=51:=by omega
   rcases n with rfl|rfl|rfl|rfl|rfl|rfl|rfl|rfl|rfl|rfl|rfl|rfl|rfl|rfl|rfl|rfl|rfl|rfl|rfl|rfl|rfl<;>rfl
  rw[e];exact Rm i h g (by omega) d
 ·rw[zg d,zF];exact Rk i h g j d
end
end Go.Proofs.YtmecmlpoallpcaaGreatDoor

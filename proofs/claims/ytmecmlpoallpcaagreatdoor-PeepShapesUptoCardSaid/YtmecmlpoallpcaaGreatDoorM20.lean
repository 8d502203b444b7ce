/- Parts of the proof: PrA Close PrB PrC PrD -/
import Derived.Test.YtmecmlpoallpcaaGreatDoorM19
import Derived.Test.YtmecmlpoallpcaaGreatDoorM18
import Derived.Deep.QuietTactic
import Derived.BigQuiet
set_option linter.all false
set_option maxHeartbeats 8000000
namespace Go.Proofs.YtmecmlpoallpcaaGreatDoor
open Go.Proofs.Tryz
section
open Go.RowKit Go.Proofs.PeepPlain
def Mg:(prog.info? 47).map (λi=>(i.zero,i.size,i.bytes))=some (some (.agg #[.string ⟨#[]⟩,.int .i64 0,.int .i64 0,.slice none 0 0,.int .i64 0,.slice none 0 0]),6,88):=by kernel_rfl
def iZ(l m:List Fn):cx (l++m)=cx l++cx m:=by simp[cx]
def Cw(f:Fn):∀u∈dy f,u.oneCell'=true:=by
 intro u a;simp[dy]at a;rcases a with rfl|rfl|rfl|rfl|rfl|rfl<;>rfl
def wq(b:Nat)(w:World)(a:Value)(l:List Fn):Prop:=w.ownsRow b 47 6 a l.length (cx l)
def Of{h:Array Oper}{g:List Oper}{o:Oper}{a:Act}{k:Exit->Act->World->Prop}(s x:Operand)(e:Nat)(c:Value)(l:List Fn)(f:Fn)(w:World)(j:Array Value)
 (F:o.guard=none)(C:o.op= .call {callee:= .builtin .append,args:= #[s,x],argTypes:= #[22,22]})
 (z:a.eval s=c)(A:wq e w c l)(I:j=(dy f).toArray)(H:Nat)(t:a.eval x= .slice (some ⟨H,0,none⟩) 1 1)(J:w.heap.size=H)
 (N:l.length<=2000000)(O:e<=w.heap.size)
 (K:∀b cap d,wq e d (.slice (some ⟨b,0,none⟩) (l.length+1) cap) (l++ [f])->w.grownBy d c.ownBlock->(c.ownBlock=some b∨b=w.heap.size+1)->b<d.heap.size->wpList prog h k g (a.put o.dst (.slice (some ⟨b,0,none⟩) (l.length+1) cap)) d):wpList prog h k (o::g) a (w.alloc (.cells j 47)):=by
 subst I J;obtain⟨p,E,q,y,r⟩:=info_parts Mg;refine wpList_append_lies (w.alloc (.cells (dy f).toArray 47)) F s x 22 C e 47 p _ 6 88 underlying22 E q y r rfl (by decide) c l.length (cx l) z (zX A _) ⟨w.heap.size,0,none⟩ 1 1 (dy f) t rfl ?_ (Cw f) (by omega) (by simp only[maxLen];omega) (by omega) (by simp;omega) _ rfl ?_
 ·intro n M u;have:=(ah.made w 47 (dy f)).cell n;rw[Addr.add_lit,zP,this];exact u
 ·intro b cap m B G i D;have v:(w.alloc (.cells (dy f).toArray 47)).heap.size=w.heap.size+1:=by show(w.heap.push _).size=_;rw[Array.size_push]
  refine K b cap m ?_ ((World.grownBy_alloc w _ _).trans G) (by rw[v]at i;exact i) D;show World.ownsRow _ _ _ _ _ _ _;rw[zw,zK,iZ];have L:cx [f]=dy f:=by simp[cx]
  rw[L];exact B
def Eg(m:Option Addr)(h:Nat)(l:List Int)(w:World)(q:bd w m (l.map (Value.int .i64)))(y:l.length<=2000000):
 Calls prog 25 #[.slice m l.length h] w λe w'=> ∃b c,e= .returned (.slice b l.length c)∧bd w' b (l.map (Value.int .i64))∧(∀a,b=some a->w.heap.size<=a.block∧a.block<w'.heap.size)∧zz w w'∧bm w.heap.size w' (.slice b l.length c) l:=by
 have r:∀(e:Ending) (w':World),(∃f,e= .returned f∧w'.ownsRow w.heap.size 3 1 f l.length (l.map (Value.int .i64))∧f≠ .slice none 0 0∧zz w w')->∃b c,e= .returned (.slice b l.length c)∧bd w' b (l.map (Value.int .i64))∧(∀a,b=some a->w.heap.size<=a.block∧a.block<w'.heap.size)∧zz w w'∧bm w.heap.size w' (.slice b l.length c) l:=by
  rintro e w' ⟨f,rfl,d,_,v⟩;have d:bm w.heap.size w' f l:=d;obtain⟨b,c,rfl⟩:=d.shape;refine⟨b,c,rfl,d.ints,λa j=>?_,v,d⟩;subst j;exact d.lt (g:=a.block) rfl
 cases p:m with
 |none=>
  subst p;by_cases k:0<l.length
  ·obtain⟨s,n,e,_⟩:=q (by simpa using k)
   cases e
  ·have i:l=[]:=zD (by omega);subst i;refine(kQ 0 h w).mono ?_;rintro e w' ⟨rfl,rfl⟩;exact⟨none,0,rfl,bd.none_ _ _,λa j=>(by cases j),zZ _ _,bm.nil _ _⟩
 |some a=>
  by_cases k:0<l.length
  ·obtain⟨s,n,e,x,u⟩:=q (by simpa using k);rw[p]at e;injection e with e;subst e;have:=mW s n l.length h l w (zb _) (by omega) (λt o=>u t _ (by rw[zL,zo o,zd,zo o];rfl));rw[List.take_length]at this;exact this.mono r
  ·have i:l=[]:=zD (by omega);subst i;exact(kK a h w).mono r
def CR{w:World}{B:Nat}{g:Value}{l:List ByteArray}(e:w.ownsRow B 9 1 g l.length (l.map Value.string)):∃f c,g= .slice f l.length c∧bd w f (l.map Value.string)∧∀a,f=some a->B<=a.block∧a.block<w.heap.size:=by
 have i:=e.lt;rcases e.2 with⟨rfl,n⟩|⟨d,cap,r,rfl,q,p,o⟩
 ·rw[n];refine⟨none,0,rfl,λh=>?_,λa b=>by cases b⟩;rw[List.length_map]at h;omega
 ·refine⟨_,cap,rfl,λh=>⟨d,0,rfl,(i d rfl).2,λk j m=>?_⟩,λa b=>?_⟩
  ·have:=e.cells (g:=d) rfl k j m;rw[Addr.add_lit]at this;exact this
  ·injection b with b;subst b;exact i d rfl
def Cn(b:Nat)(w:World)(a:Value)(l:List ByteArray):Prop:=w.ownsRow b 9 1 a l.length (l.map Value.string)
def Cj(GA:Option Addr)(gc:Nat)(l:List ByteArray)(w:World)(m:bd w GA (l.map Value.string))(x:l.length<=2000000):
 Calls prog 24 #[.slice GA l.length gc] w λe w'=> ∃b c,e= .returned (.slice b l.length c)∧bd w' b (l.map Value.string)∧(∀a,b=some a->w.heap.size<=a.block∧a.block<w'.heap.size)∧zz w w'∧Cn w.heap.size w' (.slice b l.length c) l:=by
 have n:∀(e:Ending) (w':World),(∃d,e= .returned d∧w'.ownsRow w.heap.size 9 1 d l.length (l.map Value.string)∧d≠ .slice none 0 0∧zz w w')->∃b c,e= .returned (.slice b l.length c)∧bd w' b (l.map Value.string)∧(∀a,b=some a->w.heap.size<=a.block∧a.block<w'.heap.size)∧zz w w'∧Cn w.heap.size w' (.slice b l.length c) l:=by
  rintro e w' ⟨d,rfl,i,_,r⟩;obtain⟨b,c,rfl,u,t⟩:=CR i;exact⟨b,c,rfl,u,t,r,i⟩
 cases k:GA with
 |none=>
  subst k;by_cases g:0<l.length
  ·obtain⟨o,h,e,_⟩:=m (by simpa using g)
   cases e
  ·have f:l=[]:=zD (by omega);subst f;refine(ju 0 gc w).mono ?_;rintro e w' ⟨rfl,rfl⟩;exact⟨none,0,rfl,bd.none_ _ _,λa s=>(by cases s),zZ _ _,World.ownsRow_nil _ _ _ _⟩
 |some a=>
  by_cases g:0<l.length
  ·obtain⟨o,h,e,v,q⟩:=m (by simpa using g);rw[k]at e;injection e with e;subst e;have:=lB o h l.length gc l w (zb _) (by omega) (λp j=>q p _ (by rw[zL,zo j,zd,zo j];rfl));rw[List.take_length]at this;exact this.mono n
  ·have f:l=[]:=zD (by omega);subst f;exact(jq a gc w).mono n
structure dD(B:Nat)(w:World)(f:Fn):Prop where
 code:bX w f.CA f.code
 taken:bd w f.TA (f.taken.map (Value.int .i64))
 lowC:∀a,f.CA=some a->B<=a.block∧a.block<w.heap.size
 lowT:∀a,f.TA=some a->B<=a.block∧a.block<w.heap.size
 ownT:bm B w (.slice f.TA f.taken.length f.tc) f.taken
 ownC:∃g,f.CA=some ⟨g,0,none⟩∧aK w g f.cc f.code
def bm.where_{B:Nat}{w:World}{b:Option Addr}{n c g:Nat}(d:(Value.slice b n c).ownBlock=some g):∃a,b=some a∧a.block=g:=by
 cases b with
 |none=>cases d
 |some a=>exact⟨a,rfl,by injection d⟩
def bd.moved{w w':World}{c:Option Addr}{g:List Value}(o:bd w c g)(j:w.heap.size<=w'.heap.size)(m:∀a,c=some a->w'.heap[a.block]?=w.heap[a.block]?):bd w' c g:=λk=>by
 obtain⟨b,d,f,l,n⟩:=o k;exact⟨b,d,f,zv l j,λe h i=>(zI (a:=⟨b,d+e,none⟩) (show w'.heap[b]?=w.heap[b]? from m _ f)).trans (n e h i)⟩
def dD.moved{B:Nat}{w w':World}{f:Fn}(d:dD B w f)(g:w.heap.size<=w'.heap.size)(h:∀k,B<=k->k<w.heap.size->((∀a,f.CA=some a->a.block=k)∨(∀a,f.TA=some a->a.block=k))->w'.heap[k]?=w.heap[k]?):dD B w' f where
 code:=bd.moved d.code g λa c=>h _ (d.lowC a c).1 (d.lowC a c).2 (.inl λj b=>by rw[c]at b;injection b with b;rw[b])
 taken:=bd.moved d.taken g λa c=>h _ (d.lowT a c).1 (d.lowT a c).2 (.inr λj b=>by rw[c]at b;injection b with b;rw[b])
 lowC:=λa c=>⟨(d.lowC a c).1,zv (d.lowC a c).2 g⟩
 lowT:=λa c=>⟨(d.lowT a c).1,zv (d.lowT a c).2 g⟩
 ownT:=aE d.ownT λi e=>by
  obtain⟨a,c,rfl⟩:=bm.where_ (B:=B) (w:=w) e
  exact h _ (d.lowT a c).1 (d.lowT a c).2 (.inr λj b=>by rw[c]at b;injection b with b;rw[b])
 ownC:=by
  obtain⟨i,e,l⟩:=d.ownC
  exact⟨i,e,l.far (h i (d.lowC _ e).1 (d.lowC _ e).2 (.inl λj b=>by rw[e]at b;injection b with b;rw[<-b]))⟩
def dD.below{B:Nat}{w w':World}{f:Fn}(d:dD B w f)(a:zz w w'):dD B w' f:=
 d.moved a.size λb _ c _=>a.block b c
def Rc(f:Fn)(g:Nat):Prop:=(∀a,f.CA=some a->a.block≠g)∧∀a,f.TA=some a->a.block≠g
def dD.grown{B:Nat}{w w':World}{f:Fn}{row:Option Nat}(c:dD B w f)(d:w.grownBy w' row)(i:∀g,row=some g->Rc f g):dD B w' f where
 code:=bd.moved c.code d.size λb a=>d.block _ (c.lowC b a).2 (λe=>(i _ e.symm).1 b a rfl)
 taken:=bd.moved c.taken d.size λb a=>d.block _ (c.lowT b a).2 (λe=>(i _ e.symm).2 b a rfl)
 lowC:=λb a=>⟨(c.lowC b a).1,zv (c.lowC b a).2 d.size⟩
 lowT:=λb a=>⟨(c.lowT b a).1,zv (c.lowT b a).2 d.size⟩
 ownT:=aE c.ownT λg h=>by
  obtain⟨b,a,rfl⟩:=bm.where_ (B:=B) (w:=w) h
  exact d.block _ (c.lowT b a).2 (λe=>(i _ e.symm).2 b a rfl)
 ownC:=by
  obtain⟨g,h,j⟩:=c.ownC
  exact⟨g,h,j.far (d.block g (c.lowC _ h).2 (λe=>(i _ e.symm).1 _ h rfl))⟩
def dD.set{B:Nat}{w:World}{f:Fn}(b:dD B w f){g i:Nat}(k:g<B)(h:Value):dD B (w.setCell ⟨g,i,none⟩ h) f where
 code:=bd.moved b.code (by simp[World.setCell]) λa c=>zY _ _ _ _ (by have:=(b.lowC a c).1;show a.block≠g;omega)
 taken:=bd.moved b.taken (by simp[World.setCell]) λa c=>zY _ _ _ _ (by have:=(b.lowT a c).1;show a.block≠g;omega)
 lowC:=λa c=>by have:=b.lowC a c;simpa[World.setCell]using this
 lowT:=λa c=>by have:=b.lowT a c;simpa[World.setCell]using this
 ownT:=aE b.ownT λd e=>by
  obtain⟨a,c,rfl⟩:=bm.where_ (B:=B) (w:=w) e
  exact zY _ _ _ _ (by have:=(b.lowT a c).1;show a.block≠g;omega)
 ownC:=by
  obtain⟨d,e,j⟩:=b.ownC
  exact⟨d,e,j.far (zY _ _ _ _ (by have:=(b.lowC _ e).1;show d≠g;have l:B<=d:=this;omega))⟩
def sy(f:Fn)(b:Nat):Prop:=(∃a,f.CA=some a∧a.block=b)∨∃a,f.TA=some a∧a.block=b
def dD.blk{B:Nat}{w:World}{f:Fn}(d:dD B w f){b:Nat}(e:sy f b):B<=b∧b<w.heap.size:=by
 rcases e with⟨c,a,rfl⟩|⟨c,a,rfl⟩
 ·exact d.lowC c a
 ·exact d.lowT c a
def nw(fs:List Fn):Prop:=∀b a,(hi:b<fs.length)->(hj:a<fs.length)->b<a->∀d c,sy fs[b] d->sy fs[a] c->d<c
def tY:nw []:=λc b a=>by simp at a
def sI{fs:List Fn}{f:Fn}(l:nw fs)(k:∀x∈fs,∀a b,sy x a->sy f b->a<b):nw (fs++ [f]):=λh d m i j a b e c=>by
 rw[zw,zK]at i;rw[List.getElem_append_left (by omega)]at e;by_cases g:d<fs.length
 ·rw[List.getElem_append_left g]at c;exact l h d (by omega) g j a b e c
 ·rw[List.getElem_append_right (by omega)]at c;simp only[show d - fs.length=0 by omega,List.getElem_cons_zero]at c;exact k _ (zk _) a b e c
structure jD(B:Nat)(w:World)(A:Option Addr)(c:Nat)(fs:List Fn)(GA:Option Addr)(gc:Nat)(gs:List ByteArray):Prop where
 fns:wq B w (.slice A fs.length c) fs
 parts:∀f∈fs,dD B w f
 rising:nw fs
 texts:Cn B w (.slice GA gs.length gc) gs
def tv(f a:Fn):Prop:=a.name=f.name∧a.params=f.params∧a.slots=f.slots∧a.taken=f.taken∧a.around=f.around∧a.code=cw cS f.code
def iE(fs b:List Fn):Prop:=b.length=fs.length∧∀a,(h:a<fs.length)->(h':a<b.length)->tv fs[a] b[a]
def I7{fs b:List Fn}{k:Nat}(i:k<fs.length)(d:iE (fs.take k) b){f:Fn}(h:tv fs[k] f):iE (fs.take (k+1)) (b++ [f]):=by
 have c:b.length=k:=by rw[d.1,zR];omega
 refine⟨by rw[zw,zK,c,zR];omega,λa g j=>?_⟩;rw[List.getElem_take];by_cases l:a<k
 ·rw[List.getElem_append_left (by omega)];have:=d.2 a (by rw[zR];omega) (by omega);rw[List.getElem_take]at this;exact this
 ·have e:a=k:=by rw[zR]at g;omega
  subst e;rw[List.getElem_append_right (by omega)];simp only[c,Nat.sub_self,List.getElem_cons_zero];exact h
end
section
open Go.RowKit Go.Proofs.PeepPlain
structure CL(fs:List Fn)(gl f:Nat)(x:au):Prop where
 word:(aj x.op).word.toList.isEmpty=false
 pos:0<=x.pos∧x.pos<=60000
 says:de x=true
 left:x.b=0∨cM x=true
 num:¬al x.op->ax fs gl f x=true
def Jb{op:Int}(a:al op):(aj op).text=0:=by
 rcases a with a|a|a|a|a<;>(rw[a];rfl)
def IL{i:au}(c:al i.op)(a:Int):de {i with a:=a}=de i:=by
 have b:=Jb c;unfold de;dsimp only;rw[b];rfl
def AP{fs:List Fn}{gl f k:Nat}(c:f<fs.length)(b:k<fs[f].code.length)(d:bW fs gl f k=true):CL fs gl f fs[f].code[k]:=by
 have a:=gA c b d;exact⟨a.2.2.2.2.2.1,⟨a.2.2.2.2.2.2.1,a.2.2.2.2.2.2.2⟩,a.2.1,a.2.2.1,λ_=>a.1⟩
def Qs{x:au}(b:x.op=3)(a:de x=true):∃n,bB x.text=some n:=by
 unfold de at a;dsimp only at a;rw[b,show(aj 3).text=12 from rfl,zn rfl]at a;unfold ce at a
 cases c:bB x.text with
 |none=>rw[c]at a;cases a
 |some n=>exact⟨n,rfl⟩
def RH{fs:List Fn}{gl f:Nat}{x:au}(c:x.op=6)(b:ax fs gl f x=true):x.a=0∨x.a=1:=by
 unfold ax at b;dsimp only at b;rw[c,show(aj 6).a=1 from rfl,zm (by decide),zn rfl]at b;have:=ez b;omega
def AK{fs:List Fn}{gl f:Nat}{x:au}(a:CL fs gl f x):dg x:=by
 refine⟨λd=>Qs d a.says,λc=>RH c (a.num (λb=>?_))⟩;rw[c]at b;rcases b with a|a|a|a|a<;>exact absurd a (by decide)
def rd{f:PeepPlain.Pt}(a:decide (f.word.size=0)=false):f.word.toList.isEmpty=false:=by rw[<-gE];exact a
def Lc:(aj 3).word.toList.isEmpty=false:=rd (by kernel_rfl)
def Qk:(aj 6).word.toList.isEmpty=false:=rd (by kernel_rfl)
def OO:(aj 34).word.toList.isEmpty=false:=rd (by kernel_rfl)
def xf{fs:List Fn}{gl f:Nat}{d:gD}(b:fv d){p:Int}(c:0<=p∧p<=60000):CL fs gl f (gQ d p):=by
 cases d with
 |int n=>
  refine⟨Lc,c,?_,.inl rfl,λ_=>?_⟩
  ·unfold de gQ;dsimp only;rw[show(aj 3).text=12 from rfl,zn rfl];unfold ce;rw[ni b.1 b.2];rfl
  ·unfold ax gQ;dsimp only;rw[show(aj 3).a=0 from rfl,zn rfl];rfl
 |flag n=>
  refine⟨Qk,c,?_,.inl rfl,λ_=>?_⟩
  ·unfold de gQ;dsimp only;rw[show(aj 6).text=0 from rfl];rfl
  ·unfold ax gQ;dsimp only;rw[show(aj 6).a=1 from rfl,zm (by decide),zn rfl];have b:n=0∨n=1:=b;rw[ze (show 0<=n by omega),ze (show n<2 by omega)];rfl
def xT(fs:List Fn)(gl f:Nat):mj O0 (CL fs gl f)where
 turn:=λd p c b=>⟨b.word,b.pos,by rw[IL c];exact b.says,b.left.imp id (λg=>by
  unfold cM at g
  simp only[zy,decide_eq_true_eq]at g
  exfalso
  have:=g.1
  rw[this]at c
  rcases c with b|b|b|b|b<;>exact absurd b (by decide)),λe=>absurd c e⟩
 un:=λd l i o _ _ j m h=>xf (yW (op:=d.text) (a:=i) h) j.pos
 bi:=λd q l k i o _ _ c j n m h=>xf (yx (op:=d.text) (b:=k) (a:=i) (pQ (AK c) n) h) c.pos
 branch:=λd _ b=>⟨OO,b.pos,rfl,.inl rfl,λe=>absurd dz e⟩
section
variable{fs fs':List Fn}(hM:iE fs fs')
include hM
def lL(i:Nat):(fs'.getD i default).name=(fs.getD i default).name∧(fs'.getD i default).params=(fs.getD i default).params∧(fs'.getD i default).slots=(fs.getD i default).slots∧(fs'.getD i default).taken=(fs.getD i default).taken∧(fs'.getD i default).around=(fs.getD i default).around:=by
 by_cases a:i<fs.length
 ·have b:i<fs'.length:=by rw[hM.1];exact a
  rw[aC a,aC b];obtain⟨g,f,e,d,c,_⟩:=hM.2 i a b;exact⟨g,f,e,d,c⟩
 ·have b:¬i<fs'.length:=by rw[hM.1];exact a
  rw[zd,zd,zM (by omega),zM (by omega)];exact⟨rfl,rfl,rfl,rfl,rfl⟩
def Br(i:Nat)(l:List ByteArray):bR fs' i l=bR fs i l:=by
 obtain⟨g,f,e,c,a⟩:=lL hM i;obtain⟨k,j,d,b,h⟩:=lL hM (fs.getD i default).around.toNat;unfold bR er dE dt gf;rw[g,f,e,c,a,d,b]
def DN(i:Nat)(l:List ByteArray):db fs' i l=db fs i l:=by
 obtain⟨d,c,b,e,a⟩:=lL hM i;unfold db er;rw[d,c,b,a]
def y6(k:Nat):aB fs' k=aB fs k:=by
 induction k with
 |zero=>rfl
 |succ k ih=>show db fs' k (aB fs' k)=db fs k (aB fs k);rw[ih,DN hM]
def wv{gl f:Nat}{x:au}(i:¬al x.op):ax fs' gl f x=ax fs gl f x:=by
 obtain⟨u,r,m,l,n⟩:=lL hM f;obtain⟨s,q,p,o,k⟩:=lL hM x.a.toNat;have h:(aj x.op).a≠10:=λj=>i (zx ((oi x.op).symm.trans (ze j)));unfold ax;dsimp only;rw[m,l,k,hM.1];generalize(aj x.op).a=t at h;by_cases t0:t=0
 ·rw[zn t0,zn t0]
 rw[zm t0,zm t0];by_cases t1:t=1
 ·rw[zn t1,zn t1]
 rw[zm t1,zm t1];by_cases t2:t=2
 ·rw[zn t2,zn t2]
 rw[zm t2,zm t2];by_cases t3:t=3
 ·rw[zn t3,zn t3]
 rw[zm t3,zm t3];by_cases g:t=4
 ·rw[zn g,zn g]
 rw[zm g,zm g];by_cases e:t=5
 ·rw[zn e,zn e]
 rw[zm e,zm e];by_cases d:t=6
 ·rw[zn d,zn d]
 rw[zm d,zm d];by_cases c:t=7
 ·rw[zn c,zn c]
 rw[zm c,zm c];by_cases b:t=8
 ·rw[zn b,zn b]
 rw[zm b,zm b];by_cases a:t=9
 ·rw[zn a,zn a]
 rw[zm a,zm a];rw[zm h,zm h]
def qi(b:∀i,(hi:i<fs.length)->(hi':i<fs'.length)->fs'[i].code.length<=fs[i].code.length):∀k,k<=fs.length->aY fs' k<=aY fs k:=by
 intro k
 induction k with
 |zero=>intro _;exact zb _
 |succ k ih=>
  intro c;have a:k<fs'.length:=by rw[hM.1];omega
  rw[dS fs' k a,dS fs k (by omega)];have:=ih (by omega);have:=b k (by omega) a;omega
end
def LM{P:au->Prop}{l:List au}(b:∀k,(a:k<l.length)->P l[k]):sT P l:=λk a=>by
 rw[aC a];exact b k a
def pC{fs fs':List Fn}{gs:List ByteArray}(h:bs fs gs)(hM:iE fs fs'):bs fs' gs:=by
 have n:∀a,(c:a<fs.length)->(k:a<fs'.length)->fs'[a].code=cw cS fs[a].code:=λa c k=>(hM.2 a c k).2.2.2.2.2;have q:=λa (c:a<fs.length)=>mg cS _ fs[a].code (zb _) (h.wf c);have w:∀a,(c:a<fs.length)->(k:a<fs'.length)->fs'[a].code.length<=fs[a].code.length:=λa c k=>by
  rw[n a c k];exact(q a c).2
 have D:=hM.1;refine⟨?_,h.globals,λa c=>?_,λa c=>?_,λa b c d=>?_,λa c=>?_⟩
 ·have u:=dF h.many;have I:=qi hM w fs.length (zb _);unfold dN;rw[ze (show 1<=fs'.length by omega),ze (show fs'.length<=20000 by omega),ze (show gs.length<=20000 by omega),ze (show aY fs' fs'.length<=60000 by rw[D];omega)];refine List.all_eq_true.2 λH f=>?_;obtain⟨a,c,rfl⟩:=zQ f;obtain⟨L,K,G,F,J,_⟩:=hM.2 a (by omega) c;have:=u.2.2.2.2 a (by omega);rw[G,F,ze this.1,ze this.2];rfl
 ·rw[Br hM,y6 hM];exact h.heads a (by omega)
 ·have:=(q a (by omega)).1.wf.pos;rw[n a (by omega) c];omega
 ·have m:a<fs.length:=by omega
  have i:=(q a m).1.wf;have C:sT (CL fs gs.length a) fs[a].code:=LM λb d=>AP m d (h.fine a b m d);have s:=mB cS (xT fs gs.length a) _ fs[a].code (zb _) C;rw[<-n a m c]at i s;have f:=s b d;rw[aC d]at f;have v:ax fs' gs.length a fs'[a].code[b]=true:=by
   by_cases g:al fs'[a].code[b].op
   ·have j:al (PeepPlain.aq fs'[a].code b):=by unfold PeepPlain.aq;rw[aC d];exact g
    have o:=i.low b d j;have t:=i.high b d j;unfold bE at t;rw[aC d]at o t;have E:(aj fs'[a].code[b].op).a=10:=zx ((oi _).trans (ze g));unfold ax;dsimp only;rw[E,aC c];show(decide (0<=fs'[a].code[b].a)&&decide (fs'[a].code[b].a<fs'[a].code.length))=true;rw[ze o,ze (by omega)];rfl
   ·rw[wv hM g];exact f.num g
  have B:fp fs'[a].code b fs'[a].code[b]=false:=by
   unfold fp;by_cases g:al fs'[a].code[b].op
   ·by_cases x:fs'[a].code[b].a<=(b:Int)
    ·have j:al (PeepPlain.aq fs'[a].code b):=by unfold PeepPlain.aq;rw[aC d];exact g
     have o:=i.low b d j;have r:=i.back b d j;unfold bE at r;rw[aC d]at o r;rcases r (by omega)with e|e
     ·rw[zg (show ¬PeepPlain.aq fs'[a].code fs'[a].code[b].a.toNat≠1 from λp=>p e),zF,zG]
     ·rw[zg (show ¬PeepPlain.aq fs'[a].code fs'[a].code[b].a.toNat≠2 from λp=>p e),zF]
    ·rw[zg x,zF,zG,zG]
   ·rw[zg g,zG,zG,zG]
  have y:cN fs'[a].code b fs'[a].code[b]=true:=by
   unfold cN;by_cases A:(b:Int)<fs'[a].code.length - 1
   ·rw[ze A];rfl
   ·have z:fs'[a].code.length - 1=b:=by omega
    have l:=i.last;rw[z]at l;unfold PeepPlain.aq at l;rw[aC d]at l;rcases l with e|e
    ·rw[ze e,Bool.or_true,Bool.true_or]
    ·rw[ze e,Bool.or_true]
  unfold bW;dsimp only;rw[aC c,aC d,f.word,ze f.pos.1,ze f.pos.2,v,f.says,B,y];rcases f.left with e|e
  ·rw[ze e];rfl
  ·rw[e,Bool.or_true];rfl
 ·rw[n a (by omega) c];exact yi cS MD _ _ (zb _) (h.wf (by omega)) (h.fits a (by omega))
def vC{fs:List Fn}{gs:List ByteArray}(e:bs fs gs)(d:Small fs gs){i:Nat}(b:i<fs.length):sT PI fs[i].code:=LM λc a=>
 ⟨AK (AP b a (e.fine i c b a)),d.text _ (zk b) _ (zk a)⟩
end
section
open Go.RowKit Go.Proofs.PeepPlain
def Pf:(prog.info? 44).map (·.size)=some 1:=by kernel_rfl
def PH:(prog.info? 45).map (·.size)=some 1:=by kernel_rfl
def CG(fs:List Fn)(gs:List ByteArray)(w:World)(e:Ending)(w':World):Prop:=
 ∃(b:List Fn) (A':Option Addr) (c':Nat) (GA':Option Addr) (gc':Nat),e= .returned (.tuple #[.agg #[.slice A' b.length c',.slice GA' gs.length gc'],.nilIface])∧bD w' A' b∧bd w' GA' (gs.map Value.string)∧iE fs b∧zz w w'∧(∀a,A'=some a->w.heap.size<=a.block)∧(∀a,GA'=some a->w.heap.size<=a.block)∧jD w.heap.size w' A' c' b GA' gc' gs
def tu{w:World}{B:Nat}{g:Value}{l:List Fn}(e:wq B w g l):∃f c,g= .slice f l.length c∧bd w f (cx l)∧∀a,f=some a->B<=a.block:=by
 have i:=zW e;rcases e.2 with⟨rfl,n⟩|⟨d,cap,r,rfl,q,p,o⟩
 ·rw[n];refine⟨none,0,rfl,λh=>?_,λa b=>by cases b⟩;rw[iY]at h;omega
 ·refine⟨_,cap,rfl,λh=>⟨d,0,rfl,(i d rfl).2,λk j m=>?_⟩,λa b=>?_⟩
  ·have:=World.ownsRow.cells e (g:=d) rfl k j m;rw[Addr.add_lit]at this;exact this
  ·injection b with b;subst b;exact(i d rfl).1
structure qr(fs:List Fn)(gs:List ByteArray)(w:World)(gq:Nat)(p0 p1:Value)(GA':Option Addr)(gc':Nat)(k:Nat)(wr:World)(fk:List Fn)(vF:Value):Prop where
 p:ah wr w.heap.size 25 [p0,p1]
 z:ah wr (w.heap.size+1) 25 [.slice none 0 0,.slice none 0 0]
 q:ah wr gq 25 [vF,.slice GA' gs.length gc']
 own:wq (gq+1) wr vF fk
 made:iE (fs.take k) fk
 parts:∀f∈fk,dD (gq+1) wr f∧∀g,vF.ownBlock=some g->Rc f g
 texts:bd wr GA' (gs.map Value.string)
 low:∀a,GA'=some a->w.heap.size+1<a.block∧a.block<gq
 below:Below w.heap.size w wr
 gq:w.heap.size+1<gq∧gq<wr.heap.size
 rising:nw fk
 own2:Cn (w.heap.size+1) wr (.slice GA' gs.length gc') gs
def qr.grow{fs:List Fn}{gs:List ByteArray}{w:World}{gq:Nat}{g f:Value}{m:Option Addr}{i k:Nat}{wr w':World}{j:List Fn}{e:Value}(a:qr fs gs w gq g f m i k wr j e)(b:zz wr w'):qr fs gs w gq g f m i k w' j e where
 p:=a.p.below b a.p.lt
 z:=a.z.below b a.z.lt
 q:=a.q.below b a.q.lt
 own:=aE a.own λc d=>b.block c (zW a.own c d).2
 made:=a.made
 parts:=λl h=>⟨(a.parts l h).1.below b,(a.parts l h).2⟩
 texts:=a.texts.below b rfl
 low:=a.low
 below:=ac a.below b a.below.size
 gq:=⟨a.gq.1,zv a.gq.2 b.size⟩
 rising:=a.rising
 own2:=aE a.own2 λc d=>b.block c (zW a.own2 c d).2
def qr.more{fs:List Fn}{gs:List ByteArray}{w:World}{c:Nat}{t s:Value}{C:Option Addr}{A k:Nat}{wr w':World}{e:List Fn}{l:Value}(d:qr fs gs w c t s C A k wr e l)(I:k<fs.length){f:Fn}(J:tv fs[k] f)
 {g cap:Nat}(v:wq (c+1) w' (.slice (some ⟨g,0,none⟩) (e.length+1) cap) (e++ [f]))(j:wr.grownBy w' l.ownBlock)(K:l.ownBlock=some g∨wr.heap.size<=g)(F:dD (c+1) wr f)(D:∀g,l.ownBlock=some g->Rc f g)(E:∀x∈e,∀a b,sy x a->sy f b->a<b):
 qr fs gs w c t s C A (k+1) (w'.setCell ⟨c,0,none⟩ (.slice (some ⟨g,0,none⟩) (e.length+1) cap)) (e++ [f]) (.slice (some ⟨g,0,none⟩) (e.length+1) cap):=by
 have y:∀b,l.ownBlock=some b->c+1<=b:=λb i=>(zW d.own b i).1;have u:(w'.setCell ⟨c,0,none⟩ (.slice (some ⟨g,0,none⟩) (e.length+1) cap)).heap.size=w'.heap.size:=by simp[World.setCell]
 have N:c+1<=g:=(zW v g rfl).1;have r:∀b,b<c+1->some b≠l.ownBlock:=λb i h=>by have:=y b h.symm;omega
 have M:=d.gq;have L:=j.size;refine⟨?_,?_,?_,?_,I7 I d.made J,λx n=>?_,?_,d.low,?_,⟨M.1,by rw[u];omega⟩,sI d.rising E,?_⟩
 ·exact(d.p.grown j (r _ (by omega))).setFar (p:=⟨c,0,none⟩) (by show w.heap.size≠c;omega) _
 ·exact(d.z.grown j (r _ (by omega))).setFar (p:=⟨c,0,none⟩) (by show w.heap.size+1≠c;omega) _
 ·exact(d.q.grown j (r _ (by omega))).set 0 _
 ·have G:wq (c+1) (w'.setCell ⟨c,0,none⟩ (.slice (some ⟨g,0,none⟩) (e.length+1) cap)) (.slice (some ⟨g,0,none⟩) (e.length+1) cap) (e++ [f]):=aE v λb i=>zY _ _ _ _ (by
   have h:b=g:=by injection i with h;exact h.symm
   show b≠c;omega)
  exact G
 ·have o:dD (c+1) wr x∧∀g,l.ownBlock=some g->Rc x g:=by
   rcases List.mem_append.1 n with n|n
   ·exact d.parts x n
   ·rw[List.mem_singleton]at n;subst n;exact⟨F,D⟩
  refine⟨(o.1.grown j o.2).set (by omega) _,λb i=>?_⟩;have h:b=g:=by injection i with h;exact h.symm
  subst h;rcases K with h|h
  ·exact o.2 _ h
  ·exact⟨λa m=>by have:=(o.1.lowC a m).2;omega,λa m=>by have:=(o.1.lowT a m).2;omega⟩
 ·refine bd.moved d.texts (by rw[u];exact L) λa m=>?_;have H:=d.low a m;exact(zY _ _ _ _ (by show a.block≠c;omega)).trans (j.block _ (by omega) (r _ (by omega)))
 ·exact(d.below.grown j d.below.size (λb i=>by have:=y b i;omega)).setCell (by show w.heap.size<=c;omega) _
 ·refine aE d.own2 λb i=>?_;obtain⟨a,m,rfl⟩:=bm.where_ (B:=0) (w:=w) i;have H:=d.low a m;exact(zY _ _ _ _ (by show a.block≠c;omega)).trans (j.block _ (by omega) (r _ (by omega)))
def Fh:(prog.info? 25).map (·.size)=some 2:=by kernel_rfl
def Oy(w:World)(g:Nat)(a:List Value)(b:ah w g 25 a)(c:a.length=2):(loadVar 25 ⟨g,0,none⟩).run prog w= .ok (.agg a.toArray) w:=
 run_loadVar_row w g 25 25 a.toArray (0,0) _ b underlying25 rfl (by rw[Fh];simp[c])
def C0{b:Func}{p u:Tmp}(f:b.results= #[.cell p 25,.tmp u])(tmps:Array Value)(w:World)(g:Nat)(a:List Value)(d:tmps.getD p undef= .pointer (some ⟨g,0,none⟩))(c:ah w g 25 a)(e:a.length=2):
 (results b tmps).run prog w= .ok (.tuple #[.agg a.toArray,tmps.getD u undef]) w:=by
 rw[results_cell_tmp f,d];simp[asAddr,Result.andThen,Oy w g a c e]
def Pp{w:World}{g:Nat}{b a v0 v1:Value}(c:ah w g 25 [b,a]):ah ((w.setCell ⟨g,0,none⟩ v0).setCell ⟨g,1,none⟩ v1) g 25 [v0,v1]:=by
 have:=(c.set 0 v0).set 1 v1;simpa using this
set_option maxRecDepth 20000 in
def sv(fs:List Fn)(gs:List ByteArray)(c GA:Option Addr)(fc gc:Nat)(w:World)(n:bD w c fs)(m:bd w GA (gs.map Value.string))(o:aX w)(k:Small fs gs)(l:¬bs fs gs):
 Calls prog 9 #[.agg #[.slice c fs.length fc,.slice GA gs.length gc]] w λe w'=>(∃g,e= .returned (.tuple #[.agg #[.slice none 0 0,.slice none 0 0],.iface 59 (.pointer (some ⟨g,0,none⟩))])∧w.heap.size<=g∧ah w' g 30 (bO fs gs).cells)∧zz w w':=by
 have s:=za (λ(h:World) (a:zz w h)=>ue fs gs c GA fc gc h (n.below a) (m.below a rfl) (o.below a) k);have u:=za l;clear n m o k l;go_enter func9,ntmps9;go_wp2_with (go_at_call 18;refine(s.out _ (aU w _ _)).mono ?_);rintro z x ⟨d,a⟩;rcases d with⟨d,_,_⟩|⟨_,g,rfl,q,i⟩
 ·exact absurd d u.out
 ·have b:=(am w (.cells #[.slice c fs.length fc,.slice GA gs.length gc] 25) 25 [.slice none 0 0,.slice none 0 0]).below a (am w _ 25 _).lt;have v:=za (ac (aU w _ _) a (aU w _ _).size);have C:=b.cell 0;have B:=b.cell 1;have A:=b.free;have y:=b.lt;have r:=za b;have j:w.heap.size+2<=g:=by
   have:((w.alloc (.cells #[.slice c fs.length fc,.slice GA gs.length gc] 25)).alloc (.cells #[.slice none 0 0,.slice none 0 0] 25)).heap.size=w.heap.size+2:=by simp
   omega
  have f:=za j;have t:=za i;clear b a q j i;go_wp2_with fail;exact bodyPost_ret (C0 rfl _ _ (w.heap.size+1) _ rfl (Pp r.out) rfl) rfl ⟨⟨g,rfl,by have:=f.out;omega,(t.setFar (p:=⟨w.heap.size+1,0,none⟩) (by have:=f.out;show g≠w.heap.size+1;omega) _).setFar (p:=⟨w.heap.size+1,1,none⟩) (by have:=f.out;show g≠w.heap.size+1;omega) _⟩,(v.setCell (zE _) _).setCell (zE _) _⟩
end
section
open Go.RowKit Go.Proofs.PeepPlain
def jI{w:World}{B d:Nat}{e:TypeId}{size n:Nat}{b:Value}{a:List Value}(c:w.ownsRow B e size b n a)(f:d<=B):w.ownsRow d e size b n a:=by
 refine⟨c.1,c.2.imp id ?_⟩;rintro⟨j,cap,k,i,h,g⟩;exact⟨j,cap,k,i,zi f h,g⟩
def Gv{w w':World}{g:Nat}{t:TypeId}{a:List Value}(c:ah w g t a)(b:w'.heap[g]?=w.heap[g]?):ah w' g t a:=b.trans c
def EB{fs:List Fn}{gs:List ByteArray}{w b d:World}{c:Option Addr}{i:Nat}{l j:Value}(n:ah b w.heap.size 25 [l,j])(m:ah b (w.heap.size+1) 25 [.slice none 0 0,.slice none 0 0])(v:zz w b)(q:bd b c (gs.map Value.string))(p:Cn (w.heap.size+1) b (.slice c gs.length i) gs)(g:∀a,c=some a->w.heap.size+1<a.block∧a.block<b.heap.size)
 (f:ah d b.heap.size 25 [.slice none 0 0,.slice c gs.length i])(u:∀B,B<=b.heap.size->Below B (b.alloc (.cells #[.slice none 0 0,.slice none 0 0] 25)) d)(e:∀k,k≠b.heap.size->d.heap[k]?=(b.alloc (.cells #[.slice none 0 0,.slice none 0 0] 25)).heap[k]?):
 qr fs gs w b.heap.size l j c i 0 d [] (.slice none 0 0):=by
 have x:=n.lt;have o:=m.lt;refine⟨Gv (n.alloc _) (e _ (by omega)),Gv (m.alloc _) (e _ (by omega)),f,World.ownsRow_nil _ _ _ _,⟨by simp,λy r=>by simp at r⟩,λC t=>by simp at t,?_,g,(v.alloc (by omega) _).trans (u _ (by omega)),⟨o,f.lt⟩,tY,aE p λA s=>by
  obtain⟨a,h,rfl⟩:=bm.where_ (B:=0) (w:=w) s;have:=g a h;exact(e _ (by omega)).trans (jz b _ a.block this.2)⟩
 have z:=f.lt;refine bd.moved q (by omega) λa h=>?_;have:=g a h;exact(e _ (by omega)).trans (jz b _ a.block this.2)
def Ht{fs:List Fn}{gs:List ByteArray}{w wr:World}{m:Nat}{u t:Value}{p:Option Addr}{n:Nat}{f:List Fn}{g:Option Addr}{o:Nat}(c:qr fs gs w m u t p n fs.length wr f (.slice g f.length o))(v:bd wr g (cx f))(q:∀a,g=some a->m+1<=a.block)(v0 v1:Value):
 CG fs gs w (.returned (.tuple #[.agg #[.slice g f.length o,.slice p gs.length n],.nilIface])) ((wr.setCell ⟨w.heap.size+1,0,none⟩ v0).setCell ⟨w.heap.size+1,1,none⟩ v1):=by
 have y:=c.gq;have x:((wr.setCell ⟨w.heap.size+1,0,none⟩ v0).setCell ⟨w.heap.size+1,1,none⟩ v1).heap.size=wr.heap.size:=by simp[World.setCell]
 have h:∀j,j≠w.heap.size+1->((wr.setCell ⟨w.heap.size+1,0,none⟩ v0).setCell ⟨w.heap.size+1,1,none⟩ v1).heap[j]?=wr.heap[j]?:=λj r=>(zY _ _ _ _ (by exact r)).trans (zY _ _ _ _ (by exact r));have l:∀d∈f,dD (m+1) ((wr.setCell ⟨w.heap.size+1,0,none⟩ v0).setCell ⟨w.heap.size+1,1,none⟩ v1) d:=λd e=>((c.parts d e).1.set (by omega) v0).set (by omega) v1;have s:=c.made;rw[List.take_length]at s;refine⟨f,g,o,p,n,rfl,⟨bd.moved v (by omega) λa b=>h _ (by have:=q a b;omega),λd e=>(l d e).code,λd e=>(l d e).taken⟩,bd.moved c.texts (by omega) λa b=>h _ (by have:=c.low a b;omega),s,(c.below.setCell (zE _) _).setCell (zE _) _,λa b=>by have:=q a b;omega,λa b=>by have:=c.low a b;omega,?_,λd e=>?_,c.rising,?_⟩
 ·exact jI (aE c.own λi k=>h i (by
   have:=(zW c.own i k).1;omega)) (by omega)
 ·have:=l d e;exact⟨this.code,this.taken,λa b=>⟨by have:=(this.lowC a b).1;omega,(this.lowC a b).2⟩,λa b=>⟨by have:=(this.lowT a b).1;omega,(this.lowT a b).2⟩,this.ownT.low (by omega),this.ownC⟩
 ·exact jI (aE c.own2 λi k=>h i (by
   obtain⟨a,b,rfl⟩:=bm.where_ (B:=0) (w:=w) k;have:=c.low a b;omega)) (by omega)
noncomputable def J8(o:Fn)(d:Option Addr)(a b c:Nat):Fn:=⟨o.name,o.params,o.slots,d,o.taken,a,o.around,some ⟨b,0,none⟩,cw cS o.code,c⟩
def yn{w:World}{o:Obj}{b:Nat}(a:(w.alloc o).heap.size<=b):w.heap.size<b:=by
 have c:(w.alloc o).heap.size=w.heap.size+1:=by show(w.heap.push _).size=_;rw[Array.size_push]
 omega
def K3{fs:List Fn}{gs:List ByteArray}(c:bs fs gs){k:Nat}(a:k<fs.length):fs[k].code.length<=100000:=by
 have d:=(dF c.many).2.2.2.1;have b:=lF fs (k:=k+1) a;rw[dS fs k a]at b;omega
set_option maxRecDepth 20000 in
def mF(fs:List Fn)(gs:List ByteArray)(r GA:Option Addr)(fc gc:Nat)(w:World)(a0:bD w r fs)(av:bd w GA (gs.map Value.string))(ba:∀j,zz w j->aX j∧fT j)(O:Small fs gs)(b5:bs fs gs):
 Calls prog 9 #[.agg #[.slice r fs.length fc,.slice GA gs.length gc]] w (CG fs gs w):=by
 have cd:=za (λ(t:World) (b:zz w t)=>ue fs gs r GA fc gc t (a0.below b) (av.below b rfl) (ba t b).1 O);have cl:=za (λ(t:World) (b:zz w t)=>Cj GA gc gs t (av.below b rfl) O.ng);have y:=za b5;have ck:=za a0;have cj:=za ba;have S:=za O;clear a0 av ba O b5;go_enter func9,ntmps9;go_wp2_with (go_at_call 18;refine(cd.out _ (aU w _ _)).mono ?_);rintro a2 c2 ⟨P,b⟩;rcases P with⟨_,_,rfl⟩|⟨P,_⟩
 rotate_left
 ·exact absurd y.out P
 have Y:=(am w (.cells #[.slice r fs.length fc,.slice GA gs.length gc] 25) 25 [.slice none 0 0,.slice none 0 0]).below b (am w _ 25 _).lt;have K:ah c2 w.heap.size 25 [.slice r fs.length fc,.slice GA gs.length gc]:=((ah.made w 25 [.slice r fs.length fc,.slice GA gs.length gc]).alloc _).below b ((ah.made w 25 [.slice r fs.length fc,.slice GA gs.length gc]).alloc _).lt;have X:=za (ac (aU w _ _) b (aU w _ _).size);have dC:=K.cell 0;have dB:=K.cell 1;have be:=Y.lt;have a3:=za Y;have a4:=za K;have a6:=za be;clear Y K b cd;go_wp2_with (first
  |(go_at_call 24;refine(cl.out _ X.out).mono ?_;rintro a2 H ⟨a9,b6,rfl,E,m,b,D⟩
    have ca:=za (a4.below b a4.lt);have b7:=za (a3.below b a3.lt);have cn:=za (ac X.out b X.size);have cb:=za E;have cf:=za (jI D (Nat.le_of_lt a6.out));have ci:=za (show ∀a,a9=some a->w.heap.size+1<a.block∧a.block<H.heap.size from λa c=>by have:=m a c;have:=a6.out;omega);clear E m b D)
  |(refine aP (.tmp 5) (.tmp 17) 25 H.heap.size 0 25 [.slice none 0 0,.slice none 0 0] [.slice none 0 0,.slice a9 gs.length b6] _ _ rfl rfl rfl rfl rfl Fh (by simp[Value.oneCell']) (ah.made H 25 _) (by simp) ?_;intro e0 bj b3 b1
    have G:=za (EB (fs:=fs) ca.out b7.out cn.out cb.out cf.out ci.out bj b3 b1);have bo:=G.gq.2;have dA:=G.p.cell 0;clear bj b3 b1))
 clear dC dB be a3 a4 a6 X ca b7 cn cb cf ci cl;generalize H.heap.size=gq at G bo;go_loopw [7,21] (λew ad wr=> ∃(e:Nat) (Q:List Fn) (I:Value),ad= .int .i64 e∧e<=fs.length∧Hid (qr fs gs w gq (.slice r fs.length fc) (.slice GA gs.length gc) a9 b6 e wr Q I)) (λ_ ad _=>fs.length - (intOf ad).toNat)
 case atStart=>exact⟨0,_,_,rfl,zu _,G⟩
 case round=>
  clear G bo dA;rename World=>wr;obtain⟨e,Q,I,rfl,fi,d⟩:=hrel;have V:=za (ck.below d.below);by_cases l:e<fs.length
  ·obtain⟨R,e5,rfl,fl,b2⟩:=V.at_ (by omega);obtain⟨ds,dn,dl,df,c9,c8⟩:=b2 e l;clear b2;have fj:(0:Int)<=(e:Int)∧(e:Int)<(fs.length:Int):=by omega
   have an:fs[e]∈fs:=zk l;have d2:=za (λ(j:World) (b:zz wr j)=>Eg fs[e].TA fs[e].tc fs[e].taken j ((V.taken _ an).below b rfl) (by have:=((dF y.many).2.2.2.2 e l).2;omega));have d7:=za (λ(j:World) (b:zz wr j)=>ym fs[e].code fs[e].CA fs[e].cc j (y.wf l) ((V.code _ an).below b) (K3 y.out l) (vC y.out S.out l) (λc0 C=>cj.out c0 (ac (ac d.below b d.below.size) C (zi d.below.size b.size))));have ee:=za (λ(h:Option Addr) (k g x:Nat)=>(⟨rfl,rfl,rfl,rfl,rfl,rfl⟩:tv fs[e] (J8 fs[e] h k g x)));have cg:=za l;have ek:=za (show Q.length=e from by rw[d.made.1,zR];omega);have ej:=za (show e<=2000000 from by have:=S.nf;omega);have ff:=d.q.lt;have ed:=za (λ(j ab:World) (b:zz wr j) (f:Fn) (hf:tv fs[e] f) (v cap:Nat)=>(d.grow b).more (w':=ab) (g:=v) (cap:=cap) l hf);generalize fs[e]=o at *
   have fh:=S.nf;clear l an;go_wp2_with (first
    |(go_at_call 25;refine(d2.out _ (below1 wr _)).mono ?_;rintro a2 bc ⟨h,k,rfl,E,m,b,D⟩
      have af:ah bc wr.heap.size 47 [.string o.name,.int .i64 o.params,.int .i64 o.slots,.slice o.TA o.taken.length o.tc,.int .i64 o.around,.slice o.CA o.code.length o.cc]:=(ah.made wr 47 [.string o.name,.int .i64 o.params,.int .i64 o.slots,.slice o.TA o.taken.length o.tc,.int .i64 o.around,.slice o.CA o.code.length o.cc]).below b (ah.made wr 47 _).lt;have d0:=za af;have ev:=za (ac (below1 wr _) b (below1 wr _).size);have d5:=za E;have ea:=za (D.low (B:=gq+1) (by have F:=d.gq.2;have a1:wr.heap.size+1=(wr.alloc (.cells #[.string o.name,.int .i64 o.params,.int .i64 o.slots,.slice o.TA o.taken.length o.tc,.int .i64 o.around,.slice o.CA o.code.length o.cc] 47)).heap.size:=(by simp);omega));have bt:∀a,h=some a->wr.heap.size<a.block∧a.block<bc.heap.size:=λa c=>⟨yn (m a c).1,(m a c).2⟩
      have U:=za bt;have e7:=af.lt;clear E m b D af bt)
    |(refine aP (.tmp 28) (.tmp 27) 44 wr.heap.size 3 47 [.string o.name,.int .i64 o.params,.int .i64 o.slots,.slice o.TA o.taken.length o.tc,.int .i64 o.around,.slice o.CA o.code.length o.cc] [.slice h o.taken.length k] _ _ rfl rfl rfl rfl rfl Pf (by simp[Value.oneCell']) d0.out (by simp) ?_;intro aa bi M ar
      have J:ah aa wr.heap.size 47 [.string o.name,.int .i64 o.params,.int .i64 o.slots,.slice h o.taken.length k,.int .i64 o.around,.slice o.CA o.code.length o.cc]:=bi;have b9:=za J;have bb:=za (ev.trans (M _ (zb _)));have d9:=za (show bm (gq+1) aa (.slice h o.taken.length k) o.taken from aE ea.out λv ap=>by
       obtain⟨a,c,rfl⟩:=bm.where_ (B:=0) (w:=w) ap;exact ar _ (by have:=U.out a c;omega))
      have d4:=za (bd.moved d5.out (M 0 (zu _)).size λa c=>ar _ (by have:=U.out a c;omega));have ch:=za (show ∀a,h=some a->wr.heap.size<a.block∧a.block<aa.heap.size from λa c=>⟨(U.out a c).1,zv (U.out a c).2 (M 0 (zu _)).size⟩);have c4:=J.lt;have c7:=J.cell 5;clear J bi M ar)
    |(go_at_call 26;refine(d7.out _ bb.out).mono ?_;rintro a2 c1 ⟨g,x,rfl,bl,m,b⟩
      have b8:=za (b9.below b b9.lt);have es:=za (ac bb.out b bb.size);have d3:=za (d4.below b rfl);have d8:=za (d9.below b (zb _));have T:=za (show ∀a,h=some a->wr.heap.size<a.block∧a.block<c1.heap.size from λa c=>⟨(ch.out a c).1,zv (ch.out a c).2 b.size⟩);have em:=za bl;have W:=za (show wr.heap.size<g from zv c4 m);have e6:=b8.lt;clear bl m b)
    |(refine aP (.tmp 32) (.tmp 31) 45 wr.heap.size 5 47 [.string o.name,.int .i64 o.params,.int .i64 o.slots,.slice h o.taken.length k,.int .i64 o.around,.slice o.CA o.code.length o.cc] [.slice (some ⟨g,0,none⟩) (cw cS o.code).length x] _ _ rfl rfl rfl rfl rfl PH (by simp[Value.oneCell']) b8.out (by simp) ?_;intro s bk N L
      have n:ah s wr.heap.size 47 [.string o.name,.int .i64 o.params,.int .i64 o.slots,.slice h o.taken.length k,.int .i64 o.around,.slice (some ⟨g,0,none⟩) (cw cS o.code).length x]:=bk;have A:=za (es.trans (N _ (zb _)));have ec:=za (show bm (gq+1) s (.slice h o.taken.length k) o.taken from aE d8.out λv ap=>by
       obtain⟨a,c,rfl⟩:=bm.where_ (B:=0) (w:=w) ap;exact L _ (by have:=T.out a c;omega))
      have d6:=za (bd.moved d3.out (N 0 (zu _)).size λa c=>L _ (by have:=T.out a c;omega));have a7:=za (show ∀a,h=some a->wr.heap.size<a.block∧a.block<s.heap.size from λa c=>⟨(T.out a c).1,zv (T.out a c).2 (N 0 (zu _)).size⟩);have a8:=za (em.far (L g (by have:=W.out;omega)));have e8:=n.lt;have c3:=(d.grow A.out).q.cell 0;have e1:=(d.grow A.out).q.lt;have cC:=n.cell 0;have cv:=n.cell 1;have ct:=n.cell 2;have cs:=n.cell 3;have cp:=n.cell 4;have co:=n.cell 5;clear n bk N L ds dn dl df c9 c8 c7)
    |(at_builtin;refine Of (.tmp 34) (.tmp 36) (gq+1) I Q (J8 o h k g x) s _ rfl rfl rfl (d.grow A.out).own rfl s.heap.size rfl rfl (by rw[ek.out];exact ej) (d.grow A.out).gq.2 ?_;intro v cap ab bp ao b4 fk
      have c6:some gq≠I.ownBlock:=λi=>by have:=(zW d.own gq i.symm).1;omega
      have a5:=za ((d.grow A.out).q.grown ao c6);have e4:=a5.cell 0;have e3:=a5.free 0;have e2:=a5.lt;have en:=za (ed.out s ab A.out _ (ee.out h k g x) v cap bp ao (b4.imp id (λP=>by omega)) ⟨a8.insAt,d6.out,λa c=>by
       have i:a=⟨g,0,none⟩:=by injection c with i;exact i.symm
       subst i;have F:=W.out;exact⟨by show gq+1<=g;omega,a8.lt⟩,λa c=>by have F:=a7.out a c;omega,ec.out,g,rfl,a8⟩ (λR b=>by
       have a1:=(zW d.own R b).2;exact⟨λa c=>by
        have i:a=⟨g,0,none⟩:=by injection c with i;exact i.symm
        subst i;have F:=W.out;show g≠R;omega,λa c=>by have F:=a7.out a c;omega⟩) (λcT c5 a R c b=>by
       have F:=((d.parts cT c5).1.blk c).2;rcases b with⟨Z,C,rfl⟩|⟨Z,C,rfl⟩
       ·have i:Z=⟨g,0,none⟩:=by injection C with i;exact i.symm
        subst i;have a1:=W.out;show a<g;omega
       ·have a1:=a7.out Z C;omega))
      clear bp ao b4 c3 cC cv ct cs cp co))
   go_roundw
   case rel=>exact⟨e+1,_,_,by go_num,cg.out,en⟩
   case measure=>
    have fm:=cg.out;simp[intOf];omega
  ·obtain rfl:e=fs.length:=by omega
   obtain⟨f1,f0,rfl,b0,bq⟩:=tu d.own;have fx:=d.q.cell 0;have ft:=d.q.cell 1;have fr:=d.z.cell 0;have fo:=d.z.cell 1;have fn:=d.z.free;have e9:=d.z.lt;have ef:=za b0;have d1:=za bq;clear b0 bq V ck y cj S;go_wp2_with fail;refine bodyPost_ret (C0 (u:=3) rfl _ _ (w.heap.size+1) _ rfl (Pp d.z) rfl) rfl ?_;exact Ht d.out ef.out d1.out _ _
end
section
set_option maxRecDepth 20000
open Go.RowKit Go.Proofs.PeepPlain
def IA(fs:List Fn)(w:World)(e:Ending)(w':World):Prop:=
 ∃(a:List Fn) (s:Int),iE fs a∧s=(aY fs fs.length:Int) - (aY a fs.length:Int)∧e= .returned (.tuple #[.int .i64 s,.nilIface])∧zz w w'
def na{fs a:List Fn}{gs:List ByteArray}(e:bs fs gs)(c:iE fs a){k:Nat}(b:k<fs.length)(d:k<a.length):a[k].code.length<=fs[k].code.length:=by
 rw[(c.2 k b d).2.2.2.2.2];exact(mg cS _ fs[k].code (zb _) (e.wf b)).2
def Hf(fs:List Fn)(gs:List ByteArray)(b GA:Option Addr)(fc gc:Nat)(w:World)(k:bD w b fs)(j:bd w GA (gs.map Value.string))(l:aX w)(h:Small fs gs)(i:¬bs fs gs):
 Calls prog 10 #[.agg #[.slice b fs.length fc,.slice GA gs.length gc]] w λe w'=>(∃g,e= .returned (.tuple #[.int .i64 0,.iface 59 (.pointer (some ⟨g,0,none⟩))])∧w.heap.size<=g∧ah w' g 30 (bO fs gs).cells)∧zz w w':=by
 have o:=za (λ(c:World) (a:zz w c)=>sv fs gs b GA fc gc c (k.below a) (j.below a rfl) (l.below a) h i);clear k j l h i;go_enter func10,ntmps10
 go_wp2_with (go_at_call 9;refine(o.out _ (below1 w _)).mono ?_;rintro r q ⟨⟨g,rfl,f,d⟩,a⟩
              have m:=za (ac (below1 w _) a (below1 w _).size);have p:=za (show w.heap.size<=g from zi (below1 w _).size f);have n:=za d;clear a f d)
 refine bodyPost_ret (results_tmp2 rfl _ _ _) rfl ?_;exact⟨⟨g,rfl,p.out,n.alloc _⟩,m.alloc m.size _⟩
def vf(fs:List Fn)(gs:List ByteArray)(j GA:Option Addr)(fc gc:Nat)(w:World)(B:bD w j fs)(M:bd w GA (gs.map Value.string))(P:∀n,zz w n->aX n∧fT n)(z:Small fs gs)(A:bs fs gs):
 Calls prog 10 #[.agg #[.slice j fs.length fc,.slice GA gs.length gc]] w (IA fs w):=by
 have O:=za (λ(D:World) (c:zz w D)=>mF fs gs j GA fc gc D (B.below c) (M.below c rfl) (λn X=>P n (ac c X c.size)) z A);have C:=za A;have a8:=za B;have a7:=za z;clear B M P z A;go_enter func10,ntmps10
 go_wp2_with (go_at_call 9;refine(O.out _ (below1 w _)).mono ?_;rintro b0 p ⟨b,e,g,i,f,rfl,N,W,L,c,U,T,V⟩
              have s:=za ((ah.made w 25 [.slice j fs.length fc,.slice GA gs.length gc]).below c (ah.made w 25 [.slice j fs.length fc,.slice GA gs.length gc]).lt);have t:=za (ac (below1 w _) c (below1 w _).size);have Q:=za N;have r:=za L;have a6:=s.cell 0;have E:=s.lt;clear c N W L U T V)
 have d:=za (ah.made p 25 [.slice e b.length g,.slice i gs.length f]);have h:=za (s.alloc (.cells #[.slice e b.length g,.slice i gs.length f] 25));have l:=za (Q.below (below1 p (.cells #[.slice e b.length g,.slice i gs.length f] 25)));have k:=za ((a8.below t.out).below (below1 p (.cells #[.slice e b.length g,.slice i gs.length f] 25)));have m:=za (t.alloc t.size (.cells #[.slice e b.length g,.slice i gs.length f] 25));clear s Q t O a6;generalize p.alloc (.cells #[.slice e b.length g,.slice i gs.length f] 25)=w4 at d h l k m;generalize p.heap.size=gr at d E;clear E;go_loopw [6,7,19] (λR a9 u wr=> ∃(a:Nat) (q:Int),u= .int .i64 a∧R= .int .i64 q∧a<=fs.length∧q=(aY fs a:Int) - (aY b a:Int)∧Hid (ah wr gr 25 [.slice e b.length g,.slice i gs.length f])∧Hid (ah wr w.heap.size 25 [.slice j fs.length fc,.slice GA gs.length gc])∧Hid (bD wr e b)∧Hid (bD wr j fs)∧Hid (zz w wr)) (λ_ _ u _=>fs.length - (intOf u).toNat)
 case atStart=>exact⟨0,0,rfl,rfl,zu _,by simp[aY],d,h,l,k,m⟩
 case round=>
  clear d h l k m;obtain⟨a,q,rfl,rfl,bp,G,d,h,l,k,m⟩:=hrel;have bo:=r.1;have bl:=a7.nf;by_cases y:a<fs.length
  ·have x:a<b.length:=by omega
   obtain⟨b2,be,rfl,bt,K⟩:=k.at_ (by omega);obtain⟨a5,a4,a3,a2,a1,a0⟩:=K a y;obtain⟨b1,bc,rfl,bq,J⟩:=l.at_ (by omega);obtain⟨av,ar,ap,ao,an,af⟩:=J a x;clear a5 a4 a3 a2 a1 av ar ap ao an K J;have bb:=h.cell 0;have ba:=d.cell 0;have bk:=h.lt;have bj:=d.lt;have I:(0:Int)<=(a:Int)∧(a:Int)<(fs.length:Int):=by omega
   have H:(0:Int)<=(a:Int)∧(a:Int)<(b.length:Int):=by omega
   have S:=(dF C.many).2.2.2.1;have ad:=dS fs a y;have ab:=dS b a x;have aa:=lF fs (show a+1<=fs.length by omega);have Z:=na C.out r.out y x;have Y:=qi r.out (λbi I H=>na C.out r.out I H) a (by omega);have F:wrap64 ((fs[a].code.length:Int) - (b[a].code.length:Int))=(fs[a].code.length:Int) - (b[a].code.length:Int):=by unfold wrap64;omega
   have v:wrap64 (q+((fs[a].code.length:Int) - (b[a].code.length:Int)))=(aY fs (a+1):Int) - (aY b (a+1):Int):=by unfold wrap64;omega
   clear S ad ab aa Z Y G;generalize fs[a]=o at a0 F v;generalize b[a]=o' at af F v;go_wp2_with fail;go_quiet (fail);go_wp2_with fail;go_roundw
   case rel=>exact⟨a+1,_,by go_num,by rw[v],by omega,rfl,d.drewN nq,h.drewN nq,l.below (ae (zZ _ _) nq),k.below (ae (zZ _ _) nq),ae m.out nq⟩
   case measure=>simp[intOf];omega
  ·obtain rfl:a=fs.length:=by omega
   go_wp2_with fail;refine bodyPost_ret (results_tmp2 rfl _ _ _) rfl ?_;exact⟨b,q,r.out,G,rfl,m⟩
end
end Go.Proofs.YtmecmlpoallpcaaGreatDoor

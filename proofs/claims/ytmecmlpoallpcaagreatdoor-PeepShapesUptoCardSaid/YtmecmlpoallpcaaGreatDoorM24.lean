/- Parts of the proof: Spoil AppAny FullW RefZ2 -/
import Derived.Test.YtmecmlpoallpcaaGreatDoorM20
import Derived.Test.YtmecmlpoallpcaaGreatDoorM02
import Derived.Maps.AppendAt
import Derived.Test.YtmecmlpoallpcaaGreatDoorM16
import Derived.Test.YtmecmlpoallpcaaGreatDoorM12
set_option linter.all false
set_option maxHeartbeats 8000000
namespace Go.Proofs.YtmecmlpoallpcaaGreatDoor
open Go.Proofs.Tryz
section
open Go.RowKit Go.Proofs.PeepPlain
structure aR(S:Nat->Prop)(w w':World):Prop where
 os:w'.os=w.os
 tape:w'.tape=w.tape
 output:w'.output=w.output
 size:w.heap.size<=w'.heap.size
 block:∀k,k<w.heap.size->¬S k->w'.heap[k]?=w.heap[k]?
section
variable{S:Nat->Prop}{w w' w2:World}
def aR.refl(S:Nat->Prop)(w:World):aR S w w:=⟨rfl,rfl,rfl,zb _,λ_ _ _=>rfl⟩
def aR.ofBelow(a:zz w w'):aR S w w':=⟨a.os,a.tape,a.output,a.size,λb c _=>a.block b c⟩
def aR.trans(a:aR S w w')(b:aR S w' w2):aR S w w2:=
 ⟨b.os.trans a.os,b.tape.trans a.tape,b.output.trans a.output,zi a.size b.size,λc e d=>(b.block c (zv e a.size) d).trans (a.block c e d)⟩
def aR.next{e:Nat->Prop}(a:aR S w w')(b:aR e w' w2)(f:∀k,e k->k<w.heap.size->S k):aR S w w2:=
 ⟨b.os.trans a.os,b.tape.trans a.tape,b.output.trans a.output,zi a.size b.size,λk c d=>(b.block k (zv c a.size) (λg=>d (f k g c))).trans (a.block k c d)⟩
def aR.mono{b:Nat->Prop}(a:aR S w w')(c:∀k,S k->b k):aR b w w':=⟨a.os,a.tape,a.output,a.size,λk e d=>a.block k e (λf=>d (c k f))⟩
def aR.put{g:Nat}(a:Below 0 w w')(d:∀k,k≠g->w'.heap[k]?=w.heap[k]?)(c:S g):aR S w w':=
 ⟨a.os,a.tape,a.output,a.size,λk _ b=>d k (λe=>b (e ▸ c))⟩
def aR.set{g i:Nat}(c:S g)(a:Value):aR S w (w.setCell ⟨g,i,none⟩ a):=
 ⟨rfl,rfl,rfl,by simp[World.setCell],λe _ b=>zY _ _ _ _ (λd=>b (by rw[d];exact c))⟩
def aR.grown{row:Option Nat}(a:w.grownBy w' row)(e:∀g,row=some g->S g):aR S w w':=
 ⟨a.os,a.tape,a.output,a.size,λb d c=>a.block b d (λf=>c (e b f.symm))⟩
def aR.row{g:Nat}{t:TypeId}{b:List Value}(d:aR S w w')(a:ah w g t b)(c:¬S g):ah w' g t b:=(d.block g a.lt c).trans a
def aR.below{B:Nat}(a:aR S w w')(d:B<=w.heap.size)(b:∀k,S k->B<=k):Below B w w':=
 ⟨a.os,a.tape,a.output,a.size,λk c=>a.block k (zv c d) (λe=>by have:=b k e;omega)⟩
def aR.drewN(a:aR S w w')(n:Nat):aR S w (w'.drewN n):=a.trans (aR.ofBelow (ae (zZ _ _) n))
end
def aK.own{B:Nat}{w:World}{g c:Nat}{l:List au}(i:aK w g c l)(d:B<=g):gB B w (.slice (some ⟨g,0,none⟩) l.length c) l:=by
 obtain⟨a,b,h,f,e⟩:=i;refine⟨bw l,.inr ⟨g,c,(bV l++a).toArray,rfl,d,b,h,f,by simpa using e,?_⟩⟩;rw[List.toList_toArray,<-bw l,List.take_left]
def qw(n:Int):au:=⟨n,0,0,⟨#[]⟩,0⟩
def tH{B:Nat}{w:World}{g c gt n f:Nat}{l:List au}{lt:List Int}(i:aK w g c l)(h:bm B w (.slice (some ⟨gt,0,none⟩) n f) lt):g≠gt:=λd=>by
 subst d;obtain⟨m,e,_⟩:=i;rcases h.2 with⟨b,_⟩|⟨j,cap,p,b,o,a,_⟩
 ·injection b with d _ _;cases d
 ·injection b with e1 _ _;have k:g=j:=by have:=zj e1;injection this
  subst k;unfold ah at e;rw[e]at a;injection a with a;injection a with _ a _
  cases a
set_option maxRecDepth 20000 in
def vw(p:ByteArray)(o n r:Int)(h:Option Addr)(d k f m:Nat)(j:List au)(v:List Int)(B:Nat)(w:World)(J:aK w f m j)(W:d=v.length)(X:bm B w (.slice h d k) v)(b8:j.length<=2000000)(b6:d<=2000000):
 Calls prog 27 #[.agg #[.string p,.int .i64 o,.int .i64 n,.slice h d k,.int .i64 r,.slice (some ⟨f,0,none⟩) j.length m]] w λe w'=>e= .returned (.tuple #[])∧aR (λb=>b=f∨∃a,h=some a∧a.block=b) w w'∧(∃q,q.length=j.length∧aK w' f m q)∧∃lt,lt.length=v.length∧bm B w' (.slice h d k) lt:=by
 have b2:=za J;have ar:=za X;have ap:=za W;have a6:=J.lt;clear J X W;go_enter func27,ntmps27;go_wp2_with fail;obtain⟨l,y⟩:∃l,w.heap.size=l:=⟨_,rfl⟩
 have Q:Hid (aR (λb=>b=f∨∃a,h=some a∧a.block=b) w (w.alloc (.cells #[.string p,.int .i64 o,.int .i64 n,.slice h d k,.int .i64 r,.slice (some ⟨f,0,none⟩) j.length m] 47))):=za (aR.ofBelow (below1 w _));have N:Hid (ah (w.alloc (.cells #[.string p,.int .i64 o,.int .i64 n,.slice h d k,.int .i64 r,.slice (some ⟨f,0,none⟩) j.length m] 47)) l 47 [.string p,.int .i64 o,.int .i64 n,.slice h d k,.int .i64 r,.slice (some ⟨f,0,none⟩) j.length m]):=za (y ▸ ah.made w 47 _);have U:=za (b2.alloc (.cells #[.string p,.int .i64 o,.int .i64 n,.slice h d k,.int .i64 r,.slice (some ⟨f,0,none⟩) j.length m] 47));have M:=za (ar.alloc (.cells #[.string p,.int .i64 o,.int .i64 n,.slice h d k,.int .i64 r,.slice (some ⟨f,0,none⟩) j.length m] 47));have a7:Hid (∀a,h=some a->a.block<l):=za (λa K=>by rw[<-y];exact(ar.lt (g:=a.block) (by rw[K];rfl)).2);rw[y];rw[y]at a6;clear y;generalize w.alloc (.cells #[.string p,.int .i64 o,.int .i64 n,.slice h d k,.int .i64 r,.slice (some ⟨f,0,none⟩) j.length m] 47)=w1 at Q N U M;go_loopw [2] (λu wr=> ∃(c:Nat) (q:List au),u= .int .i64 c∧c<=j.length∧q.length=j.length∧Hid (aK wr f m q)∧Hid (bm B wr (.slice h d k) v)∧Hid (ah wr l 47 [.string p,.int .i64 o,.int .i64 n,.slice h d k,.int .i64 r,.slice (some ⟨f,0,none⟩) j.length m])∧Hid (aR (λb=>b=f∨∃a,h=some a∧a.block=b) w wr)) (λu _=>j.length - (intOf u).toNat)
 case atStart=>exact⟨0,j,rfl,zu _,rfl,U,M,N,Q⟩
 case round=>
  clear U M N Q;rename World=>w2;obtain⟨c,q,rfl,af,C,z,E,x,P⟩:=hrel;have bb:w2.cell? ⟨l,5,none⟩=some (.slice (some ⟨f,0,none⟩) j.length m):=x.cell 5;have L:w2.cell? ⟨l,3,none⟩=some (.slice h d k):=x.cell 3;have ao:=x.lt;have bi:=z.lt;by_cases A:c<j.length
  ·have a5:(0:Int)<=(c:Int)∧(c:Int)<(j.length:Int):=by omega
   obtain⟨old,aa,a4,Z⟩:=z.set_ (k:=c) (by omega) (qw (-72));have b1:=za aa;have b0:=za Z;have R:=za C;clear aa Z L C;go_wp2_with (refine aP (.tmp 15) (.tmp 14) 50 f (c * 5) 50 old (aZ (qw (-72))) _ _ rfl rfl rfl rfl rfl Ke (by simp[aZ,Value.oneCell']) b1.out a4 ?_;intro V ab an D;have b4:=za (b0.out _ ab);have bq:=za (P.trans (aR.put (an 0 (zu _)) D (.inl rfl)));have bo:=za (show ah V l 47 _ from(D l (by omega)).trans x.out);clear ab an;have bk:=za (show bm B V (.slice h d k) v from aE E.out λba a8=>D ba (by
    obtain⟨a,K,rfl⟩:=bm.where_ (B:=0) (w:=w) a8;subst K;intro e;have av:=tH (B:=B) (gt:=a.block) z.out (by
     have ad:=E.out;rcases ad.2 with⟨H,_⟩|⟨cb,cap,cc,H,b9,b7,_⟩
     ·injection H with e1 _ _;cases e1
     ·injection H with e1 _ _;have bc:=zj e1;subst bc;exact ad)
    exact av e.symm)))
   clear D;go_roundw
   case rel=>exact⟨c+1,q.set c (qw (-72)),by go_num,A,by rw[zN];exact R.out,b4,bk,bo,bq⟩
   case measure=>simp[intOf];omega
  ·obtain rfl:c=j.length:=by omega
   have R:=za C;clear A af C;go_wp2_with fail;clear bb L ao bi;go_loopw [3] (λu wr=> ∃(c:Nat) (lt:List Int),u= .int .i64 c∧c<=d∧lt.length=d∧Hid (aK wr f m q)∧Hid (bm B wr (.slice h d k) lt)∧Hid (ah wr l 47 [.string p,.int .i64 o,.int .i64 n,.slice h d k,.int .i64 r,.slice (some ⟨f,0,none⟩) j.length m])∧Hid (aR (λb=>b=f∨∃a,h=some a∧a.block=b) w wr)) (λu _=>d - (intOf u).toNat)
   case atStart=>exact⟨0,v,rfl,zu _,ap.symm,z,E,x,P⟩
   case round=>
    clear z E x P;rename World=>w4;obtain⟨c,lt,rfl,af,I,G,s,F,O⟩:=hrel;have L:w4.cell? ⟨l,3,none⟩=some (.slice h d k):=F.cell 3;have ao:=F.lt;by_cases A:c<d
    ·have a5:(0:Int)<=(c:Int)∧(c:Int)<(d:Int):=by omega
     have a3:c<lt.length:=by omega
     have bt:=a7;obtain⟨cg,cf,be⟩:=s.shape;obtain⟨t,rfl,a2,a1,a0⟩:=s.addr (by omega);have cd:=s.cell c a3;have b5:=s.free c;have ca:=(s.lt (g:=t) rfl).2;have a9:t≠l:=by have:=bt.out _ rfl;show t≠l;have e:(⟨t,0,none⟩:Addr).block<l:=this;exact Nat.ne_of_lt e
     have Y:=s.stored c (-72);have bj:=za Y.1;have b3:=za (G.far (show(w4.setCell ⟨t,c,none⟩ (.int .i64 (-72))).heap[f]?=w4.heap[f]? from zY _ _ _ _ (tH G.out s.out)));have bl:=za (show ah (w4.setCell ⟨t,c,none⟩ (.int .i64 (-72))) l 47 _ from(zY _ _ _ _ (λe=>a9 e.symm)).trans F.out);have bp:=za (O.trans (aR.set (i:=c) (w:=w4) (g:=t) (.inr ⟨_,rfl,rfl⟩) (.int .i64 (-72))));have T:=za I;clear Y I be a2 a1 a0 s G F O;go_wp2_with fail;go_roundw
     case rel=>exact⟨c+1,lt.set c (-72),by go_num,A,by rw[zN];exact T.out,b3,bj,bl,bp⟩
     case measure=>simp[intOf];omega
    ·obtain rfl:c=d:=by omega
     have T:=za I;go_wp2_with fail;go_end0;exact⟨rfl,O.out,⟨q,R.out,G⟩,lt,T.trans ap.out,s⟩
end
section
open Go.RowKit Go.Proofs.PeepPlain
def Nl(w:World)(h p e:TypeId)(size l:Nat)(z:Value)(g:prog.underlying h=some (.slice e))(K:(prog.info? e).map (λi=>(i.zero,i.size,i.bytes))=some (some z,size,l))(E:z.cells.size=size)(x:0<size)(M:l<=100)
 (j:Nat)(b:Value)(n:Nat)(k:List Value)(r:w.ownsRow j e size b n k)(o:Option Addr)(m c:Nat)(a:List Value)(Q:o=none->c=0)(A:a.length=m * size)(y:bd w o a)(U:∀u∈a,u.oneCell'=true)(X:n<=4000000)(Y:m<=4000000)(N:j<=w.heap.size):
 ∃d w',(Builtin.append_ #[h,h] p #[b,.slice o m c]).run prog w= .ok d w'∧w'.ownsRow j e size d (n+m) (k++a)∧w.grownBy w' b.ownBlock∧(d.ownBlock=b.ownBlock∨d.ownBlock=some w.heap.size):=by
 obtain⟨v,B,D,G,F⟩:=info_parts K
 cases o with
 |none=>
  have s:=Q rfl;subst s;have J:m=0:=by
   apply Classical.byContradiction;intro W;have q:0<a.length:=by rw[A];exact Nat.mul_pos (by omega) x
   obtain⟨C,t,e,_⟩:=y q
   cases e
  subst J;have I:a=[]:=zD (by omega);subst I;refine⟨b,w,run_append_owned_none (P:=prog) w j h p e v size g B b n k r,by rw[Nat.add_zero,List.append_nil];exact r,⟨rfl,rfl,rfl,zb _,λ_ _ _=>rfl⟩,.inl rfl⟩
 |some ad=>
  have O:(n+m) * l<=140737488355328:=by
   have:=Nat.mul_le_mul (show n+m<=8000000 by omega) M;omega
  have L:∀f u,a[f]?=some u->w.cell? (ad.add f)=some u:=λf u g=>by
   have q:0<a.length:=Nat.lt_of_le_of_lt (zu f) (zB.1 g).1;obtain⟨C,t,e,_,s⟩:=y q;have V:ad=⟨C,t,none⟩:=zj e;rw[V,Addr.add_lit];exact s f u g
  obtain⟨d,w',H,T,S,_,R⟩:=run_append_own_at (P:=prog) w j h p e v z size l g B D G F E x b n k r ad m c a A L U (by simp only[maxLen];omega) O N;exact⟨d,w',H,T,S,R⟩
def LU{o:Oper}{a:Act}{q:Act->World->Prop}{R:Exit->Act->World->Prop}(w:World)(s x:Operand)(h e:TypeId)(size p:Nat)(z:Value)(v:prog.underlying h=some (.slice e))(I:(prog.info? e).map (λi=>(i.zero,i.size,i.bytes))=some (some z,size,p))(t:z.cells.size=size)(B:0<size)(J:p<=100)
 (D:o.op= .call {callee:= .builtin .append,args:= #[s,x],argTypes:= #[h,h]})
 (j:Nat)(f:Value)(n:Nat)(l:List Value)(y:a.eval s=f)(C:w.ownsRow j e size f n l)(k:Option Addr)(m c:Nat)(g:List Value)(u:a.eval x= .slice k m c)(L:k=none->c=0)(H:g.length=m * size)(E:bd w k g)(P:∀r∈g,r.oneCell'=true)(F:n<=4000000)(G:m<=4000000)(K:j<=w.heap.size)
 (Q:∀b d,d.ownsRow j e size b (n+m) (l++g)->w.grownBy d f.ownBlock->(b.ownBlock=f.ownBlock∨b.ownBlock=some w.heap.size)->q (a.put o.dst b) d):o.wp prog a w q R:=by
 obtain⟨b,d,A,O,N,M⟩:=Nl w h o.type e size p z v I t B J j f n l C k m c g L H E P F G K;unfold Oper.wp execOp;simp only[D,resolve,invoke,builtin,Sem.run_bind,Sem.run_pure,Result.andThen_ok,List.map_toArray,List.map_cons,List.map_nil,y,u,A];exact Q b d O N M
def Gm{r:Array Oper}{q:List Oper}{o:Oper}{a:Act}{t:Exit->Act->World->Prop}(w:World)(s x:Operand)(h e:TypeId)(size p:Nat)(z:Value)(K:o.guard=none)(E:o.op= .call {callee:= .builtin .append,args:= #[s,x],argTypes:= #[h,h]})(A:prog.underlying h=some (.slice e))(J:(prog.info? e).map (λl=>(l.zero,l.size,l.bytes))=some (some z,size,p))(v:z.cells.size=size)(C:0<size)(L:p<=100)
 (i:Nat)(f:Value)(n:Nat)(k:List Value)(B:a.eval s=f)(D:w.ownsRow i e size f n k)(j:Option Addr)(m c:Nat)(g:List Value)(y:a.eval x= .slice j m c)(O:j=none->c=0)(I:g.length=m * size)(F:bd w j g)(S:∀u∈g,u.oneCell'=true)(G:n<=4000000)(H:m<=4000000)(M:i<=w.heap.size)
 (T:∀b d,d.ownsRow i e size b (n+m) (k++g)->w.grownBy d f.ownBlock->(b.ownBlock=f.ownBlock∨b.ownBlock=some w.heap.size)->wpList prog r t q (a.put o.dst b) d):wpList prog r t (o::q) a w:=
 wpList_plain K λ_ N=>LU w s x h e size p z A J v C L E i f n k B D j m c g y O I F S G H M λb d R Q P=>N _ _ (T b d R Q P)
def dG{q:Array Oper}{o:Oper}{a:Act}{C:Act->World->Prop}{R:Exit->Act->World->Prop}{E:Prop}(w:World)(s x:Operand)(g e:TypeId)(size p:Nat)(z:Value)(L:o.guard=none)(F:o.op= .call {callee:= .builtin .append,args:= #[s,x],argTypes:= #[g,g]})(y:prog.underlying g=some (.slice e))(K:(prog.info? e).map (λl=>(l.zero,l.size,l.bytes))=some (some z,size,p))(t:z.cells.size=size)(B:0<size)(M:p<=100)
 (h:Nat)(b:Value)(n:Nat)(j:List Value)(A:a.eval s=b)(D:w.ownsRow h e size b n j)(i:Option Addr)(m c:Nat)(d:List Value)(u:a.eval x= .slice i m c)(O:i=none->c=0)(J:d.length=m * size)(G:bd w i d)(P:∀r∈d,r.oneCell'=true)(H:n<=4000000)(I:m<=4000000)(N:h<=w.heap.size)
 (Q:∀f k,k.ownsRow h e size f (n+m) (j++d)->w.grownBy k b.ownBlock->(f.ownBlock=b.ownBlock∨f.ownBlock=some w.heap.size)->C (a.put o.dst f) k):if Region.wanted o (yielded q a.tmps)=true then Oper.wp prog o a w C R else E:=by
 have v:Region.wanted o (yielded q a.tmps)=true:=by simp[Region.wanted,L]
 rw[zn v];exact LU w s x g e size p z y K t B M F h b n j A D i m c d u O J G P H I N Q
def ah.lies{w:World}{g:Nat}{t:TypeId}{b:List Value}(a:ah w g t b):bd w (some ⟨g,0,none⟩) b:=λ_=>⟨g,0,rfl,a.lt,λe d c=>by rw[zP,a.cell];exact c⟩
def iu{w:World}{B v:Nat}{e f:TypeId}{s j n k:Nat}{b v2:Value}{i h:List Value}(p:w.ownsRow B e s b n i)(o:w.ownsRow v f j v2 k h)(l:e≠f){g:Nat}(d:b.ownBlock=some g):v2.ownBlock≠some g:=λc=>by
 rcases p.2 with⟨rfl,_⟩|⟨r,A,y,rfl,_,m,_⟩
 ·cases d
 ·rcases o.2 with⟨rfl,_⟩|⟨q,z,x,rfl,_,a,_⟩
  ·cases c
  ·have u:r=g:=by injection d
   have t:q=g:=by injection c
   subst u t;rw[m]at a;injection a with a;injection a with _ a _;exact l a
def oB{w:World}{e:Option Addr}{fs:List Fn}(g:bd w e (cx fs))(j:0<fs.length):
 ∃b a,e=some ⟨b,a,none⟩∧b<w.heap.size∧∀i,(c:i<fs.length)->w.cell? ⟨b,a+i * 6,none⟩=some (.string fs[i].name)∧w.cell? ⟨b,a+i * 6+1,none⟩=some (.int .i64 fs[i].params)∧w.cell? ⟨b,a+i * 6+2,none⟩=some (.int .i64 fs[i].slots)∧w.cell? ⟨b,a+i * 6+3,none⟩=some (.slice fs[i].TA fs[i].taken.length fs[i].tc)∧w.cell? ⟨b,a+i * 6+4,none⟩=some (.int .i64 fs[i].around)∧w.cell? ⟨b,a+i * 6+5,none⟩=some (.slice fs[i].CA fs[i].code.length fs[i].cc):=by
 obtain⟨b,a,h,f,d⟩:=g (by rw[iY];omega);refine⟨b,a,h,f,λi c=>⟨d _ _ ?_,?_,?_,?_,?_,?_⟩⟩
 ·exact dQ fs i c 0 (by omega)
 ·rw[Nat.add_assoc];exact d _ _ (dQ fs i c 1 (by omega))
 ·rw[Nat.add_assoc];exact d _ _ (dQ fs i c 2 (by omega))
 ·rw[Nat.add_assoc];exact d _ _ (dQ fs i c 3 (by omega))
 ·rw[Nat.add_assoc];exact d _ _ (dQ fs i c 4 (by omega))
 ·rw[Nat.add_assoc];exact d _ _ (dQ fs i c 5 (by omega))
end
section
open Go.RowKit Go.Proofs.PeepPlain
def BG(d GA:Option Addr)(fs:List Fn)(b:Nat):Prop:=(∃a,d=some a∧a.block=b)∨(∃a,GA=some a∧a.block=b)∨∃c∈fs,sy c b
def dD.turns{B:Nat}{S:Nat->Prop}{w w':World}{f:Fn}(d:dD B w f)(e:aR S w w')(h:∀b,sy f b->¬S b):dD B w' f where
 code:=bd.moved d.code e.size λc a=>e.block _ (d.lowC c a).2 (h _ (.inl ⟨c,a,rfl⟩))
 taken:=bd.moved d.taken e.size λc a=>e.block _ (d.lowT c a).2 (h _ (.inr ⟨c,a,rfl⟩))
 lowC:=λc a=>⟨(d.lowC c a).1,zv (d.lowC c a).2 e.size⟩
 lowT:=λc a=>⟨(d.lowT c a).1,zv (d.lowT c a).2 e.size⟩
 ownT:=aE d.ownT λi g=>by
  obtain⟨c,a,rfl⟩:=bm.where_ (B:=B) (w:=w) g
  exact e.block _ (d.lowT c a).2 (h _ (.inr ⟨c,a,rfl⟩))
 ownC:=by
  obtain⟨i,g,j⟩:=d.ownC
  exact⟨i,g,j.far (e.block i (d.lowC _ g).2 (h _ (.inl ⟨_,g,rfl⟩)))⟩
def ep{w w':World}{S:Nat->Prop}{B e size n:Nat}{a:Value}{b:List Value}(d:w.ownsRow B e size a n b)(f:aR S w w')(h:∀g,a.ownBlock=some g->¬S g):w'.ownsRow B e size a n b:=
 aE d λg c=>f.block g (zW d g c).2 (h g c)
def oL{B o:Nat}{w:World}{f:Fn}(h:dD B w f){e size n:Nat}{b:Value}{i:List Value}(c:w.ownsRow o e size b n i)(m:e≠3)(l:e≠50){g:Nat}(d:b.ownBlock=some g):¬sy f g:=by
 rintro(⟨a,ha,rfl⟩|⟨a,ha,rfl⟩)
 ·obtain⟨p,k,j⟩:=h.ownC;rw[k]at ha;injection ha with ha;subst ha;exact iu c (j.own (zu _)) l d rfl
 ·refine iu c h.ownT m d ?_;rw[ha];rfl
structure BP(w:World)(B:Nat)(A GA:Option Addr)(c gc:Nat)(fs:List Fn)(gs:List ByteArray)(i:Nat)(wr:World):Prop where
 p:ah wr w.heap.size 25 [.slice A fs.length c,.slice GA gs.length gc]
 fns:wq B wr (.slice A fs.length c) fs
 parts:∀j,(hj:j<fs.length)->i<=j->dD B wr fs[j]
 texts:Cn B wr (.slice GA gs.length gc) gs
 turns:aR (BG A GA fs) w wr
def Ak{w w0:World}{B:Nat}{e GA:Option Addr}{c gc:Nat}{fs:List Fn}{gs:List ByteArray}(d:jD B w e c fs GA gc gs){b:Nat}(h:BG e GA fs b):b<w.heap.size:=by
 rcases h with⟨a,rfl,rfl⟩|⟨a,rfl,rfl⟩|⟨i,f,g⟩
 ·exact(zW d.fns a.block rfl).2
 ·exact(zW d.texts a.block rfl).2
 ·exact((d.parts i f).blk g).2
def BP.next{w w0:World}{B:Nat}{g GA:Option Addr}{c gc:Nat}{fs:List Fn}{gs:List ByteArray}{i:Nat}{wr w':World}(a:BP w B g GA c gc fs gs i wr)(l:jD B w g c fs GA gc gs)(d:i<fs.length)(b:aR (sy fs[i]) wr w'):BP w B g GA c gc fs gs (i+1) w' where
 p:=b.row a.p (λf=>by have:=Ak (w0:=w) l (.inr (.inr ⟨_,zk d,f⟩));omega)
 fns:=ep a.fns b λo e=>oL (a.parts i d (zb _)) a.fns (by decide) (by decide) e
 parts:=λh j r=>(a.parts h j (by omega)).turns b λk f n=>by have:=l.rising i h d j (by omega) k k n f;omega
 texts:=ep a.texts b λo e=>oL (a.parts i d (zb _)) a.texts (by decide) (by decide) e
 turns:=a.turns.next b λq m _=> .inr (.inr ⟨_,zk d,m⟩)
def BP.drop{w:World}{B:Nat}{b GA:Option Addr}{c gc:Nat}{fs:List Fn}{gs:List ByteArray}{i j:Nat}{wr:World}(a:BP w B b GA c gc fs gs i wr)(g:i<=j):BP w B b GA c gc fs gs j wr:=
 ⟨a.p,a.fns,λd e f=>a.parts d e (by omega),a.texts,a.turns⟩
def tJ{w:World}{B e size n c g:Nat}{a:List Value}(b:w.ownsRow B e size (.slice (some ⟨g,0,none⟩) n c) n a)(k:Nat)(u:Value):(w.setCell ⟨g,k,none⟩ u).ownsRow B e size (.slice (some ⟨g,0,none⟩) n c) n (a.set k u):=(World.ownsRow.stored b k u).1
def lV{w:World}{B e size n c:Nat}{b:Option Addr}{d:List Value}(f:w.ownsRow B e size (.slice b n c) n d)(h:0<n):∃g,b=some ⟨g,0,none⟩:=by
 rcases f.2 with⟨a,i⟩|⟨g,cap,j,a,_⟩
 ·omega
 ·injection a with e1 _ _;exact⟨g,e1⟩
set_option maxRecDepth 20000 in
def Jy(fs:List Fn)(gs:List ByteArray)(j GA:Option Addr)(c gc B:Nat)(mark:Int)(w:World)(b9:jD B w j c fs GA gc gs)(b0:B<=w.heap.size)(d4:fs.length<=2000000)(d:gs.length<=2000000)(bo:∀f∈fs,f.taken.length<=2000000∧f.code.length<=2000000):
 Calls prog 15 #[.agg #[.slice j fs.length c,.slice GA gs.length gc],.int .i64 mark] w λe w'=>e= .returned (.tuple #[])∧aR (BG j GA fs) w w':=by
 have v:=za b9;have dl:=za bo;have df:=za b0;clear b9 bo b0;go_enter func15,ntmps15;go_wp2_with fail;have a4:=za (show BP w B j GA c gc fs gs 0 (w.alloc (.cells #[.slice j fs.length c,.slice GA gs.length gc] 25))from⟨ah.made w 25 _,zX v.fns _,λd3 cs _=>(v.parts _ (zk cs)).below (below1 w _),zX v.texts _,aR.ofBelow (below1 w _)⟩);generalize w.alloc (.cells #[.slice j fs.length c,.slice GA gs.length gc] 25)=w1 at a4;go_loopw [4] (λn wr=> ∃a:Nat,n= .int .i64 a∧a<=fs.length∧Hid (BP w B j GA c gc fs gs a wr)) (λn _=>fs.length - (intOf n).toNat)
 case atStart=>exact⟨0,rfl,zu _,a4⟩
 case round=>
  clear a4;rename World=>w2;obtain⟨a,rfl,G,m⟩:=hrel;have E:w2.cell? ⟨w.heap.size,0,none⟩=some (.slice j fs.length c):=m.p.cell 0;have z:=m.p.lt;by_cases l:a<fs.length
  ·have bj:(0:Int)<=(a:Int)∧(a:Int)<(fs.length:Int):=by omega
   obtain⟨dC,d7,b1,bt,_⟩:=tu m.fns;have c1:dC=j:=by injection b1 with e _ _;exact e.symm
   subst c1;obtain⟨t,F,rfl,bl,bk⟩:=oB bt (by omega);obtain⟨b6,b5,b4,b3,b2,aa⟩:=bk a l;have Q:=m.parts a l (zb _);obtain⟨Z,H,ba⟩:=Q.ownC;have I:=dl.out _ (zk l);have a0:=za (vw fs[a].name fs[a].params fs[a].slots fs[a].around fs[a].TA fs[a].taken.length fs[a].tc Z fs[a].cc fs[a].code fs[a].taken B w2 ba rfl Q.ownT I.2 I.1);have cd:=za (λ(w':World) (ht:aR (sy fs[a]) w2 w')=>m.next (w0:=w) v.out l ht);have L:=za (show ∀g,(g=Z∨∃J,fs[a].TA=some J∧J.block=g)->sy fs[a] g from λg s=>by
    rcases s with rfl|s
    ·exact .inl ⟨_,H,rfl⟩
    ·exact .inr s)
   have a1:=za (λ(w':World) (ht:aR (sy fs[a]) w2 w')=>show w'.cell? ⟨t,F+a * 6+5,none⟩=some (.slice fs[a].CA fs[a].code.length fs[a].cc)∧w'.cell? ⟨t,F+a * 6+3,none⟩=some (.slice fs[a].TA fs[a].taken.length fs[a].tc)∧t<w'.heap.size∧w'.cell? ⟨w.heap.size,0,none⟩=some (.slice (some ⟨t,F,none⟩) fs.length c)∧w.heap.size<w'.heap.size from by
    have W:=m.next (w0:=w) v.out l ht;obtain⟨dB,d6,c2,cT,_⟩:=tu W.fns;have c0:dB=some ⟨t,F,none⟩:=by injection c2 with e _ _;exact e.symm
    subst c0;obtain⟨d8,d2,V,cv,ct⟩:=oB cT (by omega);injection V with V;injection V with e1 e2 _;subst e1 e2;obtain⟨_,_,_,O,_,N⟩:=ct a l;exact⟨N,O,cv,W.p.cell 0,W.p.lt⟩)
   rw[H]at aa;rw[H]at a1;have av:=za I;have cf:=za l;have ea:=za (zi df.out m.turns.size);generalize fs[a]=o at b6 b5 b4 b3 b2 aa a0 cd L a1 av;clear bk H ba Q I bt b1;have cl:t<w2.heap.size:=bl
   go_wp2_with (go_at_call 27;refine a0.out.mono ?_;rintro d5 M ⟨rfl,a8,⟨a7,R,a9⟩,lt,bi,bb⟩
                have an:=za (a8.mono L.out);obtain⟨N,O,cj,ck,ci⟩:=a1.out M an.out;have d9:=za R;have ca:=za (show M.ownsRow 0 50 5 (.slice (some ⟨Z,0,none⟩) o.code.length o.cc) o.code.length (bV a7)from by have:=a9.own (zu _);unfold gB at this;rw[R]at this;exact this);have cb:=za (show M.ownsRow 0 3 1 (.slice o.TA o.taken.length o.tc) o.taken.length (bv lt)from by have:=bb.low (zu B);unfold bm at this;rw[bi]at this;exact this);clear a8 R a9 bi bb a0)
   clear N O cj ck ci b6 b5 b4 b3 b2 aa E z bl cl;go_loopw [5,6,7] (λa6 a5 y wr=> ∃(g:Nat) (k D:List Value),y= .int .i64 g∧g<=9∧Hid (wr.ownsRow 0 50 5 a6 (o.code.length+g) k)∧Hid (wr.ownsRow 0 3 1 a5 (o.taken.length+g) D)∧Hid (aR (sy o) w2 wr)∧Hid (∀b,a6.ownBlock=some b->sy o b∨w2.heap.size<=b)∧Hid (∀b,a5.ownBlock=some b->sy o b∨w2.heap.size<=b)) (λ_ _ y _=>9 - (intOf y).toNat)
   case atStart=>exact⟨0,bV a7,bv lt,rfl,by omega,ca,cb,an,za (λb d=> .inl (L.out b (.inl (by injection d with d;exact d.symm)))),za (λb d=> .inl (L.out b (.inr (by
    obtain⟨J,cC,rfl⟩:=bm.where_ (B:=0) (w:=w) d;exact⟨J,cC,rfl⟩))))⟩
   case round=>
    clear ca cb an;rename World=>w4;obtain⟨g,k,D,rfl,s,ap,K,af,a2,cg⟩:=hrel;by_cases co:g<9
    ·have cn:((g:Nat):Int)<9:=by omega
     go_wp2_with (first
      |(at_builtin;refine Gm (w4.alloc (.cells #[.int .i64 mark,.int .i64 0,.int .i64 0,.string ⟨#[]⟩,.int .i64 0] 50)) (.tmp 39) (.tmp 42) 45 50 5 48 (.agg #[.int .i64 0,.int .i64 0,.int .i64 0,.string ⟨#[]⟩,.int .i64 0]) rfl rfl underlying45 nN rfl (by decide) (by decide) 0 u5 (o.code.length+g) k rfl (zX ap.out _) (some ⟨w4.heap.size,0,none⟩) 1 1 [.int .i64 mark,.int .i64 0,.int .i64 0,.string ⟨#[]⟩,.int .i64 0] rfl (λX=>by cases X) rfl (ah.made w4 50 [.int .i64 mark,.int .i64 0,.int .i64 0,.string ⟨#[]⟩,.int .i64 0]).lies (by simp[Value.oneCell']) (by have:=av.out;omega) (by omega) (zu _) ?_
        intro y x be U bq;have ao:=za be;have ab:=za (af.trans (aR.ofBelow (below1 w4 (.cells #[.int .i64 mark,.int .i64 0,.int .i64 0,.string ⟨#[]⟩,.int .i64 0] 50))));have c6:=za (ab.next (aR.grown (S:=λb=>u5.ownBlock=some b) U (λb d=>d)) (λg s cp=>(a2.out g s).resolve_right (by omega)));have b8:=za (show x.ownsRow 0 3 1 u6 (o.taken.length+g) D from aE (zX K.out (.cells #[.int .i64 mark,.int .i64 0,.int .i64 0,.string ⟨#[]⟩,.int .i64 0] 50)) λb d=>U.block b (zW (zX K.out (.cells #[.int .i64 mark,.int .i64 0,.int .i64 0,.string ⟨#[]⟩,.int .i64 0] 50)) b d).2 (λe=>iu K.out ap.out (by decide) d e.symm));have ds:=za (show ∀b,y.ownBlock=some b->sy o b∨w2.heap.size<=b from λb d=>by
         rcases bq with e|e
         ·exact a2.out b (by rw[<-e];exact d)
         ·rw[e]at d;injection d with d;right;have:=ab.size;omega)
        clear be U bq ap af a2 K ab)
      |(at_builtin;refine Gm (x.alloc (.cells #[.int .i64 mark] 3)) (.tmp 44) (.tmp 46) 44 3 1 8 (.int .i64 0) rfl rfl underlying44 mP rfl (by decide) (by decide) 0 u6 (o.taken.length+g) D rfl (zX b8.out _) (some ⟨x.heap.size,0,none⟩) 1 1 [.int .i64 mark] rfl (λX=>by cases X) rfl (ah.made x 3 [.int .i64 mark]).lies (by simp[Value.oneCell']) (by have:=av.out;omega) (by omega) (zu _) ?_
        intro ch d0 bc T bp;have c8:=za bc;have b7:=za (c6.trans (aR.ofBelow (below1 x (.cells #[.int .i64 mark] 3))));have c7:=za (b7.next (aR.grown (S:=λb=>u6.ownBlock=some b) T (λb d=>d)) (λg s cp=>(cg.out g s).resolve_right (by omega)));have c9:=za (aE (zX ao.out (.cells #[.int .i64 mark] 3)) λb d=>T.block b (zW (zX ao.out (.cells #[.int .i64 mark] 3)) b d).2 (λe=>iu ao.out b8.out (by decide) d e.symm));have dn:=za (show ∀b,ch.ownBlock=some b->sy o b∨w2.heap.size<=b from λb d=>by
         rcases bp with e|e
         ·exact cg.out b (by rw[<-e];exact d)
         ·rw[e]at d;injection d with d;right;have:=b7.size;omega)
        clear bc T bp))
     go_roundw
     case rel=>exact⟨g+1,_,_,by go_num,co,c9,c8,c7,ds,dn⟩
     case measure=>simp[intOf];omega
    ·have cn:¬((g:Nat):Int)<9:=by omega
     have dA:=za (cd.out w4 af.out);go_wp2_with fail;go_roundw
     case rel=>exact⟨a+1,by go_num,cf.out,dA⟩
     case measure=>have:=cf.out;simp[intOf];omega
  ·obtain rfl:a=fs.length:=by omega
   clear l G;go_wp2_with fail;clear E z;go_loopw [8] (λn wr=> ∃(a:Nat) (k:List Value),n= .int .i64 a∧a<=fs.length∧Hid (ah wr w.heap.size 25 [.slice j fs.length c,.slice GA gs.length gc])∧Hid (wr.ownsRow B 47 6 (.slice j fs.length c) fs.length k)∧Hid (Cn B wr (.slice GA gs.length gc) gs)∧Hid (aR (BG j GA fs) w wr)) (λn _=>fs.length - (intOf n).toNat)
   case atStart=>exact⟨0,cx fs,rfl,zu _,m.p,m.fns,m.texts,m.turns⟩
   case round=>
    clear m;rename World=>w5;obtain⟨a,k,rfl,G,q,h,C,u⟩:=hrel;have E:w5.cell? ⟨w.heap.size,0,none⟩=some (.slice j fs.length c):=q.cell 0;have z:=q.lt;by_cases l:a<fs.length
    ·have bj:(0:Int)<=(a:Int)∧(a:Int)<(fs.length:Int):=by omega
     obtain⟨i,rfl⟩:=lV h.out (by omega);have P:k.length=fs.length * 6:=h.1;obtain⟨r,A⟩:∃r,k[a * 6]?=some r:=⟨_,zo (by omega)⟩
     have c4:w5.cell? ⟨i,a * 6,none⟩=some r:=by
      have:=World.ownsRow.cells h.out (g:=i) rfl (a * 6) r A;rw[Addr.add_lit,zP]at this;exact this
     have ff:=World.ownsRow.frozenAt h.out (a * 6);have c3:=(zW h.out i rfl).2;have Y:i≠w.heap.size:=by have:=Ak (w0:=w) v.out (b:=i) (.inl ⟨_,rfl,rfl⟩);omega
     have a3:=za (tJ h.out (a * 6) (.string ⟨#[115,112,111,105,108,116]⟩));have ar:=za (q.setFar (p:=⟨i,a * 6,none⟩) (λe=>Y e.symm) (.string ⟨#[115,112,111,105,108,116]⟩));have ad:=za (u.trans (aR.set (i:=a * 6) (w:=w5) (g:=i) (.inl ⟨_,rfl,rfl⟩) (.string ⟨#[115,112,111,105,108,116]⟩)));have c5:=za (show Cn B (w5.setCell ⟨i,a * 6,none⟩ (.string ⟨#[115,112,111,105,108,116]⟩)) (.slice GA gs.length gc) gs from aE C.out λb d=>zY _ _ _ _ (λe=>iu C.out h.out (by decide) d (by rw[e];rfl)));clear h q u C A P;go_wp2_with fail;go_roundw
     case rel=>exact⟨a+1,_,by go_num,l,ar,a3,c5,ad⟩
     case measure=>simp[intOf];omega
    ·obtain rfl:a=fs.length:=by omega
     clear l G;go_wp2_with fail;clear E z;go_loopw [9] (λn wr=> ∃(a:Nat) (k:List Value),n= .int .i64 a∧a<=gs.length∧Hid (ah wr w.heap.size 25 [.slice j fs.length c,.slice GA gs.length gc])∧Hid (wr.ownsRow B 9 1 (.slice GA gs.length gc) gs.length k)∧Hid (aR (BG j GA fs) w wr)) (λn _=>gs.length - (intOf n).toNat)
     case atStart=>exact⟨0,gs.map Value.string,rfl,zu _,q,C,u⟩
     case round=>
      clear q h C u;rename World=>w6;obtain⟨a,k,rfl,G,q,h,u⟩:=hrel;have d1:w6.cell? ⟨w.heap.size,1,none⟩=some (.slice GA gs.length gc):=q.cell 1;have z:=q.lt;by_cases l:a<gs.length
      ·have bj:(0:Int)<=(a:Int)∧(a:Int)<(gs.length:Int):=by omega
       obtain⟨i,rfl⟩:=lV h.out (by omega);have P:k.length=gs.length * 1:=h.1;obtain⟨r,A⟩:∃r,k[a]?=some r:=⟨_,zo (by omega)⟩
       have c4:w6.cell? ⟨i,a,none⟩=some r:=by
        have:=World.ownsRow.cells h.out (g:=i) rfl a r A;rw[Addr.add_lit,zP]at this;exact this
       have ff:=World.ownsRow.frozenAt h.out a;have c3:=(zW h.out i rfl).2;have Y:i≠w.heap.size:=by have:=Ak (w0:=w) v.out (b:=i) (.inr (.inl ⟨_,rfl,rfl⟩));omega
       have a3:=za (tJ h.out a (.string ⟨#[115,112,111,105,108,116]⟩));have ar:=za (q.setFar (p:=⟨i,a,none⟩) (λe=>Y e.symm) (.string ⟨#[115,112,111,105,108,116]⟩));have ad:=za (u.trans (aR.set (i:=a) (w:=w6) (g:=i) (.inr (.inl ⟨_,rfl,rfl⟩)) (.string ⟨#[115,112,111,105,108,116]⟩)));clear h q u A P;go_wp2_with fail;go_roundw
       case rel=>exact⟨a+1,_,by go_num,l,ar,a3,ad⟩
       case measure=>simp[intOf];omega
      ·obtain rfl:a=gs.length:=by omega
       go_wp2_with fail;go_end0;exact⟨rfl,u⟩
end
section
set_option maxRecDepth 200000
open Go.RowKit Go.Proofs.PeepPlain
def QT(x z y:Int)(at_:ByteArray)(v:Int)(h j i:Int)(f:ByteArray)(g:Int)(c H G:Int)(p:ByteArray)(op:Int)(k n:Int)(t:ByteArray)(U:Bool)(ar ap:Int)(t2:ByteArray)(R:Bool)(w:World)
 (a6:∀w,Calls prog 96 #[.agg #[.int .i64 x,.int .i64 z,.int .i64 y,.string at_,.int .i64 v]] w λe w'=>e= .returned (.tuple #[(mk k t n 0 ⟨#[]⟩).val,.bool U])∧zz w w')
 (a5:∀w,Calls prog 96 #[.agg #[.int .i64 h,.int .i64 j,.int .i64 i,.string f,.int .i64 g]] w λe w'=>e= .returned (.tuple #[(mk ar t2 ap 0 ⟨#[]⟩).val,.bool R])∧zz w w')(av:(U&&R)=false∨c≠19):
 Calls prog 62 #[.agg #[.int .i64 x,.int .i64 z,.int .i64 y,.string at_,.int .i64 v],.agg #[.int .i64 h,.int .i64 j,.int .i64 i,.string f,.int .i64 g],.agg #[.int .i64 c,.int .i64 H,.int .i64 G,.string p,.int .i64 op]] w λe w'=>e= .returned (.bool false)∧zz w w':=by
 have T:=za a6;have S:=za a5;clear a6 a5;unfold mk aH.val at *
 by_cases Q:c=19
 ·have cb:(U&&R)=false:=av.resolve_right (λcc=>cc Q);have ca:(c !=19)=false:=by rw[Q];rfl
  have b9:(c==19)=true:=by rw[Q];rfl
  clear Q av
  cases U with
  |false=>
   cases R<;>
   ·go_enter func62,ntmps62;go_wp2_with (first
    |(go_at_call 96;have L:=T.out;refine(L _).mono ?_;rintro Z q ⟨rfl,a⟩
      have O:=za (((am w (.cells #[.int .i64 x,.int .i64 z,.int .i64 y,.string at_,.int .i64 v] 50) 50 [.int .i64 h,.int .i64 j,.int .i64 i,.string f,.int .i64 g]).alloc _).below a ((am w (.cells #[.int .i64 x,.int .i64 z,.int .i64 y,.string at_,.int .i64 v] 50) 50 [.int .i64 h,.int .i64 j,.int .i64 i,.string f,.int .i64 g]).alloc _).lt);have C:=za ((bh w (.cells #[.int .i64 x,.int .i64 z,.int .i64 y,.string at_,.int .i64 v] 50) (.cells #[.int .i64 h,.int .i64 j,.int .i64 i,.string f,.int .i64 g] 50) 50 [.int .i64 c,.int .i64 H,.int .i64 G,.string p,.int .i64 op]).below a (bh w _ _ 50 _).lt);have o:=za (ac (bG w _ _ _) a (bG w _ _ _).size);have Y:=C.lt;clear a T L)
    |(refine bL (.tmp 7) (.tmp 16) q.heap.size [.int .i64 0,.string ⟨#[]⟩,.int .i64 0,.int .u64 0,.string ⟨#[]⟩,.int .i64 0,.int .i64 0,.int .i64 0,.int .i64 0,.slice none 0 0,.slice none 0 0] [.int .i64 k,.string t,.int .i64 n,.int .u64 0,.string ⟨#[]⟩,.int .i64 0,.int .i64 0,.int .i64 0,.int .i64 0,.slice none 0 0,.slice none 0 0] _ rfl rfl rfl rfl (ah.made q 131 _) rfl rfl rfl ?_;intro J K N u
      have l:=za (show ah J (w.heap.size+1+1) 50 [.int .i64 c,.int .i64 H,.int .i64 G,.string p,.int .i64 op]from(u _ (by omega)).trans (C.alloc _));have b:=za (show ah J (w.heap.size+1) 50 [.int .i64 h,.int .i64 j,.int .i64 i,.string f,.int .i64 g]from(u _ (by omega)).trans (O.alloc _));have F:=za ((o.alloc o.size _).trans (N _ o.size));have X:=l.lt;have an:=b.cell 0;have af:=b.cell 1;have ad:=b.cell 2;have ab:=b.cell 3;have aa:=b.cell 4;have E:=za K;clear N u K o C O Y)
    |(go_at_call 96;refine(S.out _).mono ?_;rintro Z I ⟨rfl,a⟩
      have B:=za (l.below a l.lt);have D:=za (E.below a E.lt);have m:=za (ac F.out a F.size);have W:=B.lt;have V:=D.lt;clear a S l E F X an af ad ab aa b)
    |(refine bL (.tmp 9) (.tmp 21) I.heap.size [.int .i64 0,.string ⟨#[]⟩,.int .i64 0,.int .u64 0,.string ⟨#[]⟩,.int .i64 0,.int .i64 0,.int .i64 0,.int .i64 0,.slice none 0 0,.slice none 0 0] [.int .i64 ar,.string t2,.int .i64 ap,.int .u64 0,.string ⟨#[]⟩,.int .i64 0,.int .i64 0,.int .i64 0,.int .i64 0,.slice none 0 0,.slice none 0 0] _ rfl rfl rfl rfl (ah.made I 131 _) rfl rfl rfl ?_;intro d r M s
      have A:=za (show ah d (w.heap.size+1+1) 50 [.int .i64 c,.int .i64 H,.int .i64 G,.string p,.int .i64 op]from(s _ (by omega)).trans (B.alloc _));have P:=za (show ah d q.heap.size 131 [.int .i64 k,.string t,.int .i64 n,.int .u64 0,.string ⟨#[]⟩,.int .i64 0,.int .i64 0,.int .i64 0,.int .i64 0,.slice none 0 0,.slice none 0 0]from(s _ (by omega)).trans (D.alloc _));have a1:d.cell? ⟨w.heap.size+1+1,0,none⟩=some (.int .i64 c):=A.cell 0;have a0:d.cell? ⟨w.heap.size+1+1,3,none⟩=some (.string p):=A.cell 3;have ao:=za ((m.alloc m.size _).trans (M _ m.size));have a4:=A.lt;have a3:=P.lt;have a2:=r.lt;obtain⟨b8,b7,b5,b4,b3,b2,b1,b0,bt,bq,b6,bp⟩:=aA P.out;obtain⟨bo,bl,bj,bi,be,bc,bb,ba,a9,a8,bk,a7⟩:=aA r;clear M s r m B D W V))
    go_ret;exact⟨rfl,ao⟩
  |true=>
   cases R with
   |true=>cases cb
   |false=>
    go_enter func62,ntmps62;go_wp2_with (first
    |(go_at_call 96;have L:=T.out;refine(L _).mono ?_;rintro Z q ⟨rfl,a⟩
      have O:=za (((am w (.cells #[.int .i64 x,.int .i64 z,.int .i64 y,.string at_,.int .i64 v] 50) 50 [.int .i64 h,.int .i64 j,.int .i64 i,.string f,.int .i64 g]).alloc _).below a ((am w (.cells #[.int .i64 x,.int .i64 z,.int .i64 y,.string at_,.int .i64 v] 50) 50 [.int .i64 h,.int .i64 j,.int .i64 i,.string f,.int .i64 g]).alloc _).lt);have C:=za ((bh w (.cells #[.int .i64 x,.int .i64 z,.int .i64 y,.string at_,.int .i64 v] 50) (.cells #[.int .i64 h,.int .i64 j,.int .i64 i,.string f,.int .i64 g] 50) 50 [.int .i64 c,.int .i64 H,.int .i64 G,.string p,.int .i64 op]).below a (bh w _ _ 50 _).lt);have o:=za (ac (bG w _ _ _) a (bG w _ _ _).size);have Y:=C.lt;clear a T L)
    |(refine bL (.tmp 7) (.tmp 16) q.heap.size [.int .i64 0,.string ⟨#[]⟩,.int .i64 0,.int .u64 0,.string ⟨#[]⟩,.int .i64 0,.int .i64 0,.int .i64 0,.int .i64 0,.slice none 0 0,.slice none 0 0] [.int .i64 k,.string t,.int .i64 n,.int .u64 0,.string ⟨#[]⟩,.int .i64 0,.int .i64 0,.int .i64 0,.int .i64 0,.slice none 0 0,.slice none 0 0] _ rfl rfl rfl rfl (ah.made q 131 _) rfl rfl rfl ?_;intro J K N u
      have l:=za (show ah J (w.heap.size+1+1) 50 [.int .i64 c,.int .i64 H,.int .i64 G,.string p,.int .i64 op]from(u _ (by omega)).trans (C.alloc _));have b:=za (show ah J (w.heap.size+1) 50 [.int .i64 h,.int .i64 j,.int .i64 i,.string f,.int .i64 g]from(u _ (by omega)).trans (O.alloc _));have F:=za ((o.alloc o.size _).trans (N _ o.size));have X:=l.lt;have an:=b.cell 0;have af:=b.cell 1;have ad:=b.cell 2;have ab:=b.cell 3;have aa:=b.cell 4;have E:=za K;clear N u K o C O Y)
    |(go_at_call 96;refine(S.out _).mono ?_;rintro Z I ⟨rfl,a⟩
      have B:=za (l.below a l.lt);have D:=za (E.below a E.lt);have m:=za (ac F.out a F.size);have W:=B.lt;have V:=D.lt;clear a S l E F X an af ad ab aa b)
    |(refine bL (.tmp 9) (.tmp 21) I.heap.size [.int .i64 0,.string ⟨#[]⟩,.int .i64 0,.int .u64 0,.string ⟨#[]⟩,.int .i64 0,.int .i64 0,.int .i64 0,.int .i64 0,.slice none 0 0,.slice none 0 0] [.int .i64 ar,.string t2,.int .i64 ap,.int .u64 0,.string ⟨#[]⟩,.int .i64 0,.int .i64 0,.int .i64 0,.int .i64 0,.slice none 0 0,.slice none 0 0] _ rfl rfl rfl rfl (ah.made I 131 _) rfl rfl rfl ?_;intro d r M s
      have A:=za (show ah d (w.heap.size+1+1) 50 [.int .i64 c,.int .i64 H,.int .i64 G,.string p,.int .i64 op]from(s _ (by omega)).trans (B.alloc _));have P:=za (show ah d q.heap.size 131 [.int .i64 k,.string t,.int .i64 n,.int .u64 0,.string ⟨#[]⟩,.int .i64 0,.int .i64 0,.int .i64 0,.int .i64 0,.slice none 0 0,.slice none 0 0]from(s _ (by omega)).trans (D.alloc _));have a1:d.cell? ⟨w.heap.size+1+1,0,none⟩=some (.int .i64 c):=A.cell 0;have a0:d.cell? ⟨w.heap.size+1+1,3,none⟩=some (.string p):=A.cell 3;have ao:=za ((m.alloc m.size _).trans (M _ m.size));have a4:=A.lt;have a3:=P.lt;have a2:=r.lt;obtain⟨b8,b7,b5,b4,b3,b2,b1,b0,bt,bq,b6,bp⟩:=aA P.out;obtain⟨bo,bl,bj,bi,be,bc,bb,ba,a9,a8,bk,a7⟩:=aA r;clear M s r m B D W V))
    go_ret;exact⟨rfl,ao⟩
 ·have ca:(c !=19)=true:=zO.2 Q;have b9:(c==19)=false:=zh.2 Q;clear Q av
  cases U<;>cases R<;>
  ·go_enter func62,ntmps62;go_wp2_with (first
   |(go_at_call 96;have L:=T.out;refine(L _).mono ?_;rintro Z q ⟨rfl,a⟩
     have O:=za (((am w (.cells #[.int .i64 x,.int .i64 z,.int .i64 y,.string at_,.int .i64 v] 50) 50 [.int .i64 h,.int .i64 j,.int .i64 i,.string f,.int .i64 g]).alloc _).below a ((am w (.cells #[.int .i64 x,.int .i64 z,.int .i64 y,.string at_,.int .i64 v] 50) 50 [.int .i64 h,.int .i64 j,.int .i64 i,.string f,.int .i64 g]).alloc _).lt);have C:=za ((bh w (.cells #[.int .i64 x,.int .i64 z,.int .i64 y,.string at_,.int .i64 v] 50) (.cells #[.int .i64 h,.int .i64 j,.int .i64 i,.string f,.int .i64 g] 50) 50 [.int .i64 c,.int .i64 H,.int .i64 G,.string p,.int .i64 op]).below a (bh w _ _ 50 _).lt);have o:=za (ac (bG w _ _ _) a (bG w _ _ _).size);have Y:=C.lt;clear a T L)
   |(refine bL (.tmp 7) (.tmp 16) q.heap.size [.int .i64 0,.string ⟨#[]⟩,.int .i64 0,.int .u64 0,.string ⟨#[]⟩,.int .i64 0,.int .i64 0,.int .i64 0,.int .i64 0,.slice none 0 0,.slice none 0 0] [.int .i64 k,.string t,.int .i64 n,.int .u64 0,.string ⟨#[]⟩,.int .i64 0,.int .i64 0,.int .i64 0,.int .i64 0,.slice none 0 0,.slice none 0 0] _ rfl rfl rfl rfl (ah.made q 131 _) rfl rfl rfl ?_;intro J K N u
     have l:=za (show ah J (w.heap.size+1+1) 50 [.int .i64 c,.int .i64 H,.int .i64 G,.string p,.int .i64 op]from(u _ (by omega)).trans (C.alloc _));have b:=za (show ah J (w.heap.size+1) 50 [.int .i64 h,.int .i64 j,.int .i64 i,.string f,.int .i64 g]from(u _ (by omega)).trans (O.alloc _));have F:=za ((o.alloc o.size _).trans (N _ o.size));have X:=l.lt;have an:=b.cell 0;have af:=b.cell 1;have ad:=b.cell 2;have ab:=b.cell 3;have aa:=b.cell 4;have E:=za K;clear N u K o C O Y)
   |(go_at_call 96;refine(S.out _).mono ?_;rintro Z I ⟨rfl,a⟩
     have B:=za (l.below a l.lt);have D:=za (E.below a E.lt);have m:=za (ac F.out a F.size);have W:=B.lt;have V:=D.lt;clear a S l E F X an af ad ab aa b)
   |(refine bL (.tmp 9) (.tmp 21) I.heap.size [.int .i64 0,.string ⟨#[]⟩,.int .i64 0,.int .u64 0,.string ⟨#[]⟩,.int .i64 0,.int .i64 0,.int .i64 0,.int .i64 0,.slice none 0 0,.slice none 0 0] [.int .i64 ar,.string t2,.int .i64 ap,.int .u64 0,.string ⟨#[]⟩,.int .i64 0,.int .i64 0,.int .i64 0,.int .i64 0,.slice none 0 0,.slice none 0 0] _ rfl rfl rfl rfl (ah.made I 131 _) rfl rfl rfl ?_;intro d r M s
     have A:=za (show ah d (w.heap.size+1+1) 50 [.int .i64 c,.int .i64 H,.int .i64 G,.string p,.int .i64 op]from(s _ (by omega)).trans (B.alloc _));have P:=za (show ah d q.heap.size 131 [.int .i64 k,.string t,.int .i64 n,.int .u64 0,.string ⟨#[]⟩,.int .i64 0,.int .i64 0,.int .i64 0,.int .i64 0,.slice none 0 0,.slice none 0 0]from(s _ (by omega)).trans (D.alloc _));have a1:d.cell? ⟨w.heap.size+1+1,0,none⟩=some (.int .i64 c):=A.cell 0;have a0:d.cell? ⟨w.heap.size+1+1,3,none⟩=some (.string p):=A.cell 3;have ao:=za ((m.alloc m.size _).trans (M _ m.size));have a4:=A.lt;have a3:=P.lt;have a2:=r.lt;obtain⟨b8,b7,b5,b4,b3,b2,b1,b0,bt,bq,b6,bp⟩:=aA P.out;obtain⟨bo,bl,bj,bi,be,bc,bb,ba,a9,a8,bk,a7⟩:=aA r;clear M s r m B D W V))
   go_ret;exact⟨rfl,ao⟩
def Qg(m p o:Int)(at_:ByteArray)(l:Int)(g i h:Int)(d:ByteArray)(f:Int)(c s r:Int)(b:ByteArray)(op:Int)(k n:Int)(t:ByteArray)(S:Bool)(C B:Int)(t2:ByteArray)(R:Bool)(w:World)
 (Z:∀w,Calls prog 96 #[.agg #[.int .i64 m,.int .i64 p,.int .i64 o,.string at_,.int .i64 l]] w λe w'=>e= .returned (.tuple #[(mk k t n 0 ⟨#[]⟩).val,.bool S])∧zz w w')
 (Y:∀w,Calls prog 96 #[.agg #[.int .i64 g,.int .i64 i,.int .i64 h,.string d,.int .i64 f]] w λe w'=>e= .returned (.tuple #[(mk C t2 B 0 ⟨#[]⟩).val,.bool R])∧zz w w')(a7:S=true)(a6:R=true)(E:c=19)(cl:(b.toList==[61,61])=false)(ck:(b.toList==[33,61])=false)(x ao:ByteArray)(cj:(x.toList==[])=false)
 (X:∀w,Calls prog 98 #[.string b,(mk k t n 0 ⟨#[]⟩).val,(mk C t2 B 0 ⟨#[]⟩).val] w λe w'=>e= .returned (.tuple #[aS.val,.agg #[.string x,.string ao]])∧zz w w'):
 Calls prog 62 #[.agg #[.int .i64 m,.int .i64 p,.int .i64 o,.string at_,.int .i64 l],.agg #[.int .i64 g,.int .i64 i,.int .i64 h,.string d,.int .i64 f],.agg #[.int .i64 c,.int .i64 s,.int .i64 r,.string b,.int .i64 op]] w λe w'=>e= .returned (.bool false)∧zz w w':=by
 have an:=za Z;have af:=za Y;clear Z Y;have ad:=za X;clear X;subst a7 a6;have ci:(c !=19)=false:=by rw[E];rfl
 have ch:(c==19)=true:=by rw[E];rfl
 clear E;unfold aS mk aH.val at *
 go_enter func62,ntmps62;go_wp2_with (first
  |(go_at_call 96;have U:=an.out;refine(U _).mono ?_;rintro aa A ⟨rfl,a⟩
    have ab:=za (((am w (.cells #[.int .i64 m,.int .i64 p,.int .i64 o,.string at_,.int .i64 l] 50) 50 [.int .i64 g,.int .i64 i,.int .i64 h,.string d,.int .i64 f]).alloc _).below a ((am w (.cells #[.int .i64 m,.int .i64 p,.int .i64 o,.string at_,.int .i64 l] 50) 50 [.int .i64 g,.int .i64 i,.int .i64 h,.string d,.int .i64 f]).alloc _).lt);have I:=za ((bh w (.cells #[.int .i64 m,.int .i64 p,.int .i64 o,.string at_,.int .i64 l] 50) (.cells #[.int .i64 g,.int .i64 i,.int .i64 h,.string d,.int .i64 f] 50) 50 [.int .i64 c,.int .i64 s,.int .i64 r,.string b,.int .i64 op]).below a (bh w _ _ 50 _).lt);have z:=za (ac (bG w _ _ _) a (bG w _ _ _).size);have a5:=I.lt;clear a an U)
  |(refine bL (.tmp 7) (.tmp 16) A.heap.size [.int .i64 0,.string ⟨#[]⟩,.int .i64 0,.int .u64 0,.string ⟨#[]⟩,.int .i64 0,.int .i64 0,.int .i64 0,.int .i64 0,.slice none 0 0,.slice none 0 0] [.int .i64 k,.string t,.int .i64 n,.int .u64 0,.string ⟨#[]⟩,.int .i64 0,.int .i64 0,.int .i64 0,.int .i64 0,.slice none 0 0,.slice none 0 0] _ rfl rfl rfl rfl (ah.made A 131 _) rfl rfl rfl ?_;intro Q T W G
    have v:=za (show ah Q (w.heap.size+1+1) 50 [.int .i64 c,.int .i64 s,.int .i64 r,.string b,.int .i64 op]from(G _ (by omega)).trans (I.alloc _));have j:=za (show ah Q (w.heap.size+1) 50 [.int .i64 g,.int .i64 i,.int .i64 h,.string d,.int .i64 f]from(G _ (by omega)).trans (ab.alloc _));have O:=za ((z.alloc z.size _).trans (W _ z.size));have a4:=v.lt;have cf:=j.cell 0;have cd:=j.cell 1;have cc:=j.cell 2;have cb:=j.cell 3;have ca:=j.cell 4;have L:=za T;clear W G T z I ab a5)
  |(go_at_call 96;refine(af.out _).mono ?_;rintro aa P ⟨rfl,a⟩
    have H:=za (v.below a v.lt);have K:=za (L.below a L.lt);have y:=za (ac O.out a O.size);have a3:=H.lt;have a1:=K.lt;clear a af v L O a4 cf cd cc cb ca j)
  |(refine bL (.tmp 9) (.tmp 21) P.heap.size [.int .i64 0,.string ⟨#[]⟩,.int .i64 0,.int .u64 0,.string ⟨#[]⟩,.int .i64 0,.int .i64 0,.int .i64 0,.int .i64 0,.slice none 0 0,.slice none 0 0] [.int .i64 C,.string t2,.int .i64 B,.int .u64 0,.string ⟨#[]⟩,.int .i64 0,.int .i64 0,.int .i64 0,.int .i64 0,.slice none 0 0,.slice none 0 0] _ rfl rfl rfl rfl (ah.made P 131 _) rfl rfl rfl ?_;intro q D V F
    have u:=za (show ah q (w.heap.size+1+1) 50 [.int .i64 c,.int .i64 s,.int .i64 r,.string b,.int .i64 op]from(F _ (by omega)).trans (H.alloc _));have J:=za (show ah q A.heap.size 131 [.int .i64 k,.string t,.int .i64 n,.int .u64 0,.string ⟨#[]⟩,.int .i64 0,.int .i64 0,.int .i64 0,.int .i64 0,.slice none 0 0,.slice none 0 0]from(F _ (by omega)).trans (K.alloc _));have ar:q.cell? ⟨w.heap.size+1+1,0,none⟩=some (.int .i64 c):=u.cell 0;have ap:q.cell? ⟨w.heap.size+1+1,3,none⟩=some (.string b):=u.cell 3;have N:=za ((y.alloc y.size _).trans (V _ y.size));have a2:=u.lt;have a0:=J.lt;have av:=D.lt;obtain⟨b9,b8,b6,b5,b4,b3,b2,b1,b0,bt,b7,bq⟩:=aA J.out;obtain⟨bp,bo,bk,bj,bi,be,bc,bb,ba,a9,bl,a8⟩:=aA D;clear V F D y H K a3 a1)
  |(go_at_call 98;refine(ad.out _).mono ?_;rintro aa cg ⟨rfl,a⟩
    have M:=za (ac N.out a N.size);clear a ad N b9 b8 b6 b5 b4 b3 b2 b1 b0 bt b7 bq bp bo bk bj bi be bc bb ba a9 bl a8 u J ar ap a2 a0 av))
 go_returns;refine⟨rfl,?_⟩;go_grown
 all_goals first|exact M|exact M.size|(have:=M.size;simp;omega)
end
end Go.Proofs.YtmecmlpoallpcaaGreatDoor

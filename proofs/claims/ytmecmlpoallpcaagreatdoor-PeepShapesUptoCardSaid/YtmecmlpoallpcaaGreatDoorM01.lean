/- Parts of the proof: PeepPlain PeepOut PeepFold PeepShort PeepFits PeepKeep PeepKeepTwo PeepEach PeepDone -/
import Derived.Test.YtmecmlpoallpcaaGreatDoorM00
set_option linter.all false
set_option maxHeartbeats 8000000
namespace Go.Proofs.PeepPlain
section
structure au where
 op:Int
 a:Int
 b:Int
 text:ByteArray
 pos:Int
instance:Inhabited au:=⟨⟨0,0,0,⟨#[]⟩,0⟩⟩
def al(op:Int):Prop:=op=34∨op=35∨op=36∨op=37∨op=52
instance(op:Int):Decidable (al op):=inferInstanceAs (Decidable (_∨_))
def aq(l:List au)(t:Nat):Int:=(l.getD t default).op
def bE(l:List au)(t:Nat):Nat:=(l.getD t default).a.toNat
def jr(op:Int):Prop:=op=1∨op=2
instance(op:Int):Decidable (jr op):=inferInstanceAs (Decidable (_∨_))
structure WF(l:List au):Prop where
 pos:0<l.length
 low:∀k,k<l.length->al (aq l k)->0<=(l.getD k default).a
 high:∀k,k<l.length->al (aq l k)->bE l k<l.length
 back:∀k,k<l.length->al (aq l k)->bE l k<=k->jr (aq l (bE l k))
 last:aq l (l.length - 1)=50∨aq l (l.length - 1)=34
def dz:al 34:= .inl rfl
def iL{op:Int}(a:jr op):op≠34:=by rcases a with a|a<;>omega
def el(l:List au)(t:Nat):Nat:=
 if h:t<l.length∧aq l t=34∧t<bE l t then el l (bE l t)else if aq l t=34 then bE l t else t
termination_by l.length - t
decreasing_by omega
def oD{l:List au}{t:Nat}(c:t<l.length)(b:aq l t=34)(a:t<bE l t):el l t=el l (bE l t):=by
 rw[el,dif_pos ⟨c,b,a⟩]
def lf{l:List au}{t:Nat}(a:aq l t=34)(b:bE l t<=t):el l t=bE l t:=by
 rw[el,dif_neg (by omega),zn a]
def fD{l:List au}{t:Nat}(a:aq l t≠34):el l t=t:=by
 rw[el,dif_neg (by intro b;exact a b.2.1),zm a]
def tL{l:List au}(d:WF l):∀(n t:Nat),l.length - t<=n->t<l.length->aq l (el l t)≠34∧el l t<l.length:=by
 intro n
 induction n with
 |zero=>intro t f b;omega
 |succ n ih=>
  intro t f b;by_cases a:aq l t=34
  ·have c:=d.high t b (by rw[a];exact dz);by_cases e:t<bE l t
   ·rw[oD b a e];exact ih _ (by omega) c
   ·rw[lf a (by omega)];exact⟨iL (d.back t b (by rw[a];exact dz) (by omega)),c⟩
  ·rw[fD a];exact⟨a,b⟩
def I6{l:List au}(b:WF l){t:Nat}(a:t<l.length):aq l (el l t)≠34:=(tL b _ t (zb _) a).1
def Hq{l:List au}(b:WF l){t:Nat}(a:t<l.length):el l t<l.length:=(tL b _ t (zb _) a).2
def CW{l:List au}(d:WF l){t:Nat}(b:t<l.length)(a:aq l t=34):el l t=el l (bE l t):=by
 by_cases c:t<bE l t
 ·exact oD b a c
 ·rw[lf a (by omega),fD (iL (d.back t b (by rw[a];exact dz) (by omega)))]
def vV{l:List au}(d:WF l):∀(n t k:Nat),l.length - t<=n->t<l.length->k<t->el l t<=k->jr (aq l (el l t)):=by
 intro n
 induction n with
 |zero=>intro t k g b;omega
 |succ n ih=>
  intro t k g b h c;by_cases a:aq l t=34
  ·have e:=d.high t b (by rw[a];exact dz);by_cases f:t<bE l t
   ·rw[oD b a f]at c ⊢
    exact ih _ k (by omega) e (by omega) c
   ·rw[lf a (by omega)];exact d.back t b (by rw[a];exact dz) (by omega)
  ·rw[fD a]at c;omega
def wb{l:List au}(a:WF l){k:Nat}(c:k<l.length)(d:al (aq l k))(e:el l (bE l k)<=k):jr (aq l (el l (bE l k))):=by
 have f:=a.high k c d;by_cases g:bE l k<=k
 ·have b:=a.back k c d g;rw[fD (iL b)];exact b
 ·exact vV a _ _ k (zb _) f (by omega) e
def gn(l:List au)(i:au):au:=if al i.op then {i with a:=(el l i.a.toNat:Int)} else i
def eI(l:List au)(n:Nat):List au:=(l.take n).map (gn l)++l.drop n
def threads(l:List au):List au:=l.map (gn l)
def Da(l:List au):eI l 0=l:=by simp[eI]
def iP(l:List au):eI l l.length=threads l:=by simp[eI,threads]
def bA(l:List au)(n:Nat):(eI l n).length=l.length:=by
 simp[eI];omega
def Ji(l:List au)(i:au):(gn l i).op=i.op:=by
 unfold gn;split<;>rfl
def eA(l:List au)(n t:Nat)(b:t<l.length):(eI l n).getD t default=if t<n then gn l (l.getD t default)else l.getD t default:=by
 unfold eI;by_cases a:t<n
 ·rw[zn a,zd,zS (by simp;omega),zL,List.getElem?_take,zn a,zo b,zd,zo b];rfl
 ·rw[zm a,zd,zJ (by simp;omega),List.getElem?_drop,zd];congr 2;simp;omega
def fU(l:List au)(n t:Nat):aq (eI l n) t=aq l t:=by
 by_cases a:t<l.length
 ·unfold aq;rw[eA l n t a];split
  ·exact Ji _ _
  ·rfl
 ·unfold aq;rw[zd,zM (by rw[bA];omega),zd,zM (by omega)]
def qh(l:List au)(n t:Nat)(d:t<l.length):bE (eI l n) t=if t<n∧al (aq l t)then el l (bE l t)else bE l t:=by
 unfold bE;rw[eA l n t d];by_cases b:t<n
 ·rw[zn b];unfold gn aq;by_cases a:al (l.getD t default).op
  ·rw[zn a,zn ⟨b,a⟩];simp
  ·rw[zm a,zm (λc=>a c.2)]
 ·rw[zm b,zm (λc=>b c.1)]
def IK{l:List au}(d:WF l)(n:Nat):WF (eI l n)where
 pos:=by rw[bA];exact d.pos
 low:=λc a b=>by
  rw[bA]at a
  rw[fU]at b
  rw[eA l n c a]
  split
  ·unfold gn
   rw[zn (show al (l.getD c default).op from b)]
   simp
  ·exact d.low c a b
 high:=λc a b=>by
  rw[bA]at a ⊢
  rw[fU]at b
  rw[qh l n c a]
  split
  ·exact Hq d (d.high c a b)
  ·exact d.high c a b
 back:=λc a b e=>by
  rw[bA]at a
  rw[fU]at b
  rw[fU]
  rw[qh l n c a]at e ⊢
  split at e
  ·rename_i f
   rw[zn f]
   exact wb d a b e
  ·rename_i f
   rw[zm f]
   exact d.back c a b e
 last:=by
  rw[bA,fU]
  exact d.last
def md{l:List au}(a:WF l):WF (threads l):=by rw[<-iP];exact IK a _
def uc{l:List au}(c:WF l){k:Nat}(a:k<(threads l).length)(b:al (aq (threads l) k)):aq (threads l) (bE (threads l) k)≠34:=by
 rw[<-iP]at *
 rw[bA]at a;rw[fU]at b ⊢
 rw[qh l _ k a,zn ⟨a,b⟩];exact I6 c (c.high k a b)
def Cx{i:au}{x:Nat}(b:0<=i.a)(c:x=i.a.toNat):{i with a:=(x:Int)}=i:=by
 cases i
 simp only[au.mk.injEq,true_and,and_true]at *
 omega
def AM{l:List au}(j:WF l)(i:∀k,k<l.length->al (aq l k)->aq l (bE l k)≠34):threads l=l:=by
 unfold threads;apply List.ext_getElem
 ·simp
 ·intro k m d;rw[List.getElem_map];have c:l.getD k default=l[k]:=by rw[zd,zo d];rfl
  unfold gn;by_cases b:al l[k].op
  ·rw[zn b];have e:al (aq l k):=by unfold aq;rw[c];exact b
   have g:=i k d e;have f:=j.low k d e;have h:bE l k=l[k].a.toNat:=by unfold bE;rw[c]
   rw[c]at f;rw[h]at g;exact Cx f (fD g)
  ·rw[zm b]
def wA{l:List au}(a:WF l):threads (threads l)=threads l:=AM (md a) (λd b c=>uc a b c)
end
section
inductive ko(l:List au):Nat->Prop where
 |zero:ko l 0
 |next {k:Nat}:ko l k->k<l.length->aq l k≠34->aq l k≠50->ko l (k+1)
 |toA {k:Nat}:ko l k->k<l.length->al (aq l k)->ko l (bE l k)
def nY{l:List au}(b:WF l){k:Nat}(a:ko l k):k<l.length:=by
 induction a with
 |zero=>exact b.pos
 | @next k _ hk h1 h2 ih=>
   by_cases c:k=l.length - 1
   ·subst c;rcases b.last with a|a
    ·exact absurd a h2
    ·exact absurd a h1
   ·omega
 |toA _ hk hj ih=>exact b.high _ hk hj
def kept(out:List Bool)(n:Nat):List Nat:=(List.range n).filter λa=>!out.getD a true
def bH(out:List Bool)(t:Nat):Nat:=(kept out t).length
def moved(out:List Bool)(i:au):au:=if al i.op then {i with a:=(bH out i.a.toNat:Int)} else i
def eq(l:List au)(out:List Bool):List au:=(kept out l.length).map λa=>moved out (l.getD a default)
def lG(out:List Bool)(n:Nat):kept out (n+1)=kept out n++if out.getD n true then []else [n]:=by
 unfold kept;rw[List.range_succ,List.filter_append];congr 1
 cases a:out.getD n true with
 |true=>simp only[List.filter_cons,List.filter_nil,a];rfl
 |false=>simp only[List.filter_cons,List.filter_nil,a];rfl
def fb{out:List Bool}{t:Nat}(a:out.getD t true=false):bH out (t+1)=bH out t+1:=by
 unfold bH;rw[lG,a];simp
def fJ{out:List Bool}{t:Nat}(a:out.getD t true=true):bH out (t+1)=bH out t:=by
 unfold bH;rw[lG,a];simp
def vW(out:List Bool)(t:Nat):bH out t<=bH out (t+1):=by
 cases a:out.getD t true with
 |true=>rw[fJ a];exact zb _
 |false=>rw[fb a];exact zE _
def uy(out:List Bool){s t:Nat}(b:s<=t):bH out s<=bH out t:=by
 induction t with
 |zero=>have:s=0:=by omega
        subst this;exact zb _
 |succ t ih=>
  by_cases a:s=t+1
  ·subst a;exact zb _
  ·exact zi (ih (by omega)) (vW out t)
def kp{out:List Bool}{s t:Nat}(c:s<t)(a:out.getD s true=false):bH out s<bH out t:=by
 have b:=uy out (show s+1<=t from c);rw[fb a]at b;omega
def k6(out:List Bool)(n:Nat):(kept out n).length=bH out n:=rfl
def Mb{out:List Bool}{n k:Nat}(d:k<n)(a:out.getD k true=false):(kept out n)[bH out k]?=some k:=by
 induction n with
 |zero=>omega
 |succ n ih=>
  rw[lG];by_cases c:k=n
  ·subst c;rw[a,zJ (by rw[k6];exact zb _),k6,Nat.sub_self];rfl
  ·have b:=kp (out:=out) (show k<n by omega) a;rw[zS (by rw[k6];exact b)];exact ih (by omega)
def qQ{out:List Bool}{n i:Nat}(a:i<bH out n):∃k,k<n∧out.getD k true=false∧bH out k=i:=by
 induction n with
 |zero=>exact absurd a (by simp[bH,kept])
 |succ n ih=>
  cases b:out.getD n true with
  |true=>
   rw[fJ b]at a;obtain⟨k,e,c⟩:=ih a;exact⟨k,by omega,c⟩
  |false=>
   by_cases d:i=bH out n
   ·exact⟨n,by omega,b,d.symm⟩
   ·rw[fb b]at a;obtain⟨k,e,c⟩:=ih (by omega);exact⟨k,by omega,c⟩
def dW(l:List au)(out:List Bool):(eq l out).length=bH out l.length:=by
 unfold eq;rw[List.length_map,k6]
def Mi(out:List Bool)(i:au):(moved out i).op=i.op:=by
 unfold moved;split<;>rfl
def et{l:List au}{out:List Bool}{k:Nat}(a:k<l.length)(b:out.getD k true=false):(eq l out).getD (bH out k) default=moved out (l.getD k default):=by
 unfold eq;rw[zd,zL,Mb a b];rfl
def eU{l:List au}{out:List Bool}{k:Nat}(a:k<l.length)(b:out.getD k true=false):aq (eq l out) (bH out k)=aq l k:=by
 unfold aq;rw[et a b,Mi]
def xL{l:List au}{out:List Bool}{k:Nat}(b:k<l.length)(d:out.getD k true=false)(c:al (aq l k)):((eq l out).getD (bH out k) default).a=(bH out (bE l k):Int):=by
 rw[et b d];unfold moved;rw[zn (show al (l.getD k default).op from c)];rfl
def kX{l:List au}{out:List Bool}{k:Nat}(a:k<l.length)(c:out.getD k true=false)(b:al (aq l k)):bE (eq l out) (bH out k)=bH out (bE l k):=by
 unfold bE;rw[xL a c b];rfl
structure Rx(l:List au)(out:List Bool):Prop where
 some_:∃m,m<l.length∧out.getD m true=false
 toA:∀k,k<l.length->out.getD k true=false->al (aq l k)->∃m,bE l k<=m∧m<l.length∧out.getD m true=false
 back:∀k,k<l.length->out.getD k true=false->al (aq l k)->bE l k<=k->out.getD (bE l k) true=false
 last:∀m,m<l.length->out.getD m true=false->(∀j,m<j->j<l.length->out.getD j true=true)->aq l m=50∨aq l m=34
def ED{l:List au}{out:List Bool}{t m:Nat}(c:t<=m)(b:m<l.length)(a:out.getD m true=false):bH out t<bH out l.length:=
 Nat.lt_of_le_of_lt (uy out c) (kp b a)
def gy{l:List au}{out:List Bool}(n:WF l)(g:Rx l out):WF (eq l out)where
 pos:=by
  obtain⟨j,a,b⟩:=g.some_
  rw[dW]
  exact Nat.lt_of_le_of_lt (zu _) (ED (zb j) a b)
 low:=λk e c=>by
  rw[dW]at e
  obtain⟨d,a,b,rfl⟩:=qQ e
  rw[eU a b]at c
  rw[xL a b c]
  omega
 high:=λk e c=>by
  rw[dW]at e ⊢
  obtain⟨d,a,b,rfl⟩:=qQ e
  rw[eU a b]at c
  rw[kX a b c]
  obtain⟨j,h,f,i⟩:=g.toA d a b c
  exact ED h f i
 back:=λk e c r=>by
  rw[dW]at e
  obtain⟨d,a,b,rfl⟩:=qQ e
  rw[eU a b]at c
  rw[kX a b c]at r ⊢
  by_cases m:bE l d<=d
  ·rw[eU (n.high d a c) (g.back d a b c m)]
   exact n.back d a c m
  ·have:=kp (out:=out) (show d<bE l d by omega) b
   omega
 last:=by
  rw[dW]
  obtain⟨o,a,b⟩:=g.some_
  have t:=ED (zb o) a b
  obtain⟨d,h,f,i⟩:=qQ (show bH out l.length - 1<bH out l.length by omega)
  rw[<-i,eU h f]
  refine g.last d h f (λp c s=>?_)
  cases q:out.getD p true with
  |true=>rfl
  |false=>
   have v:=kp (out:=out) c f
   have u:=kp (out:=out) s q
   omega
def DW(l:List au)(out:List Bool):Prop:=out.length=l.length∧∀a,a<l.length->(out.getD a true=true↔ ¬ko l a∨(aq l a=34∧bE l a=a+1))
def rI{l:List au}{out:List Bool}(e:WF l)(o:DW l out):∀(n t:Nat),l.length - t<=n->ko l t->∃m,t<=m∧m<l.length∧out.getD m true=false:=by
 intro n
 induction n with
 |zero=>intro t h a;have:=nY e a;omega
 |succ n ih=>
  intro t h a;have b:=nY e a
  cases d:out.getD t true with
  |false=>exact⟨t,zb _,b,d⟩
  |true=>
   rcases(o.2 t b).1 d with i|⟨g,f⟩
   ·exact absurd a i
   ·have c:=ko.toA a b (by rw[g];exact dz);rw[f]at c;obtain⟨m,p,k,j⟩:=ih (t+1) (by omega) c;exact⟨m,by omega,k,j⟩
def pz{l:List au}{out:List Bool}(d:DW l out){k:Nat}(b:k<l.length)(c:out.getD k true=false):ko l k:=by
 apply Classical.byContradiction;intro a;have:=(d.2 k b).2 (.inl a);rw[c]at this
 cases this
def re{l:List au}{out:List Bool}(f:WF l)(c:DW l out):Rx l out where
 some_:=by
  obtain⟨i,_,s,r⟩:=rI f c _ 0 (zb _) .zero
  exact⟨i,s,r⟩
 toA:=λg a d e=>rI f c _ _ (zb _) (.toA (pz c a d) a e)
 back:=λg a d e o=>by
  have h:=ko.toA (pz c a d) a e
  have n:=f.back g a e o
  cases p:out.getD (bE l g) true with
  |false=>rfl
  |true=>
   rcases(c.2 _ (f.high g a e)).1 p with b|⟨b,_⟩
   ·exact absurd h b
   ·exact absurd b (iL n)
 last:=λi k d q=>by
  apply Classical.byContradiction
  intro j
  have h:=ko.next (pz c k d) k (λb=>j (.inr b)) (λb=>j (.inl b))
  obtain⟨m,v,u,t⟩:=rI f c _ _ (zb _) h
  have:=q m (by omega) u
  rw[t]at this
  cases this
end
section
structure Dn(C:Type)where
 cst:au->Option C
 un:ByteArray->C->Option C
 bi:ByteArray->C->C->Option C
 lay:C->Int->au
def flat(op:Int):Prop:=op=3∨op=6
structure Dn.Fair{C:Type}(O:Dn C):Prop where
 cst:∀i c,O.cst i=some c->flat i.op
 lay:∀c at_,flat (O.lay c at_).op
structure cU where
 l:List au
 mark:List Bool
 out:List Bool
 ks:List Nat
section
variable{C:Type}(O:Dn C)
def folds(S:cU):cU × Bool:=
 match S.ks with
 |top::k::rest=>
  if S.mark.getD top true then(S,false)else
  match O.cst (S.l.getD k default)with
  |none=>(S,false)
  |some a=>
   if aq S.l top=18 then
    match O.un (S.l.getD top default).text a with
    |some d=>(⟨S.l.set k (O.lay d (S.l.getD k default).pos),S.mark,S.out.set top true,k::rest⟩,true)
    |none=>(S,false)
   else if aq S.l top=35 then
    if aq S.l k≠6 then(S,false)
    else if(S.l.getD k default).a=1 then(⟨S.l,S.mark.set (top+1) (S.mark.getD (top+1) true||S.mark.getD k true),(S.out.set top true).set k true,rest⟩,false)
    else(⟨S.l.set k ⟨34,(S.l.getD top default).a,0,⟨#[]⟩,(S.l.getD top default).pos⟩,S.mark,S.out.set top true,k::rest⟩,false)
   else if aq S.l top=19 then
    match rest with
    |j::rest2=>
     if S.mark.getD k true then(S,false)else
     match O.cst (S.l.getD j default)with
     |none=>(S,false)
     |some b=>
      match O.bi (S.l.getD top default).text b a with
      |some d=>(⟨S.l.set j (O.lay d (S.l.getD j default).pos),S.mark,(S.out.set top true).set k true,j::rest2⟩,true)
      |none=>(S,false)
    | []=>(S,false)
   else(S,false)
 |_=>(S,false)
def cO(S:cU)(a:(folds O S).2=true):(folds O S).1.ks.length<S.ks.length:=by
 revert a;unfold folds;split
 ·rename_i c f e b;rw[b];split
  ·intro a;cases a
  ·split
   ·intro a;cases a
   ·split
    ·split
     ·intro _;simp
     ·intro a;cases a
    ·split
     ·split
      ·intro a;cases a
      ·split<;>(intro a;cases a)
     ·split
      ·split
       ·rename_i g d _;split
        ·intro a;cases a
        ·split
         ·intro a;cases a
         ·split
          ·intro _;simp
          ·intro a;cases a
       ·intro a;cases a
      ·intro a;cases a
 ·intro a;cases a
def aV(S:cU):cU:=
 if h:(folds O S).2=true then aV (folds O S).1 else(folds O S).1
termination_by S.ks.length
decreasing_by exact cO O S h
def bI:List Nat->cU->cU
 | [],S=>S
 |k::r,S=>bI r (aV O ⟨S.l,S.mark,S.out,k::S.ks⟩)
structure ge(l0:List au)(S:cU):Prop where
 len:S.l.length=l0.length
 lenO:S.out.length=l0.length
 sorted:∀k∈S.ks,k<l0.length
 down:S.ks.Pairwise (· > ·)
 gone:∀k,S.out.getD k false=true->¬jr (aq l0 k)∧aq l0 k≠50∧aq l0 k≠34
 here:∀k,k<l0.length->S.l.getD k default=l0.getD k default∨flat (aq l0 k)∧(flat (aq S.l k)∨aq S.l k=34∧∃t,k<t∧t<l0.length∧aq l0 t=35∧(S.l.getD k default).a=(l0.getD t default).a)
 same:(∀k,S.out.getD k false=false)->S.l=l0
end
def bf{a:Type}(l:List a)(i j:Nat)(x d:a):(l.set i x).getD j d=if i=j∧j<l.length then x else l.getD j d:=by
 rw[zd,List.getElem?_set];by_cases c:i=j
 ·subst c;by_cases b:i<l.length
  ·simp[b]
  ·simp[b]
 ·simp[c]
def eN{op:Int}(a:flat op):¬jr op∧op≠50∧op≠34∧¬al op:=by
 refine⟨?_,?_,?_,?_⟩
 ·rintro(h2|h2)<;>rcases a with a|a<;>omega
 ·rcases a with a|a<;>omega
 ·rcases a with a|a<;>omega
 ·rintro(h2|h2|h2|h2|h2)<;>rcases a with a|a<;>omega
section
variable{C:Type}{O:Dn C}{l0:List au}
def wX(g:O.Fair){S:cU}(f:ge l0 S){k:Nat}(a:k<l0.length){c:C}(d:O.cst (S.l.getD k default)=some c):flat (aq l0 k):=by
 rcases f.here k a with e|⟨b,_⟩
 ·have:=g.cst _ _ d;rw[e]at this;exact this
 ·exact b
def tq{S:cU}(f:ge l0 S){k:Nat}(b:k<l0.length)(d:¬flat (aq S.l k))(c:aq S.l k≠34):S.l.getD k default=l0.getD k default:=by
 rcases f.here k b with e|⟨_,a|⟨a,_⟩⟩
 ·exact e
 ·exact absurd a d
 ·exact absurd a c
def bZ{out:List Bool}{t:Nat}(c:t<out.length)(k:Nat):(out.set t true).getD k false=true↔k=t∨out.getD k false=true:=by
 rw[bf];by_cases b:t=k
 ·subst b;simp[c]
 ·rw[zm (λa=>b a.1)];constructor
  ·exact .inr
  ·rintro(a|a)
   ·exact absurd a.symm b
   ·exact a
def pj{S:cU}(d:ge l0 S){k top:Nat}{x:au}{mark:List Bool}{ks:List Nat}{out:List Bool}
 (o:k<l0.length)(p:flat (aq l0 k))(g:flat x.op∨x.op=34∧∃t,k<t∧t<l0.length∧aq l0 t=35∧x.a=(l0.getD t default).a)
 (n:∀j∈ks,j∈S.ks)(q:ks.Pairwise (· > ·))(m:out.length=l0.length)(i:∀j,out.getD j false=true->S.out.getD j false=true∨¬jr (aq l0 j)∧aq l0 j≠50∧aq l0 j≠34)(h:out.getD top false=true):ge l0 ⟨S.l.set k x,mark,out,ks⟩where
 len:=by rw[zN];exact d.len
 lenO:=m
 sorted:=λj c=>d.sorted j (n j c)
 down:=q
 gone:=λj c=>by
  rcases i j c with b|b
  ·exact d.gone j b
  ·exact b
 here:=λj c=>by
  by_cases f:k=j
  ·subst f
   right
   have e:(S.l.set k x).getD k default=x:=by rw[bf,zn ⟨rfl,by rw[d.len];exact o⟩]
   refine⟨p,?_⟩
   unfold aq
   rw[e]
   exact g
  ·have e:(S.l.set k x).getD j default=S.l.getD j default:=by rw[bf,zm (λb=>f b.1)]
   unfold aq
   rw[e]
   exact d.here j c
 same:=λb=>by
  have:=b top
  rw[h]at this
  cases this
def Hm{S:cU}(b:ge l0 S){top:Nat}{mark:List Bool}{ks:List Nat}{out:List Bool}
 (g:∀j∈ks,j∈S.ks)(h:ks.Pairwise (· > ·))(f:out.length=l0.length)(e:∀j,out.getD j false=true->S.out.getD j false=true∨¬jr (aq l0 j)∧aq l0 j≠50∧aq l0 j≠34)(d:out.getD top false=true):ge l0 ⟨S.l,mark,out,ks⟩where
 len:=b.len
 lenO:=f
 sorted:=λj c=>b.sorted j (g j c)
 down:=h
 gone:=λj c=>by
  rcases e j c with a|a
  ·exact b.gone j a
  ·exact a
 here:=b.here
 same:=λa=>by
  have:=a top
  rw[d]at this
  cases this
def rh{op n:Int}(a:op=n)(d:n≠3)(c:n≠6)(b:n≠34):¬flat op∧op≠34:=by
 subst a;exact⟨λa=>by rcases a with a|a;exact d a;exact c a,b⟩
def xY{op n:Int}(a:op=n)(e:n≠1)(d:n≠2)(c:n≠50)(b:n≠34):¬jr op∧op≠50∧op≠34:=by
 subst a;exact⟨λa=>by rcases a with a|a;exact e a;exact d a,c,b⟩
def kH(t:O.Fair){S:cU}(a:ge l0 S):ge l0 (folds O S).1:=by
 unfold folds;split
 ·rename_i b j o p;have v:∀c∈j::o,c∈S.ks:=λc d=>by rw[p];exact zT _ d
  have u:∀c∈o,c∈S.ks:=λc d=>v c (zT _ d);have n:b<l0.length:=a.sorted b (by rw[p];simp);have r:j<l0.length:=a.sorted j (by rw[p];simp);have x:=a.down;rw[p]at x;have A:j<b:=(List.pairwise_cons.1 x).1 j (by simp);have w:(j::o).Pairwise (· > ·):=(List.pairwise_cons.1 x).2;have z:o.Pairwise (· > ·):=(List.pairwise_cons.1 w).2;have g:b<S.out.length:=by rw[a.lenO];exact n
  have q:j<(S.out.set b true).length:=by rw[zN,a.lenO];exact r
  split
  ·exact a
  ·split
   ·exact a
   ·rename_i J F;have i:=wX t a r F;split
    ·rename_i e;have h:=rh e (by decide) (by decide) (by decide);have m:=tq a n h.1 h.2;have k:aq l0 b=18:=by unfold aq at e ⊢;rw[<-m];exact e
     split
     ·rename_i H _;refine pj a r i (.inl (t.lay _ _)) v w (by rw[zN,a.lenO]) (λc d=>?_) ((bZ g b).2 (.inl rfl));rcases(bZ g c).1 d with rfl|f
      ·exact .inr (xY k (by decide) (by decide) (by decide) (by decide))
      ·exact .inl f
     ·exact a
    ·split
     ·rename_i e;have h:=rh e (by decide) (by decide) (by decide);have m:=tq a n h.1 h.2;have k:aq l0 b=35:=by unfold aq at e ⊢;rw[<-m];exact e
      have s:=xY k (by decide) (by decide) (by decide) (by decide);split
      ·exact a
      ·split
       ·refine Hm (top:=b) a u z (by rw[zN,zN,a.lenO]) (λc d=>?_) ((bZ q b).2 (.inr ((bZ g b).2 (.inl rfl))));rcases(bZ q c).1 d with rfl|f
        ·exact .inr ⟨(eN i).1,(eN i).2.1,(eN i).2.2.1⟩
        ·rcases(bZ g c).1 f with rfl|f
         ·exact .inr s
         ·exact .inl f
       ·refine pj a r i (.inr ⟨rfl,b,A,n,k,?_⟩) v w (by rw[zN,a.lenO]) (λc d=>?_) ((bZ g b).2 (.inl rfl))
        ·show(S.l.getD b default).a=_;rw[m]
        ·rcases(bZ g c).1 d with rfl|f
         ·exact .inr s
         ·exact .inl f
     ·split
      ·rename_i e;have h:=rh e (by decide) (by decide) (by decide);have m:=tq a n h.1 h.2;have k:aq l0 b=19:=by unfold aq at e ⊢;rw[<-m];exact e
       have s:=xY k (by decide) (by decide) (by decide) (by decide);split
       ·rename_i c G;have d:c<l0.length:=a.sorted c (u c (by simp));split
        ·exact a
        ·split
         ·exact a
         ·rename_i I E;have D:=wX t a d E;split
          ·refine pj (top:=b) a d D (.inl (t.lay _ _)) u z (by rw[zN,zN,a.lenO]) (λy B=>?_) ((bZ q b).2 (.inr ((bZ g b).2 (.inl rfl))));rcases(bZ q y).1 B with rfl|f
           ·exact .inr ⟨(eN i).1,(eN i).2.1,(eN i).2.2.1⟩
           ·rcases(bZ g y).1 f with rfl|f
            ·exact .inr s
            ·exact .inl f
          ·exact a
       ·exact a
      ·exact a
 ·exact a
def ln(c:O.Fair):∀(n:Nat) (S:cU),S.ks.length<=n->ge l0 S->ge l0 (aV O S):=by
 intro n
 induction n with
 |zero=>
  intro S d a;rw[aV];split
  ·rename_i b;have:=cO O S b;omega
  ·exact kH c a
 |succ n ih=>
  intro S d a;rw[aV];split
  ·rename_i b;exact ih _ (by have:=cO O S b;omega) (kH c a)
  ·exact kH c a
end
end
section
section
variable{C:Type}{O:Dn C}{l0:List au}
def oj(S:cU):∀j∈(folds O S).1.ks,j∈S.ks:=by
 unfold folds;split
 ·rename_i g e c f;have b:∀j∈e::c,j∈S.ks:=λj a=>by rw[f];exact zT _ a
  have d:∀j∈c,j∈S.ks:=λj a=>b j (zT _ a);split
  ·exact λj a=>a
  ·split
   ·exact λj a=>a
   ·split
    ·split
     ·exact b
     ·exact λj a=>a
    ·split
     ·split
      ·exact λj a=>a
      ·split
       ·exact d
       ·exact b
     ·split
      ·split
       ·split
        ·exact λj a=>a
        ·split
         ·exact λj a=>a
         ·split
          ·exact d
          ·exact λj a=>a
       ·exact λj a=>a
      ·exact λj a=>a
 ·exact λj a=>a
def mo:∀(n:Nat) (S:cU),S.ks.length<=n->∀j∈(aV O S).ks,j∈S.ks:=by
 intro n
 induction n with
 |zero=>
  intro S c;rw[aV];split
  ·rename_i a;have:=cO O S a;omega
  ·exact oj S
 |succ n ih=>
  intro S c;rw[aV];split
  ·rename_i a;exact λj b=>oj S j (ih _ (by have:=cO O S a;omega) j b)
  ·exact oj S
def oG{S:cU}(a:ge l0 S){k:Nat}(c:k<l0.length)(d:∀j∈S.ks,j<k):ge l0 ⟨S.l,S.mark,S.out,k::S.ks⟩where
 len:=a.len
 lenO:=a.lenO
 sorted:=λj b=>by rcases zC.1 b with rfl|b;exact c;exact a.sorted j b
 down:=List.pairwise_cons.2 ⟨λj b=>d j b,a.down⟩
 gone:=a.gone
 here:=a.here
 same:=a.same
def vK(f:O.Fair):∀(m k:Nat) (S:cU),ge l0 S->(∀j∈S.ks,j<k)->k+m<=l0.length->ge l0 (bI O (List.range' k m) S):=by
 intro m
 induction m with
 |zero=>intro k S a _ _;exact a
 |succ m ih=>
  intro k S a b g;rw[List.range'_succ,bI];have e:=ln f _ _ (zb _) (oG a (show k<l0.length by omega) b);refine ih (k+1) _ e (λj c=>?_) (by omega);have:=mo (O:=O) _ _ (zb _) j c;rcases zC.1 this with rfl|d
  ·omega
  ·have:=b j d;omega
noncomputable def dd(l:List au):List Bool:=by
 classical
 exact(List.range l.length).map λb=>decide (∃a,a<l.length∧al (aq l a)∧bE l a=b)
def fN(l:List au)(mk:List Bool):cU:=⟨l,mk,List.replicate l.length false,[]⟩
noncomputable def bM(O:Dn C)(l:List au):cU:=bI O (List.range' 0 l.length) (fN l (dd l))
def cW(n k:Nat):(List.replicate n false).getD k false=false:=by
 rw[zd,List.getElem?_replicate];split<;>rfl
def pG(l:List au)(mk:List Bool):ge l (fN l mk)where
 len:=rfl
 lenO:=by simp[fN]
 sorted:=λb a=>by simp[fN]at a
 down:=List.Pairwise.nil
 gone:=λb a=>by
  simp only[fN,cW]at a
  cases a
 here:=λb _=> .inl rfl
 same:=λ_=>rfl
def fK(b:O.Fair)(l:List au):ge l (bM O l):=vK b _ _ _ (pG l _) (λc a=>by simp[fN]at a) (by omega)
def tB{S:cU}(e:ge l0 S){k:Nat}(a:k<l0.length)(c:¬flat (aq l0 k)):S.l.getD k default=l0.getD k default:=by
 rcases e.here k a with d|⟨b,_⟩
 ·exact d
 ·exact absurd b c
def om{S:cU}(i:ge l0 S){k:Nat}(c:k<l0.length)(b:al (aq S.l k)):∃t,k<=t∧t<l0.length∧al (aq l0 t)∧(S.l.getD k default).a=(l0.getD t default).a:=by
 rcases i.here k c with d|⟨_,h|⟨_,t,j,g,f,e⟩⟩
 ·refine⟨k,zb _,c,?_,by rw[d]⟩;unfold aq at b ⊢
  rw[<-d];exact b
 ·exact absurd b (eN h).2.2.2
 ·exact⟨t,by omega,g,by rw[f];exact .inr (.inl rfl),e⟩
def mz(e:WF l0){S:cU}(c:ge l0 S):WF S.l where
 pos:=by rw[c.len];exact e.pos
 low:=λj d h=>by
  rw[c.len]at d
  obtain⟨f,_,b,g,i⟩:=om c d h
  rw[i]
  exact e.low f b g
 high:=λj d h=>by
  rw[c.len]at d ⊢
  obtain⟨f,_,b,g,i⟩:=om c d h
  show(S.l.getD j default).a.toNat<_
  rw[i]
  exact e.high f b g
 back:=λj d h o=>by
  rw[c.len]at d
  obtain⟨f,r,b,g,i⟩:=om c d h
  have q:bE S.l j=bE l0 f:=by unfold bE;rw[i]
  rw[q]at o ⊢
  have n:=e.back f b g (by omega)
  have m:=tB c (e.high f b g) (λk=>(eN k).1 n)
  unfold aq at n ⊢
  rw[m]
  exact n
 last:=by
  have p:l0.length - 1<l0.length:=by have:=e.pos;omega
  have m:=tB c p (λk=>by rcases e.last with b|b;exact(eN k).2.1 b;exact(eN k).2.2.1 b)
  rw[c.len]
  have:=e.last
  unfold aq at this ⊢
  rw[m]
  exact this
def gU{out:List Bool}{k n:Nat}(b:out.length=n)(a:k<n):out.getD k true=out.getD k false:=by
 rw[zd,zd,zo (by omega)];rfl
def tO(o:WF l0){S:cU}(b:ge l0 S):Rx S.l S.out:=by
 have i:=mz o b;have e:l0.length - 1<l0.length:=by have:=o.pos;omega
 have j:S.out.getD (l0.length - 1) true=false:=by
  rw[gU b.lenO e]
  cases n:S.out.getD (l0.length - 1) false with
  |false=>rfl
  |true=>
   have:=b.gone _ n;rcases o.last with h|h
   ·exact absurd h this.2.1
   ·exact absurd h this.2.2
 have d:=b.len;refine⟨⟨_,by rw[d];exact e,j⟩,λa f p g=>⟨_,?_,by rw[d];exact e,j⟩,λa f p g s=>?_,λq x p u=>?_⟩
 ·have:=i.high a f g;omega
 ·have c:=i.back a f g s;have k:=i.high a f g;rw[d]at k;rw[gU b.lenO k]
  cases n:S.out.getD (bE S.l a) false with
  |false=>rfl
  |true=>
   have t:=b.gone _ n;rcases b.here _ k with v|⟨h,m|⟨m,_⟩⟩
   ·have:aq S.l (bE S.l a)=aq l0 (bE S.l a):=by unfold aq;rw[v]
    rw[this]at c;exact absurd c t.1
   ·exact absurd c (eN m).1
   ·exact absurd m (iL c)
 ·have r:q=S.l.length - 1:=by
   apply Classical.byContradiction;intro w;have:=u (l0.length - 1) (by omega) (by rw[d];exact e);rw[j]at this
   cases this
  rw[r];exact i.last
noncomputable def idle(l:List au):List Bool:=by
 classical
 exact(List.range l.length).map λa=>decide (¬ko l a∨(aq l a=34∧bE l a=a+1))
def jb(l:List au):DW l (idle l):=by
 refine⟨by simp[idle],λb a=>?_⟩;unfold idle;rw[zd,zL,List.getElem?_range a];simp
def ky(l:List au)(out:List Bool):Prop:=∃a,a<l.length∧out.getD a true=true
def cL{l:List au}{out:List Bool}(g:ky l out):(eq l out).length<l.length:=by
 obtain⟨a,e,d⟩:=g;rw[dW];unfold bH kept;have f:=List.length_filter_le (λa=>!out.getD a true) (List.range l.length);rw[List.length_range]at f;rcases Nat.lt_or_ge ((List.range l.length).filter (λa=>!out.getD a true)).length l.length with c|c
 ·exact c
 ·have b:=List.length_filter_eq_length_iff.1 (show((List.range l.length).filter (λa=>!out.getD a true)).length=(List.range l.length).length by rw[List.length_range];omega) a (List.mem_range.2 e);rw[d]at b
  cases b
def cq(l:List au):(threads l).length=l.length:=by simp[threads]
open Classical in
noncomputable def cw(a:O.Fair)(l:List au):List au:=
 if h:ky (threads l) (idle (threads l))then cw a (eq (threads l) (idle (threads l)))
 else if h2:ky (bM O (threads l)).l (bM O (threads l)).out then cw a (eq (bM O (threads l)).l (bM O (threads l)).out)
 else(bM O (threads l)).l
termination_by l.length
decreasing_by
 ·have:=cL h;rw[cq]at this;exact this
 ·have b:=cL h2
  rw[(fK a (threads l)).len,cq]at b
  exact b
structure PQ(O:Dn C)(r:List au):Prop where
 wf:WF r
 threads:threads r=r
 idle:¬ky r (idle r)
 folds:¬ky r (bM O r).out
 same:(bM O r).l=r
def uR{l:List au}{out:List Bool}(c:out.length=l.length)(d:¬ky l out):∀k,out.getD k false=false:=λk=>by
 by_cases a:k<l.length
 ·rw[<-gU c a]
  cases b:out.getD k true with
  |false=>rfl
  |true=>exact absurd ⟨k,a,b⟩ d
 ·rw[zd,zM (by omega)];rfl
def mg(f:O.Fair):∀(n:Nat) (l:List au),l.length<=n->WF l->PQ O (cw f l)∧(cw f l).length<=l.length:=by
 intro n
 induction n with
 |zero=>intro l i d;have:=d.pos;omega
 |succ n ih=>
  intro l i d;have c:=md d;have j:=cq l;rw[cw];split
  ·rename_i e;have h:=cL e;have:=ih _ (by omega) (gy c (re c (jb _)));exact⟨this.1,by omega⟩
  ·rename_i e;have a:=fK f (threads l);split
   ·rename_i b;have h:=cL b;rw[a.len]at h;have:=ih _ (by omega) (gy (mz c a) (tO c a));exact⟨this.1,by omega⟩
   ·rename_i b;have g:=a.same (uR (by rw[a.lenO,a.len]) b);rw[g]at b ⊢
    exact⟨⟨c,wA d,e,b,g⟩,by omega⟩
end
end
section
structure Ao(T:Type)where
 eff:au->T->Option (T × T)
 start:T
 push:T->Option T
structure Ao.Fair{T:Type}(E:Ao T):Prop where
 turn:∀i x s,al i.op->E.eff {i with a:=x} s=E.eff i s
 jump:∀i s,i.op=34->E.eff i s=some (s,s)
 flat:∀i s,flat i.op->E.eff i s=(E.push s).map λu=>(u,s)
 un:∀i s u r,i.op=18->E.push s=some u->E.eff i u=some r->r.1=u
 bi:∀i s u w r,i.op=19->E.push s=some u->E.push u=some w->E.eff i w=some r->r.1=u
 branch:∀i s u r,i.op=35->E.push s=some u->E.eff i u=some r->r=(s,s)
section
variable{T:Type}{E:Ao T}
inductive bN(E:Ao T)(l:List au):Nat->T->Prop where
 |zero:bN E l 0 E.start
 |next {k:Nat} {s:T} {r:T × T}:bN E l k s->k<l.length->E.eff (l.getD k default) s=some r->aq l k≠34->aq l k≠50->bN E l (k+1) r.1
 |toA {k:Nat} {s:T} {r:T × T}:bN E l k s->k<l.length->E.eff (l.getD k default) s=some r->al (aq l k)->bN E l (bE l k) r.2
structure vA(E:Ao T)(l:List au):Prop where
 goes:∀k s,k<l.length->bN E l k s->∃r,E.eff (l.getD k default) s=some r
 one:∀k s u,bN E l k s->bN E l k u->s=u
def n9{l:List au}{k:Nat}{s:T}(a:bN E l k s):ko l k:=by
 induction a with
 |zero=>exact .zero
 |next _ h1 _ h3 h4 ih=>exact .next ih h1 h3 h4
 |toA _ h1 _ h3 ih=>exact .toA ih h1 h3
def tQ(d:E.Fair){l:List au}{k:Nat}{s:T}(c:bN E l k s)(b:k<l.length)(a:aq l k=34):bN E l (bE l k) s:=
 bN.toA (r:=(s,s)) c b (d.jump _ s a) (by rw[a];exact dz)
def yT(h:E.Fair){l:List au}(g:WF l){s:T}:∀(n t:Nat),l.length - t<=n->t<l.length->bN E l t s->bN E l (el l t) s:=by
 intro n
 induction n with
 |zero=>intro t f b;omega
 |succ n ih=>
  intro t f b d;by_cases a:aq l t=34
  ·have c:=tQ h d b a;by_cases e:t<bE l t
   ·rw[oD b a e];exact ih _ (by omega) (g.high t b (by rw[a];exact dz)) c
   ·rw[lf a (by omega)];exact c
  ·rw[fD a];exact d
def vm(l:List au)(t:Nat):aq (threads l) t=aq l t:=by rw[<-iP];exact fU l _ t
def sA(l:List au)(t:Nat)(a:t<l.length):(threads l).getD t default=gn l (l.getD t default):=by
 rw[<-iP,eA l _ t a,zn a]
def Jc{l:List au}{t:Nat}(a:t<l.length)(b:al (aq l t)):bE (threads l) t=el l (bE l t):=by
 rw[<-iP,qh l _ t a,zn ⟨a,b⟩]
def nb(c:E.Fair)(l:List au)(t:Nat)(a:t<l.length)(s:T):E.eff ((threads l).getD t default) s=E.eff (l.getD t default) s:=by
 rw[sA l t a];unfold gn;split
 ·rename_i b;exact c.turn _ _ s b
 ·rfl
def lw(a:E.Fair){l:List au}(b:WF l){k:Nat}{s:T}(c:bN E (threads l) k s):bN E l k s:=by
 induction c with
 |zero=>exact .zero
 |next _ h1 h2 h3 h4 ih=>
  rw[cq]at h1;rw[nb a l _ h1]at h2;rw[vm]at h3 h4;exact .next ih h1 h2 h3 h4
 |toA _ h1 h2 h3 ih=>
  rw[cq]at h1;rw[nb a l _ h1]at h2;rw[vm]at h3;rw[Jc h1 h3];exact yT a b _ _ (zb _) (b.high _ h1 h3) (.toA ih h1 h2 h3)
def yc(b:E.Fair){l:List au}(e:WF l)(f:vA E l):vA E (threads l)where
 goes:=λa c d j=>by
  rw[cq]at d
  rw[nb b l a d]
  exact f.goes a c d (lw b e j)
 one:=λa c g i h=>f.one a c g (lw b e i) (lw b e h)
def jM(b:E.Fair)(out:List Bool)(i:au)(s:T):E.eff (moved out i) s=E.eff i s:=by
 unfold moved;split
 ·rename_i a;exact b.turn _ _ s a
 ·rfl
def pF(r:E.Fair){l:List au}{out:List Bool}(f:WF l)(q:DW l out){s:T}:∀(n t:Nat),l.length - t<=n->bN E l t s->∃m,t<=m∧m<l.length∧out.getD m true=false∧bH out m=bH out t∧bN E l m s:=by
 intro n
 induction n with
 |zero=>intro t i a;have:=nY f (n9 a);omega
 |succ n ih=>
  intro t i a;have b:=nY f (n9 a)
  cases c:out.getD t true with
  |false=>exact⟨t,zb _,b,c,rfl,a⟩
  |true=>
   rcases(q.2 t b).1 c with j|⟨h,g⟩
   ·exact absurd (n9 a) j
   ·have d:=tQ r a b h;rw[g]at d;obtain⟨m,u,p,o,e,k⟩:=ih (t+1) (by omega) d;rw[fJ c]at e;exact⟨m,by omega,p,o,e,k⟩
def Gf{out:List Bool}{j k:Nat}(c:out.getD j true=false)(b:out.getD k true=false)(d:bH out j=bH out k):j=k:=by
 rcases Nat.lt_trichotomy j k with a|a|a
 ·have:=kp a c;omega
 ·exact a
 ·have:=kp a b;omega
def ls(g:E.Fair){l:List au}{out:List Bool}(m:WF l)(n:DW l out){i:Nat}{s:T}(d:bN E (eq l out) i s):∃k,k<l.length∧out.getD k true=false∧bH out k=i∧bN E l k s:=by
 induction d with
 |zero=>
  obtain⟨c,_,a,o,f,e⟩:=pF (E:=E) g m n _ 0 (zb _) .zero;exact⟨c,a,o,by rw[f];rfl,e⟩
 |next _ h1 h2 h3 h4 ih=>
  obtain⟨k,b,a,rfl,f⟩:=ih;rw[et b a,jM g]at h2;rw[eU b a]at h3 h4;obtain⟨c,_,j,h,d,e⟩:=pF (E:=E) g m n _ _ (zb _) (.next f b h2 h3 h4);exact⟨c,j,h,by rw[d,fb a],e⟩
 |toA _ h1 h2 h3 ih=>
  obtain⟨k,b,a,rfl,f⟩:=ih;rw[et b a,jM g]at h2;rw[eU b a]at h3;rw[kX b a h3];obtain⟨c,_,j,h,d,e⟩:=pF (E:=E) g m n _ _ (zb _) (.toA f b h2 h3);exact⟨c,j,h,d,e⟩
def Ag(a:E.Fair){l:List au}{out:List Bool}(f:WF l)(g:DW l out)(i:vA E l):vA E (eq l out)where
 goes:=λk b u o=>by
  obtain⟨h,e,d,rfl,c⟩:=ls a f g o
  rw[et e d,jM a]
  exact i.goes h b e c
 one:=λk b j n m=>by
  obtain⟨h,e,d,r,c⟩:=ls a f g n
  obtain⟨t,v,s,q,p⟩:=ls a f g m
  have:=Gf s d (q.trans r.symm)
  subst this
  exact i.one _ b j c p
end
end
section
def eK(out:List Bool)(n x a:Nat):Prop:=x<a∧a<n∧out.getD a false=false∧∀b,x<b->b<a->out.getD b false=true
def oy{out:List Bool}{n x z t:Nat}(c:eK out n x t)(b:eK out n z t)(e:out.getD x false=false)(d:out.getD z false=false):x=z:=by
 rcases Nat.lt_trichotomy x z with a|a|a
 ·have:=c.2.2.2 z a b.1;rw[d]at this;cases this
 ·exact a
 ·have:=b.2.2.2 x a c.1;rw[e]at this;cases this
def kj{out:List Bool}{n x b z:Nat}(d:eK out n x b)(c:eK out n x z):b=z:=by
 rcases Nat.lt_trichotomy b z with a|a|a
 ·have:=c.2.2.2 b d.1 a;rw[d.2.2.1]at this;cases this
 ·exact a
 ·have:=d.2.2.2 z c.1 a;rw[c.2.2.1]at this;cases this
def kh{out:List Bool}{n x b t:Nat}(j:t<out.length)(p:eK (out.set t true) n x b)(r:out.length=n)(l:out.getD t false=false):eK out n x b∧b≠t∨eK out n x t∧eK out n t b:=by
 obtain⟨o,k,g,m⟩:=p;have i:b≠t∧out.getD b false=false:=by
  constructor
  ·intro c;subst c;rw[(bZ j b).2 (.inl rfl)]at g
   cases g
  ·cases f:out.getD b false with
   |false=>rfl
   |true=>rw[(bZ j b).2 (.inr f)]at g;cases g
 have h:∀a,x<a->a<b->a≠t->out.getD a false=true:=λa e d q=>by
  rcases(bZ j a).1 (m a e d)with c|c
  ·exact absurd c q
  ·exact c
 by_cases f:x<t∧t<b
 ·exact .inr ⟨⟨f.1,by omega,l,λa e d=>h a e (by omega) (by omega)⟩,⟨f.2,k,i.2,λa e d=>h a (by omega) d (by omega)⟩⟩
 ·exact .inl ⟨⟨o,k,i.2,λa e d=>h a e d (λc=>f ⟨by omega,by omega⟩)⟩,i.1⟩
def kD{out:List Bool}{t k:Nat}(b:t<out.length)(a:(out.set t true).getD k false=false):k≠t∧out.getD k false=false:=by
 constructor
 ·intro d;subst d;rw[(bZ b k).2 (.inl rfl)]at a
  cases a
 ·cases c:out.getD k false with
  |false=>rfl
  |true=>rw[(bZ b k).2 (.inr c)]at a;cases a
section
variable{C:Type}{O:Dn C}{T:Type}{E:Ao T}{l0:List au}
structure iH(E:Ao T)(l0:List au)(S:cU):Prop where
 goes:∀x s,x<l0.length->S.out.getD x false=false->bN E l0 x s->∃r,E.eff (S.l.getD x default) s=some r∧(aq S.l x≠34->aq S.l x≠50->∀y,eK S.out l0.length x y->bN E l0 y r.1)∧(al (aq S.l x)->bN E l0 (bE S.l x) r.2)
 over:∀x s,x<l0.length->S.out.getD x false=true->S.mark.getD x true=true->bN E l0 x s->∀y,eK S.out l0.length x y->bN E l0 y s
 named:∀k,k<l0.length->al (aq l0 k)->S.mark.getD (bE l0 k) true=true
 on:∀x y,x<l0.length->S.out.getD x false=true->S.mark.getD x true=true->eK S.out l0.length x y->S.mark.getD y true=true
 first:∀y,y<l0.length->S.out.getD y false=false->(∀z,z<y->S.out.getD z false=true)->bN E l0 y E.start
structure Rows(l0:List au)(f:Nat)(S:cU):Prop where
 all:∀x,x<f->(S.out.getD x false=false↔x∈S.ks)
 rest:∀x,f<=x->S.out.getD x false=false
 low:∀x∈S.ks,x<f
 bound:f<=l0.length
 lenM:S.mark.length=l0.length
def Rg(f:Nat)(S:cU):Prop:=∀a b,S.ks=a::b->a+1=f∨flat (aq S.l a)
def wW{f:Nat}{S:cU}(g:Rows l0 f S)(l:ge l0 S){pre m:List Nat}{a b:Nat}(h:S.ks=pre++a::b::m):eK S.out l0.length b a:=by
 have i:=l.down;rw[h]at i;have k:=(List.pairwise_append.1 i).2.1;have n:b<a:=(List.pairwise_cons.1 k).1 b (by simp);have e:a∈S.ks:=by rw[h];simp
 refine⟨n,l.sorted a e,(g.all a (g.low a e)).2 e,λd q p=>?_⟩
 cases o:S.out.getD d false with
 |true=>rfl
 |false=>
  have j:=(g.all d (by have:=g.low a e;omega)).1 o;rw[h]at j;rcases List.mem_append.1 j with c|c
  ·have:=(List.pairwise_append.1 i).2.2 d c a (by simp);omega
  ·rcases zC.1 c with c|c
   ·omega
   ·rcases zC.1 c with c|c
    ·omega
    ·have:=(List.pairwise_cons.1 (List.pairwise_cons.1 k).2).1 d c;omega
def Ik(d:E.Fair){i:au}{s:T}{r:T × T}(c:flat i.op)(a:E.eff i s=some r):∃u,E.push s=some u∧r=(u,s):=by
 rw[d.flat i s c]at a
 cases b:E.push s with
 |none=>rw[b]at a;cases a
 |some u=>
  rw[b]at a;exact⟨u,rfl,(zj a).symm⟩
def wT(c:E.Fair){i:au}{s u:T}(a:flat i.op)(b:E.push s=some u):E.eff i s=some (u,s):=by
 rw[c.flat i s a,b];rfl
def qZ(m:E.Fair){S:cU}(j:iH E l0 S){k a:Nat}{s:T}(e:k<l0.length)(d:S.out.getD k false=false)(b:flat (aq S.l k))(c:eK S.out l0.length k a)(i:bN E l0 k s):∃u,E.push s=some u∧bN E l0 a u:=by
 obtain⟨n,h,g,_⟩:=j.goes k s e d i;obtain⟨u,f,rfl⟩:=Ik m b h;exact⟨u,f,g (eN b).2.2.1 (eN b).2.1 a c⟩
def wU{S:cU}(m:iH E l0 S)(q:ge l0 S){k top:Nat}{x:au}{ks:List Nat}
 (P:k<l0.length)(K:top<l0.length)(F:S.out.getD k false=false)(y:S.out.getD top false=false)(H:S.mark.getD top true=false)(w:eK S.out l0.length k top)
 (N:∀s,bN E l0 k s->∃r,E.eff x s=some r∧(x.op≠34->x.op≠50->∀b,eK S.out l0.length top b->bN E l0 b r.1)∧(al x.op->bN E l0 x.a.toNat r.2)):
 iH E l0 ⟨S.l.set k x,S.mark,S.out.set top true,ks⟩:=by
 have f:top<S.out.length:=by rw[q.lenO];exact K
 have B:∀a b,S.out.getD a false=true->S.mark.getD a true=true->a<l0.length->eK (S.out.set top true) l0.length a b->eK S.out l0.length a b:=λa b i d R p=>by
  rcases kh f p q.lenO y with c|⟨c,_⟩
  ·exact c.1
  ·have:=m.on a top R i d c;rw[H]at this
   cases this
 have D:∀a,(S.out.set top true).getD a false=true->S.mark.getD a true=true->S.out.getD a false=true:=λa i d=>by
  rcases(bZ f a).1 i with rfl|c
  ·rw[H]at d;cases d
  ·exact c
 refine⟨λa s h n t=>?_,λa s h n g t b e=>?_,m.named,λa b h n g e=>?_,λb e M I=>?_⟩
 ·obtain⟨X,G⟩:=kD f n;by_cases j:k=a
  ·subst j;have z:(S.l.set k x).getD k default=x:=by rw[bf,zn ⟨rfl,by rw[q.len];exact P⟩]
   obtain⟨r,i,d,p⟩:=N s t;unfold aq bE;dsimp only;rw[z];refine⟨r,i,λv u b e=>?_,p⟩;rcases kh f e q.lenO y with⟨c,Q⟩|⟨_,c⟩
   ·exact absurd (kj c w) Q
   ·exact d v u b c
  ·have z:(S.l.set k x).getD a default=S.l.getD a default:=by rw[bf,zm (λc=>j c.1)]
   obtain⟨r,i,d,p⟩:=m.goes a s h G t;unfold aq bE at *
   dsimp only at *
   rw[z];refine⟨r,i,λv u b e=>?_,p⟩;rcases kh f e q.lenO y with⟨c,_⟩|⟨c,_⟩
   ·exact d v u b c
   ·exact absurd (oy w c F G) j
 ·have o:=D a n g;exact m.over a s h o g t b (B a b o g h e)
 ·have o:=D a n g;exact m.on a b h o g (B a b o g h e)
 ·have W:=w.1;have U:b<=k:=by
   apply Classical.byContradiction;intro V;have:=I k (by omega);have d:(S.out.set top true).getD k false=false:=by rw[bf,zm (by omega)];exact F
   rw[show(S.out.set top true).getD k false=true from this]at d
   cases d
  obtain⟨_,L⟩:=kD f M;refine m.first b e L (λA J=>?_)
  rcases(bZ f A).1 (I A J)with j|j
  ·omega
  ·exact j
def jh{out:List Bool}{n a c k top:Nat}(d:out.length=n)(p:top<n)(r:k<n)(f:out.getD top false=false)(j:out.getD k false=false)(h:eK out n k top)(o:eK ((out.set top true).set k true) n a c):
 eK out n a c∧c≠k∧c≠top∨eK out n a top∧eK out n top c∨eK out n a k∧eK out n top c:=by
 have e:top<out.length:=by omega
 have l:k<(out.set top true).length:=by rw[zN];omega
 have q:=h.1;have i:(out.set top true).getD k false=false:=by
  rw[bf,zm (by omega)];exact j
 rcases kh l o (by rw[zN];exact d) i with⟨h1,h2⟩|⟨h1,h2⟩
 ·rcases kh e h1 d f with⟨b,g⟩|b
  ·exact .inl ⟨b,h2,g⟩
  ·exact .inr (.inl b)
 ·have m:eK out n a k:=by
   rcases kh e h1 d f with b|b
   ·exact b.1
   ·have:=b.2.1;omega
  rcases kh e h2 d f with⟨b,g⟩|⟨_,b⟩
  ·exact absurd (kj b h) g
  ·exact .inr (.inr ⟨m,b⟩)
def pS{out:List Bool}{k top a:Nat}(b:top<out.length)(c:k<out.length)(h:((out.set top true).set k true).getD a false=false):a≠k∧a≠top∧out.getD a false=false:=by
 obtain⟨g,f⟩:=kD (by rw[zN];exact c) h;obtain⟨e,d⟩:=kD b f;exact⟨g,e,d⟩
def sZ{out:List Bool}{k top a:Nat}(b:top<out.length)(c:k<out.length)(d:((out.set top true).set k true).getD a false=true):a=k∨a=top∨out.getD a false=true:=by
 rcases(bZ (by rw[zN];exact c) a).1 d with h1|h1
 ·exact .inl h1
 ·exact .inr ((bZ b a).1 h1)
def Hy{S:cU}(m:iH E l0 S)(o:ge l0 S){j k top:Nat}{x:au}{ks:List Nat}
 (Y:j<l0.length)(A:k<l0.length)(v:top<l0.length)(L:S.out.getD j false=false)(y:S.out.getD k false=false)(G:S.out.getD top false=false)(N:S.mark.getD k true=false)(M:S.mark.getD top true=false)(w:eK S.out l0.length j k)(n:eK S.out l0.length k top)
 (X:∀s,bN E l0 j s->∃r,E.eff x s=some r∧(x.op≠34->x.op≠50->∀c,eK S.out l0.length top c->bN E l0 c r.1)∧(al x.op->bN E l0 x.a.toNat r.2)):
 iH E l0 ⟨S.l.set j x,S.mark,(S.out.set top true).set k true,ks⟩:=by
 have u:top<S.out.length:=by rw[o.lenO];exact v
 have z:k<S.out.length:=by rw[o.lenO];exact A
 have J:∀a c,S.out.getD a false=true->S.mark.getD a true=true->a<l0.length->eK ((S.out.set top true).set k true) l0.length a c->eK S.out l0.length a c:=λa c e d Q t=>by
  rcases jh o.lenO v A G y n t with b|⟨b,_⟩|⟨b,_⟩
  ·exact b.1
  ·have:=m.on a top Q e d b;rw[M]at this;cases this
  ·have:=m.on a k Q e d b;rw[N]at this;cases this
 have K:∀a,((S.out.set top true).set k true).getD a false=true->S.mark.getD a true=true->S.out.getD a false=true:=λa e d=>by
  rcases sZ u z e with rfl|rfl|b
  ·rw[N]at d;cases d
  ·rw[M]at d;cases d
  ·exact b
 refine⟨λa s h p B=>?_,λa s h p g B c f=>?_,m.named,λa c h p g f=>?_,λc f W P=>?_⟩
 ·obtain⟨Z,ao,H⟩:=pS u z p;by_cases i:j=a
  ·subst i;have I:(S.l.set j x).getD j default=x:=by rw[bf,zn ⟨rfl,by rw[o.len];exact Y⟩]
   obtain⟨r,e,d,t⟩:=X s B;unfold aq bE;dsimp only;rw[I];refine⟨r,e,λF D c f=>?_,t⟩;rcases jh o.lenO v A G y n f with⟨b,aa,_⟩|⟨b,_⟩|⟨_,b⟩
   ·exact absurd (kj b w) aa
   ·have:=kj b w;have:=n.1;omega
   ·exact d F D c b
  ·have I:(S.l.set j x).getD a default=S.l.getD a default:=by rw[bf,zm (λb=>i b.1)]
   obtain⟨r,e,d,t⟩:=m.goes a s h H B;unfold aq bE at *
   dsimp only at *
   rw[I];refine⟨r,e,λF D c f=>?_,t⟩;rcases jh o.lenO v A G y n f with⟨b,_⟩|⟨b,_⟩|⟨b,_⟩
   ·exact d F D c b
   ·exact absurd (oy n b y H).symm Z
   ·exact absurd (oy w b L H) i
 ·have q:=K a p g;exact m.over a s h q g B c (J a c q g h f)
 ·have q:=K a p g;exact m.on a c h q g (J a c q g h f)
 ·have an:=w.1;have af:=n.1;have ab:c<=j:=by
   apply Classical.byContradiction;intro ad;have e:((S.out.set top true).set k true).getD j false=true:=P j (by omega);rw[bf,zm (by omega),bf,zm (by omega),L]at e
   cases e
  obtain⟨_,_,V⟩:=pS u z W;refine m.first c f V (λR U=>?_)
  rcases sZ u z (P R U)with i|i|i
  ·omega
  ·omega
  ·exact i
def Kp{mark:List Bool}{t:Nat}{b:Bool}(k:Nat)(d:mark.getD k true=true)(a:k=t->b=true):(mark.set t b).getD k true=true:=by
 rw[bf];split
 ·rename_i c;exact a c.1.symm
 ·exact d
def tE{mark:List Bool}{t:Nat}{b:Bool}{k:Nat}(c:k≠t):(mark.set t b).getD k true=mark.getD k true:=by
 rw[bf,zm (λa=>c a.1.symm)]
def EP{S:cU}(m:iH E l0 S)(q:ge l0 S){f k top:Nat}{ks:List Nat}(aa:S.mark.length=l0.length)
 (p:k<l0.length)(r:top<l0.length)(U:top+1<l0.length)(N:∀x,top<x->S.out.getD x false=false)(o:S.out.getD k false=false)(t:S.out.getD top false=false)(G:S.mark.getD top true=false)(i:eK S.out l0.length k top)
 (z:∀s,bN E l0 k s->∀c,eK S.out l0.length top c->bN E l0 c s):
 iH E l0 ⟨S.l,S.mark.set (top+1) (S.mark.getD (top+1) true||S.mark.getD k true),(S.out.set top true).set k true,ks⟩:=by
 have y:top<S.out.length:=by rw[q.lenO];exact r
 have A:k<S.out.length:=by rw[q.lenO];exact p
 have a2:=i.1;have Y:eK S.out l0.length top (top+1):=⟨by omega,U,N _ (by omega),λe b B=>by omega⟩
 have L:∀c,eK S.out l0.length top c->c=top+1:=λc a=>kj a Y;have R:∀x,S.mark.getD x true=true->(S.mark.set (top+1) (S.mark.getD (top+1) true||S.mark.getD k true)).getD x true=true:=λx a=>Kp x a (λj=>by subst j;rw[a];rfl);have Q:S.mark.getD k true=true->(S.mark.set (top+1) (S.mark.getD (top+1) true||S.mark.getD k true)).getD (top+1) true=true:=λa=>by
  rw[bf,zn ⟨rfl,by rw[aa];exact U⟩,a,Bool.or_true]
 have M:∀b,((S.out.set top true).set k true).getD b false=true->(S.mark.set (top+1) (S.mark.getD (top+1) true||S.mark.getD k true)).getD b true=true->S.mark.getD b true=true∧(b=k∨S.out.getD b false=true):=λb g d=>by
  rcases sZ y A g with rfl|rfl|a
  ·rw[tE (by omega)]at d;exact⟨d,.inl rfl⟩
  ·rw[tE (by omega),G]at d
   cases d
  ·by_cases j:b=top+1
   ·subst j;rw[N _ (by omega)]at a
    cases a
   ·rw[tE j]at d;exact⟨d,.inr a⟩
 refine⟨λb s n u v=>?_,λb s n u H v c h=>?_,λW ad ab=>R _ (m.named W ad ab),λb c n u H h=>?_,λc h Z an=>?_⟩
 ·obtain⟨ao,a3,P⟩:=pS y A u;obtain⟨V,g,d,ap⟩:=m.goes b s n P v;refine⟨V,g,λK J c h=>?_,ap⟩;rcases jh q.lenO r p t o i h with⟨a,_⟩|⟨a,_⟩|⟨a,w⟩
  ·exact d K J c a
  ·exact absurd (oy i a o P).symm ao
  ·exact z _ (d K J k a) c w
 ·obtain⟨g,d⟩:=M b u H;rcases d with rfl|d
  ·rcases jh q.lenO r p t o i h with⟨a,_,I⟩|⟨_,a⟩|⟨a,_⟩
   ·exact absurd (kj a i) I
   ·exact z s v c a
   ·have:=a.1;omega
  ·rcases jh q.lenO r p t o i h with⟨a,_⟩|⟨a,_⟩|⟨a,w⟩
   ·exact m.over b s n d g v c a
   ·have:=m.on b top n d g a;rw[G]at this;cases this
   ·exact z s (m.over b s n d g v k a) c w
 ·obtain⟨g,d⟩:=M b u H;rcases d with rfl|d
  ·rcases jh q.lenO r p t o i h with⟨a,_,I⟩|⟨_,a⟩|⟨a,_⟩
   ·exact absurd (kj a i) I
   ·rw[L c a];exact Q g
   ·have:=a.1;omega
  ·rcases jh q.lenO r p t o i h with⟨a,_⟩|⟨a,_⟩|⟨a,w⟩
   ·exact R c (m.on b c n d g a)
   ·have:=m.on b top n d g a;rw[G]at this;cases this
   ·rw[L c w];exact Q (m.on b k n d g a)
 ·obtain⟨a0,av,F⟩:=pS y A Z;have D:∀e,e<c->e≠k->e≠top->S.out.getD e false=true:=λe b B ar=>by
   rcases sZ y A (an e b)with j|j|j
   ·exact absurd j B
   ·exact absurd j ar
   ·exact j
  by_cases a:c<k
  ·exact m.first c h F (λe b=>D e b (by omega) (by omega))
  ·have af:=m.first k p o (λe b=>D e (by omega) (by omega) (by omega))
   have X:top<c:=by
    apply Classical.byContradiction;intro a1;have:=i.2.2.2 c (by omega) (by omega);rw[F]at this
    cases this
   exact z _ af c ⟨X,h,F,λe b B=>D e B (by omega) (by omega)⟩
end
end
section
section
variable{C:Type}{O:Dn C}{T:Type}{E:Ao T}{l0:List au}
def xo{f:Nat}{S:cU}(b:Rows l0 f S)(j:ge l0 S){top:Nat}{h:List Nat}(d:S.ks=top::h){l:List au}{mark:List Bool}(m:mark.length=l0.length):Rows l0 f ⟨l,mark,S.out.set top true,h⟩:=by
 have p:top<f:=b.low top (by rw[d];simp);have k:top<S.out.length:=by rw[j.lenO];have:=b.bound;omega
 have i:=j.down;rw[d]at i;refine⟨λa c=>?_,λa c=>?_,λa c=>b.low a (by rw[d];exact zT _ c),b.bound,m⟩
 ·constructor
  ·intro e;obtain⟨o,n⟩:=kD k e;have:=(b.all a c).1 n;rw[d]at this;rcases zC.1 this with g|g
   ·exact absurd g o
   ·exact g
  ·intro e;have q:=(List.pairwise_cons.1 i).1 a e;show(S.out.set top true).getD a false=false;rw[bf,zm (by omega)];exact(b.all a c).2 (by rw[d];exact zT _ e)
 ·show(S.out.set top true).getD a false=false;rw[bf,zm (by omega)];exact b.rest a c
def vE{f:Nat}{S:cU}(b:Rows l0 f S)(j:ge l0 S){top k:Nat}{m:List Nat}(d:S.ks=top::k::m){l:List au}{mark:List Bool}(o:mark.length=l0.length):Rows l0 f ⟨l,mark,(S.out.set top true).set k true,m⟩:=by
 have u:top<f:=b.low top (by rw[d];simp);have x:k<f:=b.low k (by rw[d];simp);have n:top<S.out.length:=by rw[j.lenO];have:=b.bound;omega
 have p:k<S.out.length:=by rw[j.lenO];have:=b.bound;omega
 have g:=j.down;rw[d]at g;have q:=(List.pairwise_cons.1 g).2;refine⟨λa c=>?_,λa c=>?_,λa c=>b.low a (by rw[d];exact zT _ (zT _ c)),b.bound,o⟩
 ·constructor
  ·intro e;obtain⟨t,s,r⟩:=pS n p e;have:=(b.all a c).1 r;rw[d]at this;rcases zC.1 this with i|i
   ·exact absurd i s
   ·rcases zC.1 i with h|h
    ·exact absurd h t
    ·exact h
  ·intro e;have w:=(List.pairwise_cons.1 g).1 a (zT _ e);have v:=(List.pairwise_cons.1 q).1 a e;show((S.out.set top true).set k true).getD a false=false;rw[bf,zm (by omega),bf,zm (by omega)];exact(b.all a c).2 (by rw[d];exact zT _ (zT _ e))
 ·show((S.out.set top true).set k true).getD a false=false;rw[bf,zm (by omega),bf,zm (by omega)];exact b.rest a c
structure Oq(O:Dn C)(E:Ao T)(l0:List au)(f:Nat)(S:cU):Prop where
 rows:Rows l0 f (folds O S).1
 keeps:iH E l0 (folds O S).1
 top:(folds O S).2=true->Rg f (folds O S).1
def sq(U:O.Fair)(q:E.Fair)(bb:WF l0){f:Nat}{S:cU}(h:ge l0 S)(g:Rows l0 f S)(p:iH E l0 S)(bc:Rg f S):Oq O E l0 f S:=by
 have oP:∀P:Bool,P=false->(folds O S)=(S,P)->Oq O E l0 f S:=λP F e=>⟨by rw[e];exact g,by rw[e];exact p,by rw[e,F];intro a9;cases a9⟩
 cases b:S.ks with
 |nil=>exact oP false rfl (by unfold folds;rw[b])
 |cons top r1=>
  cases r1 with
  |nil=>exact oP false rfl (by unfold folds;rw[b])
  |cons k rest=>
   have v:top<l0.length:=h.sorted top (by rw[b];simp);have w:k<l0.length:=h.sorted k (by rw[b];simp);have z:S.out.getD top false=false:=(g.all top (g.low top (by rw[b];simp))).2 (by rw[b];simp);have A:S.out.getD k false=false:=(g.all k (g.low k (by rw[b];simp))).2 (by rw[b];simp);have y:eK S.out l0.length k top:=wW (pre:=[]) g h b;have a7:=h.down;rw[b]at a7;by_cases ao:S.mark.getD top true=true
   ·exact oP false rfl (by unfold folds;rw[b];simp only[ao,if_true])
   ·have i:S.mark.getD top true=false:=by simpa using ao
    cases o:O.cst (S.l.getD k default)with
    |none=>exact oP false rfl (by unfold folds;rw[b];simp only[i,o];rfl)
    |some a=>
     have X:flat (aq S.l k):=U.cst _ _ o;by_cases R:aq S.l top=18
     ·cases aa:O.un (S.l.getD top default).text a with
      |none=>exact oP false rfl (by unfold folds;rw[b];simp only[i,o,R,aa];rfl)
      |some d=>
       have m:folds O S=(⟨S.l.set k (O.lay d (S.l.getD k default).pos),S.mark,S.out.set top true,k::rest⟩,true):=by unfold folds;rw[b];simp only[i,o,R,aa];rfl
       have B:=U.lay d (S.l.getD k default).pos;have W:∀c,bN E l0 k c->∃s,E.eff (O.lay d (S.l.getD k default).pos) c=some s∧((O.lay d (S.l.getD k default).pos).op≠34->(O.lay d (S.l.getD k default).pos).op≠50->∀n,eK S.out l0.length top n->bN E l0 n s.1)∧(al (O.lay d (S.l.getD k default).pos).op->bN E l0 (O.lay d (S.l.getD k default).pos).a.toNat s.2):=λc t=>by
        obtain⟨r,x,K⟩:=qZ q p w A X y t;obtain⟨H,N,M,_⟩:=p.goes top r v z K;have L:=q.un _ c r H R x N;refine⟨(r,c),wT q B x,λ_ _ n I=>?_,λJ=>absurd J (eN B).2.2.2⟩;have:=M (by omega) (by omega) n I;rw[L]at this;exact this
       refine⟨by rw[m];exact xo g h b g.lenM,by rw[m];exact wU p h w v A z i y W,λ_=>?_⟩;rw[m];intro a0 s V;injection V with G _;subst G;right;show flat (aq (S.l.set k _) k);unfold aq;rw[bf,zn ⟨rfl,by rw[h.len];exact w⟩];exact B
     ·by_cases u:aq S.l top=35
      ·have bj:top+1=f:=by
        rcases bc top _ b with e|e
        ·exact e
        ·rcases e with e|e<;>omega
       have ar:∀c,bN E l0 k c->bN E l0 (bE S.l top) c∧∀n,eK S.out l0.length top n->bN E l0 n c:=λc t=>by
        obtain⟨r,x,K⟩:=qZ q p w A X y t;obtain⟨H,N,M,L⟩:=p.goes top r v z K;have ba:=q.branch _ c r H u x N;subst ba;exact⟨L (by rw[u];exact .inr (.inl rfl)),λn I=>M (by omega) (by omega) n I⟩
       by_cases Y:aq S.l k=6
       ·by_cases G:(S.l.getD k default).a=1
        ·have m:folds O S=(⟨S.l,S.mark.set (top+1) (S.mark.getD (top+1) true||S.mark.getD k true),(S.out.set top true).set k true,rest⟩,false):=by unfold folds;rw[b];simp only[i,o,u,Y,G];rfl
         have a2:top+1<l0.length:=by
          have ad:=rh u (by decide) (by decide) (by decide);have a6:=tq h v ad.1 ad.2;have bk:aq l0 top=35:=by unfold aq at u ⊢;rw[<-a6];exact u
          by_cases a3:top=l0.length - 1
          ·subst a3;rcases bb.last with e|e<;>omega
          ·omega
         refine⟨by rw[m];exact vE g h b (by rw[zN];exact g.lenM),by rw[m];exact EP (f:=f) p h g.lenM w v a2 (λav be=>g.rest av (by omega)) A z i y (λc t=>(ar c t).2),λe=>by rw[m]at e;cases e⟩
        ·have m:folds O S=(⟨S.l.set k ⟨34,(S.l.getD top default).a,0,⟨#[]⟩,(S.l.getD top default).pos⟩,S.mark,S.out.set top true,k::rest⟩,false):=by unfold folds;rw[b];simp only[i,o,u,Y,G];rfl
         refine⟨by rw[m];exact xo g h b g.lenM,by rw[m];exact wU p h w v A z i y (λc t=>⟨(c,c),q.jump _ c rfl,λe=>absurd rfl e,λ_=>(ar c t).1⟩),λe=>by rw[m]at e;cases e⟩
       ·exact oP false rfl (by unfold folds;rw[b];simp only[i,o,u];simp[Y])
      ·by_cases D:aq S.l top=19
       ·cases rest with
        |nil=>exact oP false rfl (by unfold folds;rw[b];simp only[i,o,D];rfl)
        |cons j rest2=>
         have J:j<l0.length:=h.sorted j (by rw[b];simp);have af:S.out.getD j false=false:=(g.all j (g.low j (by rw[b];simp))).2 (by rw[b];simp);have ab:eK S.out l0.length j k:=wW (pre:=[top]) g h b;by_cases an:S.mark.getD k true=true
         ·exact oP false rfl (by unfold folds;rw[b];simp only[i,o,D,an];rfl)
         ·have Q:S.mark.getD k true=false:=by simpa using an
          cases F:O.cst (S.l.getD j default)with
          |none=>exact oP false rfl (by unfold folds;rw[b];simp only[i,o,D,Q,F];rfl)
          |some P=>
           have a5:flat (aq S.l j):=U.cst _ _ F
           cases ap:O.bi (S.l.getD top default).text P a with
           |none=>exact oP false rfl (by unfold folds;rw[b];simp only[i,o,D,Q,F,ap];rfl)
           |some d=>
            have m:folds O S=(⟨S.l.set j (O.lay d (S.l.getD j default).pos),S.mark,(S.out.set top true).set k true,j::rest2⟩,true):=by unfold folds;rw[b];simp only[i,o,D,Q,F,ap];rfl
            have B:=U.lay d (S.l.getD j default).pos;have W:∀c,bN E l0 j c->∃s,E.eff (O.lay d (S.l.getD j default).pos) c=some s∧((O.lay d (S.l.getD j default).pos).op≠34->(O.lay d (S.l.getD j default).pos).op≠50->∀n,eK S.out l0.length top n->bN E l0 n s.1)∧(al (O.lay d (S.l.getD j default).pos).op->bN E l0 (O.lay d (S.l.getD j default).pos).a.toNat s.2):=λc t=>by
             obtain⟨r,x,K⟩:=qZ q p J af a5 ab t;obtain⟨Z,a1,a8⟩:=qZ q p w A X y K;obtain⟨H,N,M,_⟩:=p.goes top Z v z a8;have L:=q.bi _ c r Z H D x a1 N;refine⟨(r,c),wT q B x,λ_ _ n I=>?_,λa4=>absurd a4 (eN B).2.2.2⟩;have:=M (by omega) (by omega) n I;rw[L]at this;exact this
            refine⟨by rw[m];exact vE g h b g.lenM,by rw[m];exact Hy p h J w v af A z Q i ab y W,λ_=>?_⟩;rw[m];intro a0 s V;injection V with G _;subst G;right;show flat (aq (S.l.set j _) j);unfold aq;rw[bf,zn ⟨rfl,by rw[h.len];exact J⟩];exact B
       ·exact oP false rfl (by unfold folds;rw[b];simp only[i,o];simp[R,u,D])
def vz(h:O.Fair)(j:E.Fair)(i:WF l0){f:Nat}:∀(n:Nat) (S:cU),S.ks.length<=n->ge l0 S->Rows l0 f S->iH E l0 S->Rg f S->Rows l0 f (aV O S)∧iH E l0 (aV O S):=by
 intro n
 induction n with
 |zero=>
  intro S k c e g d;have a:=sq h j i c e g d;rw[aV];split
  ·rename_i b;have:=cO O S b;omega
  ·exact⟨a.rows,a.keeps⟩
 |succ n ih=>
  intro S k c e g d;have a:=sq h j i c e g d;rw[aV];split
  ·rename_i b;exact ih _ (by have:=cO O S b;omega) (kH h c) a.rows a.keeps (a.top b)
  ·exact⟨a.rows,a.keeps⟩
def Hw{k:Nat}{S:cU}(c:Rows l0 k S)(f:k<l0.length):Rows l0 (k+1) ⟨S.l,S.mark,S.out,k::S.ks⟩:=by
 refine⟨λa d=>?_,λa d=>c.rest a (by omega),λa d=>by rcases zC.1 d with rfl|b;omega;have:=c.low a b;omega,by omega,c.lenM⟩;by_cases e:a=k
 ·subst e;exact⟨λ_=>by simp,λ_=>c.rest a (zb _)⟩
 ·rw[show(S.out.getD a false=false↔a∈S.ks)from c.all a (by omega)];constructor
  ·exact zT _
  ·intro b;rcases zC.1 b with b|b
   ·exact absurd b e
   ·exact b
def Fc{k:Nat}{S:cU}(a:iH E l0 S):iH E l0 ⟨S.l,S.mark,S.out,k::S.ks⟩:=⟨a.goes,a.over,a.named,a.on,a.first⟩
def vr(e:O.Fair)(o:E.Fair)(i:WF l0):∀(m k:Nat) (S:cU),ge l0 S->Rows l0 k S->iH E l0 S->k+m=l0.length->iH E l0 (bI O (List.range' k m) S):=by
 intro m
 induction m with
 |zero=>intro k S _ _ a _;exact a
 |succ m ih=>
  intro k S n c a r;rw[List.range'_succ,bI];have b:k<l0.length:=by omega
  have d:=oG n b (λf h=>c.low f h);obtain⟨j,l⟩:=vz e o i _ _ (zb _) d (Hw c b) (Fc a) (λp q g=>by injection g with h1 _;exact .inl (by omega));exact ih (k+1) _ (ln e _ _ (zb _) d) j l (by omega)
def Ib{n x a:Nat}(c:eK (List.replicate n false) n x a):a=x+1:=by
 obtain⟨g,f,e,b⟩:=c;apply Classical.byContradiction;intro d;have:=b (x+1) (by omega) (by omega);rw[cW]at this
 cases this
def A6(r:E.Fair)(p:vA E l0)(mk:List Bool)(n:∀k,k<l0.length->al (aq l0 k)->mk.getD (bE l0 k) true=true):iH E l0 (fN l0 mk):=by
 refine⟨λc g d _ f=>?_,λc g _ a=>?_,n,λc b _ a=>?_,λb _ _ a=>?_⟩
 ·obtain⟨h,e⟩:=p.goes c g d f;refine⟨h,e,λj i b m=>?_,λo=> .toA f d e o⟩;have:=Ib m;subst this;exact .next f d e j i
 ·simp only[fN,cW]at a
  cases a
 ·simp only[fN,cW]at a
  cases a
 ·have l:b=0:=by
   apply Classical.byContradiction;intro q;have:=a 0 (by omega);simp only[fN,cW]at this
   cases this
  subst l;exact .zero
def Fr(mk:List Bool)(c:mk.length=l0.length):Rows l0 0 (fN l0 mk):=
 ⟨λa b=>by omega,λa _=>cW _ _,λa b=>by simp[fN]at b,zu _,c⟩
def ml(l:List au):(dd l).length=l.length:=by simp[dd]
def Df{l:List au}(c:WF l){k:Nat}(a:k<l.length)(b:al (aq l k)):(dd l).getD (bE l k) true=true:=by
 unfold dd;rw[zd,zL,List.getElem?_range (c.high k a b)];simp;exact⟨k,a,b,rfl⟩
def y9(f:O.Fair)(b:E.Fair)(a:WF l0)(e:vA E l0):iH E l0 (bM O l0):=
 vr f b a _ 0 _ (pG l0 _) (Fr _ (ml l0)) (A6 b e _ (λg c d=>Df a c d)) (by omega)
def rP{S:cU}(e:S.out.length=l0.length)(d:S.out.getD (l0.length - 1) false=false):∀(n t:Nat),l0.length - t<=n->t<l0.length->∃m,t<=m∧m<l0.length∧S.out.getD m false=false∧(∀z,t<=z->z<m->S.out.getD z false=true)∧bH S.out m=bH S.out t:=by
 intro n
 induction n with
 |zero=>intro t h b;omega
 |succ n ih=>
  intro t h b
  cases a:S.out.getD t false with
  |false=>exact⟨t,zb _,b,a,λz o c=>by omega,rfl⟩
  |true=>
   by_cases j:t=l0.length - 1
   ·subst j;rw[d]at a;cases a
   ·obtain⟨m,o,c,l,k,i⟩:=ih (t+1) (by omega) (by omega);refine⟨m,by omega,c,l,λz p g=>?_,?_⟩
    ·by_cases f:z=t
     ·subst f;exact a
     ·exact k z (by omega) g
    ·rw[i,fJ (by rw[gU e b];exact a)]
def JB(c:WF l0){S:cU}(d:ge l0 S):S.out.getD (l0.length - 1) false=false:=by
 cases b:S.out.getD (l0.length - 1) false with
 |false=>rfl
 |true=>
  have:=d.gone _ b;rcases c.last with a|a
  ·exact absurd a this.2.1
  ·exact absurd a this.2.2
def nJ(F:E.Fair)(t:WF l0){S:cU}(b:ge l0 S)(q:iH E l0 S){i:Nat}{s:T}(o:bN E (eq S.l S.out) i s):∃k,k<l0.length∧S.out.getD k true=false∧bH S.out k=i∧bN E l0 k s:=by
 have w:=JB t b;have H:∀c r,c<l0.length->bN E l0 c r->(S.out.getD c false=true->S.mark.getD c true=true)->∃k,k<l0.length∧S.out.getD k true=false∧bH S.out k=bH S.out c∧bN E l0 k r:=λc r y B K=>by
  obtain⟨d,e,a,g,h,p⟩:=rP b.lenO w _ c (zb _) y;by_cases x:d=c
  ·subst x;exact⟨d,a,by rw[gU b.lenO a];exact g,rfl,B⟩
  ·have z:=h c (zb _) (by omega);exact⟨d,a,by rw[gU b.lenO a];exact g,p,q.over c r y z (K z) B d ⟨by omega,a,g,λn D j=>h n (by omega) j⟩⟩
 induction o with
 |zero=>
  obtain⟨d,e,a,g,h,p⟩:=rP b.lenO w _ 0 (zb _) t.pos;exact⟨d,a,by rw[gU b.lenO a];exact g,by rw[p];rfl,q.first d a g (λn J=>h n (zu _) J)⟩
 |next _ D j h3 h4 ih=>
  obtain⟨k,e,a,rfl,h⟩:=ih;have m:k<S.l.length:=by rw[b.len];exact e
  rw[et m a,jM F]at j;rw[eU m a]at h3 h4;have v:S.out.getD k false=false:=by rw[<-gU b.lenO e];exact a
  obtain⟨I,f,U,_⟩:=q.goes k _ e v h;rw[j]at f;have f:=zj f;subst f;have L:k+1<l0.length:=by
   have V:=mz t b;by_cases x:k=l0.length - 1
   ·have:=V.last;rw[b.len,<-x]at this;rcases this with o|o
    ·exact absurd o h4
    ·exact absurd o h3
   ·omega
  obtain⟨d,W,u,g,n,p⟩:=rP b.lenO w _ (k+1) (zb _) L;exact⟨d,u,by rw[gU b.lenO u];exact g,by rw[p,fb a],U h3 h4 d ⟨by omega,u,g,λG X M=>n G (by omega) M⟩⟩
 |toA _ D j h3 ih=>
  obtain⟨k,e,a,rfl,h⟩:=ih;have m:k<S.l.length:=by rw[b.len];exact e
  rw[et m a,jM F]at j;rw[eU m a]at h3;rw[kX m a h3];have v:S.out.getD k false=false:=by rw[<-gU b.lenO e];exact a
  obtain⟨I,f,_,R⟩:=q.goes k _ e v h;rw[j]at f;have f:=zj f;subst f;have A:=(mz t b).high k m h3;rw[b.len]at A;refine H _ _ A (R h3) (λ_=>?_);obtain⟨c,_,Q,P,N⟩:=om b e h3;have:bE S.l k=bE l0 c:=by unfold bE;rw[N]
  rw[this];exact q.named c Q P
def Ca(k:O.Fair)(b:E.Fair)(e:WF l0)(j:vA E l0):vA E (eq (bM O l0).l (bM O l0).out):=by
 have a:=fK k l0;have f:=y9 k b e j;refine⟨λo g y r=>?_,λo g m q p=>?_⟩
 ·obtain⟨i,d,c,rfl,h⟩:=nJ b e a f r;rw[et (by rw[a.len];exact d) c,jM b];obtain⟨n,s,_⟩:=f.goes i g d (by rw[<-gU a.lenO d];exact c) h;exact⟨n,s⟩
 ·obtain⟨i,d,c,v,h⟩:=nJ b e a f q;obtain⟨x,z,w,u,t⟩:=nJ b e a f p;have:=Gf w c (u.trans v.symm);subst this;exact j.one _ g m h t
def yi(f:O.Fair)(g:E.Fair):∀(n:Nat) (l:List au),l.length<=n->WF l->vA E l->vA E (cw f l):=by
 intro n
 induction n with
 |zero=>intro l k c;have:=c.pos;omega
 |succ n ih=>
  intro l k c m;have a:=md c;have e:=yc g c m;have o:=cq l;rw[cw];split
  ·rename_i j;have h:=cL j;exact ih _ (by omega) (gy a (re a (jb _))) (Ag g a (jb _) e)
  ·have b:=fK f (threads l);split
   ·rename_i d;have h:=cL d;rw[b.len]at h;exact ih _ (by omega) (gy (mz a b) (tO a b)) (Ca f g a e)
   ·rename_i d;have i:=b.same (uR (by rw[b.lenO,b.len]) d);rw[i];exact e
end
end
section
section
variable{C:Type}{O:Dn C}{P:au->Prop}
structure mj(O:Dn C)(P:au->Prop):Prop where
 turn:∀i (x:Nat),al i.op->P i->P {i with a:=(x:Int)}
 un:∀i k c d,i.op=18->P i->P k->O.cst k=some c->O.un i.text c=some d->P (O.lay d k.pos)
 bi:∀i j k b c d,i.op=19->P i->P j->P k->O.cst j=some b->O.cst k=some c->O.bi i.text b c=some d->P (O.lay d j.pos)
 branch:∀i,i.op=35->P i->P ⟨34,i.a,0,⟨#[]⟩,i.pos⟩
def sT(P:au->Prop)(l:List au):Prop:=∀a,a<l.length->P (l.getD a default)
def mu(H:mj O P){l:List au}(c:sT P l):sT P (threads l):=λb a=>by
 rw[cq]at a;rw[sA l b a];unfold gn;split
 ·rename_i d;exact H.turn _ _ d (c b a)
 ·exact c b a
def jK(H:mj O P){l:List au}{out:List Bool}(d:sT P l):sT P (eq l out):=λg c=>by
 rw[dW]at c;obtain⟨b,a,f,rfl⟩:=qQ c;rw[et a f];unfold moved;split
 ·rename_i e;exact H.turn _ _ e (d b a)
 ·exact d b a
def tR{l:List au}(d:sT P l)(k:Nat){x:au}(c:P x):sT P (l.set k x):=λb a=>by
 rw[zN]at a;rw[bf];split
 ·exact c
 ·exact d b a
def pM(H:mj O P){S:cU}(g:∀k∈S.ks,k<S.l.length)(a:sT P S.l):sT P (folds O S).1.l∧(folds O S).1.l.length=S.l.length:=by
 unfold folds;split
 ·rename_i b k q f;have e:b<S.l.length:=g b (by rw[f];simp);have i:k<S.l.length:=g k (by rw[f];simp);split
  ·exact⟨a,rfl⟩
  ·split
   ·exact⟨a,rfl⟩
   ·rename_i s j;split
    ·rename_i c;split
     ·rename_i o h;exact⟨tR a k (H.un _ _ _ _ c (a b e) (a k i) j h),by simp⟩
     ·exact⟨a,rfl⟩
    ·split
     ·rename_i c;split
      ·exact⟨a,rfl⟩
      ·split
       ·exact⟨a,rfl⟩
       ·exact⟨tR a k (H.branch _ c (a b e)),by simp⟩
     ·split
      ·rename_i c;split
       ·rename_i d p;have m:d<S.l.length:=g d (by rw[f];simp);split
        ·exact⟨a,rfl⟩
        ·split
         ·exact⟨a,rfl⟩
         ·rename_i r n;split
          ·rename_i o h;exact⟨tR a d (H.bi _ _ _ _ _ _ c (a b e) (a d m) (a k i) n j h),by simp⟩
          ·exact⟨a,rfl⟩
       ·exact⟨a,rfl⟩
      ·exact⟨a,rfl⟩
 ·exact⟨a,rfl⟩
def oW(H:mj O P):∀(n:Nat) (S:cU),S.ks.length<=n->(∀k∈S.ks,k<S.l.length)->sT P S.l->sT P (aV O S).l∧(aV O S).l.length=S.l.length:=by
 intro n
 induction n with
 |zero=>
  intro S g a c;rw[aV];split
  ·rename_i d;have:=cO O S d;omega
  ·exact pM H a c
 |succ n ih=>
  intro S g a c;rw[aV];have b:=pM H a c;split
  ·rename_i d;have e:=ih _ (by have:=cO O S d;omega) (λk f=>by rw[b.2];exact a k (oj S k f)) b.1;exact⟨e.1,e.2.trans b.2⟩
  ·exact b
def ww(H:mj O P):∀(m k:Nat) (S:cU),(∀j∈S.ks,j<k)->k+m<=S.l.length->sT P S.l->sT P (bI O (List.range' k m) S).l:=by
 intro m
 induction m with
 |zero=>intro k S _ _ b;exact b
 |succ m ih=>
  intro k S c f b;rw[List.range'_succ,bI];have d:=oW (S:=⟨S.l,S.mark,S.out,k::S.ks⟩) H _ (zb _) (λj a=>by rcases zC.1 a with rfl|a;show _<S.l.length;omega;have:=c j a;show _<S.l.length;omega) b;refine ih (k+1) _ (λj a=>?_) (by rw[d.2];show _<=S.l.length;omega) d.1;have:=mo (O:=O) _ _ (zb _) j a;rcases zC.1 this with rfl|e
  ·omega
  ·have:=c j e;omega
def nL(H:mj O P){l:List au}(b:sT P l):sT P (bM O l).l:=ww H _ _ _ (λc a=>by simp[fN]at a) (by show 0+l.length<=l.length;omega) b
def mB(e:O.Fair)(H:mj O P):∀(n:Nat) (l:List au),l.length<=n->sT P l->sT P (cw e l):=by
 intro n
 induction n with
 |zero=>
  intro l g b;have f:=cq l;have a:=mu H b;rw[cw];split
  ·rename_i d;have:=cL d;omega
  ·split
   ·rename_i c;have:=cL c;rw[(fK e (threads l)).len]at this;omega
   ·exact nL H a
 |succ n ih=>
  intro l g b;have f:=cq l;have a:=mu H b;rw[cw];split
  ·rename_i d;have:=cL d;exact ih _ (by omega) (jK H a)
  ·split
   ·rename_i c;have:=cL c;rw[(fK e (threads l)).len]at this;exact ih _ (by omega) (jK H (nL H a))
   ·exact nL H a
end
end
section
section
variable{C:Type}{O:Dn C}
def ib{out:List Bool}{t x:Nat}(a:out.getD x false=true):(out.set t true).getD x false=true:=by
 rw[bf];split
 ·rfl
 ·exact a
def rO(S:cU){x:Nat}(a:S.out.getD x false=true):(folds O S).1.out.getD x false=true:=by
 unfold folds;split
 ·split
  ·exact a
  ·split
   ·exact a
   ·split
    ·split
     ·exact ib a
     ·exact a
    ·split
     ·split
      ·exact a
      ·split
       ·exact ib (ib a)
       ·exact ib a
     ·split
      ·split
       ·split
        ·exact a
        ·split
         ·exact a
         ·split
          ·exact ib (ib a)
          ·exact a
       ·exact a
      ·exact a
 ·exact a
def qC:∀(n:Nat) (S:cU),S.ks.length<=n->∀x,S.out.getD x false=true->(aV O S).out.getD x false=true:=by
 intro n
 induction n with
 |zero=>
  intro S c x a;rw[aV];split
  ·rename_i b;have:=cO O S b;omega
  ·exact rO S a
 |succ n ih=>
  intro S c x a;rw[aV];split
  ·rename_i b;exact ih _ (by have:=cO O S b;omega) x (rO S a)
  ·exact rO S a
def Au:∀(r:List Nat) (S:cU),∀x,S.out.getD x false=true->(bI O r S).out.getD x false=true:=by
 intro r
 induction r with
 |nil=>intro S x a;exact a
 |cons k r ih=>
  intro S x a;rw[bI];exact ih _ x (qC _ _ (zb _) x a)
def Ml(S:cU)(e:∀k∈S.ks,k<S.out.length):folds O S=(S,false)∨∃x,(folds O S).1.out.getD x false=true:=by
 unfold folds;split
 ·rename_i a k f d;have c:a<S.out.length:=e a (by rw[d];simp);have b:(S.out.set a true).getD a false=true:=(bZ c a).2 (.inl rfl);split
  ·exact .inl rfl
  ·split
   ·exact .inl rfl
   ·split
    ·split
     ·exact .inr ⟨a,b⟩
     ·exact .inl rfl
    ·split
     ·split
      ·exact .inl rfl
      ·split
       ·exact .inr ⟨a,ib b⟩
       ·exact .inr ⟨a,b⟩
     ·split
      ·split
       ·split
        ·exact .inl rfl
        ·split
         ·exact .inl rfl
         ·split
          ·exact .inr ⟨a,ib b⟩
          ·exact .inl rfl
       ·exact .inl rfl
      ·exact .inl rfl
 ·exact .inl rfl
def down:Nat->List Nat
 |0=> []
 |k+1=>k::down k
theorem GH:∀ {n k:Nat},k∈down n->k<n
 |0,k,a=>by simp[down]at a
 |n+1,k,a=>by
  rcases zC.1 a with rfl|a
  ·omega
  ·have:=GH a;omega
noncomputable def fF(l:List au)(n:Nat):cU:=⟨l,dd l,List.replicate l.length false,down n⟩
def DA{l:List au}:∀(m k:Nat),k+m=l.length->(∀x,(bI O (List.range' k m) (fF l k)).out.getD x false=false)->∀top,k<=top->top<l.length->folds O (fF l (top+1))=(fF l (top+1),false):=by
 intro m
 induction m with
 |zero=>intro k d _ top j b;omega
 |succ m ih=>
  intro k d a;rw[List.range'_succ,bI]at a;have n:(⟨(fF l k).l,(fF l k).mark,(fF l k).out,k::(fF l k).ks⟩:cU)=fF l (k+1):=rfl;rw[n]at a;have c:folds O (fF l (k+1))=(fF l (k+1),false):=by
   rcases Ml (O:=O) (fF l (k+1)) (λf h=>by have:=GH h;show f<(List.replicate l.length false).length;rw[List.length_replicate];omega)with b|⟨x,hx⟩
   ·exact b
   ·have i:(aV O (fF l (k+1))).out.getD x false=true:=by
     rw[aV];split
     ·exact qC _ _ (zb _) x hx
     ·exact hx
    have e:=Au (O:=O) (List.range' (k+1) m) _ x i;rw[a x]at e
    cases e
  have g:aV O (fF l (k+1))=fF l (k+1):=by
   rw[aV,dif_neg (by rw[c];intro d;cases d),c]
  rw[g]at a;intro top j b;by_cases o:top=k
  ·subst o;exact c
  ·exact ih (k+1) (by omega) a top (by omega) b
def pp(d:O.Fair){l:List au}(e:PQ O l){top:Nat}(b:top<l.length):folds O (fF l (top+1))=(fF l (top+1),false):=by
 have c:=fK d l;have a:=uR c.lenO e.folds;exact DA l.length 0 (by omega) a top (zu _) b
structure Gy(O:Dn C)(l:List au):Prop where
 come:∀k,k<l.length->ko l k
 jump:∀k,k<l.length->¬(aq l k=34∧bE l k=k+1)
 one:∀k c,k+1<l.length->(dd l).getD (k+1) true=false->aq l (k+1)=18->O.cst (l.getD k default)=some c->O.un (l.getD (k+1) default).text c=none
 branch:∀k c,k+1<l.length->(dd l).getD (k+1) true=false->aq l (k+1)=35->O.cst (l.getD k default)=some c->aq l k≠6
 two:∀k b c,k+2<l.length->(dd l).getD (k+1) true=false->(dd l).getD (k+2) true=false->aq l (k+2)=19->O.cst (l.getD k default)=some b->O.cst (l.getD (k+1) default)=some c->O.bi (l.getD (k+2) default).text b c=none
 toA:∀k,k<l.length->al (aq l k)->aq l (bE l k)≠34
def EA(o:O.Fair){l:List au}(e:PQ O l):Gy O l where
 come:=λb c=>by
  apply Classical.byContradiction
  intro n
  exact e.idle ⟨b,c,((jb l).2 b c).2 (.inl n)⟩
 jump:=λb c n=>e.idle ⟨b,c,((jb l).2 b c).2 (.inr n)⟩
 one:=λb i c k g h=>by
  have f:=pp o e c
  cases j:O.un (l.getD (b+1) default).text i with
  |none=>rfl
  |some d=>
   have:(folds O (fF l (b+1+1))).2=true:=by
    unfold folds fF down
    simp only[down,k,h,g,j]
    rfl
   rw[f]at this
   cases this
 branch:=λb i c k g h v=>by
  have f:=pp o e c
  have m:(folds O (fF l (b+1+1))).1.out.getD (b+1) false=true:=by
   have s:b+1<(List.replicate l.length false).length:=by rw[List.length_replicate];exact c
   have one:((List.replicate l.length false).set (b+1) true).getD (b+1) false=true:=(bZ s (b+1)).2 (.inl rfl)
   unfold folds fF
   simp only[down,k,h,g,v]
   by_cases p:(l.getD b default).a=1
   ·simp only[p]
    exact ib one
   ·simp only[p]
    exact one
  rw[f]at m
  simp only[fF,cW]at m
  cases m
 two:=λb w i c r q g u h=>by
  have f:=pp o e c
  cases j:O.bi (l.getD (b+2) default).text w i with
  |none=>rfl
  |some d=>
   have:(folds O (fF l (b+2+1))).2=true:=by
    unfold folds fF
    simp only[down,r,q,h,u,g,j]
    rfl
   rw[f]at this
   cases this
 toA:=λb c t=>by
  have:=uc e.wf (k:=b) (by rw[e.threads];exact c) (by rw[e.threads];exact t)
  rw[e.threads]at this
  exact this
end
end
end Go.Proofs.PeepPlain

/- Parts of the proof: PeepLook PeepForms PeepEff PeepHeap PeepIdx -/
import Derived.Test.YtmecmlpoallpcaaGreatDoorM01
set_option linter.all false
set_option maxHeartbeats 8000000
namespace Go.Proofs.PeepPlain
section
section
variable{T:Type}{E:Ao T}
structure sR(E:Ao T)(l:List au)(given:List (Option T))(seen:List Bool)(todo:List Nat):Prop where
 lenA:given.length=l.length+1
 lenS:seen.length=l.length
 zero:given.getD 0 none=some E.start
 comes:∀k s,given.getD k none=some s->bN E l k s
 want:∀k∈todo,k<l.length∧∃s,given.getD k none=some s
 done:∀k,seen.getD k false=true->∃s r,given.getD k none=some s∧E.eff (l.getD k default) s=some r∧(aq l k≠34->aq l k≠50->given.getD (k+1) none=some r.1)∧(al (aq l k)->given.getD (bE l k) none=some r.2)
 left:∀k s,given.getD k none=some s->seen.getD k false=true∨k∈todo
def cr(g:List (Option T))(k:Nat)(s:T):List (Option T):=if g.getD k none=none then g.set k (some s)else g
def li(g:List (Option T))(todo:List Nat)(k:Nat):List Nat:=if g.getD k none=none then todo++ [k]else todo
def fu(g:List (Option T))(k j:Nat)(x:Option T):(g.set k x).getD j none=if k=j∧j<g.length then x else g.getD j none:=bf g k j x none
def gX(g:List (Option T))(k:Nat)(s:T):(cr g k s).length=g.length:=by
 unfold cr;split<;>simp
def nP{g:List (Option T)}{k:Nat}{s:T}(c:k<g.length)(a:g.getD k none=none∨g.getD k none=some s):(cr g k s).getD k none=some s:=by
 unfold cr;split
 ·rw[fu,zn ⟨rfl,c⟩]
 ·rename_i b;rcases a with a|a
  ·exact absurd a b
  ·exact a
def dM{g:List (Option T)}{k j:Nat}{s u:T}(a:g.getD j none=some u):(cr g k s).getD j none=some u:=by
 unfold cr;split
 ·rename_i b;rw[fu];split
  ·rename_i c;rw[c.1,a]at b
   cases b
  ·exact a
 ·exact a
def uC{g:List (Option T)}{k j:Nat}{s u:T}(a:(cr g k s).getD j none=some u):g.getD j none=some u∨(j=k∧u=s∧g.getD k none=none):=by
 unfold cr at a;split at a
 ·rename_i b;rw[fu]at a;split at a
  ·rename_i c;exact .inr ⟨c.1.symm,(zj a).symm,b⟩
  ·exact .inl a
 ·exact .inl a
structure Iz(E:Ao T)(l:List au)(given:List (Option T))(seen:List Bool)(todo:List Nat)(k:Nat):Prop where
 lenA:given.length=l.length+1
 lenS:seen.length=l.length
 zero:given.getD 0 none=some E.start
 comes:∀k s,given.getD k none=some s->bN E l k s
 want:∀k∈todo,k<l.length∧∃s,given.getD k none=some s
 done:∀j,j≠k->seen.getD j false=true->∃s r,given.getD j none=some s∧E.eff (l.getD j default) s=some r∧(aq l j≠34->aq l j≠50->given.getD (j+1) none=some r.1)∧(al (aq l j)->given.getD (bE l j) none=some r.2)
 left:∀j s,given.getD j none=some s->seen.getD j false=true∨j∈todo
def rF{l:List au}{g:List (Option T)}{m:List Bool}{todo:List Nat}{k j:Nat}{s:T}(H:Iz E l g m todo k)(r:j<l.length)(t:bN E l j s):Iz E l (cr g j s) m (li g todo j) k where
 lenA:=by rw[gX,H.lenA]
 lenS:=H.lenS
 zero:=dM H.zero
 comes:=λa e b=>by
  rcases uC b with c|⟨rfl,rfl,_⟩
  ·exact H.comes a e c
  ·exact t
 want:=λa b=>by
  unfold li at b
  have n:a∈todo->a<l.length∧∃o,(cr g j s).getD a none=some o:=λc=>by
   obtain⟨h,e,d⟩:=H.want a c
   exact⟨h,e,dM d⟩
  split at b
  ·rename_i f
   rcases List.mem_append.1 b with c|c
   ·exact n c
   ·obtain rfl:a=j:=by simpa using c
    exact⟨r,s,nP (by rw[H.lenA];omega) (.inl f)⟩
  ·exact n b
 done:=λa q b=>by
  obtain⟨e,p,h,d,v,u⟩:=H.done a q b
  exact⟨e,p,dM h,d,λi w=>dM (v i w),λi=>dM (u i)⟩
 left:=λa e b=>by
  unfold li
  rcases uC b with c|⟨rfl,rfl,f⟩
  ·rcases H.left a e c with d|d
   ·exact .inl d
   ·refine .inr ?_
    split
    ·simp[d]
    ·exact d
  ·rw[zn f]
   exact .inr (by simp)
def JC{l:List au}{g:List (Option T)}{h:List Bool}{todo i:List Nat}{k:Nat}(a:sR E l g h todo)(d:∀j,j∈todo↔j=k∨j∈i):Iz E l g (h.set k true) i k where
 lenA:=a.lenA
 lenS:=by simp[a.lenS]
 zero:=a.zero
 comes:=a.comes
 want:=λj c=>a.want j ((d j).2 (.inr c))
 done:=λj o c=>by
  rw[zd,List.getElem?_set_ne (Ne.symm o),<-zd]at c
  exact a.done j c
 left:=λj m n=>by
  by_cases e:j=k
  ·subst e
   refine .inl ?_
   have:=(a.want j ((d j).2 (.inl rfl))).1
   rw[bf,zn ⟨rfl,by rw[a.lenS];exact this⟩]
  ·rw[bf,zm (by intro b;exact e b.1.symm)]
   rcases a.left j m n with b|b
   ·exact .inl b
   ·rcases(d j).1 b with f|f
    ·exact absurd f e
    ·exact .inr f
def oA{l:List au}{g:List (Option T)}{a:List Bool}{todo:List Nat}{k:Nat}{s:T}{r:T × T}(H:Iz E l g a todo k)(i:g.getD k none=some s)(h:E.eff (l.getD k default) s=some r)
 (f:aq l k≠34->aq l k≠50->g.getD (k+1) none=some r.1)(e:al (aq l k)->g.getD (bE l k) none=some r.2):sR E l g a todo where
 lenA:=H.lenA
 lenS:=H.lenS
 zero:=H.zero
 comes:=H.comes
 want:=H.want
 done:=λb d=>by
  by_cases c:b=k
  ·subst c
   exact⟨s,r,i,h,f,e⟩
  ·exact H.done b c d
 left:=H.left
def Ij{l:List au}{g:List (Option T)}{b:List Bool}{todo d:List Nat}{k:Nat}(a:sR E l g b todo)(e:∀j,j∈todo↔j=k∨j∈d)(h:b.getD k false=true):sR E l g b d where
 lenA:=a.lenA
 lenS:=a.lenS
 zero:=a.zero
 comes:=a.comes
 want:=λj i=>a.want j ((e j).2 (.inr i))
 done:=a.done
 left:=λj f n=>by
  rcases a.left j f n with c|c
  ·exact .inl c
  ·rcases(e j).1 c with rfl|m
   ·exact .inl h
   ·exact .inr m
def EC(l:List au)(f:WF l):sR E l ((List.replicate (l.length+1) (none:Option T)).set 0 (some E.start)) (List.replicate l.length false) [0]where
 lenA:=by simp
 lenS:=by simp
 zero:=by rw[fu];simp
 comes:=λb e a=>by
  rw[fu]at a
  split at a
  ·rename_i d
   obtain⟨rfl,_⟩:=d
   rw[<-zj a]
   exact .zero
  ·rw[zd,List.getElem?_replicate]at a
   split at a<;>cases a
 want:=λb c=>by
  obtain rfl:b=0:=by simpa using c
  exact⟨f.pos,E.start,by rw[fu];simp⟩
 done:=λb c=>by rw[cW]at c;cases c
 left:=λb e a=>by
  rw[fu]at a
  split at a
  ·rename_i d
   exact .inr (by simp[d.1])
  ·rw[zd,List.getElem?_replicate]at a
   split at a<;>cases a
def tN{l:List au}{g:List (Option T)}{e:List Bool}(c:sR E l g e []){k:Nat}{s:T}(d:bN E l k s):g.getD k none=some s:=by
 have f:∀k s,g.getD k none=some s->e.getD k false=true:=λk s d=>(c.left k s d).resolve_right (by simp)
 induction d with
 |zero=>exact c.zero
 | @next k s r _ hk he h1 h2 ih=>
   obtain⟨j,m,b,a,i,h⟩:=c.done k (f k _ ih);rw[ih]at b;obtain rfl:=zj b;rw[he]at a;obtain rfl:=zj a;exact i h1 h2
 | @toA k s r _ hk he h1 ih=>
   obtain⟨j,m,b,a,i,h⟩:=c.done k (f k _ ih);rw[ih]at b;obtain rfl:=zj b;rw[he]at a;obtain rfl:=zj a;exact h h1
def JD{l:List au}{g:List (Option T)}{h:List Bool}(a:sR E l g h []):vA E l where
 goes:=λb c o m=>by
  have d:=tN a m
  obtain⟨f,i,e,n,_,_⟩:=a.done b ((a.left b c d).resolve_right (by simp))
  rw[d]at e
  obtain rfl:=zj e
  exact⟨i,n⟩
 one:=λb c f k j=>zj ((tN a k).symm.trans (tN a j))
def iG(g:List (Option T)):Nat:=g.countP λa=>a.isNone
def xz{g:List (Option T)}{k:Nat}{s:T}(a:k<g.length)(c:g.getD k none=none):iG (g.set k (some s))+1=iG g:=by
 induction g generalizing k with
 |nil=>simp at a
 |cons b r ih=>
  cases k with
  |zero=>
   have:b=none:=by simpa using c
   subst this;simp[iG]
  |succ k=>
   have:=ih (k:=k) (by simpa using a) (by simpa using c);unfold iG at *
   simp only[List.set_cons_succ,List.countP_cons];omega
def Jo{g:List (Option T)}{k:Nat}{s:T}{todo:List Nat}(b:k<g.length):iG (cr g k s)+(li g todo k).length=iG g+todo.length:=by
 unfold cr li;split
 ·rename_i a;have:=xz (s:=s) b a;simp only[zw,zK];omega
 ·rfl
end
end
section
structure Pt where
 word:ByteArray
 a:Int
 text:Int
 takes:ByteArray
 lays:ByteArray
def k7:Pt:=⟨⟨#[]⟩,0,0,⟨#[]⟩,⟨#[]⟩⟩
def jx:List Pt:=[k7,
 ⟨⟨#[115,116,101,112]⟩,0,0,⟨#[]⟩,⟨#[]⟩⟩,
 ⟨⟨#[116,105,99,107]⟩,0,0,⟨#[]⟩,⟨#[]⟩⟩,
 ⟨⟨#[105,110,116]⟩,0,12,⟨#[]⟩,⟨#[118]⟩⟩,
 ⟨⟨#[102,108,111,97,116]⟩,0,13,⟨#[]⟩,⟨#[118]⟩⟩,
 ⟨⟨#[116,101,120,116]⟩,0,14,⟨#[]⟩,⟨#[118]⟩⟩,
 ⟨⟨#[98,111,111,108]⟩,1,0,⟨#[]⟩,⟨#[118]⟩⟩,
 ⟨⟨#[110,105,108]⟩,0,0,⟨#[]⟩,⟨#[118]⟩⟩,
 ⟨⟨#[110,105,108,111,102]⟩,1,15,⟨#[]⟩,⟨#[118]⟩⟩,
 ⟨⟨#[108,111,97,100]⟩,3,0,⟨#[]⟩,⟨#[118]⟩⟩,
 ⟨⟨#[103,108,111,98,97,108]⟩,4,0,⟨#[]⟩,⟨#[118]⟩⟩,
 ⟨⟨#[116,97,107,101,110]⟩,5,0,⟨#[]⟩,⟨#[118]⟩⟩,
 ⟨⟨#[102,114,101,115,104]⟩,3,0,⟨#[118]⟩,⟨#[]⟩⟩,
 ⟨⟨#[115,116,111,114,101]⟩,3,0,⟨#[118]⟩,⟨#[]⟩⟩,
 ⟨⟨#[115,116,111,114,101,103,108,111,98,97,108]⟩,4,0,⟨#[118]⟩,⟨#[]⟩⟩,
 ⟨⟨#[115,116,111,114,101,116,97,107,101,110]⟩,5,0,⟨#[118]⟩,⟨#[]⟩⟩,
 ⟨⟨#[112,111,112]⟩,0,0,⟨#[118]⟩,⟨#[]⟩⟩,
 ⟨⟨#[100,117,112]⟩,0,0,⟨#[118]⟩,⟨#[118,118]⟩⟩,
 ⟨⟨#[117,110,97,114,121]⟩,0,16,⟨#[118]⟩,⟨#[118]⟩⟩,
 ⟨⟨#[98,105,110,97,114,121]⟩,0,17,⟨#[118,118]⟩,⟨#[118]⟩⟩,
 ⟨⟨#[116,114,117,116,104]⟩,0,18,⟨#[118]⟩,⟨#[118]⟩⟩,
 ⟨⟨#[99,111,110,118,101,114,116]⟩,6,19,⟨#[118]⟩,⟨#[118]⟩⟩,
 ⟨⟨#[115,101,108,101,99,116]⟩,1,20,⟨#[118]⟩,⟨#[118]⟩⟩,
 ⟨⟨#[101,120,112,114,101,115,115,105,111,110]⟩,1,21,⟨#[]⟩,⟨#[118]⟩⟩,
 ⟨⟨#[105,110,100,101,120]⟩,0,0,⟨#[118,118]⟩,⟨#[118]⟩⟩,
 ⟨⟨#[105,110,100,101,120,116,119,111]⟩,0,0,⟨#[118,118]⟩,⟨#[118,118]⟩⟩,
 ⟨⟨#[115,108,105,99,101]⟩,11,0,⟨#[]⟩,⟨#[118]⟩⟩,
 ⟨⟨#[108,105,115,116]⟩,7,0,⟨#[]⟩,⟨#[118]⟩⟩,
 ⟨⟨#[109,97,112]⟩,7,0,⟨#[]⟩,⟨#[118]⟩⟩,
 ⟨⟨#[115,116,114,117,99,116]⟩,8,22,⟨#[]⟩,⟨#[118]⟩⟩,
 ⟨⟨#[111,98,106,101,99,116]⟩,0,0,⟨#[118]⟩,⟨#[118]⟩⟩,
 ⟨⟨#[108,105,116,101,114,97,108]⟩,9,0,⟨#[]⟩,⟨#[118]⟩⟩,
 ⟨⟨#[97,115,115,101,114,116]⟩,1,23,⟨#[118]⟩,⟨#[118]⟩⟩,
 ⟨⟨#[104,111,108,100,115]⟩,2,23,⟨#[118]⟩,⟨#[118,118]⟩⟩,
 ⟨⟨#[106,117,109,112]⟩,10,0,⟨#[]⟩,⟨#[]⟩⟩,
 ⟨⟨#[98,114,97,110,99,104]⟩,10,0,⟨#[118]⟩,⟨#[]⟩⟩,
 ⟨⟨#[97,110,100]⟩,10,0,⟨#[118]⟩,⟨#[]⟩⟩,
 ⟨⟨#[111,114]⟩,10,0,⟨#[118]⟩,⟨#[]⟩⟩,
 ⟨⟨#[112,108,97,99,101,115,108,111,116]⟩,3,0,⟨#[]⟩,⟨#[112]⟩⟩,
 ⟨⟨#[112,108,97,99,101,103,108,111,98,97,108]⟩,4,0,⟨#[]⟩,⟨#[112]⟩⟩,
 ⟨⟨#[112,108,97,99,101,116,97,107,101,110]⟩,5,0,⟨#[]⟩,⟨#[112]⟩⟩,
 ⟨⟨#[112,108,97,99,101,111,102]⟩,0,0,⟨#[118]⟩,⟨#[112]⟩⟩,
 ⟨⟨#[112,108,97,99,101,105,110,100,101,120]⟩,0,0,⟨#[118,118]⟩,⟨#[112]⟩⟩,
 ⟨⟨#[112,108,97,99,101,102,105,101,108,100]⟩,0,20,⟨#[63]⟩,⟨#[112]⟩⟩,
 ⟨⟨#[102,101,116,99,104]⟩,0,0,⟨#[112]⟩,⟨#[112,118]⟩⟩,
 ⟨⟨#[112,117,116]⟩,0,0,⟨#[112,118]⟩,⟨#[]⟩⟩,
 ⟨⟨#[99,97,108,108]⟩,7,0,⟨#[118]⟩,⟨#[118]⟩⟩,
 ⟨⟨#[98,117,105,108,116]⟩,7,24,⟨#[]⟩,⟨#[118]⟩⟩,
 ⟨⟨#[100,101,102,101,114]⟩,7,0,⟨#[118]⟩,⟨#[]⟩⟩,
 ⟨⟨#[100,101,102,101,114,98,117,105,108,116]⟩,7,24,⟨#[]⟩,⟨#[]⟩⟩,
 ⟨⟨#[114,101,116,117,114,110]⟩,0,0,⟨#[118]⟩,⟨#[]⟩⟩,
 ⟨⟨#[116,117,114,110]⟩,0,0,⟨#[118]⟩,⟨#[116]⟩⟩,
 ⟨⟨#[110,101,120,116]⟩,10,0,⟨#[116]⟩,⟨#[116,118,118]⟩⟩,
 ⟨⟨#[100,114,111,112]⟩,7,0,⟨#[]⟩,⟨#[]⟩⟩]
def aj(op:Int):Pt:=jx.getD op.toNat k7
def aw(c:Int):Nat->List Int->Option (List Int)
 |0,s=>some s
 |_+1,[]=>none
 |n+1,t::s=>if t=c∨(c=63∧(t=118∨t=112))then aw c n s else none
def dK:List Int->List Int->Option (List Int)
 | [],s=>some s
 |c::r,s=>(aw c 1 s).bind (dK r)
def dp:List Int->List Int->Option (List Int)
 | [],s=>some s
 |c::r,s=>if s.length+1>30000 then none else dp r (c::s)
def aF(i:au):Int × Int:=
 if i.op=27∨i.op=29∨i.op=46∨i.op=47∨i.op=48∨i.op=49 then(118,i.a)else if i.op=28 then(118,2 * i.a)else if i.op=26 then(118,if i.b=0 then i.a+1 else if i.b=3 then i.a - 1 else i.a)else if i.op=53 then(116,i.a)else(118,0)
def aT(s:ByteArray):List Int:=s.data.toList.map λ(a:UInt8)=>(a.toNat:Int)
def dX(i:au)(s:List Int):Option (List Int × List Int):=
 (aw (aF i).1 (aF i).2.toNat s).bind λc=>(dK (aT (aj i.op).takes).reverse c).bind λa=>(dp (aT (aj i.op).lays) a).map λb=>(b,if i.op=36∨i.op=37 then 118::a else a)
def E0:Ao (List Int):=⟨dX,[],λa=>if a.length+1>30000 then none else some (118::a)⟩
end
section
def bC(c:Int)(s:List Int):aw c 0 s=some s:=by cases s<;>rfl
def gR(c t:Int)(s:List Int):aw c 1 (t::s)=if t=c∨(c=63∧(t=118∨t=112))then some s else none:=by
 simp only[aw]
def fd(i:au)(s:List Int)(b d:List Int){c n:Int}(j:aF i=(c,n))(h:(aT (aj i.op).takes).reverse=b)(g:aT (aj i.op).lays=d):
 dX i s=(aw c n.toNat s).bind λf=>(dK b f).bind λa=>(dp d a).map λe=>(e,if i.op=36∨i.op=37 then 118::a else a):=by
 subst h g;unfold dX;rw[j]
def iV{i:au}(a:i.op=34∨i.op=3∨i.op=6∨i.op=18∨i.op=19∨i.op=35):aF i=(118,0):=by
 rcases a with a|a|a|a|a|a<;>simp[aF,a]
def PD(i:au)(a:i.op=34)(s:List Int):dX i s=some (s,s):=by
 rw[fd i s [] [] (iV (by simp[a])) (by rw[a];decide) (by rw[a];decide),a];simp[bC,dK,dp]
def KK(i:au)(a:flat i.op)(s:List Int):dX i s=(E0.push s).map λu=>(u,s):=by
 rcases a with a|a
 ·rw[fd i s [] [118] (iV (by simp[a])) (by rw[a];decide) (by rw[a];decide),a];simp[bC,dK,dp,E0]
 ·rw[fd i s [] [118] (iV (by simp[a])) (by rw[a];decide) (by rw[a];decide),a];simp[bC,dK,dp,E0]
def oh{s u:List Int}(a:E0.push s=some u):u=118::s∧¬s.length+1>30000:=by
 simp only[E0]at a;split at a
 ·cases a
 ·exact⟨(zj a).symm,by assumption⟩
def MD:E0.Fair where
 turn:=λd j e l=>by
  show dX _ e=dX d e
  have m:aF {d with a:=j}=aF d:=by
   rcases l with b|b|b|b|b<;>simp[aF,b]
  unfold dX
  rw[m]
 jump:=λd e b=>PD d b e
 flat:=λd e b=>KK d b e
 un:=λd e i f b g c=>by
  obtain⟨rfl,h⟩:=oh g
  have c:dX d (118::e)=some f:=c
  rw[fd d _ [118] [118] (iV (by simp[b])) (by rw[b];decide) (by rw[b];decide),b]at c
  simp only[Int.toNat_zero,bC,Option.bind_some,dK,gR]at c
  simp only[true_or,if_true,Option.bind_some,dp,zm h,Option.map_some]at c
  rw[<-zj c]
 bi:=λd e i n f b g k c=>by
  obtain⟨rfl,h⟩:=oh g
  obtain⟨rfl,o⟩:=oh k
  have c:dX d (118::118::e)=some f:=c
  rw[fd d _ [118,118] [118] (iV (by simp[b])) (by rw[b];decide) (by rw[b];decide),b]at c
  simp only[Int.toNat_zero,bC,Option.bind_some,dK,gR]at c
  simp only[true_or,if_true,Option.bind_some,dK,gR,dp,zm h,Option.map_some]at c
  rw[<-zj c]
 branch:=λd e i f b g c=>by
  obtain⟨rfl,h⟩:=oh g
  have c:dX d (118::e)=some f:=c
  rw[fd d _ [118] [] (iV (by simp[b])) (by rw[b];decide) (by rw[b];decide),b]at c
  simp only[Int.toNat_zero,bC,Option.bind_some,dK,gR]at c
  simp only[true_or,if_true,Option.bind_some,dp,Option.map_some]at c
  exact(zj c).symm
end
section
def iI(l:List Int)(i j:Nat):List Int:=(l.set i (l.getD j 0)).set j (l.getD i 0)
def bz(l:List Int)(i j:Nat):(iI l i j).length=l.length:=by simp[iI]
def eX{l:List Int}{i j:Nat}(e:i<l.length)(d:j<l.length)(k:Nat):(iI l i j).getD k 0=if k=j then l.getD i 0 else if k=i then l.getD j 0 else l.getD k 0:=by
 unfold iI;rw[bf,bf];by_cases b:k=j
 ·subst b;rw[zn ⟨rfl,by rw[zN];exact d⟩,zn rfl]
 ·rw[zm (λc=>b c.1.symm),zm b];by_cases a:k=i
  ·subst a;rw[zn ⟨rfl,e⟩,zn rfl]
  ·rw[zm (λc=>a c.1.symm),zm a]
def kW{l:List Int}{i:Nat}(a:i<l.length):l.getD i 0=l[i]:=by
 rw[zd,zo a];rfl
def sd{l:List Int}{i j:Nat}(d:i<l.length)(c:j<l.length):(iI l i j).Perm l:=by
 rw[List.perm_iff_count];intro a;unfold iI;rw[List.count_set (by rw[zN];exact c),List.count_set d];rw[kW d,kW c];have m:∀b (f:b<l.length),l[b]=a->0<l.count a:=λb f p=>List.count_pos_iff.2 (p ▸ zk f);have n:=m i d;have o:=m j c;rw[List.getElem_set];by_cases g:i=j
 ·subst g;by_cases e:l[i]=a
  ·have:=n e;simp only[e,beq_self_eq_true,zn];omega
  ·simp[e]
 ·rw[zm g];by_cases k:l[i]=a<;>by_cases h:l[j]=a<;>simp[k,h]
  all_goals first|(have:=n k;omega)|(have:=o h;omega)
def BO(l:List Int)(j:Nat):List Int:=
 if h:j=0 then l else if l.getD j 0<l.getD ((j - 1) / 2) 0 then BO (iI l ((j - 1) / 2) j) ((j - 1) / 2)else l
termination_by j
decreasing_by omega
def cD(l:List Int)(i n:Nat):Nat:=if 2 * i+1+1<n∧l.getD (2 * i+1+1) 0<l.getD (2 * i+1) 0 then 2 * i+1+1 else 2 * i+1
def fa{l:List Int}{i n:Nat}(a:2 * i+1<n):i<cD l i n∧cD l i n<n:=by
 unfold cD;split<;>omega
def gH(l:List Int)(i n:Nat):List Int:=
 if h:2 * i+1<n then if l.getD (cD l i n) 0<l.getD i 0 then gH (iI l i (cD l i n)) (cD l i n) n else l else l
termination_by n - i
decreasing_by
 have:=fa (l:=l) h
 omega
def JH:∀(m j:Nat) (l:List Int),j<=m->(BO l j).length=l.length:=by
 intro m
 induction m with
 |zero=>intro j l a;rw[BO,dif_pos (by omega)]
 |succ m ih=>
  intro j l a;rw[BO];split
  ·rfl
  ·split
   ·rw[ih _ _ (by omega),bz]
   ·rfl
def AY:∀(m i n:Nat) (l:List Int),n - i<=m->(gH l i n).length=l.length:=by
 intro m
 induction m with
 |zero=>intro i n l b;rw[gH,dif_neg (by omega)]
 |succ m ih=>
  intro i n l b;rw[gH];split
  ·rename_i a;have:=fa (l:=l) a;split
   ·rw[ih _ _ _ (by omega),bz]
   ·rfl
  ·rfl
def MQ:∀(m j:Nat) (l:List Int),j<=m->j<l.length->(BO l j).Perm l:=by
 intro m
 induction m with
 |zero=>intro j l b _;rw[BO,dif_pos (by omega)]
 |succ m ih=>
  intro j l b a;rw[BO];split
  ·exact .refl _
  ·split
   ·exact(ih _ _ (by omega) (by rw[bz];omega)).trans (sd (by omega) a)
   ·exact .refl _
def Js:∀(m i n:Nat) (l:List Int),n - i<=m->n<=l.length->(gH l i n).Perm l:=by
 intro m
 induction m with
 |zero=>intro i n l b _;rw[gH,dif_neg (by omega)]
 |succ m ih=>
  intro i n l b c;rw[gH];split
  ·rename_i a;have:=fa (l:=l) a;split
   ·exact(ih _ _ _ (by omega) (by rw[bz];omega)).trans (sd (by omega) (by omega))
   ·exact .refl _
  ·exact .refl _
def Dj:∀(m i n:Nat) (l:List Int),n - i<=m->n<=l.length->∀k,n<=k->(gH l i n).getD k 0=l.getD k 0:=by
 intro m
 induction m with
 |zero=>intro i n l c _ k _;rw[gH,dif_neg (by omega)]
 |succ m ih=>
  intro i n l c d k a;rw[gH];split
  ·rename_i b;have:=fa (l:=l) b;split
   ·rw[ih _ _ _ (by omega) (by rw[bz];omega) k a,eX (by omega) (by omega),zm (by omega),zm (by omega)]
   ·rfl
  ·rfl
def nR(l:List Int)(n:Nat):Prop:=∀a,0<a->a<n->l.getD ((a - 1) / 2) 0<=l.getD a 0
def Fb{l:List Int}{n:Nat}(H:nR l n):∀(k:Nat),k<n->l.getD 0 0<=l.getD k 0:=by
 intro k
 induction k using Nat.strongRecOn with
 |ind k ih=>
  intro a;by_cases b:k=0
  ·subst b;exact Int.le_refl _
  ·exact Int.le_trans (ih ((k - 1) / 2) (by omega) (by omega)) (H k (by omega) a)
def N7:∀(m j:Nat) (l:List Int),j<=m->j<l.length->(∀k,0<k->k<l.length->k≠j->l.getD ((k - 1) / 2) 0<=l.getD k 0)->(∀k,0<k->k<l.length->(k - 1) / 2=j->0<j->l.getD ((j - 1) / 2) 0<=l.getD k 0)->nR (BO l j) l.length:=by
 intro m
 induction m with
 |zero=>
  intro j l r _ d _;rw[BO,dif_pos (by omega)];exact λk h b=>d k h b (by omega)
 |succ m ih=>
  intro j l r f d h;rw[BO];split
  ·exact λk b a=>d k b a (by omega)
  ·rename_i s;have e:(j - 1) / 2<l.length:=by omega
   split
   ·rename_i p;have:=ih ((j - 1) / 2) (iI l ((j - 1) / 2) j) (by omega) (by rw[bz];omega) (λk b a g=>?_) (λk b a g q=>?_)
    ·rw[bz]at this;exact this
    ·rw[bz]at a;rw[eX e f,eX e f];by_cases c:k=j
     ·subst c;rw[zn rfl,zm (by omega),zn rfl];omega
     ·rw[zm c,zm g];by_cases n:(k - 1) / 2=j
      ·rw[zn n];exact h k b a n (by omega)
      ·rw[zm n];by_cases i:(k - 1) / 2=(j - 1) / 2
       ·rw[zn i];have:=d k b a c;rw[i]at this;omega
       ·rw[zm i];exact d k b a c
    ·rw[bz]at a;rw[eX e f,eX e f];have o:l.getD (((j - 1) / 2 - 1) / 2) 0<=l.getD ((j - 1) / 2) 0:=d _ q e (by omega);rw[zm (show((j - 1) / 2 - 1) / 2≠j by omega),zm (show((j - 1) / 2 - 1) / 2≠(j - 1) / 2 by omega)];by_cases c:k=j
     ·rw[zn c];exact o
     ·rw[zm c,zm (by omega)];have:=d k b a c;rw[g]at this;omega
   ·rename_i p;intro k b a;by_cases c:k=j
    ·subst c;omega
    ·exact d k b a c
def GP:∀(m i n:Nat) (l:List Int),n - i<=m->n<=l.length->(∀k,0<k->k<n->(k - 1) / 2≠i->l.getD ((k - 1) / 2) 0<=l.getD k 0)->(∀k,0<k->k<n->(k - 1) / 2=i->0<i->l.getD ((i - 1) / 2) 0<=l.getD k 0)->nR (gH l i n) n:=by
 intro m
 induction m with
 |zero=>
  intro i n l t _ d _;rw[gH,dif_neg (by omega)];exact λk g a=>d k g a (by omega)
 |succ m ih=>
  intro i n l t u d g;rw[gH];split
  ·rename_i h;have s:=fa (l:=l) h;have j:∀k,0<k->k<n->(k - 1) / 2=i->l.getD (cD l i n) 0<=l.getD k 0:=λk a c e=>by
    have:k=2 * i+1∨k=2 * i+1+1:=by omega
    unfold cD;split
    ·rename_i o;rcases this with rfl|rfl<;>omega
    ·rename_i o;rcases this with rfl|rfl<;>omega
   have f:(cD l i n - 1) / 2=i:=by
    unfold cD;split<;>omega
   split
   ·rename_i r;refine ih _ _ _ (by omega) (by rw[bz];omega) (λk a c e=>?_) (λk a c e o=>?_)
    ·rw[eX (by omega) (by omega),eX (by omega) (by omega),zm e];by_cases b:(k - 1) / 2=i
     ·rw[zn b];by_cases q:k=cD l i n
      ·rw[zn q];omega
      ·rw[zm q,zm (by omega)];exact j k a c b
     ·rw[zm b];rw[zm (show k≠cD l i n by rintro rfl;exact b f)];by_cases p:k=i
      ·subst p;rw[zn rfl];exact g _ (by omega) s.2 f a
      ·rw[zm p];exact d k a c b
    ·rw[eX (by omega) (by omega),eX (by omega) (by omega),f,zm (by omega),zn rfl,zm (by omega),zm (by omega)];have:=d k a c (by omega);rwa [e]at this
   ·rename_i r;intro k a c;by_cases b:(k - 1) / 2=i
    ·have:=j k a c b;rw[b];omega
    ·exact d k a c b
  ·rename_i h;intro k a c;by_cases b:(k - 1) / 2=i
   ·omega
   ·exact d k a c b
def qg(l:List Int)(x:Int):List Int:=BO (l++ [x]) l.length
def fw(l:List Int):List Int:=gH (iI l 0 (l.length - 1)) 0 (l.length - 1)
def iD(l:List Int):Int × List Int:=((fw l).getD (l.length - 1) 0,(fw l).take (l.length - 1))
def tz(l:List Int)(x:Int):(qg l x).Perm (x::l):=(MQ _ _ _ (zb _) (by simp)).trans (List.perm_append_singleton x l)
def rk(l:List Int)(x:Int):(qg l x).length=l.length+1:=by
 unfold qg;rw[JH _ _ _ (zb _)];simp
def ma{l m:List Int}{k:Nat}(a:k<l.length):(l++m).getD k 0=l.getD k 0:=by
 rw[zd,zS a,<-zd]
def Ex{l:List Int}(H:nR l l.length)(x:Int):nR (qg l x) (qg l x).length:=by
 rw[rk];have:=N7 _ l.length (l++ [x]) (zb _) (by simp) (λb c a d=>by
  rw[zw,zK]at a;rw[ma (by omega),ma (by omega)];exact H b c (by omega)) (λb c a d e=>by
  rw[zw,zK]at a;omega)
 rw[zw,zK]at this;exact this
def j8(l:List Int):(fw l).length=l.length:=by
 unfold fw;rw[AY _ _ _ _ (zb _),bz]
def DZ{l:List Int}(a:0<l.length):(iD l).1=l.getD 0 0:=by
 unfold iD fw;rw[Dj _ _ _ _ (zb _) (by rw[bz];omega) _ (zb _),eX a (by omega),zn rfl]
def pd{l:List Int}(b:0<l.length):fw l=(iD l).2++ [(iD l).1]:=by
 unfold iD;have a:l.length - 1<(fw l).length:=by rw[j8];omega
 rw[kW a];show fw l=(fw l).take (l.length - 1)++ [(fw l)[l.length - 1]];rw[List.take_append_getElem a,List.take_of_length_le (by rw[j8];omega)]
def ID{l:List Int}(b:0<l.length):l.Perm ((iD l).1::(iD l).2):=by
 have a:(fw l).Perm l:=(Js _ _ _ _ (zb _) (by rw[bz];omega)).trans (sd b (by omega));rw[pd b]at a;exact a.symm.trans (List.perm_append_singleton _ _)
def nD(l:List Int):(iD l).2.length=l.length - 1:=by
 unfold iD;rw[zR,j8];omega
def Hu{l:List Int}(H:nR l l.length)(f:0<l.length):nR (iD l).2 (iD l).2.length:=by
 rw[nD];have i:nR (fw l) (l.length - 1):=by
  refine GP _ _ _ _ (zb _) (by rw[bz];omega) (λa d c e=>?_) (λa d c e j=>by omega);rw[eX f (by omega),eX f (by omega),zm (by omega),zm e,zm (by omega),zm (by omega)];exact H a d (by omega)
 intro a d c;have g:∀b,b<l.length - 1->(iD l).2.getD b 0=(fw l).getD b 0:=λb h=>by
  unfold iD;rw[zd,List.getElem?_take,zn h,<-zd]
 rw[g _ (by omega),g _ c];exact i a d c
def ER{l:List Int}(H:nR l l.length)(d:0<l.length):∀x∈l,(iD l).1<=x:=λx c=>by
 obtain⟨b,a,rfl⟩:=zQ c;rw[DZ d,<-kW a];exact Fb H b a
end
section
def cF(p:Nat->Bool):Nat->Option Nat
 |0=>none
 |n+1=>match cF p n with
  |some k=>some k
  |none=>if p n then none else some n
theorem cK{p:Nat->Bool}:∀ {n:Nat},(∀j,j<n->p j=true)->cF p n=none
 |0,_=>rfl
 |n+1,h=>by
  rw[cF,cK (λj a=>h j (by omega))];dsimp only;rw[zn (h n (by omega))]
theorem dI{p:Nat->Bool}{k:Nat}(a:∀j,j<k->p j=true)(b:p k=false):∀ {n:Nat},k<n->cF p n=some k
 |0,h=>by omega
 |n+1,h=>by
  rw[cF];by_cases e:k=n
  ·subst e;rw[cK a];dsimp only;rw[zm (by rw[b];decide)]
  ·rw[dI a b (n:=n) (by omega)]
section
variable{T:Type}[DecidableEq T]
def oS(g:List (Option T))(k:Nat)(s:T):Bool:=decide (g.getD k none≠none)&&decide (g.getD k none≠some s)
def io(g:List (Option T))(a:List Bool)(k:Nat):Bool:=(g.getD k none).isNone||a.getD k false
def lX(E:Ao T)(l:List au):Nat->List (Option T)->List Bool->Int
 |0,_,_=> -1
 |n+1,g,s=>match cF (io g s) l.length with
  |none=> -1
  |some k=>match E.eff (l.getD k default) ((g.getD k none).getD E.start)with
   |none=>k
   |some r=>
    if aq l k=50 then lX E l n g (s.set k true)
    else if aq l k=34 then(if oS g (bE l k) r.2 then(bE l k:Int)else lX E l n (cr g (bE l k) r.2) (s.set k true))
    else if oS g (k+1) r.1 then(k:Int)+1
    else if al (aq l k)then(if oS (cr g (k+1) r.1) (bE l k) r.2 then(bE l k:Int)else lX E l n (cr (cr g (k+1) r.1) (bE l k) r.2) (s.set k true))
    else lX E l n (cr g (k+1) r.1) (s.set k true)
def jJ(E:Ao T)(l:List au):Int:=lX E l (l.length+1) ((List.replicate (l.length+1) none).set 0 (some E.start)) (List.replicate l.length false)
def f8(s:List Bool):Nat:=s.countP λa=>!a
def dV(E:Ao T)(l:List au)(g:List (Option T))(s:List Bool)(R:Int):Prop:=∃a,f8 s<a∧lX E l a g s=R
def uZ{s:List Bool}{k:Nat}(a:k<s.length)(c:s.getD k false=false):f8 (s.set k true)+1=f8 s:=by
 induction s generalizing k with
 |nil=>simp at a
 |cons b r ih=>
  cases k with
  |zero=>
   have:b=false:=by simpa using c
   subst this;simp[f8]
  |succ k=>
   have:=ih (k:=k) (by simpa using a) (by simpa using c);unfold f8 at *
   simp only[List.set_cons_succ,List.countP_cons];omega
def wI(E:Ao T)(l:List au):dV E l ((List.replicate (l.length+1) none).set 0 (some E.start)) (List.replicate l.length false) (jJ E l):=
 ⟨l.length+1,by unfold f8;have:=List.countP_le_length (p:=λa=>!a) (l:=List.replicate l.length false);simp only[List.length_replicate]at this;omega,rfl⟩
structure my(l:List au)(g:List (Option T))(s:List Bool)(k:Nat)(t:T):Prop where
 lt:k<l.length
 lenS:s.length=l.length
 got:g.getD k none=some t
 new:s.getD k false=false
 first:∀j,j<k->io g s j=true
section
variable{E:Ao T}{l:List au}{g:List (Option T)}{s:List Bool}{R:Int}{k:Nat}{t:T}{r:T × T}
def my.pick(N:my l g s k t):cF (io g s) l.length=some k:=dI N.first (by unfold io;rw[N.got,N.new];rfl) N.lt
def my.less(N:my l g s k t){n:Nat}(a:f8 s<n+1):f8 (s.set k true)<n:=by
 have:=uZ (s:=s) (k:=k) (by rw[N.lenS];exact N.lt) N.new;omega
def CQ(H:dV E l g s R)(c:∀j,j<l.length->io g s j=true):R= -1:=by
 obtain⟨a,d,b⟩:=H
 cases a with
 |zero=>omega
 |succ a=>
  rw[lX,cK c]at b;exact b.symm
def y7(H:dV E l g s R)(N:my l g s k t)(c:E.eff (l.getD k default) t=none):R=k:=by
 obtain⟨b,d,a⟩:=H
 cases b with
 |zero=>omega
 |succ b=>
  rw[lX,N.pick]at a;dsimp only at a;rw[N.got,Option.getD_some,c]at a;exact a.symm
def j9(H:dV E l g s R)(N:my l g s k t)(c:E.eff (l.getD k default) t=some r):∃n,f8 (s.set k true)<n∧R=(if aq l k=50 then lX E l n g (s.set k true)
        else if aq l k=34 then(if oS g (bE l k) r.2 then(bE l k:Int)else lX E l n (cr g (bE l k) r.2) (s.set k true))
        else if oS g (k+1) r.1 then(k:Int)+1
        else if al (aq l k)then(if oS (cr g (k+1) r.1) (bE l k) r.2 then(bE l k:Int)else lX E l n (cr (cr g (k+1) r.1) (bE l k) r.2) (s.set k true))
        else lX E l n (cr g (k+1) r.1) (s.set k true)):=by
 obtain⟨n,b,a⟩:=H
 cases n with
 |zero=>omega
 |succ n=>
  rw[lX,N.pick]at a;dsimp only at a;rw[N.got,Option.getD_some,c]at a;exact⟨n,N.less b,a.symm⟩
def n8{j:Nat}{u:T}(a:g.getD j none=none∨g.getD j none=some u):oS g j u=false:=by
 unfold oS;rcases a with a|a
 ·rw[a];simp
 ·rw[a];simp
def rC{j:Nat}{u a:T}(c:g.getD j none=some a)(b:a≠u):oS g j u=true:=by
 unfold oS;rw[c];simp[b]
def KT(H:dV E l g s R)(N:my l g s k t)(e:E.eff (l.getD k default) t=some r)(c:aq l k=50):dV E l g (s.set k true) R:=by
 obtain⟨b,d,a⟩:=j9 H N e;rw[zn c]at a;exact⟨b,d,a.symm⟩
def Lw(H:dV E l g s R)(N:my l g s k t)(f:E.eff (l.getD k default) t=some r)(a:aq l k=34)(e:g.getD (bE l k) none=none∨g.getD (bE l k) none=some r.2):dV E l (cr g (bE l k) r.2) (s.set k true) R:=by
 obtain⟨c,d,b⟩:=j9 H N f;rw[zm (by rw[a];decide),zn a,zm (by rw[n8 e];decide)]at b;exact⟨c,d,b.symm⟩
def vn(H:dV E l g s R)(N:my l g s k t)(e:E.eff (l.getD k default) t=some r)(a:aq l k=34){u:T}(c:g.getD (bE l k) none=some u)(d:u≠r.2):R=bE l k:=by
 obtain⟨f,h,b⟩:=j9 H N e;rw[zm (by rw[a];decide),zn a,zn (rC c d)]at b;exact b
def qn(H:dV E l g s R)(N:my l g s k t)(d:E.eff (l.getD k default) t=some r)(e:aq l k≠50)(f:aq l k≠34){u:T}(b:g.getD (k+1) none=some u)(c:u≠r.1):R=(k:Int)+1:=by
 obtain⟨h,i,a⟩:=j9 H N d;rw[zm e,zm f,zn (rC b c)]at a;exact a
def Cs(H:dV E l g s R)(N:my l g s k t)(f:E.eff (l.getD k default) t=some r)(h:aq l k≠50)(i:aq l k≠34)(e:g.getD (k+1) none=none∨g.getD (k+1) none=some r.1)(d:¬al (aq l k)):dV E l (cr g (k+1) r.1) (s.set k true) R:=by
 obtain⟨b,c,a⟩:=j9 H N f;rw[zm h,zm i,zm (by rw[n8 e];decide),zm d]at a;exact⟨b,c,a.symm⟩
def AW(H:dV E l g s R)(N:my l g s k t)(h:E.eff (l.getD k default) t=some r)(i:aq l k≠50)(j:aq l k≠34)(f:g.getD (k+1) none=none∨g.getD (k+1) none=some r.1)(d:al (aq l k))
 (e:(cr g (k+1) r.1).getD (bE l k) none=none∨(cr g (k+1) r.1).getD (bE l k) none=some r.2):dV E l (cr (cr g (k+1) r.1) (bE l k) r.2) (s.set k true) R:=by
 obtain⟨b,c,a⟩:=j9 H N h;rw[zm i,zm j,zm (by rw[n8 f];decide),zn d,zm (by rw[n8 e];decide)]at a;exact⟨b,c,a.symm⟩
def qe(H:dV E l g s R)(N:my l g s k t)(f:E.eff (l.getD k default) t=some r)(h:aq l k≠50)(i:aq l k≠34)(e:g.getD (k+1) none=none∨g.getD (k+1) none=some r.1)(d:al (aq l k))
 {u:T}(b:(cr g (k+1) r.1).getD (bE l k) none=some u)(c:u≠r.2):R=bE l k:=by
 obtain⟨j,m,a⟩:=j9 H N f;rw[zm h,zm i,zm (by rw[n8 e];decide),zn d,zn (rC b c)]at a;exact a
def NQ{todo:List Nat}(b:sR E l g s todo)(e:k∈todo)(d:∀j∈todo,k<=j)(f:g.getD k none=some t)(c:s.getD k false=false):my l g s k t where
 lt:=(b.want k e).1
 lenS:=b.lenS
 got:=f
 new:=c
 first:=λj i=>by
  unfold io
  cases h:g.getD j none with
  |none=>rfl
  |some u=>
   rcases b.left j u h with a|a
   ·rw[a];rfl
   ·have:=d j a;omega
def DK(b:sR E l g s []):∀j,j<l.length->io g s j=true:=λj _=>by
 unfold io
 cases a:g.getD j none with
 |none=>rfl
 |some u=>rw[(b.left j u a).resolve_right (by simp)];rfl
end
end
end
end Go.Proofs.PeepPlain

/- Parts of the proof: StkZ2 -/
import Derived.Test.YtmecmlpoallpcaaGreatDoorM19
set_option linter.all false
set_option maxHeartbeats 8000000
namespace Go.Proofs.YtmecmlpoallpcaaGreatDoor
open Go.Proofs.Tryz
section
set_option maxRecDepth 20000
open Go.RowKit Go.Proofs.PeepPlain
structure rH(Bo:Nat)(K:List Nat)(p:Nat)(S:List (List Int))(k a:Nat)(b:Int)(s:List Int)(w:World):Prop where
 H:cQ Bo K w p S
 hk:S[k]?=some s
 hB:Bo<=w.heap.size
 hK:∀k∈K,k<w.heap.size
 hS:S.length<=900000
 hs:s.length<=100000
 ha:a<=100000
 hb:0<=b∧b<=3
section
variable{Bo:Nat}{K:List Nat}{p:Nat}{S S2:List (List Int)}{k a k2:Nat}{b pos x n:Int}{text:ByteArray}{s t u s2:List Int}{w w3:World}{i:au}
def cG(Bo:Nat)(K:List Nat)(p:Nat)(S:List (List Int))(k a:Nat)(b pos:Int)(text:ByteArray)(w:World)(op:Int)(r:Option (Option (List Int) × Option (List Int))):Prop:=
 Calls prog 51 #[.pointer (some ⟨p,0,none⟩),br ⟨op,a,b,text,pos⟩,.int .i64 k] w (lQ Bo K p S r w)
def ex(c:Hid (rH Bo K p S k a b s w))(op:Int)(l:1<=op)(j:op<=53)(g:ai op a b=(-1,0)):
 Calls prog 85 #[br ⟨op,a,b,text,pos⟩] (w.alloc (.cells (aZ ⟨op,a,b,text,pos⟩).toArray 50)) λe w3=>e= .returned (.tuple #[.int .i64 (-1),.int .i64 0])∧Hid (vO Bo K p S w ⟨op,a,b,text,pos⟩ S w3)∧w3.cell? ⟨w.heap.size,0,none⟩=some (.int .i64 op)∧w3.cell? ⟨w.heap.size,1,none⟩=some (.int .i64 (a:Int))∧w.heap.size<w3.heap.size:=by
 have f:=sB ⟨op,a,b,text,pos⟩ (w.alloc (.cells (aZ ⟨op,a,b,text,pos⟩).toArray 50)) l j ⟨by dsimp only;omega,by have:=c.ha;dsimp only;omega⟩ c.hb;unfold FQ at f;rw[g]at f;refine f.mono ?_;rintro e w3 ⟨rfl,h⟩;have d:=vO.start (i:=⟨op,a,b,text,pos⟩) c.H c.hB c.hK h;exact⟨rfl,za d,d.box.cell 0,d.box.cell 1,d.box.lt⟩
def vN(c:Hid (rH Bo K p S k a b s w)):Hid (S[k]?=some s∧s.length<=100000):=za ⟨c.hk,c.hs⟩
def im(g:Hid (rH Bo K p S k a b s w))(d:Hid (vO Bo K p S w i S w3))(c N:Nat)(q:Hid (S[k2]?=some s2∧s2.length<=100000))(l:Hid (aw (aI c) N s2=none))(m:c<3)(r:N<=100000)(h:x=c)(j:n=N):
 Calls prog 86 #[.pointer (some ⟨p,0,none⟩),.int .i64 k2,.int .i64 x,.int .i64 n] w3 λe f=>e= .returned (.tuple #[.int .i64 0,.bool false])∧Hid (vO Bo K p S w i S f)∧Hid (S[0]?=some []∧([]:List Int).length<=100000):=by
 have:=g.hS;refine(wY c N d.stk q.1 m (by omega) h j (by omega) l.out).mono ?_;rintro e f ⟨rfl,o⟩;exact⟨rfl,za (d.below o g.hB),za ⟨d.stk.ok.zero,by simp⟩⟩
def gY(h:Hid (rH Bo K p S k a b s w))(l:Hid (vO Bo K p S w i S w3))(c N:Nat)(g:Hid (S[k2]?=some s2∧s2.length<=100000))(f:Hid (aw (aI c) N s2=some t))(r:c<3)(y:N<=100000)(m:x=c)(o:n=N):
 Calls prog 86 #[.pointer (some ⟨p,0,none⟩),.int .i64 k2,.int .i64 x,.int .i64 n] w3 λe d=> ∃j:Nat,e= .returned (.tuple #[.int .i64 j,.bool true])∧Hid (vO Bo K p S w i S d)∧Hid (S[j]?=some t∧t.length<=100000):=by
 have:=h.hS;refine(iS c N l.stk g.1 r (by omega) m o (by omega) f.out).mono ?_;rintro e d ⟨⟨j,q,rfl⟩,v⟩;exact⟨j,rfl,za (l.below v h.hB),za ⟨q,by have:=kT f.out;have:=g.2;omega⟩⟩
def fY(A:Hid (rH Bo K p S k a b s w))(h:Hid (vO Bo K p S w i S w3))(c N:Nat)(g:Hid (S[k2]?=some s2∧s2.length<=100000))(y:c<3)(C:N<=4)(m:x=c)(q:n=N):
 Calls prog 87 #[.pointer (some ⟨p,0,none⟩),.int .i64 k2,.int .i64 x,.int .i64 n] w3 λe d=> ∃(S2:List (List Int)) (j:Nat),e= .returned (.int .i64 j)∧Hid (vO Bo K p S w i S2 d)∧Hid (S2[j]?=some (List.replicate N (aI c)++s2))∧Hid (S<+:S2)∧Hid (S2.length<=S.length+4):=by
 have:=A.hS;refine(fP c N h.stk g.1 y (by omega) (by have:=g.2;omega) m q (by omega)).mono ?_;rintro e d ⟨z,l,rfl,f,B,v,o,r⟩;exact⟨z,l,rfl,za (h.push o r f),za v,za f,za (by omega)⟩
def kB{j:Nat}(f:Hid (vO Bo K p S w i S2 w3))(d:Hid (S2.length<=S.length+4))(e:S2[j]?=some u):lQ Bo K p S (some (some u,none)) w (.returned (.tuple #[.int .i64 j,.int .i64 (-1),.bool true])) w3:=
 f.done d.out (λc=>by cases c) (λon g c=>by obtain⟨rfl,rfl⟩:=Prod.mk.inj (zj c);exact⟨rfl,⟨j,rfl,e⟩,rfl⟩)
def qG{x c:Int}(f:Hid (vO Bo K p S w i S2 w3))(e:Hid (S2.length<=S.length+4)):lQ Bo K p S none w (.returned (.tuple #[.int .i64 x,.int .i64 c,.bool false])) w3:=
 f.done e.out (λ_=>rfl) (λon g d=>by cases d)
def My(d:rH Bo K p S k a b s w):cG Bo K p S k a b pos text w 38 (some (some (112::s),none)):=by
 have c:=za d;have g:=vN c;have z:=za (show S.length<=S.length+4 by omega);clear d;unfold cG br;go_enter func51,ntmps51;go_wp2_with (first
  |(go_at_call 85;refine(ex c 38 (by omega) (by omega) (by simp[ai])).mono ?_;rintro e w3 ⟨rfl,l,q,o,m⟩)
  |(go_at_call 87;refine(fY c l 1 1 g (by omega) (by omega) rfl rfl).mono ?_;rintro e r ⟨y,v,rfl,j,h,A,f⟩))
 go_ret3;exact kB j f h.out
def ND(d:rH Bo K p S k a b s w):cG Bo K p S k a b pos text w 39 (some (some (112::s),none)):=by
 have c:=za d;have g:=vN c;have z:=za (show S.length<=S.length+4 by omega);clear d;unfold cG br;go_enter func51,ntmps51;go_wp2_with (first
  |(go_at_call 85;refine(ex c 39 (by omega) (by omega) (by simp[ai])).mono ?_;rintro e w3 ⟨rfl,l,q,o,m⟩)
  |(go_at_call 87;refine(fY c l 1 1 g (by omega) (by omega) rfl rfl).mono ?_;rintro e r ⟨y,v,rfl,j,h,A,f⟩))
 go_ret3;exact kB j f h.out
def MZ(d:rH Bo K p S k a b s w):cG Bo K p S k a b pos text w 40 (some (some (112::s),none)):=by
 have c:=za d;have g:=vN c;have z:=za (show S.length<=S.length+4 by omega);clear d;unfold cG br;go_enter func51,ntmps51;go_wp2_with (first
  |(go_at_call 85;refine(ex c 40 (by omega) (by omega) (by simp[ai])).mono ?_;rintro e w3 ⟨rfl,l,q,o,m⟩)
  |(go_at_call 87;refine(fY c l 1 1 g (by omega) (by omega) rfl rfl).mono ?_;rintro e r ⟨y,v,rfl,j,h,A,f⟩))
 go_ret3;exact kB j f h.out
def DT(f:rH Bo K p S k a b s w)(d:aw (aI 0) 1 s=none):cG Bo K p S k a b pos text w 41 (none):=by
 have c:=za f;have j:=vN c;have D:=za (show S.length<=S.length+4 by omega);have g:=za d;clear f d;unfold cG br;go_enter func51,ntmps51;go_wp2_with (first
  |(go_at_call 85;refine(ex c 41 (by omega) (by omega) (by simp[ai])).mono ?_;rintro e w3 ⟨rfl,q,y,v,r⟩)
  |(go_at_call 86;refine(im c q 0 1 j g (by omega) (by have:=c.ha;omega) rfl rfl).mono ?_;rintro e A ⟨rfl,o,l⟩;clear g)
  |(go_at_call 87;refine(fY c o 1 1 l (by omega) (by omega) rfl rfl).mono ?_;rintro e z ⟨C,B,rfl,m,E,F,h⟩))
 go_ret3;exact qG m h
def Nj(f:rH Bo K p S k a b s w)(d:aw (aI 0) 1 s=some t):cG Bo K p S k a b pos text w 41 (some (some (112::t),none)):=by
 have c:=za f;have j:=vN c;have F:=za (show S.length<=S.length+4 by omega);have g:=za d;clear f d;unfold cG br;go_enter func51,ntmps51;go_wp2_with (first
  |(go_at_call 85;refine(ex c 41 (by omega) (by omega) (by simp[ai])).mono ?_;rintro e w3 ⟨rfl,r,z,y,v⟩)
  |(go_at_call 86;refine(gY c r 0 1 j g (by omega) (by have:=c.ha;omega) rfl rfl).mono ?_;rintro e B ⟨D,rfl,q,m⟩;clear g)
  |(go_at_call 87;refine(fY c q 1 1 m (by omega) (by omega) rfl rfl).mono ?_;rintro e A ⟨E,C,rfl,o,l,G,h⟩))
 go_ret3;exact kB o h l.out
def Fu(f:rH Bo K p S k a b s w)(d:aw (aI 0) 2 s=none):cG Bo K p S k a b pos text w 42 (none):=by
 have c:=za f;have j:=vN c;have D:=za (show S.length<=S.length+4 by omega);have g:=za d;clear f d;unfold cG br;go_enter func51,ntmps51;go_wp2_with (first
  |(go_at_call 85;refine(ex c 42 (by omega) (by omega) (by simp[ai])).mono ?_;rintro e w3 ⟨rfl,q,y,v,r⟩)
  |(go_at_call 86;refine(im c q 0 2 j g (by omega) (by have:=c.ha;omega) rfl rfl).mono ?_;rintro e A ⟨rfl,o,l⟩;clear g)
  |(go_at_call 87;refine(fY c o 1 1 l (by omega) (by omega) rfl rfl).mono ?_;rintro e z ⟨C,B,rfl,m,E,F,h⟩))
 go_ret3;exact qG m h
def NC(f:rH Bo K p S k a b s w)(d:aw (aI 0) 2 s=some t):cG Bo K p S k a b pos text w 42 (some (some (112::t),none)):=by
 have c:=za f;have j:=vN c;have F:=za (show S.length<=S.length+4 by omega);have g:=za d;clear f d;unfold cG br;go_enter func51,ntmps51;go_wp2_with (first
  |(go_at_call 85;refine(ex c 42 (by omega) (by omega) (by simp[ai])).mono ?_;rintro e w3 ⟨rfl,r,z,y,v⟩)
  |(go_at_call 86;refine(gY c r 0 2 j g (by omega) (by have:=c.ha;omega) rfl rfl).mono ?_;rintro e B ⟨D,rfl,q,m⟩;clear g)
  |(go_at_call 87;refine(fY c q 1 1 m (by omega) (by omega) rfl rfl).mono ?_;rintro e A ⟨E,C,rfl,o,l,G,h⟩))
 go_ret3;exact kB o h l.out
def EI(f:rH Bo K p S k a b s w)(d:aw (aI 0) 1 s=none):cG Bo K p S k a b pos text w 51 (none):=by
 have c:=za f;have j:=vN c;have D:=za (show S.length<=S.length+4 by omega);have g:=za d;clear f d;unfold cG br;go_enter func51,ntmps51;go_wp2_with (first
  |(go_at_call 85;refine(ex c 51 (by omega) (by omega) (by simp[ai])).mono ?_;rintro e w3 ⟨rfl,q,y,v,r⟩)
  |(go_at_call 86;refine(im c q 0 1 j g (by omega) (by have:=c.ha;omega) rfl rfl).mono ?_;rintro e A ⟨rfl,o,l⟩;clear g)
  |(go_at_call 87;refine(fY c o 2 1 l (by omega) (by omega) rfl rfl).mono ?_;rintro e z ⟨C,B,rfl,m,E,F,h⟩))
 go_ret3;exact qG m h
def Ni(f:rH Bo K p S k a b s w)(d:aw (aI 0) 1 s=some t):cG Bo K p S k a b pos text w 51 (some (some (116::t),none)):=by
 have c:=za f;have j:=vN c;have F:=za (show S.length<=S.length+4 by omega);have g:=za d;clear f d;unfold cG br;go_enter func51,ntmps51;go_wp2_with (first
  |(go_at_call 85;refine(ex c 51 (by omega) (by omega) (by simp[ai])).mono ?_;rintro e w3 ⟨rfl,r,z,y,v⟩)
  |(go_at_call 86;refine(gY c r 0 1 j g (by omega) (by have:=c.ha;omega) rfl rfl).mono ?_;rintro e B ⟨D,rfl,q,m⟩;clear g)
  |(go_at_call 87;refine(fY c q 2 1 m (by omega) (by omega) rfl rfl).mono ?_;rintro e A ⟨E,C,rfl,o,l,G,h⟩))
 go_ret3;exact kB o h l.out
def Hk(f:rH Bo K p S k a b s w)(d:aw (aI 0) 1 s=some t):cG Bo K p S k a b pos text w 43 (some (some (112::t),none)):=by
 have c:=za f;have j:=vN c;have F:=za (show S.length<=S.length+4 by omega);have g:=za d;clear f d;unfold cG br;go_enter func51,ntmps51;go_wp2_with (first
  |(go_at_call 85;refine(ex c 43 (by omega) (by omega) (by simp[ai])).mono ?_;rintro e w3 ⟨rfl,r,z,y,v⟩)
  |(go_at_call 86;refine(gY c r 0 1 j g (by omega) (by have:=c.ha;omega) rfl rfl).mono ?_;rintro e B ⟨D,rfl,q,m⟩;clear g)
  |(go_at_call 87;refine(fY c q 1 1 m (by omega) (by omega) rfl rfl).mono ?_;rintro e A ⟨E,C,rfl,o,l,G,h⟩))
 go_ret3;exact kB o h l.out
def Hr(h:rH Bo K p S k a b s w)(f:aw (aI 0) 1 s=none)(e:aw (aI 1) 1 s=some t):cG Bo K p S k a b pos text w 43 (some (some (112::t),none)):=by
 have c:=za h;have g:=vN c;have J:=za (show S.length<=S.length+4 by omega);have l:=za f;have j:=za e;clear h f e;unfold cG br;go_enter func51,ntmps51;go_wp2_with (first
  |(go_at_call 85;refine(ex c 43 (by omega) (by omega) (by simp[ai])).mono ?_;rintro d w3 ⟨rfl,z,C,B,A⟩)
  |(go_at_call 86;refine(im c z 0 1 g l (by omega) (by have:=c.ha;omega) rfl rfl).mono ?_;rintro d F ⟨rfl,y,L⟩;clear l)
  |(go_at_call 86;refine(gY c y 1 1 g j (by omega) (by have:=c.ha;omega) rfl rfl).mono ?_;rintro d E ⟨H,rfl,v,q⟩;clear j)
  |(go_at_call 87;refine(fY c v 1 1 q (by omega) (by omega) rfl rfl).mono ?_;rintro d D ⟨I,G,rfl,r,o,M,m⟩))
 go_ret3;exact kB r m o.out
def Fs(h:rH Bo K p S k a b s w)(f:aw (aI 0) 1 s=none)(e:aw (aI 1) 1 s=none):cG Bo K p S k a b pos text w 43 (none):=by
 have c:=za h;have g:=vN c;have H:=za (show S.length<=S.length+4 by omega);have l:=za f;have j:=za e;clear h f e;unfold cG br;go_enter func51,ntmps51;go_wp2_with (first
  |(go_at_call 85;refine(ex c 43 (by omega) (by omega) (by simp[ai])).mono ?_;rintro d w3 ⟨rfl,y,B,A,z⟩)
  |(go_at_call 86;refine(im c y 0 1 g l (by omega) (by have:=c.ha;omega) rfl rfl).mono ?_;rintro d E ⟨rfl,v,J⟩;clear l)
  |(go_at_call 86;refine(im c v 1 1 g j (by omega) (by have:=c.ha;omega) rfl rfl).mono ?_;rintro d D ⟨rfl,r,o⟩;clear j)
  |(go_at_call 87;refine(fY c r 1 1 o (by omega) (by omega) rfl rfl).mono ?_;rintro d C ⟨G,F,rfl,q,I,L,m⟩))
 go_ret3;exact qG q m
def DU(g:rH Bo K p S k a b s w)(d:aw (aI 1) 1 s=none):cG Bo K p S k a b pos text w 44 (none):=by
 have c:=za g;have f:=vN c;have C:=za (show S.length<=S.length+4 by omega);have h:=za d;clear g d;unfold cG br;go_enter func51,ntmps51;go_wp2_with (first
  |(go_at_call 85;refine(ex c 44 (by omega) (by omega) (by simp[ai])).mono ?_;rintro e w3 ⟨rfl,o,v,r,q⟩)
  |(go_at_call 86;refine(im c o 1 1 f h (by omega) (by have:=c.ha;omega) rfl rfl).mono ?_;rintro e z ⟨rfl,m,E⟩;clear h)
  |(go_at_call 87;refine(fY c m 0 1 f (by omega) (by omega) rfl rfl).mono ?_;rintro e y ⟨B,A,rfl,l,D,F,j⟩))
 go_ret3;exact qG l j
def MA(g:rH Bo K p S k a b s w)(d:aw (aI 1) 1 s=some t):cG Bo K p S k a b pos text w 44 (some (some (118::s),none)):=by
 have c:=za g;have f:=vN c;have E:=za (show S.length<=S.length+4 by omega);have h:=za d;clear g d;unfold cG br;go_enter func51,ntmps51;go_wp2_with (first
  |(go_at_call 85;refine(ex c 44 (by omega) (by omega) (by simp[ai])).mono ?_;rintro e w3 ⟨rfl,q,y,v,r⟩)
  |(go_at_call 86;refine(gY c q 1 1 f h (by omega) (by have:=c.ha;omega) rfl rfl).mono ?_;rintro e A ⟨C,rfl,o,F⟩;clear h)
  |(go_at_call 87;refine(fY c o 0 1 f (by omega) (by omega) rfl rfl).mono ?_;rintro e z ⟨D,B,rfl,m,l,G,j⟩))
 go_ret3;exact kB m j l.out
def Jl(e:rH Bo K p S k a b s w)(d:aw (aI 0) 1 s=none):cG Bo K p S k a b pos text w 45 (none):=by
 have c:=za e;have j:=vN c;have h:=za (show S.length<=S.length+4 by omega);have f:=za d;clear e d;unfold cG br;go_enter func51,ntmps51;go_wp2_with (first
  |(go_at_call 85;refine(ex c 45 (by omega) (by omega) (by simp[ai])).mono ?_;rintro g w3 ⟨rfl,m,r,q,o⟩)
  |(go_at_call 86;refine(im c m 0 1 j f (by omega) (by have:=c.ha;omega) rfl rfl).mono ?_;rintro g v ⟨rfl,l,y⟩;clear f))
 go_ret3;exact qG l h
def Hg(g:rH Bo K p S k a b s w)(e:aw (aI 0) 1 s=some t)(d:aw (aI 1) 1 t=none):cG Bo K p S k a b pos text w 45 (none):=by
 have c:=za g;have m:=vN c;have l:=za (show S.length<=S.length+4 by omega);have j:=za e;have h:=za d;clear g e d;unfold cG br;go_enter func51,ntmps51;go_wp2_with (first
  |(go_at_call 85;refine(ex c 45 (by omega) (by omega) (by simp[ai])).mono ?_;rintro f w3 ⟨rfl,v,A,z,y⟩)
  |(go_at_call 86;refine(gY c v 0 1 m j (by omega) (by have:=c.ha;omega) rfl rfl).mono ?_;rintro f C ⟨D,rfl,r,o⟩;clear j)
  |(go_at_call 86;refine(im c r 1 1 o h (by omega) (by have:=c.ha;omega) rfl rfl).mono ?_;rintro f B ⟨rfl,q,E⟩;clear h))
 go_ret3;exact qG q l
def ML(g:rH Bo K p S k a b s w)(e:aw (aI 0) 1 s=some t)(d:aw (aI 1) 1 t=some u):cG Bo K p S k a b pos text w 45 (some (some u,none)):=by
 have c:=za g;have m:=vN c;have l:=za (show S.length<=S.length+4 by omega);have j:=za e;have h:=za d;clear g e d;unfold cG br;go_enter func51,ntmps51;go_wp2_with (first
  |(go_at_call 85;refine(ex c 45 (by omega) (by omega) (by simp[ai])).mono ?_;rintro f w3 ⟨rfl,y,B,A,z⟩)
  |(go_at_call 86;refine(gY c y 0 1 m j (by omega) (by have:=c.ha;omega) rfl rfl).mono ?_;rintro f D ⟨F,rfl,v,q⟩;clear j)
  |(go_at_call 86;refine(gY c v 1 1 q h (by omega) (by have:=c.ha;omega) rfl rfl).mono ?_;rintro f C ⟨E,rfl,r,o⟩;clear h))
 go_ret3;exact kB r l o.1
def EV(g:rH Bo K p S k a b s w)(d:aw (aI 2) 1 s=none):cG Bo K p S k a b pos text w 52 (none):=by
 have c:=za g;have f:=vN c;have C:=za (show S.length<=S.length+4 by omega);have h:=za d;clear g d;unfold cG br;go_enter func51,ntmps51;go_wp2_with (first
  |(go_at_call 85;refine(ex c 52 (by omega) (by omega) (by simp[ai])).mono ?_;rintro e w3 ⟨rfl,o,v,r,q⟩)
  |(go_at_call 86;refine(im c o 2 1 f h (by omega) (by have:=c.ha;omega) rfl rfl).mono ?_;rintro e z ⟨rfl,m,E⟩;clear h)
  |(go_at_call 87;refine(fY c m 0 2 f (by omega) (by omega) rfl rfl).mono ?_;rintro e y ⟨B,A,rfl,l,D,F,j⟩))
 go_ret3;exact qG l j
def NS(h:rH Bo K p S k a b s w)(e:aw (aI 2) 1 s=some t):cG Bo K p S k a b pos text w 52 (some (some (118::118::s),some t)):=by
 have c:=za h;have g:=vN c;have I:=za (show S.length<=S.length+4 by omega);have j:=za e;clear h e;unfold cG br;go_enter func51,ntmps51;go_wp2_with (first
  |(go_at_call 85;refine(ex c 52 (by omega) (by omega) (by simp[ai])).mono ?_;rintro f w3 ⟨rfl,A,D,C,B⟩)
  |(go_at_call 86;refine(gY c A 2 1 g j (by omega) (by have:=c.ha;omega) rfl rfl).mono ?_;rintro f F ⟨m,rfl,z,r⟩;clear j)
  |(go_at_call 87;refine(fY c z 0 2 g (by omega) (by omega) rfl rfl).mono ?_;rintro f E ⟨H,l,rfl,y,q,v,o⟩))
 go_ret3;exact y.done o.out (λd=>by cases d) (λon G d=>by obtain⟨rfl,rfl⟩:=Prod.mk.inj (zj d);exact⟨rfl,⟨l,rfl,q⟩,⟨m,rfl,ET v.out r.1⟩⟩)
def DF(e:rH Bo K p S k a b s w)(d:aw (aI 2) a s=none):cG Bo K p S k a b pos text w 53 (none):=by
 have c:=za e;have j:=vN c;have h:=za (show S.length<=S.length+4 by omega);have f:=za d;clear e d;unfold cG br;go_enter func51,ntmps51;go_wp2_with (first
  |(go_at_call 85;refine(ex c 53 (by omega) (by omega) (by simp[ai])).mono ?_;rintro g w3 ⟨rfl,m,r,q,o⟩)
  |(go_at_call 86;refine(im c m 2 a j f (by omega) (by have:=c.ha;omega) rfl rfl).mono ?_;rintro g v ⟨rfl,l,y⟩;clear f))
 go_ret3;exact qG l h
def MT(e:rH Bo K p S k a b s w)(d:aw (aI 2) a s=some t):cG Bo K p S k a b pos text w 53 (some (some t,none)):=by
 have c:=za e;have j:=vN c;have h:=za (show S.length<=S.length+4 by omega);have f:=za d;clear e d;unfold cG br;go_enter func51,ntmps51;go_wp2_with (first
  |(go_at_call 85;refine(ex c 53 (by omega) (by omega) (by simp[ai])).mono ?_;rintro g w3 ⟨rfl,o,v,r,q⟩)
  |(go_at_call 86;refine(gY c o 2 a j f (by omega) (by have:=c.ha;omega) rfl rfl).mono ?_;rintro g y ⟨z,rfl,m,l⟩;clear f))
 go_ret3;exact kB m h l.1
end
def CS(op a b:Int)(g:1<=op)(f:op<=53)(j:0<=a∧a<=100000)(h:0<=b∧b<=3)(e:op=26->1<=a):(0<=(ai op a b).1∧(ai op a b).1<=1000000∧0<=(ai op a b).2∧(ai op a b).2<=2)∨(op=38∨op=39∨op=40∨op=41∨op=42∨op=43∨op=44∨op=45∨op=51∨op=52∨op=53):=by
 by_cases d:op=38∨op=39∨op=40∨op=41∨op=42∨op=43∨op=44∨op=45∨op=51∨op=52∨op=53
 ·exact .inr d
 left;have c:op=1∨op=2∨op=3∨op=4∨op=5∨op=6∨op=7∨op=8∨op=9∨op=10∨op=11∨op=12∨op=13∨op=14∨op=15∨op=16∨op=17∨op=18∨op=19∨op=20∨op=21∨op=22∨op=23∨op=24∨op=25∨op=26∨op=27∨op=28∨op=29∨op=30∨op=31∨op=32∨op=33∨op=34∨op=35∨op=36∨op=37∨op=46∨op=47∨op=48∨op=49∨op=50:=by omega
 clear d g f
 repeat' (apply Or.elim c<;>(clear c;intro c))
 all_goals
  subst c
  first
  |(simp[ai];done)
  |(have:=e rfl
    rw[show ai 26 a b=(if b=0 then a+1 else if b=3 then a - 1 else a,1)from by simp[ai]];dsimp only;split
    ·omega
    ·split<;>omega)
  |(rw[show ai 27 a b=(a,1)from by simp[ai]];dsimp only;omega)
  |(rw[show ai 28 a b=(2 * a,1)from by simp[ai]];dsimp only;omega)
  |(rw[show ai 29 a b=(a,1)from by simp[ai]];dsimp only;omega)
  |(rw[show ai 46 a b=(a+1,1)from by simp[ai]];dsimp only;omega)
  |(rw[show ai 47 a b=(a,1)from by simp[ai]];dsimp only;omega)
  |(rw[show ai 48 a b=(a+1,0)from by simp[ai]];dsimp only;omega)
  |(rw[show ai 49 a b=(a,0)from by simp[ai]];dsimp only;omega)
def Ig(Bo:Nat)(K:List Nat)(p:Nat)(S:List (List Int))(k:Nat)(s:List Int)(i:au)(w:World)(H:cQ Bo K w p S)(q:S[k]?=some s)(y:Bo<=w.heap.size)(v:∀k∈K,k<w.heap.size)(r:S.length<=900000)(m:s.length<=100000)(l:1<=i.op)(j:i.op<=53)(h:0<=i.a∧i.a<=100000)(g:0<=i.b∧i.b<=3)(z:i.op=26->1<=i.a):
 Calls prog 51 #[.pointer (some ⟨p,0,none⟩),br i,.int .i64 k] w (lQ Bo K p S (bu i s) w):=by
 rcases CS i.op i.a i.b l j h g z with⟨D,C,B,A⟩|o
 ·exact Iq Bo K p S k (ai i.op i.a i.b).1.toNat (ai i.op i.a i.b).2.toNat s i w H q y v r m l j h g (Prod.ext (by dsimp only;omega) (by dsimp only;omega)) (by omega) (by omega)
 ·obtain⟨op,a,b,text,pos⟩:=i;dsimp only at l j h g o;obtain⟨e,rfl⟩:∃e:Nat,a=(e:Int):=⟨a.toNat,by omega⟩
  have d:rH Bo K p S k e b s w:=⟨H,q,y,v,r,m,by omega,g⟩
  show cG Bo K p S k e b pos text w op _;rcases o with rfl|rfl|rfl|rfl|rfl|rfl|rfl|rfl|rfl|rfl|rfl
  ·rw[show bu ⟨38,(e:Int),b,text,pos⟩ s=some (some (112::s),none)from by simp[bu,ai]];exact My d
  ·rw[show bu ⟨39,(e:Int),b,text,pos⟩ s=some (some (112::s),none)from by simp[bu,ai]];exact ND d
  ·rw[show bu ⟨40,(e:Int),b,text,pos⟩ s=some (some (112::s),none)from by simp[bu,ai]];exact MZ d
  ·rw[show bu ⟨41,(e:Int),b,text,pos⟩ s=(aw 118 1 s).map λt=>(some (112::t),none)from by simp[bu,ai]]
   cases c:aw 118 1 s with
   |none=>exact DT d c
   |some t=>exact Nj d c
  ·rw[show bu ⟨42,(e:Int),b,text,pos⟩ s=(aw 118 2 s).map λt=>(some (112::t),none)from by simp[bu,ai]]
   cases c:aw 118 2 s with
   |none=>exact Fu d c
   |some t=>exact NC d c
  ·rw[show bu ⟨43,(e:Int),b,text,pos⟩ s=((aw 118 1 s).or (aw 112 1 s)).map λt=>(some (112::t),none)from by simp[bu,ai]]
   cases c:aw 118 1 s with
   |some t=>exact Hk d c
   |none=>
    cases f:aw 112 1 s with
    |none=>exact Fs d c f
    |some t=>exact Hr d c f
  ·rw[show bu ⟨44,(e:Int),b,text,pos⟩ s=(aw 112 1 s).map λt=>(some (118::s),none)from by simp[bu,ai]]
   cases c:aw 112 1 s with
   |none=>exact DU d c
   |some t=>exact MA d c
  ·rw[show bu ⟨45,(e:Int),b,text,pos⟩ s=((aw 118 1 s).bind (aw 112 1)).map λt=>(some t,none)from by simp[bu,ai]]
   cases c:aw 118 1 s with
   |none=>exact Jl d c
   |some t=>
    rw[Option.bind_some]
    cases f:aw 112 1 t with
    |none=>exact Hg d c f
    |some u=>exact ML d c f
  ·rw[show bu ⟨51,(e:Int),b,text,pos⟩ s=(aw 118 1 s).map λt=>(some (116::t),none)from by simp[bu,ai]]
   cases c:aw 118 1 s with
   |none=>exact EI d c
   |some t=>exact Ni d c
  ·rw[show bu ⟨52,(e:Int),b,text,pos⟩ s=(aw 116 1 s).map λt=>(some (118::118::s),some t)from by simp[bu,ai]]
   cases c:aw 116 1 s with
   |none=>exact EV d c
   |some t=>exact NS d c
  ·rw[show bu ⟨53,(e:Int),b,text,pos⟩ s=(aw 116 e s).map λt=>(some t,none)from by simp[bu,ai]]
   cases c:aw 116 e s with
   |none=>exact DF d c
   |some t=>exact MT d c
end
end Go.Proofs.YtmecmlpoallpcaaGreatDoor

/- Parts of the proof: StkF -/
import Derived.Test.YtmecmlpoallpcaaGreatDoorM21
import Derived.Test.YtmecmlpoallpcaaGreatDoorM15
import Derived.Test.YtmecmlpoallpcaaGreatDoorM17
import Derived.Deep.RegionHeld3
import Derived.Deep.DeepCutAuto
set_option linter.all false
set_option maxHeartbeats 8000000
namespace Go.Proofs.YtmecmlpoallpcaaGreatDoor
open Go.Proofs.Tryz
section
open Go.RowKit Go.Proofs.PeepPlain
def cQ.setK{n:Nat}{e:List Nat}{w:World}{p:Nat}{S:List (List Int)}(H:cQ n e w p S){x:Nat}(j:x∈e)(i:Nat)(u:Value):cQ n e (w.setCell ⟨x,i,none⟩ u) p S:=by
 obtain⟨o,r,q,t,a⟩:=H.recs;have m:∀b,b≠x->(w.setCell ⟨x,i,none⟩ u).heap[b]?=w.heap[b]?:=λb c=>zY _ _ _ _ c;have v:(w.setCell ⟨x,i,none⟩ u).heap.size=w.heap.size:=by simp[World.setCell]
 exact⟨H.ok,o,r,q,t,⟨(m p (by rintro rfl;exact a.pK j)).trans a.row,λf k=>aE (a.own f k) λb c=>m b (by rintro rfl;exact a.nK f k _ c j),a.apart,a.np,a.low,a.pK,a.nK,λb c=>by rw[v];exact a.kl b c⟩⟩
structure cU(w:World)(CA:Option Addr)(l:List au)(P h d:Nat)(pc:List Value)(g:List (Option (List Int)))(s:List Bool)(H:List Int)(S:List (List Int))(wr:World):Prop where
 stk:cQ (w.heap.size+1+1) [d,h] wr P S
 has:ah wr h 3 (bv H)
 dn:ah wr d 3 (bv (eY s))
 z:ah wr (w.heap.size+1) 30 [.int .i64 0,.int .i64 0,.string ⟨#[]⟩]
 below:Below w.heap.size w wr
 ins:bX wr CA l
 ok:sN S g H l.length
 slen:s.length=l.length
 few:S.length+4 * PeepPlain.f8 s<=4 * l.length+1
 hd:w.heap.size+1+1<=h∧w.heap.size+1+1<=d∧h≠d
def oP{w wr:World}{x:Nat}{t:TypeId}{a:List Value}(h:ah w x t a)(b:zz w wr):ah wr x t a:=h.below b h.lt
section
variable{w:World}{CA:Option Addr}{l:List au}{P h d:Nat}{pc:List Value}{g g':List (Option (List Int))}{s s':List Bool}{H H':List Int}{S S':List (List Int)}{wr w':World}
def cU.more(a:cU w CA l P h d pc g s H S wr)(b:zz wr w'):cU w CA l P h d pc g s H S w':=
 ⟨a.stk.below b,oP a.has b,oP a.dn b,oP a.z b,ac a.below b a.below.size,a.ins.below b,a.ok,a.slen,a.few,a.hd⟩
def cU.low(a:cU w CA l P h d pc g s H S wr):w.heap.size+1<wr.heap.size:=a.z.lt
def cU.mark(a:cU w CA l P h d pc g s H S wr)(k:Nat):cQ (w.heap.size+1+1) [d,h] (wr.setCell ⟨d,k,none⟩ (.int .i64 1)) P S∧ah (wr.setCell ⟨d,k,none⟩ (.int .i64 1)) h 3 (bv H)∧ah (wr.setCell ⟨d,k,none⟩ (.int .i64 1)) d 3 (bv (eY (s.set k true))):=by
 refine⟨a.stk.setK (by simp) k _,a.has.setFar a.hd.2.2 _,?_⟩;have:=a.dn.set k (.int .i64 1);rw[<-gV]at this;have b:(eY s).set k 1=eY (s.set k true):=by
  unfold eY;rw[List.map_set];rfl
 rw[b]at this;exact this
end
def nr(w:World)(d:Nat):Nat:=match w.heap[d]? with
 |some (.cells cs _ _)=>cs.toList.countP λa=>match a with| .int _ 0=>true|_=>false
 |_=>0
def qW{w:World}{d:Nat}{s:List Bool}(h:ah w d 3 (bv (eY s))):nr w d=PeepPlain.f8 s:=by
 unfold ah at h;unfold nr;rw[h];unfold PeepPlain.f8 bv eY;simp only[List.countP_map];congr 1;funext b
 cases b<;>rfl
def Rq(g:List (Option (List Int)))(k a:Nat)(on th:Option (List Int))(s':List Bool)(j m:Nat)(g':List (Option (List Int))):Prop:=
 (j=0∧m=k+1∧g'=g)∨(j=1∧m=k+1∧g'=jy g (k+1) on∧mZ g (k+1) on)∨(j=2∧m<=k+1∧g'=jy (jy g (k+1) on) a th∧mZ g (k+1) on∧mZ (jy g (k+1) on) a th∧(th≠none->s'.getD a false=false->m<=a))
def qA{w:World}{CA:Option Addr}{l:List au}{P h:Nat}{pc:List Value}{g:List (Option (List Int))}{s:List Bool}{H:List Int}{S:List (List Int)}{wr:World}(a:cU w CA l P h (h+1) pc g s H S wr)(i:bX w CA l){j q:Nat}{u:List Int}(f:j<l.length)(e:S[q]?=some u)(c:u.length<=30000)(k:g.getD j none=none∨g.getD j none=some u):
 cU w CA l P h (h+1) pc (cr g j u) s (H.set j q) S (wr.setCell ⟨h,j,none⟩ (.int .i64 (q:Int))):=by
 have b:Below w.heap.size w (wr.setCell ⟨h,j,none⟩ (.int .i64 (q:Int))):=a.below.setCell (p:=⟨h,j,none⟩) (by have:=a.hd;show w.heap.size<=h;omega) _;exact⟨a.stk.setK (by simp) j _,by rw[gV];exact a.has.set j _,a.dn.setFar (by show h+1≠h;omega) _,a.z.setFar (by have:=a.hd;show w.heap.size+1≠h;omega) _,b,i.below b,a.ok.hand f e c k,a.slen,a.few,a.hd⟩
def NI{l:List au}(i:WF l){k:Nat}(m:k<l.length){t:List Int}{on th:Option (List Int)}(a:js (l.getD k default) t (bu (l.getD k default) t))(c:bu (l.getD k default) t=some (on,th)):∀u,on=some u->k+1<l.length:=λu b=>by
 rw[c]at a;obtain⟨_,_,e,_⟩:=a;subst b;apply Classical.byContradiction;intro j;have f:k=l.length - 1:=by omega
 have:=i.last;rw[<-f]at this;have h:(l.getD k default).op=34∨(l.getD k default).op=50:=by
  rcases this with h|h
  ·exact .inr h
  ·exact .inl h
 have:=e.2 h
 cases this
def MP{l:List au}(f:WF l){k:Nat}(c:k<l.length){t:List Int}{on th:Option (List Int)}(b:js (l.getD k default) t (bu (l.getD k default) t))(j:bu (l.getD k default) t=some (on,th)):∀u,th=some u->bE l k<l.length∧(l.getD k default).a=(bE l k:Int):=λu i=>by
 rw[j]at b;obtain⟨_,_,_,n⟩:=b;subst i;have e:al (PeepPlain.aq l k):=by
  apply Classical.byContradiction;intro m;have:=n.2 m
  cases this
 have o:=f.high k c e;have p:=f.low k c e;exact⟨o,by unfold bE;omega⟩
def jg{w:World}{a:Nat}{t:TypeId}{b:List Value}(h:ah w a t b){p:Addr}(c:a≠p.block)(n j:Nat)(u:Value):((w.drewN n).setCell p u).cell? ⟨a,j,none⟩=b[j]?:=((h.drewN n).setFar c u).cell j
def lg{w:World}{a:Nat}{t:TypeId}{b:List Value}(h:ah w a t b){p:Addr}(c:a≠p.block)(n:Nat)(u:Value):ah ((w.drewN n).setCell p u) a t b:=(h.drewN n).setFar c u
def oH{w:World}{a:Addr}{b:Value}(h:w.cell? a=some b){p:Addr}(c:a.block≠p.block)(n:Nat)(u:Value):((w.drewN n).setCell p u).cell? a=some b:=by
 rw[zI (zY _ _ _ _ c)];exact h
def Pj{m k n:Nat}(h:m<=k+1)(b:k<n)(a:n<=60000):wrap64 ((m:Int) - 1)=(m:Int) - 1∧wrap64 ((m:Int) - 1+1)=(m:Int) - 1+1:=by unfold wrap64;omega
def Ms{U U' n m k:Nat}(h:U'+1=U)(a:k<n):U' * (n+2)+(n - m)<U * (n+2)+(n - k):=by
 subst h;rw[Nat.succ_mul];omega
def sL(g:List (Option (List Int)))(j:Nat):mZ g j none:=λa h=>by cases h
def kR{g:List (Option (List Int))}{j:Nat}{u:List Int}(h:g.getD j none=none∨g.getD j none=some u):mZ g j (some u):=λb a=>by rw[<-zj a];exact h
def qv{s:List Bool}{k:Nat}{b:Bool}(a:k<s.length)(h:s.getD k false=b):(eY s)[k]?=some (if b then 1 else 0):=by
 unfold eY;rw[zd,zo a,Option.getD_some]at h;rw[zL,zo a,h];rfl
def OL{k n:Nat}(h:k<n)(a:n<=60000):wrap64 ((k:Int)+1)=(k:Int)+1:=by unfold wrap64;omega
def yp(n:Nat):PeepPlain.f8 (List.replicate n false)=n:=by
 unfold PeepPlain.f8;rw[List.countP_replicate];rfl
def Cd{n:Nat}(f:0<n):sN [[]] ((List.replicate (n+1) none).set 0 (some [])) ((List.replicate n (-1)).set 0 0) n where
 len:=by simp
 glen:=by simp
 is:=λb c=>by
  by_cases a:0=b
  ·subst a
   rw[fu,zn ⟨rfl,by simp⟩,List.getElem?_set_self (by simpa using c)]
   exact⟨0,rfl,rfl⟩
  ·rw[fu,zm (λh=>a h.1),List.getElem?_set_ne a,List.getElem?_replicate,zn c,zd,List.getElem?_replicate,zn (by omega)]
   rfl
 low:=λb e h=>by
  rw[fu]at h
  split at h
  ·rw[<-zj h];simp
  ·rw[zd,List.getElem?_replicate]at h
   split at h<;>cases h
def GS{w:World}{CA:Option Addr}{l:List au}{P h:Nat}{pc:List Value}{wr:World}(i:0<l.length)(f:cQ (w.heap.size+1+1) [h] wr P [[]])(k:ah wr h 3 (bv (List.replicate l.length (-1))))(c:ah wr (w.heap.size+1) 30 [.int .i64 0,.int .i64 0,.string ⟨#[]⟩])(m:zz w wr)(j:bX w CA l)(e:wr.heap.size=h+1)(o:w.heap.size+1+1<=h):
 cU w CA l P h (h+1) pc ((List.replicate (l.length+1) none).set 0 (some [])) (List.replicate l.length false) ((List.replicate l.length (-1)).set 0 0) [[]] ((wr.setCell ⟨h,0,none⟩ (.int .i64 0)).alloc (.cells (bv (List.replicate l.length 0)).toArray 3)):=by
 have a:(wr.setCell ⟨h,0,none⟩ (.int .i64 0)).heap.size=h+1:=by simp[World.setCell];exact e
 have b:Below w.heap.size w ((wr.setCell ⟨h,0,none⟩ (.int .i64 0)).alloc (.cells (bv (List.replicate l.length 0)).toArray 3)):=(m.setCell (p:=⟨h,0,none⟩) (by show w.heap.size<=h;omega) _).alloc (by rw[a];omega) _;refine⟨(f.setK (by simp) 0 _).moreNew (below1 _ _) (by omega) (by simp;omega),?_,?_,(c.setFar (by show w.heap.size+1≠h;omega) _).alloc _,b,j.below b,Cd i,by simp,by rw[yp];simp;omega,by omega⟩
 ·rw[gV];exact(k.set 0 _).alloc _
 ·have:=ah.made (wr.setCell ⟨h,0,none⟩ (.int .i64 0)) 3 (bv (List.replicate l.length 0));rw[a]at this;have n:eY (List.replicate l.length false)=List.replicate l.length 0:=by simp[eY]
  rw[n];exact this
def Kc{w:World}{CA:Option Addr}{l:List au}{P h k:Nat}{pc:List Value}{g:List (Option (List Int))}{s:List Bool}{H:List Int}{S S':List (List Int)}{wr c a:World}(e:cU w CA l P h (h+1) pc g s H S wr)(m:cQ (w.heap.size+1+1) [h+1,h] a P S')(o:ah a h 3 (bv H))(q:ah a (h+1) 3 (bv (eY (s.set k true))))(j:ah c (w.heap.size+1) 30 [.int .i64 0,.int .i64 0,.string ⟨#[]⟩])(r:zz w c)(n:bX w CA l)(b:iy (w.heap.size+1+1) [h+1,h] c.drew a)(p:S<+:S')(v:S'.length<=S.length+4)(t:PeepPlain.f8 (s.set k true)+1=PeepPlain.f8 s)(x:w.heap.size+1+1<=h):
 cU w CA l P h (h+1) pc g (s.set k true) H S' a:=by
 have f:zz w a:=r.trans ⟨b.below.os,b.below.tape,b.below.output,b.below.size,λi u=>b.below.block i (by omega)⟩;exact⟨m,o,q,(b.below.block _ (by omega)).trans j,f,n.below f,e.ok.ext p,by rw[zN];exact e.slen,by have:=e.few;omega,by omega⟩
set_option maxRecDepth 20000 in
def Kl(fs:List Fn)(c GA:Option Addr)(fc gl gc f:Nat)(w:World)(d4:bD w c fs)(ad:f<fs.length)(hG:fs.length<=2000000)(gz:fs[f].code.length<=60000)(ha:WF fs[f].code)(aa:∀k,(e1:k<fs[f].code.length)->(1<=fs[f].code[k].op∧fs[f].code[k].op<=53)∧(0<=fs[f].code[k].a∧fs[f].code[k].a<=100000)∧(0<=fs[f].code[k].b∧fs[f].code[k].b<=3)∧(fs[f].code[k].op=26->1<=fs[f].code[k].a)):
 Calls prog 23 #[.agg #[.slice c fs.length fc,.slice GA gl gc],.int .i64 f] w λe w'=>e= .returned (jd fs f).val∧zz w w':=by
 obtain⟨J,hd⟩:∃J,Hid (jd fs f=J):=⟨_,za rfl⟩
 have fh:=za (show jJ E0 fs[f].code= -1->jd fs f=lH from λh=>by unfold jd;rw[aC ad,zn h]);have cs:=za (λ(k:Nat)=>show jJ E0 fs[f].code=(k:Int)->jd fs f=⟨130,f,fV k⟩from λh=>by unfold jd;rw[aC ad,zm (by omega),h]);have it:=za d4;obtain⟨g9,hw,rfl,O,gx⟩:=d4.at_ (by omega);obtain⟨hU,hT,hS,hR,hQ,gF⟩:=gx f ad;have hJ:(0:Int)<=(f:Int)∧(f:Int)<(fs.length:Int):=by omega
 have ao:=za (d4.code _ (zk ad));rw[hd.out]at fh cs;rw[hd.out];have ef:=za An;have kv:=za jZ;have ed:=za ha;have h6:=za aa;have ia:=za gz;clear d4 gx hU hT hS hR hQ ha aa gz;generalize fs[f]=o at *
 obtain⟨G,R,hM,j1,_⟩:=ao.at_ ed.pos;rw[hM]at gF ao;have c5:=ia.out;have hE:=λw=>rN o.code.length (by omega) w;have hN:g9≠w.heap.size:=by omega
 go_enter func23,ntmps23;go_wp2_with (first
  |(go_at_call 50;refine(Fq _).mono ?_))
 rintro bb cl ⟨P,rfl,f4,e6⟩;have hb:=za (show cQ (w.heap.size+1+1) [] cl P [[]]from by have:=f4;simp only[World.size_alloc]at this;exact this);have fr:=za (ac (aU w _ _) e6 (aU w _ _).size);have e8:=za (oP (am w (.cells #[.slice (some ⟨g9,hw,none⟩) fs.length fc,.slice GA gl gc] 25) 30 [.int .i64 0,.int .i64 0,.string ⟨#[]⟩]) e6);clear f4 e6 gF;obtain⟨h,e3⟩:∃h,cl.heap.size=h:=⟨_,rfl⟩
 go_wp2_with fail;have X:=za (e3 ▸ ah.made cl 3 (bv (List.replicate o.code.length 0)));have cc:=za (hb.moreNew (below1 cl (.cells (bv (List.replicate o.code.length 0)).toArray 3)) (x:=h) (by omega) (by simp;omega));have cj:=za (fr.alloc fr.size (.cells (bv (List.replicate o.code.length 0)).toArray 3));have cb:=za (e8.alloc (.cells (bv (List.replicate o.code.length 0)).toArray 3));have gt:w.heap.size+1+1<=h:=by have:=e8.lt;omega
 have b7:(cl.alloc (.cells (bv (List.replicate o.code.length 0)).toArray 3)).heap.size=h+1:=by simp;exact e3
 try rw[e3]
 generalize cl.alloc (.cells (bv (List.replicate o.code.length 0)).toArray 3)=w4 at X cc cj cb b7;clear hb fr e8 it hJ O hN hG ad;go_loopw [8] (λE wr=> ∃k:Nat,E= .int .i64 k∧k<=o.code.length∧Hid (ah wr h 3 (bv (fX (-1) k (List.replicate o.code.length 0))))∧Hid (cQ (w.heap.size+1+1) [h] wr P [[]])∧Hid (ah wr (w.heap.size+1) 30 [.int .i64 0,.int .i64 0,.string ⟨#[]⟩])∧Hid (zz w wr)∧wr.heap.size=h+1) (λE _=>o.code.length - (intOf E).toNat)
 case atStart=>exact⟨0,rfl,zu _,by rw[Ce];exact X,cc,cb,cj,b7⟩
 case round=>
  clear X cc cb cj b7;rename World=>wr;obtain⟨k,rfl,e1,X,cc,cb,cj,b7⟩:=hrel;by_cases z:k<o.code.length
  ·have gm:(0:Int)<=(k:Int)∧(k:Int)<(o.code.length:Int):=by omega
   have e4:(fX (-1) k (List.replicate o.code.length 0)).length=o.code.length:=by rw[vT _ _ _ (by simp;omega)];simp
   obtain⟨j,u⟩:∃j,(fX (-1) k (List.replicate o.code.length 0))[k]?=some j:=⟨_,zo (by rw[e4];exact z)⟩
   have gq:wr.cell? ⟨h,k,none⟩=some (.int .i64 j):=(X.cell k).trans (dZ u);have go:=X.free k;have hh:=za (show(fX (-1) k (List.replicate o.code.length 0)).set k (-1)=fX (-1) (k+1) (List.replicate o.code.length 0)from DL _ _ _ (by simpa using z));generalize(fX (-1) k (List.replicate o.code.length 0))=L at X e4 hh;clear u e4;go_wp2_with fail;go_roundw
   case rel=>exact⟨k+1,by go_num,by omega,za (by rw[<-hh.out,gV];exact X.out.set k _),za (cc.setK (by simp) k _),za (cb.setFar (by show w.heap.size+1≠h;omega) _),za (cj.setCell (p:=⟨h,k,none⟩) (by show w.heap.size<=h;omega) _),by simp[World.setCell];exact b7⟩
   case measure=>simp[intOf];omega
  ·obtain rfl:k=o.code.length:=by omega
   have hm:=za (show fX (-1) o.code.length (List.replicate o.code.length 0)=List.replicate o.code.length (-1)from by have:=E3 (-1) (List.replicate o.code.length 0);simpa using this);rw[hm.out]at X;have f5:=ed.pos;have gq:wr.cell? ⟨h,0,none⟩=some (.int .i64 (-1)):=(X.cell 0).trans (dZ (by rw[List.getElem?_replicate,zn f5]));have go:=X.free 0;have gm:(0:Int)<(o.code.length:Int):=by omega
   clear z e1;go_wp2_with fail;have n:=za (GS (CA:=some ⟨G,R,none⟩) (pc:=[]) (l:=o.code) f5 cc.out X.out cb.out cj.out ao.out b7 gt);have fj:=za (wI E0 o.code);generalize((wr.setCell ⟨h,0,none⟩ (.int .i64 0)).alloc (.cells (bv (List.replicate o.code.length 0)).toArray 3))=w5 at n;obtain⟨e9,h5⟩:∃e9,Hid (jJ E0 o.code=e9):=⟨_,za rfl⟩
   rw[h5.out]at fh cs fj;clear X cc cb cj b7 gq go hm hE;go_loopw [10,11,12,13,14,15,16,17] (λem _ _ _ _ _ _ _ wr=> ∃(k:Nat) (g:List (Option (List Int))) (s:List Bool) (H:List Int) (S:List (List Int)),em= .int .i64 k∧k<=o.code.length∧Hid (∀x,x<k->io g s x=true)∧Hid (dV E0 o.code g s e9)∧Hid (cU w (some ⟨G,R,none⟩) o.code P h (h+1) [] g s H S wr)) (λem _ _ _ _ _ _ _ wr=>nr wr (h+1) * (o.code.length+2)+(o.code.length - (intOf em).toNat))
   case atStart=>exact⟨0,_,_,_,_,rfl,zu _,za (λx e2=>by omega),fj,n⟩
   case round=>
    clear n fj;rename World=>w6;obtain⟨k,g,s,H,S,rfl,e1,dA,b2,n⟩:=hrel;by_cases z:k<o.code.length
    ·have gm:(0:Int)<=(k:Int)∧(k:Int)<(o.code.length:Int):=by omega
     have M:=n.ok.is k z
     cases m:g.getD k none with
     |none=>
      rw[m]at M;have g8:w6.cell? ⟨h,k,none⟩=some (.int .i64 (-1)):=(n.has.cell k).trans (dZ M);have ff:=za (show ∀x,x<k+1->io g s x=true from λx e2=>by
       by_cases e:x=k
       ·subst e;unfold io;rw[m];rfl
       ·exact dA.out x (by omega))
      clear M m;go_wp2_with fail;go_roundw
      case rel=>exact⟨k+1,g,s,H,S,by go_num,by omega,ff,b2,n⟩
      case measure=>simp[intOf];omega
     |some t=>
      rw[m]at M;obtain⟨j,u,ca⟩:=M;have g8:w6.cell? ⟨h,k,none⟩=some (.int .i64 (j:Int)):=(n.has.cell k).trans (dZ u)
      cases b8:s.getD k false with
      |true=>
       have g7:w6.cell? ⟨h+1,k,none⟩=some (.int .i64 1):=(n.dn.cell k).trans (dZ (qv (by rw[n.slen];exact z) b8));have ff:=za (show ∀x,x<k+1->io g s x=true from λx e2=>by
        by_cases e:x=k
        ·subst e;unfold io;rw[b8,Bool.or_true]
        ·exact dA.out x (by omega))
       clear m b8 u ca;go_wp2_with fail;go_roundw
       case rel=>exact⟨k+1,g,s,H,S,by go_num,by omega,ff,b2,n⟩
       case measure=>simp[intOf];omega
      |false=>
       have g7:w6.cell? ⟨h+1,k,none⟩=some (.int .i64 0):=(n.dn.cell k).trans (dZ (qv (by rw[n.slen];exact z) b8));have hV:=n.dn.free k;have d0:=za (show PeepPlain.my o.code g s k t from⟨z,n.slen,m,b8,dA⟩);have he:=za (uZ (by rw[n.slen];exact z) b8);have hf:=za (n.ok.low k t m);have hZ:=za (qW n.dn);have h1:=za n.slen;have aa:=h6.out k z;obtain⟨J,ds⟩:∃J,Hid (o.code[k]=J):=⟨_,za rfl⟩
       have dl:=za (show o.code.getD k default=J from by rw[aC z,ds.out]);rw[ds.out]at aa;have fi:=za (NW J t aa.1.1 aa.1.2 aa.2.1.1 aa.2.2.1 aa.2.2.2 hf.out (sC n.stk.ok (zU ca)));have hn:=za (λwr=>jZ k wr (zi (Nat.le_of_lt z) (zi c5 (by decide))));have dB:=za aa;clear aa;obtain⟨j0,f1,cT,f0,fx,ft⟩:=oI n.ins k z;rw[ds.out]at f1 cT f0 fx ft;have co:=n.mark k;have hK:G≠h+1:=by omega
       have h2:=za (show S.length<=900000 from by have:=n.few;omega);have ej:=za (show Below w.heap.size w (w6.setCell ⟨h+1,k,none⟩ (.int .i64 1))from n.below.setCell (p:=⟨h+1,k,none⟩) (by show w.heap.size<=h+1;omega) _);have ec:=za (n.z.setFar (p:=⟨h+1,k,none⟩) (by show w.heap.size+1≠h+1;omega) (.int .i64 1));have hi:=za ca;have il:=za m;clear m b8 u ca;go_wp2_with fail;have ci:=za co;have fl:=za (show bX (w6.setCell ⟨h+1,k,none⟩ (.int .i64 1)) (some ⟨G,R,none⟩) o.code from ao.below ej.out);clear co f1 cT f0 fx ft g8 g7 hV;generalize(w6.setCell ⟨h+1,k,none⟩ (.int .i64 1))=w7 at ci fl ej ec;obtain⟨hL,ea,d9,d8,d7,d6⟩:=oI fl.out k z;rw[ds.out]at ea d9 d8 d7 d6;have M:=n.ok.is k z;rw[il.out]at M;obtain⟨cC,u,ca⟩:=M;obtain rfl:cC=j:=sY n.stk.ok ca hi.out;have g6:w7.cell? ⟨h,k,none⟩=some (.int .i64 (cC:Int)):=(ci.2.1.cell k).trans (dZ u);have fn:=za (Ig (w.heap.size+1+1) [h+1,h] P S cC t J w7.drew (ci.1.below (ae (zZ _ _) 1)) hi.out (by have:=ec.lt;show w.heap.size+1+1<=w7.heap.size;omega) (by
        intro ht hx;obtain⟨i1,i3,i2,i4,hW⟩:=ci.1.recs;exact hW.kl ht hx) h2.out (by have:=hf.out;omega) dB.1.1 dB.1.2 dB.2.1 dB.2.2.1 dB.2.2.2)
       unfold br at fn;have hq:Hid ((bv H)[k]?=some (.int .i64 (cC:Int))):=za (dZ u);clear u ca;go_region_held3 (λw'=>w'.cell? ⟨G,R+k * 5,none⟩=some (.int .i64 J.op)∧w'.cell? ⟨G,R+k * 5+1,none⟩=some (.int .i64 J.a)∧w'.cell? ⟨G,R+k * 5+2,none⟩=some (.int .i64 J.b)∧w'.cell? ⟨G,R+k * 5+3,none⟩=some (.string J.text)∧w'.cell? ⟨G,R+k * 5+4,none⟩=some (.int .i64 J.pos)∧w'.cell? ⟨h,k,none⟩=some (.int .i64 (cC:Int)))
        (first|exact⟨ea,d9,d8,d7,d6,g6⟩|exact⟨g4,g3,g2,g1,g0,gT⟩|go_keep)
        (first|(go_at_call 51;refine fn.out.mono ?_;rintro bb bi ⟨b5,a1,i5,cd,rfl,gv,gh,f3,a9,gb,f2⟩;have g4:=(a9.below.cell (p:=⟨G,R+k * 5,none⟩) (show G<w.heap.size+1+1 by omega)).trans ea;have g3:=(a9.below.cell (p:=⟨G,R+k * 5+1,none⟩) (show G<w.heap.size+1+1 by omega)).trans d9;have g2:=(a9.below.cell (p:=⟨G,R+k * 5+2,none⟩) (show G<w.heap.size+1+1 by omega)).trans d8;have g1:=(a9.below.cell (p:=⟨G,R+k * 5+3,none⟩) (show G<w.heap.size+1+1 by omega)).trans d7;have g0:=(a9.below.cell (p:=⟨G,R+k * 5+4,none⟩) (show G<w.heap.size+1+1 by omega)).trans d6;have fm:=za (a9.row ci.2.1.drew (by simp));have ho:=za (a9.row ci.2.2.drew (by simp));have gT:=(fm.cell k).trans hq.out;have iv:=za gv;have hk:=za gh;have hg:=za f3;have hl:=za a9;have hj:=za gb;have hc:=za f2;clear gv gh f3 a9 gb f2))
       have b4:Hid (cU w (some ⟨G,R,none⟩) o.code P h (h+1) [] g (s.set k true) H cd bi):=za (Kc n.out hg.out fm.out ho.out ec.out ej.out ao.out hl.out iv.out hk.out he.out gt);clear fm ho hl ec ej ci fl ea d9 d8 d7 d6 g6 g4 g3 g2 g1 g0 gT fn hq hL hg hk n hK
       cases cn:bu J t with
       |none=>
        obtain rfl:=hj.out cn;have ch:=za (cs.out k (OJ b2.out d0.out (by rw[dl.out];exact cn) (by rw[dl.out];exact fi)));clear cn;go_upto_region 17 with fail;go_cut [] (λN=>Hid (ah N (w.heap.size+1) 30 [.int .i64 130,.int .i64 (f:Int),.string (fV (k:Int))])∧Hid (zz w N))
        case first=>as_aux_lemma=>
         go_wp2_with (first
          |(go_at_call 46;refine(hn.out _).mono ?_;rintro bb K ⟨rfl,c7⟩;have i:=za (b4.more c7);clear c7)
          |(go_at_call 20;refine(ef.out (f:Int) _ _).mono ?_;rintro bb a2 ⟨rfl,df⟩;have D:=za (i.more df);clear df)
          |(refine aP (.tmp 4) (.tmp 110) 30 (w.heap.size+1) 0 30 [.int .i64 0,.int .i64 0,.string ⟨#[]⟩] [.int .i64 130,.int .i64 (f:Int),.string (fV (k:Int))] _ _ rfl rfl rfl rfl rfl bK (by simp[Value.oneCell']) D.z (by simp) ?_;intro d2 b0 V c6;have af:=za b0;have ar:=za (D.below.trans (V _ (zE _)));clear b0 V c6))
         go_meet;exact⟨af,ar⟩
        case rest=>
         obtain⟨af,ar⟩:=hcut;go_step;go_step;simp +zetaDelta only[Exit.then,Exit.inBlock];exact bodyPost_ret (aW rfl _ _ (w.heap.size+1) [.int .i64 130,.int .i64 (f:Int),.string (fV (k:Int))] rfl af.out rfl) rfl ⟨by rw[ch.out];rfl,ar⟩
       |some r=>
        obtain⟨on,W⟩:=r;obtain⟨rfl,ga,f9⟩:=hc.out on W cn;have cv:=za (show bu (o.code.getD k default) t=some (on,W)from by rw[dl.out];exact cn);have ct:=za (show js (o.code.getD k default) t (bu (o.code.getD k default) t)from by rw[dl.out];exact fi);have ee:=za ga;have b3:=za f9;obtain⟨Q,gC⟩:∃Q:Bool,Q=true↔xK on∨xK W:=by
         by_cases O:xK on∨xK W
         ·exact⟨true,λ_=>O,λ_=>rfl⟩
         ·exact⟨false,λh=>Bool.noConfusion h,λh=>absurd h O⟩
        have a0:=za gC;clear cn ga f9 gC fi hj hc;go_upto_region 16 with fail;go_cut [106] (λhs N=>N=bi∧hs= .bool Q)
        case first=>as_aux_lemma=>
         obtain⟨j3,kb,j5,kn,j4,kk,j6,kt,_,cf⟩:=b4.stk.open_;have q:=cf.c2;have i7:=cf.lh;have i6:=cf.lp
         cases on with
         |none=>
          obtain rfl:b5= -1:=ee.out
          cases W with
          |none=>
           obtain rfl:a1= -1:=b3.out;obtain rfl:Q=false:=by
            cases O:Q with
            |false=>rfl
            |true=>exact absurd (a0.1 O) (λh=>h.elim fH fH)
           go_wp2_with fail;go_meet;exact⟨rfl,rfl⟩
          |some E=>
           obtain⟨Z,rfl,b1⟩:=b3.out;have g5:=cf.high Z _ (nC b1);have gs:(0:Int)<=(Z:Int)∧(Z:Int)<(cd.length:Int):=by have:=(zB.1 b1).1;omega
           by_cases c1:30000<E.length
           ·have ev:(30000:Int)<(E.length:Int):=by omega
            obtain rfl:Q=true:=a0.2 (.inr (bQ.2 c1));go_wp2_with fail;go_meet;exact⟨rfl,rfl⟩
           ·have ev:¬(30000:Int)<(E.length:Int):=by omega
            obtain rfl:Q=false:=by
             cases O:Q with
             |false=>rfl
             |true=>exact absurd (a0.1 O) (λh=>h.elim fH (λh=>c1 (bQ.1 h)))
            go_wp2_with fail;go_meet;exact⟨rfl,rfl⟩
         |some v=>
          obtain⟨es,rfl,gr⟩:=ee.out;have ki:=cf.high es _ (nC gr);have ja:(0:Int)<=(es:Int)∧(es:Int)<(cd.length:Int):=by have:=(zB.1 gr).1;omega
          by_cases bt:30000<v.length
          ·have hz:(30000:Int)<(v.length:Int):=by omega
           cases W with
           |none=>
            obtain rfl:a1= -1:=b3.out;obtain rfl:Q=true:=a0.2 (.inl (bQ.2 bt));go_wp2_with fail;go_meet;exact⟨rfl,rfl⟩
           |some E=>
            obtain⟨Z,rfl,b1⟩:=b3.out;have g5:=cf.high Z _ (nC b1);have gs:(0:Int)<=(Z:Int)∧(Z:Int)<(cd.length:Int):=by have:=(zB.1 b1).1;omega
            obtain rfl:Q=true:=a0.2 (.inl (bQ.2 bt));go_wp2_with fail;go_meet;exact⟨rfl,rfl⟩
          ·have hz:¬(30000:Int)<(v.length:Int):=by omega
           cases W with
           |none=>
            obtain rfl:a1= -1:=b3.out;obtain rfl:Q=false:=by
             cases O:Q with
             |false=>rfl
             |true=>exact absurd (a0.1 O) (λh=>h.elim (λh=>bt (bQ.1 h)) fH)
            go_wp2_with fail;go_meet;exact⟨rfl,rfl⟩
           |some E=>
            obtain⟨Z,rfl,b1⟩:=b3.out;have g5:=cf.high Z _ (nC b1);have gs:(0:Int)<=(Z:Int)∧(Z:Int)<(cd.length:Int):=by have:=(zB.1 b1).1;omega
            by_cases c1:30000<E.length
            ·have ev:(30000:Int)<(E.length:Int):=by omega
             obtain rfl:Q=true:=a0.2 (.inr (bQ.2 c1));go_wp2_with fail;go_meet;exact⟨rfl,rfl⟩
            ·have ev:¬(30000:Int)<(E.length:Int):=by omega
             obtain rfl:Q=false:=by
              cases O:Q with
              |false=>rfl
              |true=>exact absurd (a0.1 O) (λh=>h.elim (λh=>bt (bQ.1 h)) (λh=>c1 (bQ.1 h)))
             go_wp2_with fail;go_meet;exact⟨rfl,rfl⟩
        case rest=>
         obtain⟨rfl,rfl⟩:=hcut
         cases Q with
         |true=>
          have ch:=za (cs.out k (Oc b2.out d0.out cv.out ct.out (a0.1 rfl)));go_upto_region 17 with fail;go_cut [] (λN=>Hid (ah N (w.heap.size+1) 30 [.int .i64 130,.int .i64 (f:Int),.string (fV (k:Int))])∧Hid (zz w N))
          case first=>as_aux_lemma=>
           go_wp2_with (first
            |(go_at_call 46;refine(hn.out _).mono ?_;rintro bb K ⟨rfl,c7⟩;have i:=za (b4.more c7);clear c7)
            |(go_at_call 20;refine(ef.out (f:Int) _ _).mono ?_;rintro bb a2 ⟨rfl,df⟩;have D:=za (i.more df);clear df)
            |(refine aP (.tmp 4) (.tmp 110) 30 (w.heap.size+1) 0 30 [.int .i64 0,.int .i64 0,.string ⟨#[]⟩] [.int .i64 130,.int .i64 (f:Int),.string (fV (k:Int))] _ _ rfl rfl rfl rfl rfl bK (by simp[Value.oneCell']) D.z (by simp) ?_;intro d2 b0 V c6;have af:=za b0;have ar:=za (D.below.trans (V _ (zE _)));clear b0 V c6))
           go_meet;exact⟨af,ar⟩
          case rest=>
           obtain⟨af,ar⟩:=hcut;go_step;go_step;simp +zetaDelta only[Exit.then,Exit.inBlock];exact bodyPost_ret (aW rfl _ _ (w.heap.size+1) [.int .i64 130,.int .i64 (f:Int),.string (fV (k:Int))] rfl af.out rfl) rfl ⟨by rw[ch.out];rfl,ar⟩
         |false=>
          have dC:=za (show ¬(xK on∨xK W)from λh=>Bool.noConfusion (a0.2 h));have hP:=ao.out;obtain⟨jv,_,cT,_,_,_⟩:=oI b4.ins k z;rw[ds.out]at cT;have hy:=OL z c5;clear hP;have ih:=za (bX.below ao.out b4.below);have ic:=za (MP ed.out z ct.out cv.out);have i0:=za (show ∀wr,Calls prog 46 #[.int .i64 ((k:Int)+1)] wr λe w'=>e= .returned (.string (fV ((k:Int)+1)))∧zz wr w' from λwr=>jZ (k+1) wr (zi z (zi c5 (by decide))));have h7:=za (NI ed.out z ct.out cv.out);have h0:=za (λ(v:List Int) (bt:on=some v)=>show v.length<=30000 from Nat.le_of_not_lt λO=>dC.out (.inl (by rw[bt];exact bQ.2 O)));have hY:=za (λ(v:List Int) (bt:W=some v)=>show v.length<=30000 from Nat.le_of_not_lt λO=>dC.out (.inr (by rw[bt];exact bQ.2 O)));rename World=>bi;obtain⟨B,e7⟩:∃B,bi.heap.size=B:=⟨_,rfl⟩
          have j2:h+1<B:=by have:=b4.dn.lt;omega
          go_wp2_with fail;have i:=za (b4.more (aU bi (.cells #[.int .i64 ((k:Int)+1),.int .i64 J.a] 3) (.cells #[.int .i64 b5,.int .i64 a1] 3)));have A:=za (e7 ▸ (ah.made bi 3 [.int .i64 ((k:Int)+1),.int .i64 J.a]).alloc (.cells #[.int .i64 b5,.int .i64 a1] 3));have C:=za (e7 ▸ am bi (.cells #[.int .i64 ((k:Int)+1),.int .i64 J.a] 3) 3 [.int .i64 b5,.int .i64 a1])
          try rw[e7]
          try rw[hy]
          generalize((bi.alloc (.cells #[.int .i64 ((k:Int)+1),.int .i64 J.a] 3)).alloc (.cells #[.int .i64 b5,.int .i64 a1] 3))=K at i A C;go_loopw [16,17] (λhr ek wr=> ∃(x b6:Nat) (g':List (Option (List Int))) (H':List Int),ek= .int .i64 x∧hr= .int .i64 b6∧Hid (Rq g k (bE o.code k) on W (s.set k true) x b6 g')∧Hid (cU w (some ⟨G,R,none⟩) o.code P h (h+1) [] g' (s.set k true) H' cd wr)∧Hid (ah wr B 3 [.int .i64 ((k:Int)+1),.int .i64 J.a])∧Hid (ah wr (B+1) 3 [.int .i64 b5,.int .i64 a1])) (λ_ ek _=>2 - (intOf ek).toNat)
          case atStart=>exact⟨0,k+1,g,H,rfl,rfl,za (.inl ⟨rfl,rfl,rfl⟩),i,A,C⟩
          case round=>as_aux_lemma=>
           clear i A C b4 cT ih;rename World=>K;obtain⟨x,b6,g',H',rfl,rfl,ig,i,A,C⟩:=hrel;have a4:=A.cell 0;have bq:=A.cell 1;have a3:=C.cell 0;have bk:=C.cell 1;have bp:B≠h:=by omega
           have bo:B+1≠h:=by omega
           have d3:h+1≠h:=by omega
           have bl:=A.lt;have bj:=C.lt;rcases ig.out with⟨rfl,rfl,rfl⟩|⟨rfl,rfl,rfl,av⟩|⟨rfl,co,rfl,av,hO,hF⟩
           ·cases on with
            |none=>
             obtain rfl:b5= -1:=ee.out;go_wp2_with fail;go_roundw
             case rel=>exact⟨1,k+1,g',H',by go_num,rfl,za (.inr (.inl ⟨rfl,rfl,rfl,sL _ _⟩)),i,A,C⟩
             case measure=>simp[intOf]
            |some v=>
             obtain⟨j,rfl,u⟩:=ee.out;have ab:=h7.out v rfl;have hH:(0:Int)<=(k:Int)+1∧(k:Int)+1<(o.code.length:Int):=by omega
             have hD:(0:Int)<=(j:Int):=Int.natCast_nonneg j;have c3:=h0.out v rfl;have M:=i.ok.is (k+1) ab;have ba:=qv (s:=s.set k true) (k:=k+1) (by rw[i.slen];exact ab) rfl;have be:K.cell? ⟨h+1,k+1,none⟩=some (.int .i64 (if(s.set k true).getD (k+1) false=true then 1 else 0)):=(i.dn.cell (k+1)).trans (dZ ba);have hI:=i.has.free (k+1);have a3:K.cell? ⟨B+1,0,none⟩=some (.int .i64 (j:Int)):=C.cell 0;have a4:K.cell? ⟨B,0,none⟩=some (.int .i64 ((k:Int)+1)):=A.cell 0
             cases m:g'.getD (k+1) none with
             |none=>
              rw[m]at M;have bc:K.cell? ⟨h,k+1,none⟩=some (.int .i64 (-1)):=(i.has.cell (k+1)).trans (dZ M);have ap:=za (λnq=>qA (i.more (ae (zZ _ _) nq)) ao.out ab u c3 (.inl m));have Y:=za (kR (g:=g') (j:=k+1) (u:=v) (.inl m));clear M ba m u;go_upto_region 25 with fail;go_quiet (fail);go_upto_region 27 with fail;go_region_held3 (λw'=>w'.cell? ⟨B,0,none⟩=some (.int .i64 ((k:Int)+1))∧w'.cell? ⟨B+1,0,none⟩=some (.int .i64 (j:Int))) (first|exact⟨a4,a3⟩|exact⟨(jg A.out bp _ 0 _).trans (by rfl),jg C.out bo _ 0 _⟩|go_keep) (first|fail);have D:=za (ap.out (nq+1));have y:=za (lg A.out (p:=⟨h,k+1,none⟩) bp (nq+1) (.int .i64 (j:Int)));have I:=za (lg C.out (p:=⟨h,k+1,none⟩) bo (nq+1) (.int .i64 (j:Int)));have T:=oH be (p:=⟨h,k+1,none⟩) d3 (nq+1) (.int .i64 (j:Int));generalize((K.drewN (nq+1)).setCell ⟨h,k+1,none⟩ (.int .i64 (j:Int)))=a2 at D y I T;have en:a2.cell? ⟨B,0,none⟩=some (.int .i64 ((k:Int)+1)):=y.cell 0;clear be bc a4 bq a3 bk bl bj ap i A C;have bl:=y.lt;have bj:=I.lt
              cases F:(s.set k true).getD (k+1) false with
              |true=>
               rw[F,zn rfl]at T;clear F;go_wp2_with fail;go_roundw
               case rel=>exact⟨1,k+1,_,_,by go_num,rfl,za (.inr (.inl ⟨rfl,rfl,rfl,Y⟩)),D,y,I⟩
               case measure=>simp[intOf]
              |false=>
               rw[F,zm (by decide)]at T;clear F;go_wp2_with fail;go_roundw
               case rel=>exact⟨1,k+1,_,_,by go_num,rfl,za (.inr (.inl ⟨rfl,rfl,rfl,Y⟩)),D,y,I⟩
               case measure=>simp[intOf]
             |some E=>
              rw[m]at M;obtain⟨q,a7,a6⟩:=M;by_cases a5:E=v
              ·subst a5;obtain rfl:q=j:=sY i.stk.ok a6 u;have bc:K.cell? ⟨h,k+1,none⟩=some (.int .i64 (q:Int)):=(i.has.cell (k+1)).trans (dZ a7);have ap:=za (λnq=>qA (i.more (ae (zZ _ _) nq)) ao.out ab u c3 (.inr m));have Y:=za (kR (g:=g') (j:=k+1) (u:=E) (.inr m));clear a7 a6 ba m u;go_upto_region 25 with fail;go_quiet (fail);go_upto_region 27 with fail;go_region_held3 (λw'=>w'.cell? ⟨B,0,none⟩=some (.int .i64 ((k:Int)+1))∧w'.cell? ⟨B+1,0,none⟩=some (.int .i64 (q:Int))) (first|exact⟨a4,a3⟩|exact⟨(jg A.out bp _ 0 _).trans (by rfl),jg C.out bo _ 0 _⟩|go_keep) (first|fail);have D:=za (ap.out (nq+1));have y:=za (lg A.out (p:=⟨h,k+1,none⟩) bp (nq+1) (.int .i64 (q:Int)));have I:=za (lg C.out (p:=⟨h,k+1,none⟩) bo (nq+1) (.int .i64 (q:Int)));have T:=oH be (p:=⟨h,k+1,none⟩) d3 (nq+1) (.int .i64 (q:Int));generalize((K.drewN (nq+1)).setCell ⟨h,k+1,none⟩ (.int .i64 (q:Int)))=a2 at D y I T;have en:a2.cell? ⟨B,0,none⟩=some (.int .i64 ((k:Int)+1)):=y.cell 0;clear be bc a4 bq a3 bk bl bj ap i A C;have bl:=y.lt;have bj:=I.lt
               cases F:(s.set k true).getD (k+1) false with
               |true=>
                rw[F,zn rfl]at T;clear F;go_wp2_with fail;go_roundw
                case rel=>exact⟨1,k+1,_,_,by go_num,rfl,za (.inr (.inl ⟨rfl,rfl,rfl,Y⟩)),D,y,I⟩
                case measure=>simp[intOf]
               |false=>
                rw[F,zm (by decide)]at T;clear F;go_wp2_with fail;go_roundw
                case rel=>exact⟨1,k+1,_,_,by go_num,rfl,za (.inr (.inl ⟨rfl,rfl,rfl,Y⟩)),D,y,I⟩
                case measure=>simp[intOf]
              ·have b9:q≠j:=λe=>by subst e;rw[a6]at u;exact a5 (zj u)
               have bc:K.cell? ⟨h,k+1,none⟩=some (.int .i64 (q:Int)):=(i.has.cell (k+1)).trans (dZ a7);have hC:(0:Int)<=(q:Int):=Int.natCast_nonneg q;have hB:((q:Int) !=(j:Int))=true:=zO.2 (λe=>b9 (by omega));have hA:((q:Int)==(j:Int))=false:=zh.2 (λe=>b9 (by omega));have ch:=za (cs.out (k+1) (Lh b2.out d0.out cv.out ct.out dC.out rfl m a5));clear a7 a6 ba m u a5 b9;go_upto_region 25 with fail;go_quiet (fail);go_upto_region 26 with fail;go_cut [] (λN=>Hid (ah N (w.heap.size+1) 30 [.int .i64 130,.int .i64 (f:Int),.string (fV ((k:Int)+1))])∧Hid (zz w N))
               case first=>as_aux_lemma=>
                go_wp2_with (first
                 |(go_at_call 46;refine(i0.out _).mono ?_;rintro bb d2 ⟨rfl,V⟩;have fo:=za ((i.more (ae (zZ _ _) nq)).more V);clear V)
                 |(go_at_call 20;refine(ef.out (f:Int) _ _).mono ?_;rintro bb hv ⟨rfl,c9⟩;have d1:=za (fo.more c9);clear c9)
                 |(refine aP (.tmp 4) (.tmp 161) 30 (w.heap.size+1) 0 30 [.int .i64 0,.int .i64 0,.string ⟨#[]⟩] [.int .i64 130,.int .i64 (f:Int),.string (fV ((k:Int)+1))] _ _ rfl rfl rfl rfl rfl bK (by simp[Value.oneCell']) d1.z (by simp) ?_;intro hu c4 c8 e5;have cg:=za c4;have ck:=za (d1.below.trans (c8 _ (zE _)));clear c4 c8 e5))
                go_meet;exact⟨cg,ck⟩
               case rest=>
                obtain⟨cg,ck⟩:=hcut;go_step;go_step;simp +zetaDelta only[Exit.then,Exit.inBlock];exact bodyPost_ret (aW rfl _ _ (w.heap.size+1) [.int .i64 130,.int .i64 (f:Int),.string (fV ((k:Int)+1))] rfl cg.out rfl) rfl ⟨by rw[ch.out];rfl,ck⟩
           ·rw[show((1:Nat):Int)=1 from rfl]
            cases W with
            |none=>
             obtain rfl:a1= -1:=b3.out;go_wp2_with fail;go_roundw
             case rel=>exact⟨2,k+1,_,H',by go_num,rfl,za (.inr (.inr ⟨rfl,zb _,rfl,av,sL _ _,λh=>absurd rfl h⟩)),i,A,C⟩
             case measure=>simp[intOf]
            |some v=>
             obtain⟨j,rfl,u⟩:=b3.out;obtain⟨ab,c0⟩:=ic.out v rfl;rw[dl.out]at c0;obtain⟨c,d5⟩:∃c,bE o.code k=c:=⟨_,rfl⟩
             have hp:=za d5;rw[d5]at ab c0;rw[c0]at A;rw[d5];have cp:=za c0;clear c0 d5;have hH:(0:Int)<=(c:Int)∧(c:Int)<(o.code.length:Int):=by omega
             have hD:(0:Int)<=(j:Int):=Int.natCast_nonneg j;have c3:=hY.out v rfl;have iN:=za (λwr=>jZ c wr (zi (Nat.le_of_lt ab) (zi c5 (by decide))));have M:=i.ok.is c ab;have ba:=qv (s:=s.set k true) (k:=c) (by rw[i.slen];exact ab) rfl;have be:K.cell? ⟨h+1,c,none⟩=some (.int .i64 (if(s.set k true).getD c false=true then 1 else 0)):=(i.dn.cell c).trans (dZ ba);have hI:=i.has.free c;clear a4 bq a3 bk;have a4:True:=trivial;have a3:True:=trivial;have bk:K.cell? ⟨B+1,1,none⟩=some (.int .i64 (j:Int)):=C.cell 1;have bq:K.cell? ⟨B,1,none⟩=some (.int .i64 (c:Int)):=A.cell 1
             cases m:(jy g (k+1) on).getD (c) none with
             |none=>
              rw[m]at M;have bc:K.cell? ⟨h,c,none⟩=some (.int .i64 (-1)):=(i.has.cell (c)).trans (dZ M);have ap:=za (λnq=>qA (i.more (ae (zZ _ _) nq)) ao.out ab u c3 (.inl m));have Y:=za (kR (g:=(jy g (k+1) on)) (j:=c) (u:=v) (.inl m));clear M ba m u;go_upto_region 25 with fail;go_quiet (fail);go_upto_region 27 with fail;go_region_held3 (λw'=>w'.cell? ⟨B,1,none⟩=some (.int .i64 ((c:Int)))∧w'.cell? ⟨B+1,1,none⟩=some (.int .i64 (j:Int))) (first|exact⟨bq,bk⟩|exact⟨(jg A.out bp _ 1 _).trans (by rfl),jg C.out bo _ 1 _⟩|go_keep) (first|fail);have D:=za (ap.out (nq+1));have y:=za (lg A.out (p:=⟨h,c,none⟩) bp (nq+1) (.int .i64 (j:Int)));have I:=za (lg C.out (p:=⟨h,c,none⟩) bo (nq+1) (.int .i64 (j:Int)));have T:=oH be (p:=⟨h,c,none⟩) d3 (nq+1) (.int .i64 (j:Int));generalize((K.drewN (nq+1)).setCell ⟨h,c,none⟩ (.int .i64 (j:Int)))=a2 at D y I T;have en:a2.cell? ⟨B,1,none⟩=some (.int .i64 ((c:Int))):=y.cell 1;clear be bc a4 bq a3 bk bl bj ap i A C;have bl:=y.lt;have bj:=I.lt
              cases F:(s.set k true).getD (c) false with
              |true=>
               rw[F,zn rfl]at T;have an:=za (λ(_:some v≠none) (ad:(s.set k true).getD c false=false)=>show k+1<=c from by rw[F]at ad;cases ad);clear F;go_wp2_with fail;go_roundw
               case rel=>exact⟨2,k+1,_,_,by go_num,rfl,za (.inr (.inr ⟨rfl,zb _,rfl,av,Y.out,an⟩)),D,(by rw[cp.out];exact y),I⟩
               case measure=>simp[intOf]
              |false=>
               rw[F,zm (by decide)]at T;clear F;by_cases a8:c<k+1
               ·have e0:(c:Int)<(k:Int)+1:=by omega
                have an:=za (λ(_:some v≠none) (_:(s.set k true).getD c false=false)=>zb c);have fk:=za (Nat.le_of_lt a8);clear a8;go_wp2_with fail;go_roundw
                case rel=>exact⟨2,c,_,_,by go_num,rfl,za (.inr (.inr ⟨rfl,fk.out,rfl,av,Y.out,an⟩)),D,(by rw[cp.out];exact y),I⟩
                case measure=>simp[intOf]
               ·have e0:¬(c:Int)<(k:Int)+1:=by omega
                have an:=za (λ(_:some v≠none) (_:(s.set k true).getD c false=false)=>Nat.le_of_not_lt a8);clear a8;go_wp2_with fail;go_roundw
                case rel=>exact⟨2,k+1,_,_,by go_num,rfl,za (.inr (.inr ⟨rfl,zb _,rfl,av,Y.out,an⟩)),D,(by rw[cp.out];exact y),I⟩
                case measure=>simp[intOf]
             |some E=>
              rw[m]at M;obtain⟨q,a7,a6⟩:=M;by_cases a5:E=v
              ·subst a5;obtain rfl:q=j:=sY i.stk.ok a6 u;have bc:K.cell? ⟨h,c,none⟩=some (.int .i64 (q:Int)):=(i.has.cell (c)).trans (dZ a7);have ap:=za (λnq=>qA (i.more (ae (zZ _ _) nq)) ao.out ab u c3 (.inr m));have Y:=za (kR (g:=(jy g (k+1) on)) (j:=c) (u:=E) (.inr m));clear a7 a6 ba m u;go_upto_region 25 with fail;go_quiet (fail);go_upto_region 27 with fail;go_region_held3 (λw'=>w'.cell? ⟨B,1,none⟩=some (.int .i64 ((c:Int)))∧w'.cell? ⟨B+1,1,none⟩=some (.int .i64 (q:Int))) (first|exact⟨bq,bk⟩|exact⟨(jg A.out bp _ 1 _).trans (by rfl),jg C.out bo _ 1 _⟩|go_keep) (first|fail);have D:=za (ap.out (nq+1));have y:=za (lg A.out (p:=⟨h,c,none⟩) bp (nq+1) (.int .i64 (q:Int)));have I:=za (lg C.out (p:=⟨h,c,none⟩) bo (nq+1) (.int .i64 (q:Int)));have T:=oH be (p:=⟨h,c,none⟩) d3 (nq+1) (.int .i64 (q:Int));generalize((K.drewN (nq+1)).setCell ⟨h,c,none⟩ (.int .i64 (q:Int)))=a2 at D y I T;have en:a2.cell? ⟨B,1,none⟩=some (.int .i64 ((c:Int))):=y.cell 1;clear be bc a4 bq a3 bk bl bj ap i A C;have bl:=y.lt;have bj:=I.lt
               cases F:(s.set k true).getD (c) false with
               |true=>
                rw[F,zn rfl]at T;have an:=za (λ(_:some E≠none) (ad:(s.set k true).getD c false=false)=>show k+1<=c from by rw[F]at ad;cases ad);clear F;go_wp2_with fail;go_roundw
                case rel=>exact⟨2,k+1,_,_,by go_num,rfl,za (.inr (.inr ⟨rfl,zb _,rfl,av,Y.out,an⟩)),D,(by rw[cp.out];exact y),I⟩
                case measure=>simp[intOf]
               |false=>
                rw[F,zm (by decide)]at T;clear F;by_cases a8:c<k+1
                ·have e0:(c:Int)<(k:Int)+1:=by omega
                 have an:=za (λ(_:some E≠none) (_:(s.set k true).getD c false=false)=>zb c);have fk:=za (Nat.le_of_lt a8);clear a8;go_wp2_with fail;go_roundw
                 case rel=>exact⟨2,c,_,_,by go_num,rfl,za (.inr (.inr ⟨rfl,fk.out,rfl,av,Y.out,an⟩)),D,(by rw[cp.out];exact y),I⟩
                 case measure=>simp[intOf]
                ·have e0:¬(c:Int)<(k:Int)+1:=by omega
                 have an:=za (λ(_:some E≠none) (_:(s.set k true).getD c false=false)=>Nat.le_of_not_lt a8);clear a8;go_wp2_with fail;go_roundw
                 case rel=>exact⟨2,k+1,_,_,by go_num,rfl,za (.inr (.inr ⟨rfl,zb _,rfl,av,Y.out,an⟩)),D,(by rw[cp.out];exact y),I⟩
                 case measure=>simp[intOf]
              ·have b9:q≠j:=λe=>by subst e;rw[a6]at u;exact a5 (zj u)
               have bc:K.cell? ⟨h,c,none⟩=some (.int .i64 (q:Int)):=(i.has.cell (c)).trans (dZ a7);have hC:(0:Int)<=(q:Int):=Int.natCast_nonneg q;have hB:((q:Int) !=(j:Int))=true:=zO.2 (λe=>b9 (by omega));have hA:((q:Int)==(j:Int))=false:=zh.2 (λe=>b9 (by omega));have ch:=za (cs.out c (by have:=Mn b2.out d0.out cv.out ct.out dC.out av rfl (by rw[hp.out];exact m) a5;rw[hp.out]at this;exact this));clear a7 a6 ba m u a5 b9;go_upto_region 25 with fail;go_quiet (fail);go_upto_region 26 with fail;go_cut [] (λN=>Hid (ah N (w.heap.size+1) 30 [.int .i64 130,.int .i64 (f:Int),.string (fV ((c:Int)))])∧Hid (zz w N))
               case first=>as_aux_lemma=>
                go_wp2_with (first
                 |(go_at_call 46;refine(iN.out _).mono ?_;rintro bb d2 ⟨rfl,V⟩;have fo:=za ((i.more (ae (zZ _ _) nq)).more V);clear V)
                 |(go_at_call 20;refine(ef.out (f:Int) _ _).mono ?_;rintro bb hv ⟨rfl,c9⟩;have d1:=za (fo.more c9);clear c9)
                 |(refine aP (.tmp 4) (.tmp 161) 30 (w.heap.size+1) 0 30 [.int .i64 0,.int .i64 0,.string ⟨#[]⟩] [.int .i64 130,.int .i64 (f:Int),.string (fV ((c:Int)))] _ _ rfl rfl rfl rfl rfl bK (by simp[Value.oneCell']) d1.z (by simp) ?_;intro hu c4 c8 e5;have cg:=za c4;have ck:=za (d1.below.trans (c8 _ (zE _)));clear c4 c8 e5))
                go_meet;exact⟨cg,ck⟩
               case rest=>
                obtain⟨cg,ck⟩:=hcut;go_step;go_step;simp +zetaDelta only[Exit.then,Exit.inBlock];exact bodyPost_ret (aW rfl _ _ (w.heap.size+1) [.int .i64 130,.int .i64 (f:Int),.string (fV ((c:Int)))] rfl cg.out rfl) rfl ⟨by rw[ch.out];rfl,ck⟩
           ·rw[show((2:Nat):Int)=2 from rfl];have ew:=Pj co z c5;have i9:=ew.1;have i8:=ew.2;have h8:=za (Ms (m:=b6) (U:=nr w6 (h+1)) (U':=nr K (h+1)) (by rw[qW i.dn,hZ.out];exact he) z);have hX:=za (DE (g:=g) (s:=s) (on:=on) (th:=W) (by rw[h1.out];exact z) dA.out co hF);have h3:=za (OK b2.out d0.out cv.out ct.out dC.out av hO);have h9:=za (show b6<=o.code.length from zi co z);clear ew;go_wp2_with fail;go_roundw
            case rel=>exact⟨b6,_,_,H',cd,by go_num,h9.out,hX,h3,i⟩
            case measure=>simp[intOf];exact h8
    ·have h4:=za (CQ b2.out (λx e2=>dA.out x (by omega)));go_upto_region 31 with fail;go_cut [] (λN=>Hid (ah N (w.heap.size+1) 30 [.int .i64 0,.int .i64 0,.string ⟨#[]⟩])∧Hid (zz w N))
     case first=>as_aux_lemma=>
      go_wp2_with (refine aP (.tmp 4) (.tmp 194) 30 (w.heap.size+1) 0 30 [.int .i64 0,.int .i64 0,.string ⟨#[]⟩] [.int .i64 0,.int .i64 0,.string ⟨#[]⟩] _ _ rfl rfl rfl rfl rfl bK (by simp[Value.oneCell']) n.z (by simp) ?_;intro d2 b0 V c6;have af:=za b0;have ar:=za (n.below.trans (V _ (zE _)));clear b0 V c6);go_meet;exact⟨af,ar⟩
     case rest=>
      obtain⟨af,ar⟩:=hcut;go_step;go_step;exact bodyPost_ret (aW rfl _ _ (w.heap.size+1) [.int .i64 0,.int .i64 0,.string ⟨#[]⟩] rfl af.out rfl) rfl ⟨by rw[fh.out h4.out];rfl,ar⟩
end
end Go.Proofs.YtmecmlpoallpcaaGreatDoor

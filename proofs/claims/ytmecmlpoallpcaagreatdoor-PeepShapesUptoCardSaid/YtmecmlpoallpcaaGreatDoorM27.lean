/- Parts of the proof: BackW LentA LentW -/
import Derived.Test.YtmecmlpoallpcaaGreatDoorM24
import Derived.Test.YtmecmlpoallpcaaGreatDoorM23
import Derived.StillTailTactics
import Derived.Deep.DeepCutAuto
import Derived.Deep.CutBlock
import Derived.Deep.RegionHeld3
set_option linter.all false
set_option maxHeartbeats 8000000
namespace Go.Proofs.YtmecmlpoallpcaaGreatDoor
open Go.Proofs.Tryz
section
open Go.RowKit Go.Proofs.PeepPlain
def nM:ByteArray:=⟨#[109,97,114,107]⟩
def jV:Fn:=⟨nM,0,0,none,[],0,0,none,[],0⟩
structure du(B:Nat)(w:World)(f:Fn):Prop where
 part:dD B w f
 takenM:w.ownsRow B 3 1 (.slice f.TA (f.taken.length+1) f.tc) (f.taken.length+1) (bv (f.taken++ [-71]))
 codeM:w.ownsRow B 50 5 (.slice f.CA (f.code.length+1) f.cc) (f.code.length+1) (bV (f.code++ [qw (-71)]))
structure rn(B:Nat)(w:World)(A:Option Addr)(c:Nat)(fs:List Fn)(GA:Option Addr)(gc:Nat)(gs:List ByteArray):Prop where
 mine:jD B w A c fs GA gc gs
 fnsM:w.ownsRow B 47 6 (.slice A (fs.length+1) c) (fs.length+1) (cx (fs++ [jV]))
 partsM:∀f∈fs,du B w f
 textsM:w.ownsRow B 9 1 (.slice GA (gs.length+1) gc) (gs.length+1) ((gs++ [nM]).map Value.string)
def du.turns{B:Nat}{S:Nat->Prop}{w w':World}{f:Fn}(g:du B w f)(a:aR S w w')(c:∀b,sy f b->¬S b):du B w' f where
 part:=g.part.turns a c
 takenM:=ep g.takenM a λi d=>by
  obtain⟨h,e,rfl⟩:=bm.where_ (B:=B) (w:=w) d
  exact c _ (.inr ⟨h,e,rfl⟩)
 codeM:=ep g.codeM a λi d=>by
  obtain⟨h,e,rfl⟩:=bm.where_ (B:=B) (w:=w) d
  exact c _ (.inl ⟨h,e,rfl⟩)
def du.below{B:Nat}{w w':World}{f:Fn}(a:du B w f)(b:zz w w'):du B w' f:=
 a.turns (S:=λ_=>False) (aR.ofBelow b) (λ_ _ a=>a)
def uG(fs:List Fn)(b:Nat):Prop:=∃a∈fs,sy a b
structure Jj(w:World)(B:Nat)(A GA A2 GA2:Option Addr)(c gc c2 gc2:Nat)(own fs:List Fn)(gs:List ByteArray)(i:Nat)(wr:World):Prop where
 o:ah wr w.heap.size 25 [.slice A own.length c,.slice GA gs.length gc]
 p:ah wr (w.heap.size+1) 25 [.slice A2 own.length c2,.slice GA2 gs.length gc2]
 fns:wr.ownsRow B 47 6 (.slice A (own.length+1) c) (own.length+1) (cx (own++ [jV]))
 parts:∀j,(hj:j<own.length)->i<=j->du B wr own[j]
 texts:wr.ownsRow B 9 1 (.slice GA (gs.length+1) gc) (gs.length+1) ((gs++ [nM]).map Value.string)
 rows:bd wr A2 (cx fs)
 turns:aR (uG own) w wr
def Jj.next{w:World}{B:Nat}{x GA m v:Option Addr}{c gc u s:Nat}{own fs:List Fn}{gs:List ByteArray}{i:Nat}{wr w':World}(d:Jj w B x GA m v c gc u s own fs gs i wr)(A:nw own)(D:∀a,m=some a->a.block<B)(l:∀b,uG own b->B<=b∧b<w.heap.size)(f:i<own.length)(e:aR (sy own[i]) wr w'):Jj w B x GA m v c gc u s own fs gs (i+1) w' where
 o:=e.row d.o (λg=>by have:=(l _ ⟨_,zk f,g⟩).2;omega)
 p:=e.row d.p (λg=>by have:=(l _ ⟨_,zk f,g⟩).2;omega)
 fns:=ep d.fns e λG k=>oL (d.parts i f (zb _)).part d.fns (by decide) (by decide) k
 parts:=λh r I=>(d.parts h r (by omega)).turns e λb g F=>by have:=A i h f r (by omega) b b F g;omega
 texts:=ep d.texts e λG k=>oL (d.parts i f (zb _)).part d.texts (by decide) (by decide) k
 rows:=λC=>by
  obtain⟨b,n,t,q,E⟩:=d.rows C
  have g:=D _ t
  exact⟨b,n,t,zv q e.size,λh y z=>(zI (a:=⟨b,n+h,none⟩) (e.block b q (λj=>by have:=(l _ ⟨_,zk f,j⟩).1;have J:b<B:=g;omega))).trans (E h y z)⟩
 turns:=d.turns.next e λH j _=>⟨_,zk f,j⟩
def Ga{n:Nat}(a:n<=2000000):wrap64 ((n:Int)+1)=((n+1:Nat):Int):=by unfold wrap64;omega
def FT{n:Nat}(a:n<=2000000):wrap64 (((n+1:Nat):Int) - 1)=(n:Int):=by unfold wrap64;omega
def jS{n:Nat}(a:n<=2000000):wrap64 (n:Int)=(n:Int):=by unfold wrap64;omega
def GW{w l:World}{B:Nat}{f GA e i:Option Addr}{c gc h g:Nat}{own fs:List Fn}{gs:List ByteArray}(d:rn B w f c own GA gc gs)(n:bd w e (cx fs))(k:Below ((w.alloc (.cells #[.slice f own.length c,.slice GA gs.length gc] 25)).alloc (.cells #[.slice e own.length h,.slice i gs.length g] 25)).heap.size ((w.alloc (.cells #[.slice f own.length c,.slice GA gs.length gc] 25)).alloc (.cells #[.slice e own.length h,.slice i gs.length g] 25)) l):Jj w B f GA e i c gc h g own fs gs 0 l:=by
 have b:=ac (aU w (.cells #[.slice f own.length c,.slice GA gs.length gc] 25) (.cells #[.slice e own.length h,.slice i gs.length g] 25)) k (aU w _ _).size;exact⟨((ah.made w 25 _).alloc _).below k ((ah.made w 25 _).alloc _).lt,(am w _ 25 _).below k (am w _ 25 _).lt,aE d.fnsM (λa j=>b.block a (zW d.fnsM a j).2),λo m _=>(d.partsM _ (zk m)).below b,aE d.textsM (λa j=>b.block a (zW d.textsM a j).2),n.below b rfl,aR.ofBelow b⟩
def vu{w:World}{B e size n:Nat}{g:Option Addr}{c:Nat}{d:List Value}(a:w.ownsRow B e size (.slice g n c) n d)(m:List Value):bd w g d:=λp=>by
 rcases a.2 with⟨f,l⟩|⟨b,cap,s,f,r,q,o⟩
 ·have k:=a.1;rw[l,Nat.zero_mul]at k;omega
 ·injection f with e1 e2 e3;subst e1 e3;refine⟨b,0,rfl,(zW a b rfl).2,λi h j=>?_⟩;have:=World.ownsRow.cells a (g:=b) rfl i h j;rw[Addr.add_lit]at this;exact this
def gW{w:World}{B e size n c:Nat}{g:Option Addr}{b:List Value}(f:w.ownsRow B e size (.slice g n c) n b)(h:0<n):n<=c:=by
 rcases f.2 with⟨a,k⟩|⟨l,cap,m,a,j,i,d,_⟩
 ·omega
 ·injection a with e1 e2 e3;subst e3;exact d
set_option maxRecDepth 20000 in
def IC(own fs:List Fn)(gs:List ByteArray)(s GA m C:Option Addr)(c gc z L B:Nat)(w:World)(r:rn B w s c own GA gc gs)(a0:bD w m fs)(bp:bd w C (gs.map Value.string))(a1:fA own fs)(bb:0<own.length->∀a,m=some a->a.block<B)(l:own.length<=1999000)(ef:gs.length<=1999000)(av:∀f∈own,f.taken.length<=1999000∧f.code.length<=1999000):
 Calls prog 11 #[.agg #[.slice s own.length c,.slice GA gs.length gc],.agg #[.slice m own.length z,.slice C gs.length L]] w λe w'=>e= .returned (.bool true)∧aR (uG own) w w':=by
 have bq:bD w s own:=by
  obtain⟨d7,A,a2,c8,_⟩:=tu r.mine.fns;have:d7=s:=by injection a2 with e _ _;exact e.symm
  subst this;exact⟨c8,λf l=>(r.mine.parts f l).code,λf l=>(r.mine.parts f l).taken⟩
 have bo:bd w GA (gs.map Value.string):=vu r.mine.texts [];have b4:=za (λ(D:World) (hb2:zz w D)=>tV own fs gs s m GA C c z gc L D (bq.below hb2) (a0.below hb2) (bo.below hb2 rfl) (bp.below hb2 rfl) a1 (by omega) (by omega) (λf l=>by have:=av f l;omega));have b7:=za r;have b8:=za a1;have d2:=za bb;have d4:=za av;have d1:=za a0.rows;have d3:=za (show ∀Q,uG own Q->B<=Q∧Q<w.heap.size from λQ ⟨f,l,H⟩=>(r.mine.parts f l).blk H);clear r a0 bp a1 bb av bq bo;go_enter func11,ntmps11;go_upto_region 2 with(go_at_call 14;refine(b4.out _ (aU w _ _)).mono ?_;rintro dl n ⟨rfl,bj⟩;have d:=za (GW b7.out d1.out bj:Jj w B s GA m C c gc z L own fs gs 0 n);clear bj b4)
 have G:n.cell? ⟨w.heap.size,0,none⟩=some (.slice s own.length c):=d.o.cell 0;have cv:n.cell? ⟨w.heap.size,1,none⟩=some (.slice GA gs.length gc):=d.o.cell 1;have F:n.cell? ⟨w.heap.size+1,0,none⟩=some (.slice m own.length z):=d.p.cell 0;have ct:n.cell? ⟨w.heap.size+1,1,none⟩=some (.slice C gs.length L):=d.p.cell 1;have T:=d.o.lt;have S:=d.p.lt;obtain⟨i,rfl⟩:=lV d.fns (by omega);obtain⟨ab,rfl⟩:=lV d.texts (by omega);have cg:wrap64 ((own.length:Int)+1)=((own.length+1:Nat):Int):=by unfold wrap64;omega
 have ch:wrap64 ((gs.length:Int)+1)=((gs.length+1:Nat):Int):=by unfold wrap64;omega
 have dn:(0:Int)<=((own.length+1:Nat):Int)∧((own.length+1:Nat):Int)<=(c:Int):=by have:=gW d.fns (by omega);omega
 have ds:(0:Int)<=((gs.length+1:Nat):Int)∧((gs.length+1:Nat):Int)<=(gc:Int):=by have:=gW d.texts (by omega);omega
 have c5:(0:Int)<=(own.length:Int)∧(own.length:Int)<((own.length+1:Nat):Int):=by omega
 have c6:(0:Int)<=(gs.length:Int)∧(gs.length:Int)<((gs.length+1:Nat):Int):=by omega
 have c9:n.cell? ⟨i,own.length * 6,none⟩=some (.string nM):=by
  have:=World.ownsRow.cells d.fns (g:=i) rfl (own.length * 6) (.string nM) (by
   have bt:=dQ (own++ [jV]) own.length (by simp) 0 (by omega);rw[Nat.add_zero]at bt;rw[bt,List.getElem_append_right (zb _)];simp[dy,jV])
  rw[Addr.add_lit,zP]at this;exact this
 have cp:n.cell? ⟨ab,gs.length,none⟩=some (.string nM):=by
  have:=World.ownsRow.cells d.texts (g:=ab) rfl gs.length (.string nM) (by simp);rw[Addr.add_lit,zP]at this;exact this
 have c0:(nM.toList==[109,97,114,107])=true:=by kernel_rfl
 have df:=(zW d.fns i rfl).2;have cs:=(zW d.texts ab rfl).2;go_upto_block 0 with fail;clear G cv F ct T S c9 cp c0 df cs cg ch dn ds c5 c6;go_wp2_with fail;go_loopw [5,8] (λcc an wr=> ∃b:Nat,cc= .bool true∧an= .int .i64 b∧b<=own.length∧Hid (Jj w B (some ⟨i,0,none⟩) (some ⟨ab,0,none⟩) m C c gc z L own fs gs b wr)) (λ_ an _=>own.length - (intOf an).toNat)
 case atStart=>exact⟨0,rfl,rfl,zu _,d⟩
 case round=>
  clear d;rename World=>w4;obtain⟨b,rfl,rfl,ee,d⟩:=hrel;have G:w4.cell? ⟨w.heap.size,0,none⟩=some (.slice (some ⟨i,0,none⟩) own.length c):=d.o.cell 0;have F:w4.cell? ⟨w.heap.size+1,0,none⟩=some (.slice m own.length z):=d.p.cell 0;have T:=d.o.lt;have S:=d.p.lt;by_cases q:b<own.length
  ·have ed:(0:Int)<=(b:Int)∧(b:Int)<(own.length:Int):=by omega
   have ba:b<fs.length:=by have:=b8.1;omega
   have bl:bd w4 (some ⟨i,0,none⟩) (cx own):=λec=>⟨i,0,rfl,(zW d.fns i rfl).2,λc1 co a8=>by
    have:=World.ownsRow.cells d.fns (g:=i) rfl c1 co (by rw[iZ,zS (zB.1 a8).1];exact a8);rw[Addr.add_lit]at this;exact this⟩
   obtain⟨ej,d8,ar,bk,bc⟩:=oB bl (by omega);injection ar with ar;injection ar with a2 e2 _;subst a2 e2;obtain⟨Q,d9,rfl,bi,be⟩:=oB d.rows (by omega);obtain⟨P,A,O,y,N,x⟩:=bc b q;obtain⟨_,_,_,v,_,u⟩:=be b ba;simp only[zP]at P A O y N x;obtain⟨d0,dC,dB,b3,dA,b2⟩:=b8.2 b q ba;rw[b3]at v;rw[b2]at u;have j:=za (d.parts b q (zb _));obtain⟨aa,V⟩:=lV j.takenM (by omega);obtain⟨M,W,ap⟩:=j.part.ownC;have ao:=gW j.takenM (by omega);have kc:=gW j.codeM (by omega);have Y:=d4.out _ (zk q);have af:=za (λ(D:World) (hbx:zz w4 D)=>vw own[b].name own[b].params own[b].slots own[b].around own[b].TA own[b].taken.length own[b].tc M own[b].cc own[b].code own[b].taken B D (ap.old hbx) rfl (j.part.ownT.below hbx (zb _)) (by omega) (by omega));have b5:=za (λ(w':World) (ht:aR (sy own[b]) w4 w')=>d.next b7.mine.rising (d2.out (Nat.lt_of_le_of_lt (zu _) q)) d3.out q ht);have a5:=za (show ∀U,(U=M∨∃a,own[b].TA=some a∧a.block=U)->sy own[b] U from λU H=>by
    rcases H with rfl|H
    ·exact .inl ⟨_,W,rfl⟩
    ·exact .inr H)
   have R:w4.cell? ⟨aa,own[b].taken.length,none⟩=some (.int .i64 (-71)):=by
    have k:=j.takenM;rw[V]at k;have:=World.ownsRow.cells k (g:=aa) rfl own[b].taken.length (.int .i64 (-71)) (by simp[bv]);rw[Addr.add_lit,zP]at this;exact this
   have ad:w4.cell? ⟨M,own[b].code.length * 5,none⟩=some (.int .i64 (-71)):=by
    have k:=j.codeM;rw[W]at k;have:=World.ownsRow.cells k (g:=M) rfl (own[b].code.length * 5) (.int .i64 (-71)) (by
     rw[ix,zJ (by rw[bw];omega),bw];simp[bV,aZ,qw])
    rw[Addr.add_lit,zP]at this;exact this
   have b0:aa<w4.heap.size:=by
    have k:=j.takenM;rw[V]at k;exact(zW k aa rfl).2
   have b1:M<w4.heap.size:=ap.lt;rw[V]at y af a5;rw[W]at x;have b6:=za q;generalize own[b]=o at P A O y N x v u ao kc Y af b5 a5 R ad;generalize fs[b]=o2 at v u;have X:o.taken.length<=2000000:=zi Y.1 (by decide);have Z:o.code.length<=2000000:=zi Y.2 (by decide);have a3:(0:Int)<=((o.taken.length+1:Nat):Int)∧((o.taken.length+1:Nat):Int)<=(o.tc:Int):=⟨Int.natCast_nonneg _,Int.ofNat_le.2 ao⟩
   have a4:(0:Int)<=((o.code.length+1:Nat):Int)∧((o.code.length+1:Nat):Int)<=(o.cc:Int):=⟨Int.natCast_nonneg _,Int.ofNat_le.2 kc⟩
   have c4:(0:Int)<=(o.taken.length:Int)∧(o.taken.length:Int)<((o.taken.length+1:Nat):Int):=⟨Int.natCast_nonneg _,Int.ofNat_lt.2 (Nat.lt_succ_self _)⟩
   have c7:(0:Int)<=(o.code.length:Int)∧(o.code.length:Int)<((o.code.length+1:Nat):Int):=⟨Int.natCast_nonneg _,Int.ofNat_lt.2 (Nat.lt_succ_self _)⟩
   have a6:wrap64 ((o.taken.length:Int)+1)=((o.taken.length+1:Nat):Int):=Ga X;have a7:wrap64 ((o.code.length:Int)+1)=((o.code.length+1:Nat):Int):=Ga Z;have cf:wrap64 (((o.taken.length+1:Nat):Int) - 1)=(o.taken.length:Int):=FT X;have cd:wrap64 (o.taken.length:Int)=(o.taken.length:Int):=jS X;have ci:wrap64 (o.code.length:Int)=(o.code.length:Int):=jS Z;have cj:wrap64 (((o.code.length+1:Nat):Int) - 1)=(o.code.length:Int):=FT Z;have c2:IntKind.i64.wrap ((o.taken.length:Int)+1)=((o.taken.length+1:Nat):Int):=(IntWalk.i64_left _).trans a6;have c3:IntKind.i64.wrap ((o.code.length:Int)+1)=((o.code.length+1:Nat):Int):=(IntWalk.i64_left _).trans a7;have ca:(0:Int)<=(o.taken.length:Int)+1:=a3.1;have cb:(0:Int)<=(o.code.length:Int)+1:=a4.1;have cl:(o.taken.length:Int)+1<=(o.tc:Int):=a3.2;have cn:(o.code.length:Int)+1<=(o.cc:Int):=a4.2;have cC:((o.taken.length:Int)+1).toNat=o.taken.length+1:=zV (o.taken.length+1);have cT:((o.code.length:Int)+1).toNat=o.code.length+1:=zV (o.code.length+1);clear be bc d0 dC dB b3 dA b2 V W ap j ao kc Y bl X Z;go_upto_region 8 with fail;go_still (by kernel_rfl);obtain⟨h,K⟩:∃h,h=({heap:=w4.heap,tape:=w4.tape,drawn:=w4.drawn+1,os:=w4.os,output:=w4.output}:World):=⟨_,rfl⟩
   rw[<-K];have d6:=za (show zz w4 h from by rw[K];exact ay (zZ _ _));have I:∀p,w4.cell? p=h.cell? p:=λp=>by rw[K];rfl
   have t:w4.heap.size=h.heap.size:=by rw[K]
   have ea:=za t;rw[I]at G F P A O y N x v u R ad;rw[t]at T S b0 b1 bi bk;clear K I t;go_upto_region 9 with fail;go_still (by kernel_rfl);obtain⟨E,J⟩:∃E,E=({heap:=h.heap,tape:=h.tape,drawn:=h.drawn+1,os:=h.os,output:=h.output}:World):=⟨_,rfl⟩
   rw[<-J];have b9:=za (show zz w4 E from by rw[J];exact ay d6.out);have I:∀p,h.cell? p=E.cell? p:=λp=>by rw[J];rfl
   have t:h.heap.size=E.heap.size:=by rw[J]
   rw[I]at G F P A O y N x v u R ad;rw[t]at T S b0 b1 bi bk;clear J I t;clear a3 a4 c2 c3 ca cb cl cn cC cT a6 a7 v u F cf cj;go_upto_region 11 with fail;clear c4 c7 cd ci R ad;go_wp2_with (go_at_call 27;refine(af.out _ b9.out).mono ?_;rintro dl ck ⟨rfl,a9,_,_⟩;have d5:=za (b5.out ck ((aR.ofBelow b9.out).trans (a9.mono a5.out)));clear a9 af);clear G P A O y N x;go_roundw
   case rel=>exact⟨b+1,rfl,by go_num,b6.out,d5⟩
   case measure=>have:=b6.out;simp[intOf];omega
  ·obtain rfl:b=own.length:=by omega
   go_wp2_with fail;go_ret;exact⟨rfl,d.turns⟩
end
section
open Go.RowKit Go.Proofs.PeepPlain
def nF:(prog.info? 9).map (λi=>(i.zero,i.size,i.bytes))=some (some (.string ⟨#[]⟩),1,16):=by kernel_rfl
def lK{w:World}{g:Nat}{e:TypeId}{size B:Nat}(b:ah w g e [])(a:B<=g):w.ownsRow B e size (.slice (some ⟨g,0,none⟩) 0 0) 0 []:=
 ⟨by simp,.inr ⟨g,0, #[],rfl,a,b,zb _,by simp[maxLen],by simp,by simp⟩⟩
def ie{w w':World}{B e size n:Nat}{b:Value}{a:List Value}(c:w.ownsRow B e size b n a)(g:zz w w'):w'.ownsRow B e size b n a:=aE c λd f=>g.block d (zW c d f).2
def dh{a w w':World}{b:Value}{e size n:Nat}{d:List Value}(c:zz a w)(g:w.ownsRow a.heap.size e size b n d)(i:w.grownBy w' b.ownBlock):zz a w':=
 c.grown i c.size (λf h=>(zW g f h).1)
def Cy{w:World}{g c:Nat}{l m:List au}(h:aK w g c (l++m)):aK w g c l:=by
 obtain⟨a,f,e,d,b⟩:=h;refine⟨bV m++a,?_,?_,d,?_⟩
 ·rw[<-List.append_assoc,<-ix];exact f
 ·rw[zw]at e;omega
 ·rw[<-List.append_assoc,<-ix];exact b
def GQ{w:World}{B h k e i:Nat}{t:ByteArray}{r p u:Int}{d:List Int}{a:List au}(j:w.ownsRow B 3 1 (.slice (some ⟨h,0,none⟩) (d.length+1) k) (d.length+1) (bv (d++ [-71])))(f:w.ownsRow B 50 5 (.slice (some ⟨e,0,none⟩) (a.length+1) i) (a.length+1) (bV (a++ [qw (-71)]))):du B w ⟨t,r,p,some ⟨h,0,none⟩,d,k,u,some ⟨e,0,none⟩,a,i⟩:=by
 have s:bm B w (.slice (some ⟨h,0,none⟩) (d.length+1) k) (d++ [-71]):=by
  show World.ownsRow _ _ _ _ _ _ _;rw[zw,zK];exact j
 have x:gB B w (.slice (some ⟨e,0,none⟩) (a.length+1) i) (a++ [qw (-71)]):=by
  show World.ownsRow _ _ _ _ _ _ _;rw[zw,zK];exact f
 have m:=s.shrink;obtain⟨q,y,_⟩:=aK.ofOwns (g:=e) (c:=i) (n:=a.length+1) (l:=a++ [qw (-71)]) (by
  rw[zw,zK];exact f)
 have o:=Cy q;refine⟨⟨o.insAt,m.ints,λv b=>?_,λv b=>?_,m,e,rfl,o⟩,j,f⟩
 ·injection b with b;subst b;exact zW f e rfl
 ·injection b with b;subst b;exact zW j h rfl
end
section
open Go.RowKit Go.Proofs.PeepPlain
structure NY(w:World)(A GA:Option Addr)(c gc:Nat)(fs:List Fn)(gs:List ByteArray)(i:Nat)(fk:List Fn)(vF:Value)(wr:World):Prop where
 p:ah wr w.heap.size 25 [.slice A fs.length c,.slice GA gs.length gc]
 z:ah wr (w.heap.size+1) 25 [.slice none 0 0,.slice none 0 0]
 q:ah wr (w.heap.size+1+1) 25 [vF,.slice none 0 0]
 own:wq (w.heap.size+1+1+1) wr vF fk
 parts:∀f∈fk,du (w.heap.size+1+1+1) wr f
 alike:fA (fs.take i) fk
 rising:nw fk
 below:Below w.heap.size w wr
def NY.more{w:World}{f GA:Option Addr}{c gc:Nat}{fs:List Fn}{gs:List ByteArray}{i:Nat}{e:List Fn}{d:Value}{wr w':World}(a:NY w f GA c gc fs gs i e d wr)(b:zz wr w'):NY w f GA c gc fs gs i e d w':=
 ⟨a.p.below b a.p.lt,a.z.below b a.z.lt,a.q.below b a.q.lt,ie a.own b,λh g=>(a.parts h g).below b,a.alike,a.rising,ac a.below b a.below.size⟩
def NY.next{w:World}{v GA:Option Addr}{c gc:Nat}{fs:List Fn}{gs:List ByteArray}{i:Nat}{d:List Fn}{l:Value}{wr w':World}(e:NY w v GA c gc fs gs i d l wr)(H:i<fs.length){f:Fn}(E:f.name=fs[i].name∧f.params=fs[i].params∧f.slots=fs[i].slots∧f.taken=fs[i].taken∧f.around=fs[i].around∧f.code=fs[i].code)(A:du (w.heap.size+1+1+1) wr f)(y:∀x∈d,∀a b,sy x a->sy f b->a<b)
 {g cap:Nat}(t:wq (w.heap.size+1+1+1) w' (.slice (some ⟨g,0,none⟩) (d.length+1) cap) (d++ [f]))(k:wr.grownBy w' l.ownBlock):
 NY w v GA c gc fs gs (i+1) (d++ [f]) (.slice (some ⟨g,0,none⟩) (d.length+1) cap) (w'.setCell ⟨w.heap.size+1+1,0,none⟩ (.slice (some ⟨g,0,none⟩) (d.length+1) cap)):=by
 have u:∀b,l.ownBlock=some b->w.heap.size+1+1+1<=b:=λb j=>(zW e.own b j).1;have r:∀b,b<w.heap.size+1+1+1->some b≠l.ownBlock:=λb j m=>by have:=u b m.symm;omega
 have I:=(zW t g rfl).1;have F:aR (λb=>l.ownBlock=some b∨b=w.heap.size+1+1) wr (w'.setCell ⟨w.heap.size+1+1,0,none⟩ (.slice (some ⟨g,0,none⟩) (d.length+1) cap)):=(aR.grown k (λg k=> .inl k)).trans (aR.set (.inr rfl) _);have s:∀x,du (w.heap.size+1+1+1) wr x->du (w.heap.size+1+1+1) (w'.setCell ⟨w.heap.size+1+1,0,none⟩ (.slice (some ⟨g,0,none⟩) (d.length+1) cap)) x:=λx h=>h.turns F (λb j n=>by
  rcases n with n|n
  ·exact oL h.part e.own (by decide) (by decide) n j
  ·have:=(h.part.blk j).1;omega)
 have B:d.length=i:=by have:=e.alike.1;rw[zR]at this;omega
 refine⟨(e.p.grown k (r _ (by omega))).setFar (p:=⟨w.heap.size+1+1,0,none⟩) (by show w.heap.size≠w.heap.size+1+1;omega) _,(e.z.grown k (r _ (by omega))).setFar (p:=⟨w.heap.size+1+1,0,none⟩) (by show w.heap.size+1≠w.heap.size+1+1;omega) _,(e.q.grown k (r _ (by omega))).set 0 _,aE t λb j=>zY _ _ _ _ (by have m:g=b:=(by injection j);show b≠w.heap.size+1+1;omega),λx h=>?_,⟨?_,λo D G=>?_⟩,sI e.rising y,(e.below.grown k e.below.size (λb j=>by have:=u b j;omega)).setCell (by show w.heap.size<=w.heap.size+1+1;omega) _⟩
 ·rcases List.mem_append.1 h with h|h
  ·exact s x (e.parts x h)
  ·rw[List.mem_singleton]at h;subst h;exact s x A
 ·rw[zw,zK,zR];omega
 ·rw[zR]at D;rw[List.getElem_take];by_cases m:o<d.length
  ·rw[List.getElem_append_left m];have:=e.alike.2 o (by rw[zR];omega) m;rw[List.getElem_take]at this;exact this
  ·have C:o=i:=by omega
   subst C;rw[List.getElem_append_right (by omega)];simp only[B,Nat.sub_self,List.getElem_cons_zero];exact E
def tj(d:World)(f:Nat)(e:TypeId)(size n:Nat)(g:List Value)(fc:Value->List Value)(h:TypeId)(a:World):Prop:=
 ∃b c,ah a f h (fc (.slice (some ⟨b,0,none⟩) n c))∧a.ownsRow d.heap.size e size (.slice (some ⟨b,0,none⟩) (n+1) c) (n+1) g∧aR (λi=>i=f) d a
def vq{f d:World}{a e size n b c fi:Nat}{j:TypeId}{g old:List Value}{fc:Value->List Value}(o:zz f d)(k:ah d a j old)(h:d.ownsRow f.heap.size e size (.slice (some ⟨b,0,none⟩) (n+1) c) (n+1) g)(q:a<f.heap.size)(m:old.set fi (.slice (some ⟨b,0,none⟩) n c)=fc (.slice (some ⟨b,0,none⟩) n c)):tj f a e size n g fc j (d.setCell ⟨a,fi,none⟩ (.slice (some ⟨b,0,none⟩) n c)):=by
 refine⟨b,c,m ▸ k.set fi _,aE h λi l=>zY _ _ _ _ (by have:=(zW h i l).1;show i≠a;omega),(aR.ofBelow o).trans (aR.set (S:=λp=>p=a) rfl _)⟩
def rM(l:List ByteArray):∀u∈l.map Value.string,u.oneCell'=true:=by
 intro u a;obtain⟨b,_,rfl⟩:=List.mem_map.1 a;rfl
def On(w:World)(g GA:Option Addr)(c gc:Nat)(fs:List Fn)(gs:List ByteArray)(d:List Fn)(a:World):Prop:=
 ∃b e,ah a w.heap.size 25 [.slice g fs.length c,.slice GA gs.length gc]∧ah a (w.heap.size+1) 25 [.slice none 0 0,.slice none 0 0]∧ah a (w.heap.size+1+1) 25 [.slice (some ⟨b,0,none⟩) fs.length e,.slice none 0 0]∧a.ownsRow (w.heap.size+1+1+1) 47 6 (.slice (some ⟨b,0,none⟩) (fs.length+1) e) (fs.length+1) (cx (d++ [jV]))∧(∀f∈d,du (w.heap.size+1+1+1) a f)∧zz w a
def Ls{w:World}{y GA:Option Addr}{c gc i:Nat}{fs:List Fn}{gs:List ByteArray}{l:List Fn}{h:Value}{s n g:World}(x:NY w y GA c gc fs gs i l h s)(b:zz s n)(e:n.grownBy g h.ownBlock){f j:Nat}(t:g.ownsRow (w.heap.size+1+1+1) 47 6 (.slice (some ⟨f,0,none⟩) (fs.length+1) j) (fs.length+1) (cx l++dy jV)):
 On w y GA c gc fs gs l (g.setCell ⟨w.heap.size+1+1,0,none⟩ (.slice (some ⟨f,0,none⟩) fs.length j)):=by
 have d:=x.more b;have u:∀a,h.ownBlock=some a->w.heap.size+1+1+1<=a:=λa b=>(zW x.own a b).1;have r:∀a,a<w.heap.size+1+1+1->some a≠h.ownBlock:=λa b v=>by have:=u a v.symm;omega
 have C:=(zW t f rfl).1;have A:aR (λa=>h.ownBlock=some a∨a=w.heap.size+1+1) n (g.setCell ⟨w.heap.size+1+1,0,none⟩ (.slice (some ⟨f,0,none⟩) fs.length j)):=(aR.grown e (λD e=> .inl e)).trans (aR.set (.inr rfl) _);refine⟨f,j,(d.p.grown e (r _ (by omega))).setFar (p:=⟨w.heap.size+1+1,0,none⟩) (by show w.heap.size≠w.heap.size+1+1;omega) _,(d.z.grown e (r _ (by omega))).setFar (p:=⟨w.heap.size+1+1,0,none⟩) (by show w.heap.size+1≠w.heap.size+1+1;omega) _,(d.q.grown e (r _ (by omega))).set 0 _,?_,λm o=>(d.parts m o).turns A (λa b k=>?_),(d.below.grown e d.below.size (λa b=>by have:=u a b;omega)).setCell (by show w.heap.size<=w.heap.size+1+1;omega) _⟩
 ·have B:g.ownsRow (w.heap.size+1+1+1) 47 6 (.slice (some ⟨f,0,none⟩) (fs.length+1) j) (fs.length+1) (cx (l++ [jV])):=by
   rw[iZ,show cx [jV]=dy jV by simp[cx]];exact t
  exact aE B λa b=>zY _ _ _ _ (by have v:f=a:=(by injection b);show a≠w.heap.size+1+1;omega)
 ·rcases k with k|k
  ·exact oL (d.parts m o).part d.own (by decide) (by decide) k b
  ·have:=((d.parts m o).part.blk b).1;omega
def CI{w:World}{B e size n c:Nat}{g:Option Addr}{a h:List Value}(o:w.ownsRow B e size (.slice g (n+1) c) (n+1) (a++h))(b:a.length=n * size):w.ownsRow B e size (.slice g n c) n a:=by
 refine⟨b,?_⟩;rcases o.2 with⟨d,s⟩|⟨p,cap,q,d,m,l,r,k,j,i⟩
 ·omega
 ·injection d with e1 e2 e3;subst e1 e3;refine .inr ⟨p,c,q,rfl,m,l,by omega,k,j,?_⟩;have f:=zp (List.take (n * size)) i;rw[List.take_take,Nat.min_eq_left (Nat.mul_le_mul_right _ (zE n)),List.take_append_of_le_length (by omega),<-b,List.take_length]at f;rw[<-b];exact f
def Lg{w g wc:World}{fs a:List Fn}{gs:List ByteArray}{l q o p:Nat}(v:fA (fs.take fs.length) a)(I:nw a)(t:g.ownsRow (w.heap.size+1+1+1) 47 6 (.slice (some ⟨l,0,none⟩) (fs.length+1) q) (fs.length+1) (cx (a++ [jV])))(E:∀f∈a,du (w.heap.size+1+1+1) g f)(F:zz w g)
 (z:wc.ownsRow g.heap.size 9 1 (.slice (some ⟨o,0,none⟩) (gs.length+1) p) (gs.length+1) ((gs++ [nM]).map Value.string))(x:aR (λb=>b=w.heap.size+1+1) g wc)(u e:Value):
 fA fs a∧rn w.heap.size ((wc.setCell ⟨w.heap.size+1,0,none⟩ u).setCell ⟨w.heap.size+1,1,none⟩ e) (some ⟨l,0,none⟩) q a (some ⟨o,0,none⟩) p gs∧Below w.heap.size w ((wc.setCell ⟨w.heap.size+1,0,none⟩ u).setCell ⟨w.heap.size+1,1,none⟩ e):=by
 rw[List.take_length]at v;have H:=v.1;have C:aR (λb=>b=w.heap.size+1+1∨b=w.heap.size+1) g ((wc.setCell ⟨w.heap.size+1,0,none⟩ u).setCell ⟨w.heap.size+1,1,none⟩ e):=(x.mono (λG A=> .inl A)).trans ((aR.set (.inr rfl) _).trans (aR.set (.inr rfl) _));have s:((wc.setCell ⟨w.heap.size+1,0,none⟩ u).setCell ⟨w.heap.size+1,1,none⟩ e).ownsRow w.heap.size 47 6 (.slice (some ⟨l,0,none⟩) (a.length+1) q) (a.length+1) (cx (a++ [jV])):=by
  have:=jI (ep t C (λi m d=>by have:=(zW t i m).1;rcases d with d|d<;>omega)) (show w.heap.size<=w.heap.size+1+1+1 by omega);rw[H];exact this
 have y:=F.size;have r:((wc.setCell ⟨w.heap.size+1,0,none⟩ u).setCell ⟨w.heap.size+1,1,none⟩ e).ownsRow w.heap.size 9 1 (.slice (some ⟨o,0,none⟩) (gs.length+1) p) (gs.length+1) ((gs++ [nM]).map Value.string):=by
  have B:=(zW t l rfl)
  refine jI (aE z λi m=>?_) y;have:=(zW z i m).1;exact(zY _ _ _ _ (by show i≠w.heap.size+1;omega)).trans (zY _ _ _ _ (by show i≠w.heap.size+1;omega))
 have D:∀f∈a,du w.heap.size ((wc.setCell ⟨w.heap.size+1,0,none⟩ u).setCell ⟨w.heap.size+1,1,none⟩ e) f:=λf k=>by
  have n:=(E f k).turns C (λb B d=>by have:=((E f k).part.blk B).1;rcases d with d|d<;>omega);have c:=n.part;exact⟨⟨c.code,c.taken,λj h=>⟨by have:=(c.lowC j h).1;omega,(c.lowC j h).2⟩,λj h=>⟨by have:=(c.lowT j h).1;omega,(c.lowT j h).2⟩,c.ownT.low (by omega),c.ownC⟩,jI n.takenM (by omega),jI n.codeM (by omega)⟩
 refine⟨v,⟨⟨CI (by rw[iZ]at s;exact s) (iY a),λf k=>(D f k).part,I,CI (by rw[List.map_append]at r;exact r) (by simp)⟩,s,D,r⟩,?_⟩;exact((F.trans (x.below y (λG A=>by omega))).setCell (by show w.heap.size<=w.heap.size+1;omega) _).setCell (by show w.heap.size<=w.heap.size+1;omega) _
def N1{b:Func}{p:Tmp}(f:b.results= #[.cell p 25])(tmps:Array Value)(w:World)(g:Nat)(a:List Value)(d:tmps.getD p undef= .pointer (some ⟨g,0,none⟩))(c:ah w g 25 a)(e:a.length=2):
 (results b tmps).run prog w= .ok (.agg a.toArray) w:=
 results_cell_row f tmps w g 25 a.toArray (0,0) _ d c underlying25 rfl (by rw[Fh];simp[e])
set_option maxRecDepth 20000 in
def JA(fs:List Fn)(gs:List ByteArray)(S GA:Option Addr)(c gc:Nat)(w:World)(ea:bD w S fs)(d8:bd w GA (gs.map Value.string))(fm:Small fs gs)(d4:∀f∈fs,(f.CA=none->f.cc=0)∧(f.TA=none->f.tc=0))(d2:GA=none->gc=0)(b6:∀f∈fs,f.taken.length<=1999000∧f.code.length<=1999000)(d3:fs.length<=1999000)(b5:gs.length<=1999000):
 Calls prog 8 #[.agg #[.slice S fs.length c,.slice GA gs.length gc]] w λe w'=> ∃own e5 em e3 ec,e= .returned (.agg #[.slice e5 fs.length em,.slice e3 gs.length ec])∧fA fs own∧rn w.heap.size w' e5 em own e3 ec gs∧zz w w':=by
 have c1:=za ea;have gq:=za d8;have gt:=za d4;have cT:=za d2;have gv:=za b6;clear ea d8 d4 d2 b6 fm;go_enter func8,ntmps8;go_upto_block 0 with fail;have c2:Hid (NY w S GA c gc fs gs 0 [] (.slice none 0 0) (((w.alloc (.cells #[.slice S fs.length c,.slice GA gs.length gc] 25)).alloc (.cells #[.slice none 0 0,.slice none 0 0] 25)).alloc (.cells #[.slice none 0 0,.slice none 0 0] 25))):=za ⟨((ah.made w 25 _).alloc _).alloc _,(am w _ 25 _).alloc _,bh w _ _ 25 _,World.ownsRow_nil _ _ _ _,λf d3=>by simp at d3,⟨rfl,λm cl=>by simp at cl⟩,tY,bG w _ _ _⟩;generalize((w.alloc (.cells #[.slice S fs.length c,.slice GA gs.length gc] 25)).alloc (.cells #[.slice none 0 0,.slice none 0 0] 25)).alloc (.cells #[.slice none 0 0,.slice none 0 0] 25)=w1 at c2 ⊢
 go_wp2_with fail;go_loopw [4] (λU wr=> ∃(m:Nat) (V:List Fn) (T:Value),U= .int .i64 m∧m<=fs.length∧Hid (NY w S GA c gc fs gs m V T wr)) (λU _=>fs.length - (intOf U).toNat)
 case atStart=>exact⟨0,[],_,rfl,zu _,c2⟩
 case round=>
  clear c2;rename World=>w2;obtain⟨m,V,T,rfl,cl,s⟩:=hrel;have a4:w2.cell? ⟨w.heap.size,0,none⟩=some (.slice S fs.length c):=s.p.cell 0;have ao:=s.p.lt;by_cases b4:m<fs.length
  ·have he:(0:Int)<=(m:Int)∧(m:Int)<(fs.length:Int):=by omega
   obtain⟨k,t,rfl,ap,d5⟩:=(c1.below s.below).at_ (by omega);obtain⟨ek,ej,ef,cp,ee,co⟩:=d5 m b4;have bi:=zk b4;have cC:=za (λ(P:World) (hbx:zz w2 P)=>((c1.below s.below).taken _ bi).below hbx rfl);have e2:=za (λ(P:World) (hbx:zz w2 P)=>((c1.below s.below).code _ bi).below hbx);have a0:=za (gt.out _ bi);have ff:=gv.out _ bi;obtain⟨a,e1⟩:∃a,Hid (fs[m]=a):=⟨_,za rfl⟩
   have Y:=e1.out;rw[Y]at ek ej ef cp ee co ff;simp only[Y]at cC e2 a0;have b8:=za b4;clear d5 bi Y;go_upto_region 6 with fail;have a7:=za (ah.made w2 47 [.string a.name,.int .i64 a.params,.int .i64 a.slots,.slice a.TA a.taken.length a.tc,.int .i64 a.around,.slice a.CA a.code.length a.cc]);have b9:=za (s.more (below1 w2 (.cells #[.string a.name,.int .i64 a.params,.int .i64 a.slots,.slice a.TA a.taken.length a.tc,.int .i64 a.around,.slice a.CA a.code.length a.cc] 47)));have a1:=za (below1 w2 (.cells #[.string a.name,.int .i64 a.params,.int .i64 a.slots,.slice a.TA a.taken.length a.tc,.int .i64 a.around,.slice a.CA a.code.length a.cc] 47));simp only[List.toArray]at a7;obtain⟨z,bj⟩:∃z,w2.heap.size=z:=⟨_,rfl⟩
   have R:=za bj;rw[bj]at a7;rw[bj]at ap
   try rw[bj]
   clear bj a4 ao ek ej ef ee;have b2:=a1.cell (p:=⟨k,t+m * 6+3,none⟩) (by rw[R.out];exact ap);rw[cp]at b2;have b1:=a1.cell (p:=⟨k,t+m * 6+5,none⟩) (by rw[R.out];exact ap);rw[co]at b1;generalize w2.alloc (.cells #[.string a.name,.int .i64 a.params,.int .i64 a.slots,.slice a.TA a.taken.length a.tc,.int .i64 a.around,.slice a.CA a.code.length a.cc] 47)=W at a7 b9 a1 b2 b1 ⊢
   have d9:=a7.lt;have hc:w.heap.size<z:=by rw[<-R.out];exact s.p.lt
   have a4:W.cell? ⟨w.heap.size,0,none⟩=some (.slice (some ⟨k,t,none⟩) fs.length c):=b9.p.cell 0;have ao:=b9.p.lt;clear cp co;go_cut [] (λP=>Hid (tj W z 3 1 a.taken.length (bv (a.taken++ [-71])) (λU=> [.string a.name,.int .i64 a.params,.int .i64 a.slots,U,.int .i64 a.around,.slice a.CA a.code.length a.cc]) 47 P))
   case first=>
    have H:=za a7.out;have a9:=za (show Below W.heap.size W W.drew from ay (zZ _ _));have o:=za (show ∀w',zz W w'->w'.cell? ⟨w.heap.size,0,none⟩=some (.slice (some ⟨k,t,none⟩) fs.length c)∧w'.cell? ⟨k,t+m * 6+3,none⟩=some (.slice a.TA a.taken.length a.tc)from λw' u=>⟨(u.cell (p:=⟨w.heap.size,0,none⟩) ao).trans a4,(u.cell (p:=⟨k,t+m * 6+3,none⟩) (show k<W.heap.size by omega)).trans b2⟩);have bt:=za (show ∀w' K,zz W w'->(w'.setCell ⟨z,3,none⟩ K).cell? ⟨w.heap.size,0,none⟩=some (.slice (some ⟨k,t,none⟩) fs.length c)∧(w'.setCell ⟨z,3,none⟩ K).cell? ⟨k,t+m * 6+3,none⟩=some (.slice a.TA a.taken.length a.tc)from λw' K u=>⟨(zI (a:=⟨w.heap.size,0,none⟩) (zY _ _ _ _ (by show w.heap.size≠z;omega))).trans (o.out w' u).1,(zI (a:=⟨k,t+m * 6+3,none⟩) (zY _ _ _ _ (by show k≠z;omega))).trans (o.out w' u).2⟩);have Q:=za (show ∀w',zz W w'->bd w' a.TA (bv a.taken)from λw' u=>cC.out w' (a1.trans (az u (by have:=a1.size;omega))));have cg:IntKind.i64.wrap (a.taken.length:Int)=(a.taken.length:Int):=(IntWalk.i64_left _).trans (jS (by omega));have ch:(0:Int)<=(a.taken.length:Int):=by omega
    have r:=za (show Below W.heap.size W (W.drew.alloc (.cells #[] 3))from(ay (zZ _ _)).alloc (zb _) _);have J:=za (show Below W.heap.size W ((W.drew.alloc (.cells #[] 3)).alloc (.cells #[.int .i64 (-71)] 3))from r.alloc r.size _);have I:=za (show Below W.heap.size W ((W.drew.alloc (.cells #[.int .i64 (-71)] 3)).alloc (.cells #[] 3))from((ay (zZ _ _)).alloc (zb _) _).alloc (by simp) _);have N:Hid ((W.drew.alloc (.cells #[] 3)).ownsRow W.heap.size 3 1 (.slice (some ⟨W.heap.size,0,none⟩) 0 0) 0 []):=za (lK (ah.made W.drew 3 []) (zb _));have an:Hid (((W.drew.alloc (.cells #[] 3)).alloc (.cells #[.int .i64 (-71)] 3)).ownsRow W.heap.size 3 1 (.slice (some ⟨W.heap.size,0,none⟩) 0 0) 0 []):=za (ie N.out (below1 _ _));have af:Hid (((W.drew.alloc (.cells #[.int .i64 (-71)] 3)).alloc (.cells #[] 3)).ownsRow W.heap.size 3 1 (.slice (some ⟨W.heap.size+1,0,none⟩) 0 0) 0 []):=za (lK (am W.drew _ 3 []) (zE _));have bl:Hid (ah ((W.drew.alloc (.cells #[] 3)).alloc (.cells #[.int .i64 (-71)] 3)) (W.heap.size+1) 3 [.int .i64 (-71)]):=za (am W.drew _ 3 [.int .i64 (-71)]);have bk:Hid (ah ((W.drew.alloc (.cells #[.int .i64 (-71)] 3)).alloc (.cells #[] 3)) W.heap.size 3 [.int .i64 (-71)]):=za ((ah.made W.drew 3 [.int .i64 (-71)]).alloc _);have bq:Hid (∀j,(Value.slice (some ⟨W.heap.size,0,none⟩) 0 0).ownBlock=some j->j≠W.heap.size+1):=za (λj F=>by have E:W.heap.size=j:=(by injection F);omega);have bp:Hid (∀j,(Value.slice (some ⟨W.heap.size+1,0,none⟩) 0 0).ownBlock=some j->j≠W.heap.size):=za (λj F=>by have E:W.heap.size+1=j:=(by injection F);omega);go_region_held3 (λw'=>w'.cell? ⟨w.heap.size,0,none⟩=some (.slice (some ⟨k,t,none⟩) fs.length c)∧w'.cell? ⟨k,t+m * 6+3,none⟩=some (.slice a.TA a.taken.length a.tc))
     (first|exact o.out _ C.out|exact bt.out _ _ C.out|exact o.out _ l.out|exact o.out _ r.out|exact o.out _ J.out|exact o.out _ I.out|exact o.out _ a9.out|go_keep)
     (first
      |(refine dG (W.drew.alloc (.cells #[] 3)) (.tmp 19) (.tmp 25) 44 3 1 8 (.int .i64 0) (by rfl) (by rfl) underlying44 mP rfl (by decide) (by decide) W.heap.size (.slice (some ⟨W.heap.size,0,none⟩) 0 0) 0 [] (by rfl) N.out a.TA a.taken.length a.tc (bv a.taken) (by rfl) a0.2 (by rw[jc];omega) (Q.out _ r.out) (qt _) (by omega) (by omega) r.size ?_;intro G v h i D;rw[zP,List.nil_append]at h;have l:=za (dh r.out N.out i);have B:=za h;clear h i D)
      |(refine dG ((W.drew.alloc (.cells #[] 3)).alloc (.cells #[.int .i64 (-71)] 3)) (.tmp 19) (.tmp 25) 44 3 1 8 (.int .i64 0) (by rfl) (by rfl) underlying44 mP rfl (by decide) (by decide) W.heap.size (.slice (some ⟨W.heap.size,0,none⟩) 0 0) 0 [] (by rfl) an.out a.TA a.taken.length a.tc (bv a.taken) (by rfl) a0.2 (by rw[jc];omega) (Q.out _ J.out) (qt _) (by omega) (by omega) J.size ?_;intro G v h i D;rw[zP,List.nil_append]at h;have l:=za (dh J.out an.out i);have ad:=za (bl.grown i (λE=>bq.out _ E.symm rfl));have B:=za h;clear h i D)
      |(refine dG ((W.drew.alloc (.cells #[.int .i64 (-71)] 3)).alloc (.cells #[] 3)) (.tmp 19) (.tmp 25) 44 3 1 8 (.int .i64 0) (by rfl) (by rfl) underlying44 mP rfl (by decide) (by decide) W.heap.size (.slice (some ⟨W.heap.size+1,0,none⟩) 0 0) 0 [] (by rfl) af.out a.TA a.taken.length a.tc (bv a.taken) (by rfl) a0.2 (by rw[jc];omega) (Q.out _ I.out) (qt _) (by omega) (by omega) I.size ?_;intro G v h i D;rw[zP,List.nil_append]at h;have l:=za (dh I.out af.out i);have ad:=za (bk.grown i (λE=>bp.out _ E.symm rfl));have B:=za h;clear h i D)
      |(refine dG (v.alloc (.cells #[.int .i64 (-71)] 3)) (.tmp 26) (.tmp 27) 44 3 1 8 (.int .i64 0) (by rfl) (by rfl) underlying44 mP rfl (by decide) (by decide) W.heap.size G a.taken.length (bv a.taken) (by rfl) (ie B.out (below1 v _)) _ 1 1 [.int .i64 (-71)] (by rfl) (λL=>by cases L) (by rfl) (ah.made v 3 [.int .i64 (-71)]).lies (by simp[Value.oneCell']) (by omega) (by omega) (l.alloc l.size _).size ?_;intro a2 ab g x M;obtain⟨A,y,rfl,a6,a5⟩:=World.ownsRow.form g (by omega);have C:=za (dh (l.alloc l.size _) (ie B.out (below1 v _)) x);have O:=za g;have a3:((a.taken.length:Nat):Int)<=(y:Int):=(by have:=gW g (by omega);omega);have n:=za (H.below C.out H.lt);have bc:=n.cell 3;have bb:=n.free 3;have ba:=n.lt;clear g x M)
      |(refine dG v (.tmp 26) (.tmp 27) 44 3 1 8 (.int .i64 0) (by rfl) (by rfl) underlying44 mP rfl (by decide) (by decide) W.heap.size G a.taken.length (bv a.taken) (by rfl) B.out _ 1 1 [.int .i64 (-71)] (by rfl) (λL=>by cases L) (by rfl) ad.lies (by simp[Value.oneCell']) (by omega) (by omega) l.size ?_;intro a2 ab g x M;obtain⟨A,y,rfl,a6,a5⟩:=World.ownsRow.form g (by omega);have C:=za (dh l.out B.out x);have O:=za g;have a3:((a.taken.length:Nat):Int)<=(y:Int):=(by have:=gW g (by omega);omega);have n:=za (H.below C.out H.lt);have bc:=n.cell 3;have bb:=n.free 3;have ba:=n.lt;clear g x M))
    all_goals
     go_wp2_with fail;go_meet;exact za (vq (fi:=3) C.out n.out (by rw[eM];exact O) d9 rfl)
   case rest=>
    obtain⟨A,y,dl,g,df⟩:=hcut.out;obtain⟨b,fl⟩:∃b,b=wc:=⟨_,rfl⟩
    subst fl;have X:=za (show zz w2 b from a1.trans (df.below (by rw[R.out];exact Nat.le_of_lt d9) (λj F=>by rw[R.out];exact Nat.le_of_eq F.symm)));have cs:=za dl;have O:=za g;have e4:=za (s.more X.out);have c5:b.cell? ⟨w.heap.size,0,none⟩=some (.slice (some ⟨k,t,none⟩) fs.length c):=e4.p.cell 0;have c4:=e4.p.lt;have cd:k<w2.heap.size:=by rw[R.out];exact ap
    have c8:b.cell? ⟨k,t+m * 6+5,none⟩=some (.slice a.CA a.code.length a.cc):=by
     rw[<-b1];exact(X.cell (p:=⟨k,t+m * 6+5,none⟩) cd).trans (a1.cell (p:=⟨k,t+m * 6+5,none⟩) cd).symm
    have d7:W.heap.size<=A:=(zW O.out A rfl).1;have hf:=cs.lt;have d6:k<b.heap.size:=zv cd X.size;clear a4 ao b2 b1 dl g df hcut a7 b9 cC;have e9:z<b.heap.size:=cs.lt;go_upto_region 7 with fail;go_cut [] (λP=>Hid (tj b z 50 5 a.code.length (bV (a.code++ [qw (-71)])) (λU=> [.string a.name,.int .i64 a.params,.int .i64 a.slots,.slice (some ⟨A,0,none⟩) a.taken.length y,.int .i64 a.around,U]) 47 P))
    case first=>
     have H:=za cs.out;have a9:=za (show Below b.heap.size b b.drew from ay (zZ _ _));have o:=za (show ∀w',zz b w'->w'.cell? ⟨w.heap.size,0,none⟩=some (.slice (some ⟨k,t,none⟩) fs.length c)∧w'.cell? ⟨k,t+m * 6+5,none⟩=some (.slice a.CA a.code.length a.cc)from λw' u=>⟨(u.cell (p:=⟨w.heap.size,0,none⟩) c4).trans c5,(u.cell (p:=⟨k,t+m * 6+5,none⟩) d6).trans c8⟩);have bt:=za (show ∀w' K,zz b w'->(w'.setCell ⟨z,5,none⟩ K).cell? ⟨w.heap.size,0,none⟩=some (.slice (some ⟨k,t,none⟩) fs.length c)∧(w'.setCell ⟨z,5,none⟩ K).cell? ⟨k,t+m * 6+5,none⟩=some (.slice a.CA a.code.length a.cc)from λw' K u=>⟨(zI (a:=⟨w.heap.size,0,none⟩) (zY _ _ _ _ (by show w.heap.size≠z;omega))).trans (o.out w' u).1,(zI (a:=⟨k,t+m * 6+5,none⟩) (zY _ _ _ _ (by show k≠z;omega))).trans (o.out w' u).2⟩);have Q:=za (show ∀w',zz b w'->bd w' a.CA (bV a.code)from λw' u=>e2.out w' (X.trans (az u X.size)));have cg:IntKind.i64.wrap (a.code.length:Int)=(a.code.length:Int):=(IntWalk.i64_left _).trans (jS (by omega));have ch:(0:Int)<=(a.code.length:Int):=by omega
     have r:=za (show Below b.heap.size b (b.drew.alloc (.cells #[] 50))from(ay (zZ _ _)).alloc (zb _) _);have J:=za (show Below b.heap.size b ((b.drew.alloc (.cells #[] 50)).alloc (.cells #[.int .i64 (-71),.int .i64 0,.int .i64 0,.string ⟨#[]⟩,.int .i64 0] 50))from r.alloc r.size _);have I:=za (show Below b.heap.size b ((b.drew.alloc (.cells #[.int .i64 (-71),.int .i64 0,.int .i64 0,.string ⟨#[]⟩,.int .i64 0] 50)).alloc (.cells #[] 50))from((ay (zZ _ _)).alloc (zb _) _).alloc (by simp) _);have N:Hid ((b.drew.alloc (.cells #[] 50)).ownsRow b.heap.size 50 5 (.slice (some ⟨b.heap.size,0,none⟩) 0 0) 0 []):=za (lK (ah.made b.drew 50 []) (zb _));have an:Hid (((b.drew.alloc (.cells #[] 50)).alloc (.cells #[.int .i64 (-71),.int .i64 0,.int .i64 0,.string ⟨#[]⟩,.int .i64 0] 50)).ownsRow b.heap.size 50 5 (.slice (some ⟨b.heap.size,0,none⟩) 0 0) 0 []):=za (ie N.out (below1 _ _));have af:Hid (((b.drew.alloc (.cells #[.int .i64 (-71),.int .i64 0,.int .i64 0,.string ⟨#[]⟩,.int .i64 0] 50)).alloc (.cells #[] 50)).ownsRow b.heap.size 50 5 (.slice (some ⟨b.heap.size+1,0,none⟩) 0 0) 0 []):=za (lK (am b.drew _ 50 []) (zE _));have bl:Hid (ah ((b.drew.alloc (.cells #[] 50)).alloc (.cells #[.int .i64 (-71),.int .i64 0,.int .i64 0,.string ⟨#[]⟩,.int .i64 0] 50)) (b.heap.size+1) 50 [.int .i64 (-71),.int .i64 0,.int .i64 0,.string ⟨#[]⟩,.int .i64 0]):=za (am b.drew _ 50 [.int .i64 (-71),.int .i64 0,.int .i64 0,.string ⟨#[]⟩,.int .i64 0]);have bk:Hid (ah ((b.drew.alloc (.cells #[.int .i64 (-71),.int .i64 0,.int .i64 0,.string ⟨#[]⟩,.int .i64 0] 50)).alloc (.cells #[] 50)) b.heap.size 50 [.int .i64 (-71),.int .i64 0,.int .i64 0,.string ⟨#[]⟩,.int .i64 0]):=za ((ah.made b.drew 50 [.int .i64 (-71),.int .i64 0,.int .i64 0,.string ⟨#[]⟩,.int .i64 0]).alloc _);have bq:Hid (∀j,(Value.slice (some ⟨b.heap.size,0,none⟩) 0 0).ownBlock=some j->j≠b.heap.size+1):=za (λj F=>by have E:b.heap.size=j:=(by injection F);omega);have bp:Hid (∀j,(Value.slice (some ⟨b.heap.size+1,0,none⟩) 0 0).ownBlock=some j->j≠b.heap.size):=za (λj F=>by have E:b.heap.size+1=j:=(by injection F);omega);go_region_held3 (λw'=>w'.cell? ⟨w.heap.size,0,none⟩=some (.slice (some ⟨k,t,none⟩) fs.length c)∧w'.cell? ⟨k,t+m * 6+5,none⟩=some (.slice a.CA a.code.length a.cc))
      (first|exact o.out _ C.out|exact bt.out _ _ C.out|exact o.out _ l.out|exact o.out _ r.out|exact o.out _ J.out|exact o.out _ I.out|exact o.out _ a9.out|go_keep)
      (first
       |(refine dG (b.drew.alloc (.cells #[] 50)) (.tmp 38) (.tmp 44) 45 50 5 48 (.agg #[.int .i64 0,.int .i64 0,.int .i64 0,.string ⟨#[]⟩,.int .i64 0]) (by rfl) (by rfl) underlying45 nN rfl (by decide) (by decide) b.heap.size (.slice (some ⟨b.heap.size,0,none⟩) 0 0) 0 [] (by rfl) N.out a.CA a.code.length a.cc (bV a.code) (by rfl) a0.1 (bw _) (Q.out _ r.out) (oM _) (by omega) (by omega) r.size ?_;intro G v h i D;rw[zP,List.nil_append]at h;have l:=za (dh r.out N.out i);have B:=za h;clear h i D)
       |(refine dG ((b.drew.alloc (.cells #[] 50)).alloc (.cells #[.int .i64 (-71),.int .i64 0,.int .i64 0,.string ⟨#[]⟩,.int .i64 0] 50)) (.tmp 38) (.tmp 44) 45 50 5 48 (.agg #[.int .i64 0,.int .i64 0,.int .i64 0,.string ⟨#[]⟩,.int .i64 0]) (by rfl) (by rfl) underlying45 nN rfl (by decide) (by decide) b.heap.size (.slice (some ⟨b.heap.size,0,none⟩) 0 0) 0 [] (by rfl) an.out a.CA a.code.length a.cc (bV a.code) (by rfl) a0.1 (bw _) (Q.out _ J.out) (oM _) (by omega) (by omega) J.size ?_;intro G v h i D;rw[zP,List.nil_append]at h;have l:=za (dh J.out an.out i);have ad:=za (bl.grown i (λE=>bq.out _ E.symm rfl));have B:=za h;clear h i D)
       |(refine dG ((b.drew.alloc (.cells #[.int .i64 (-71),.int .i64 0,.int .i64 0,.string ⟨#[]⟩,.int .i64 0] 50)).alloc (.cells #[] 50)) (.tmp 38) (.tmp 44) 45 50 5 48 (.agg #[.int .i64 0,.int .i64 0,.int .i64 0,.string ⟨#[]⟩,.int .i64 0]) (by rfl) (by rfl) underlying45 nN rfl (by decide) (by decide) b.heap.size (.slice (some ⟨b.heap.size+1,0,none⟩) 0 0) 0 [] (by rfl) af.out a.CA a.code.length a.cc (bV a.code) (by rfl) a0.1 (bw _) (Q.out _ I.out) (oM _) (by omega) (by omega) I.size ?_;intro G v h i D;rw[zP,List.nil_append]at h;have l:=za (dh I.out af.out i);have ad:=za (bk.grown i (λE=>bp.out _ E.symm rfl));have B:=za h;clear h i D)
       |(refine dG (v.alloc (.cells #[.int .i64 (-71),.int .i64 0,.int .i64 0,.string ⟨#[]⟩,.int .i64 0] 50)) (.tmp 45) (.tmp 47) 45 50 5 48 (.agg #[.int .i64 0,.int .i64 0,.int .i64 0,.string ⟨#[]⟩,.int .i64 0]) (by rfl) (by rfl) underlying45 nN rfl (by decide) (by decide) b.heap.size G a.code.length (bV a.code) (by rfl) (ie B.out (below1 v _)) _ 1 1 [.int .i64 (-71),.int .i64 0,.int .i64 0,.string ⟨#[]⟩,.int .i64 0] (by rfl) (λL=>by cases L) (by rfl) (ah.made v 50 [.int .i64 (-71),.int .i64 0,.int .i64 0,.string ⟨#[]⟩,.int .i64 0]).lies (by simp[Value.oneCell']) (by omega) (by omega) (l.alloc l.size _).size ?_;intro a2 ab g x M;obtain⟨A,y,rfl,a6,a5⟩:=World.ownsRow.form g (by omega);have C:=za (dh (l.alloc l.size _) (ie B.out (below1 v _)) x);have O:=za g;have a3:((a.code.length:Nat):Int)<=(y:Int):=(by have:=gW g (by omega);omega);have n:=za (H.below C.out H.lt);have bc:=n.cell 5;have bb:=n.free 5;have ba:=n.lt;clear g x M)
       |(refine dG v (.tmp 45) (.tmp 47) 45 50 5 48 (.agg #[.int .i64 0,.int .i64 0,.int .i64 0,.string ⟨#[]⟩,.int .i64 0]) (by rfl) (by rfl) underlying45 nN rfl (by decide) (by decide) b.heap.size G a.code.length (bV a.code) (by rfl) B.out _ 1 1 [.int .i64 (-71),.int .i64 0,.int .i64 0,.string ⟨#[]⟩,.int .i64 0] (by rfl) (λL=>by cases L) (by rfl) ad.lies (by simp[Value.oneCell']) (by omega) (by omega) l.size ?_;intro a2 ab g x M;obtain⟨A,y,rfl,a6,a5⟩:=World.ownsRow.form g (by omega);have C:=za (dh l.out B.out x);have O:=za g;have a3:((a.code.length:Nat):Int)<=(y:Int):=(by have:=gW g (by omega);omega);have n:=za (H.below C.out H.lt);have bc:=n.cell 5;have bb:=n.free 5;have ba:=n.lt;clear g x M))
     all_goals
      go_wp2_with fail;go_meet;exact za (vq (fi:=5) C.out n.out (by rw[ix];exact O) e9 rfl)
    case rest=>
     obtain⟨Z,b7,dn,ck,ci⟩:=hcut.out;have gC:=za (show zz w2 wc from X.trans (ci.below X.size (λj F=>by rw[R.out];exact Nat.le_of_eq F.symm)));have av:=za dn;have fn:=s.q.lt;have ew:=ep O.out ci (λar b5=>by have e:A=ar:=(by injection b5);have ed:=R.out;show ar≠z;omega);have gl:=za (show du (w.heap.size+1+1+1) wc ⟨a.name,a.params,a.slots,some ⟨A,0,none⟩,a.taken,y,a.around,some ⟨Z,0,none⟩,a.code,b7⟩from GQ (jI ew (by have ed:=R.out;omega)) (jI ck (by have ed:=R.out;have:=X.size;omega)));have a8:=za (s.more gC.out);have go:=za (show b.heap.size<=Z from(zW ck Z rfl).1);have c0:=za d7;have f4:wc.cell? ⟨z,0,none⟩=some (.string a.name):=av.cell 0;have f3:wc.cell? ⟨z,1,none⟩=some (.int .i64 a.params):=av.cell 1;have f2:wc.cell? ⟨z,2,none⟩=some (.int .i64 a.slots):=av.cell 2;have f1:wc.cell? ⟨z,3,none⟩=some (.slice (some ⟨A,0,none⟩) a.taken.length y):=av.cell 3;have f0:wc.cell? ⟨z,4,none⟩=some (.int .i64 a.around):=av.cell 4;have fx:wc.cell? ⟨z,5,none⟩=some (.slice (some ⟨Z,0,none⟩) a.code.length b7):=av.cell 5;have hi:=av.lt;have cb:wc.cell? ⟨w.heap.size+1+1,0,none⟩=some T:=a8.q.cell 0;have b0:=a8.q.lt;have gr:=za (show V.length=m from by have:=s.alike.1;rw[zR]at this;have hg:=b8.out;omega);have gm:=za (λ(ar cap:Nat) (w':World) Y b5=>a8.next (w':=w') b8.out (f:=⟨a.name,a.params,a.slots,some ⟨A,0,none⟩,a.taken,y,a.around,some ⟨Z,0,none⟩,a.code,b7⟩) (by rw[e1.out];exact⟨rfl,rfl,rfl,rfl,rfl,rfl⟩) gl.out (λe6 e8 aa k fj b6=>by
      have hh:=((s.parts e6 e8).part.blk fj).2;rcases b6 with⟨ca,cf,rfl⟩|⟨ca,cf,rfl⟩
      ·have e:ca=⟨Z,0,none⟩:=by injection cf with e;exact e.symm
       subst e;have fr:=go.out;have fo:=X.size;show aa<Z;omega
      ·have e:ca=⟨A,0,none⟩:=by injection cf with e;exact e.symm
       subst e;have fr:=c0.out;have fo:=R.out;show aa<A;omega) (g:=ar) (cap:=cap) Y b5)
     clear c5 c4 c8 d6 hcut dn ck ci ew d7 fn;go_wp2_with (at_builtin;refine Of (.tmp 59) (.tmp 61) (w.heap.size+1+1+1) T V ⟨a.name,a.params,a.slots,some ⟨A,0,none⟩,a.taken,y,a.around,some ⟨Z,0,none⟩,a.code,b7⟩ wc _ rfl rfl rfl a8.own rfl wc.heap.size rfl rfl (by have:=gr.out;omega) b0 ?_;intro ar cap e7 d0 cn fh hd;have gz:=za (gm.out ar cap e7 d0 cn);have be:some (w.heap.size+1+1)≠T.ownBlock:=(λe=>by have:=(zW a8.own _ e.symm).1;omega);have cv:=za (a8.q.grown cn be);have hb:=cv.cell 0;have ha:=cv.free 0;have g9:=cv.lt;clear d0 cn fh be cb f4 f3 f2 f1 f0 fx);go_roundw
     case rel=>exact⟨m+1,_,_,by go_num,b8.out,gz⟩
     case measure=>have:=b8.out;simp[intOf];omega
  ·obtain rfl:m=fs.length:=by omega
   clear b4 cl;have fc:V.length=fs.length:=by have:=s.alike.1;rw[zR]at this;omega
   have cb:w2.cell? ⟨w.heap.size+1+1,0,none⟩=some T:=s.q.cell 0;have b0:=s.q.lt;go_upto_region 9 with fail;go_cut [] (λP=>Hid (On w S GA c gc fs gs V P))
   case first=>
    have o:=za (show ∀w',zz w2 w'->w'.cell? ⟨w.heap.size,0,none⟩=some (.slice S fs.length c)from λw' u=>(u.cell (p:=⟨w.heap.size,0,none⟩) ao).trans a4);have r:=za (show Below w2.heap.size w2 (w2.drew.alloc (.cells #[.string ⟨#[109,97,114,107]⟩,.int .i64 0,.int .i64 0,.slice none 0 0,.int .i64 0,.slice none 0 0] 47))from(ay (zZ _ _)).alloc (zb _) _);have a9:=za (show Below w2.heap.size w2 w2.drew from ay (zZ _ _));have N:=za (show(w2.drew.alloc (.cells #[.string ⟨#[109,97,114,107]⟩,.int .i64 0,.int .i64 0,.slice none 0 0,.int .i64 0,.slice none 0 0] 47)).ownsRow (w.heap.size+1+1+1) 47 6 T fs.length (cx V)from by have:=ie s.own r.out;rw[fc]at this;exact this);have cg:IntKind.i64.wrap (fs.length:Int)=(fs.length:Int):=(IntWalk.i64_left _).trans (jS (by omega));have ch:(0:Int)<=(fs.length:Int):=by omega
    have e0:=za b0;go_region_law (first
     |(refine dG (w2.drew.alloc (.cells #[.string ⟨#[109,97,114,107]⟩,.int .i64 0,.int .i64 0,.slice none 0 0,.int .i64 0,.slice none 0 0] 47)) (.tmp 65) (.tmp 67) 22 47 6 88 (.agg #[.string ⟨#[]⟩,.int .i64 0,.int .i64 0,.slice none 0 0,.int .i64 0,.slice none 0 0]) (by rfl) (by rfl) underlying22 Mg rfl (by decide) (by decide) (w.heap.size+1+1+1) T fs.length (cx V) (by rfl) N.out _ 1 1 [.string ⟨#[109,97,114,107]⟩,.int .i64 0,.int .i64 0,.slice none 0 0,.int .i64 0,.slice none 0 0] (by rfl) (λL=>by cases L) (by rfl) (ah.made w2.drew 47 [.string ⟨#[109,97,114,107]⟩,.int .i64 0,.int .i64 0,.slice none 0 0,.int .i64 0,.slice none 0 0]).lies (by simp[Value.oneCell']) (by omega) (by omega) (by have:=r.size;have:=e0.out;omega) ?_;intro a2 ab g x M;obtain⟨A,y,rfl,a6,a5⟩:=World.ownsRow.form g (by omega);have c0:=za x;have O:=za g;have a3:((fs.length:Nat):Int)<=(y:Int):=(by have:=gW g (by omega);omega);have be:some (w.heap.size+1+1)≠T.ownBlock:=(λe=>by have:=(zW s.own _ e.symm).1;omega);have d1:some w.heap.size≠T.ownBlock:=(λe=>by have:=(zW s.own _ e.symm).1;omega);have ct:=za ((s.q.below r.out e0.out).grown x be);have es:=za ((s.p.below r.out ao).grown x d1);have hk:ab.cell? ⟨w.heap.size,0,none⟩=some (.slice S fs.length c):=es.cell 0;have hj:=za (show ∀K,(ab.setCell ⟨w.heap.size+1+1,0,none⟩ K).cell? ⟨w.heap.size,0,none⟩=some (.slice S fs.length c)from λK=>(zI (a:=⟨w.heap.size,0,none⟩) (zY _ _ _ _ (by show w.heap.size≠w.heap.size+1+1;omega))).trans (es.cell 0));have g8:=ct.cell 0;have g7:=ct.free 0;have g6:=ct.lt;clear g x M be d1))
    all_goals
     go_wp2_with fail;go_meet;exact za (Ls s.out r.out c0.out O.out)
   case rest=>
    obtain⟨A,y,dC,c9,dA,g,dB,ap⟩:=hcut.out;obtain⟨d,fk⟩:∃d,d=wc:=⟨_,rfl⟩
    subst fk;have ev:=za dC;have f9:=za c9;have en:=za dA;have gh:=za g;have gb:=za dB;have c3:=za ap;have c7:d.cell? ⟨w.heap.size,1,none⟩=some (.slice GA gs.length gc):=ev.cell 1;have c6:=ev.lt;have ds:=en.lt;have ga:=za s.rising;have gF:=za s.alike;clear dC c9 dA g dB ap hcut cb b0 ao s a4;go_upto_region 10 with fail;go_cut [] (λP=>Hid (tj d (w.heap.size+1+1) 9 1 gs.length ((gs++ [nM]).map Value.string) (λU=> [.slice (some ⟨A,0,none⟩) fs.length y,U]) 25 P))
    case first=>
     have H:=za en.out;have a9:=za (show Below d.heap.size d d.drew from ay (zZ _ _));have o:=za (show ∀w',zz d w'->w'.cell? ⟨w.heap.size,1,none⟩=some (.slice GA gs.length gc)from λw' u=>(u.cell (p:=⟨w.heap.size,1,none⟩) c6).trans c7);have bt:=za (show ∀w' K,zz d w'->(w'.setCell ⟨w.heap.size+1+1,1,none⟩ K).cell? ⟨w.heap.size,1,none⟩=some (.slice GA gs.length gc)from λw' K u=>(zI (a:=⟨w.heap.size,1,none⟩) (zY _ _ _ _ (by show w.heap.size≠w.heap.size+1+1;omega))).trans (o.out w' u));have Q:=za (show ∀w',zz d w'->bd w' GA (gs.map Value.string)from λw' u=>gq.below (c3.trans (az u c3.size)) rfl);have cg:IntKind.i64.wrap (gs.length:Int)=(gs.length:Int):=(IntWalk.i64_left _).trans (jS (by omega));have ch:(0:Int)<=(gs.length:Int):=by omega
     have r:=za (show Below d.heap.size d (d.drew.alloc (.cells #[] 9))from(ay (zZ _ _)).alloc (zb _) _);have J:=za (show Below d.heap.size d ((d.drew.alloc (.cells #[] 9)).alloc (.cells #[.string ⟨#[109,97,114,107]⟩] 9))from r.alloc r.size _);have I:=za (show Below d.heap.size d ((d.drew.alloc (.cells #[.string ⟨#[109,97,114,107]⟩] 9)).alloc (.cells #[] 9))from((ay (zZ _ _)).alloc (zb _) _).alloc (by simp) _);have N:Hid ((d.drew.alloc (.cells #[] 9)).ownsRow d.heap.size 9 1 (.slice (some ⟨d.heap.size,0,none⟩) 0 0) 0 []):=za (lK (ah.made d.drew 9 []) (zb _));have an:Hid (((d.drew.alloc (.cells #[] 9)).alloc (.cells #[.string ⟨#[109,97,114,107]⟩] 9)).ownsRow d.heap.size 9 1 (.slice (some ⟨d.heap.size,0,none⟩) 0 0) 0 []):=za (ie N.out (below1 _ _));have af:Hid (((d.drew.alloc (.cells #[.string ⟨#[109,97,114,107]⟩] 9)).alloc (.cells #[] 9)).ownsRow d.heap.size 9 1 (.slice (some ⟨d.heap.size+1,0,none⟩) 0 0) 0 []):=za (lK (am d.drew _ 9 []) (zE _));have bl:Hid (ah ((d.drew.alloc (.cells #[] 9)).alloc (.cells #[.string ⟨#[109,97,114,107]⟩] 9)) (d.heap.size+1) 9 [.string ⟨#[109,97,114,107]⟩]):=za (am d.drew _ 9 [.string ⟨#[109,97,114,107]⟩]);have bk:Hid (ah ((d.drew.alloc (.cells #[.string ⟨#[109,97,114,107]⟩] 9)).alloc (.cells #[] 9)) d.heap.size 9 [.string ⟨#[109,97,114,107]⟩]):=za ((ah.made d.drew 9 [.string ⟨#[109,97,114,107]⟩]).alloc _);have bq:Hid (∀j,(Value.slice (some ⟨d.heap.size,0,none⟩) 0 0).ownBlock=some j->j≠d.heap.size+1):=za (λj F=>by have E:d.heap.size=j:=(by injection F);omega);have bp:Hid (∀j,(Value.slice (some ⟨d.heap.size+1,0,none⟩) 0 0).ownBlock=some j->j≠d.heap.size):=za (λj F=>by have E:d.heap.size+1=j:=(by injection F);omega);go_region_held3 (λw'=>w'.cell? ⟨w.heap.size,1,none⟩=some (.slice GA gs.length gc))
      (first|exact o.out _ C.out|exact bt.out _ _ C.out|exact o.out _ l.out|exact o.out _ r.out|exact o.out _ J.out|exact o.out _ I.out|exact o.out _ a9.out|go_keep)
      (first
       |(refine dG (d.drew.alloc (.cells #[] 9)) (.tmp 74) (.tmp 76) 23 9 1 16 (.string ⟨#[]⟩) (by rfl) (by rfl) underlying23 nF rfl (by decide) (by decide) d.heap.size (.slice (some ⟨d.heap.size,0,none⟩) 0 0) 0 [] (by rfl) N.out GA gs.length gc (gs.map Value.string) (by rfl) cT.out (by simp) (Q.out _ r.out) (rM _) (by omega) (by omega) r.size ?_;intro G v h i D;rw[zP,List.nil_append]at h;have l:=za (dh r.out N.out i);have B:=za h;clear h i D)
       |(refine dG ((d.drew.alloc (.cells #[] 9)).alloc (.cells #[.string ⟨#[109,97,114,107]⟩] 9)) (.tmp 74) (.tmp 76) 23 9 1 16 (.string ⟨#[]⟩) (by rfl) (by rfl) underlying23 nF rfl (by decide) (by decide) d.heap.size (.slice (some ⟨d.heap.size,0,none⟩) 0 0) 0 [] (by rfl) an.out GA gs.length gc (gs.map Value.string) (by rfl) cT.out (by simp) (Q.out _ J.out) (rM _) (by omega) (by omega) J.size ?_;intro G v h i D;rw[zP,List.nil_append]at h;have l:=za (dh J.out an.out i);have ad:=za (bl.grown i (λE=>bq.out _ E.symm rfl));have B:=za h;clear h i D)
       |(refine dG ((d.drew.alloc (.cells #[.string ⟨#[109,97,114,107]⟩] 9)).alloc (.cells #[] 9)) (.tmp 74) (.tmp 76) 23 9 1 16 (.string ⟨#[]⟩) (by rfl) (by rfl) underlying23 nF rfl (by decide) (by decide) d.heap.size (.slice (some ⟨d.heap.size+1,0,none⟩) 0 0) 0 [] (by rfl) af.out GA gs.length gc (gs.map Value.string) (by rfl) cT.out (by simp) (Q.out _ I.out) (rM _) (by omega) (by omega) I.size ?_;intro G v h i D;rw[zP,List.nil_append]at h;have l:=za (dh I.out af.out i);have ad:=za (bk.grown i (λE=>bp.out _ E.symm rfl));have B:=za h;clear h i D)
       |(refine dG (v.alloc (.cells #[.string ⟨#[109,97,114,107]⟩] 9)) (.tmp 77) (.tmp 78) 23 9 1 16 (.string ⟨#[]⟩) (by rfl) (by rfl) underlying23 nF rfl (by decide) (by decide) d.heap.size G gs.length (gs.map Value.string) (by rfl) (ie B.out (below1 v _)) _ 1 1 [.string ⟨#[109,97,114,107]⟩] (by rfl) (λL=>by cases L) (by rfl) (ah.made v 9 [.string ⟨#[109,97,114,107]⟩]).lies (by simp[Value.oneCell']) (by omega) (by omega) (l.alloc l.size _).size ?_;intro a2 ab g x M;obtain⟨A,y,rfl,a6,a5⟩:=World.ownsRow.form g (by omega);have C:=za (dh (l.alloc l.size _) (ie B.out (below1 v _)) x);have O:=za g;have a3:((gs.length:Nat):Int)<=(y:Int):=(by have:=gW g (by omega);omega);have n:=za (H.below C.out H.lt);have bc:=n.cell 1;have bb:=n.free 1;have ba:=n.lt;clear g x M)
       |(refine dG v (.tmp 77) (.tmp 78) 23 9 1 16 (.string ⟨#[]⟩) (by rfl) (by rfl) underlying23 nF rfl (by decide) (by decide) d.heap.size G gs.length (gs.map Value.string) (by rfl) B.out _ 1 1 [.string ⟨#[109,97,114,107]⟩] (by rfl) (λL=>by cases L) (by rfl) ad.lies (by simp[Value.oneCell']) (by omega) (by omega) l.size ?_;intro a2 ab g x M;obtain⟨A,y,rfl,a6,a5⟩:=World.ownsRow.form g (by omega);have C:=za (dh l.out B.out x);have O:=za g;have a3:((gs.length:Nat):Int)<=(y:Int):=(by have:=gW g (by omega);omega);have n:=za (H.below C.out H.lt);have bc:=n.cell 1;have bb:=n.free 1;have ba:=n.lt;clear g x M))
     all_goals
      go_wp2_with fail;go_meet;exact za (vq (fi:=1) C.out n.out (by rw[List.map_append];exact O) ds rfl)
    case rest=>
     obtain⟨ft,f5,b3,Y,cj⟩:=hcut.out;have bo:=za (cj.row f9.out (by show w.heap.size+1≠w.heap.size+1+1;omega));have g2:wc.cell? ⟨w.heap.size+1,0,none⟩=some (.slice none 0 0):=bo.cell 0;have g1:wc.cell? ⟨w.heap.size+1,1,none⟩=some (.slice none 0 0):=bo.cell 1;have g0:=bo.free;have gT:=bo.lt;have g5:wc.cell? ⟨w.heap.size+1+1,0,none⟩=some (.slice (some ⟨A,0,none⟩) fs.length y):=b3.cell 0;have g4:wc.cell? ⟨w.heap.size+1+1,1,none⟩=some (.slice (some ⟨ft,0,none⟩) gs.length f5):=b3.cell 1;have g3:=b3.lt;have gx:=za (Lg gF.out ga.out gh.out gb.out c3.out Y cj);clear b3 Y cj hcut c7 c6 ds;go_wp2_with fail;exact bodyPost_ret (N1 rfl _ _ (w.heap.size+1) _ rfl (Pp bo.out) rfl) rfl ⟨V,_,_,_,_,rfl,gx.out _ _⟩
end
end Go.Proofs.YtmecmlpoallpcaaGreatDoor

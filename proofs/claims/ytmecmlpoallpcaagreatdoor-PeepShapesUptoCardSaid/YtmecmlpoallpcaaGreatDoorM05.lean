/- Parts of the proof: HeapA HeapB HeapC HeapD HeapE -/
import Derived.Test.YtmecmlpoallpcaaGreatDoorM02
import Derived.Test.YtmecmlpoallpcaaGreatDoorM03
import Derived.Deep.QuietTactic
import Derived.BigQuiet
import Derived.RegionTactic
import Derived.Deep.RegionLaw
set_option linter.all false
set_option maxHeartbeats 8000000
namespace Go.Proofs.YtmecmlpoallpcaaGreatDoor
open Go.Proofs.Tryz
section
open Go.RowKit Go.Proofs.PeepPlain
structure cP(S:List Nat)(w w':World):Prop where
 os:w'.os=w.os
 tape:w'.tape=w.tape
 output:w'.output=w.output
 size:w.heap.size<=w'.heap.size
 block:∀k,k<w.heap.size->k∉S->w'.heap[k]?=w.heap[k]?
section
variable{S T:List Nat}{a b c w w':World}
def cP.refl(S:List Nat)(w:World):cP S w w:=⟨rfl,rfl,rfl,zb _,λ_ _ _=>rfl⟩
def cP.trans(d:cP S a b)(k:cP T b c)(j:∀x∈T,x∈S∨a.heap.size<=x):cP S a c:=
 ⟨k.os.trans d.os,k.tape.trans d.tape,k.output.trans d.output,zi d.size k.size,λe g f=>
   (k.block e (zv g d.size) (λi=>by
     rcases j e i with h|h
     ·exact f h
     ·omega)).trans (d.block e g f)⟩
def cP.mono(d:cP S a b)(i:∀x∈S,x∈T):cP T a b:=⟨d.os,d.tape,d.output,d.size,λe h f=>d.block e h (λg=>f (i e g))⟩
def cP.below{B:Nat}(d:cP S a b)(g:∀x∈S,B<=x)(i:B<=a.heap.size):Below B a b:=
 ⟨d.os,d.tape,d.output,d.size,λe h=>d.block e (by omega) (λf=>by have:=g e f;omega)⟩
def cP.ofBelow(d:zz a b):cP S a b:=⟨d.os,d.tape,d.output,d.size,λe f _=>d.block e f⟩
def cP.alloc(e:cP S a b)(o:Obj):cP S a (b.alloc o):=e.trans (cP.ofBelow (S:=[]) (below1 b o)) (λf d=>by simp at d)
def cP.drewN(d:cP S a b)(n:Nat):cP S a (b.drewN n):=⟨d.os,d.tape,d.output,d.size,d.block⟩
def cP.setCell(d:cP S a b){p:Addr}(h:p.block∈S∨a.heap.size<=p.block)(u:Value):cP S a (b.setCell p u):=
 ⟨d.os,d.tape,d.output,by simpa[World.setCell]using d.size,λg i e=>(Below.heap_setCell _ _ _ _ (by
   rintro rfl;rcases h with f|f
   ·exact e f
   ·omega)).trans (d.block g i e)⟩
def cP.row{g:Nat}{t:TypeId}{e:List Value}(h:cP S w w')(d:ah w g t e)(f:g∉S):ah w' g t e:=(h.block g d.lt f).trans d
def cP.own{B:Nat}{d:Value}{l:List Int}(i:cP S w w')(e:bm B w d l)(h:∀g,d.ownBlock=some g->g∉S):bm B w' d l:=
 aE e λg f=>i.block g (e.lt f).2 (h g f)
end
def GI(d:Option Addr)(n c:Nat)(w:World):Calls prog 251 #[.slice d n c] w λe w'=>e= .returned (.int .i64 n)∧w'=w:=by
 go_enter func251,ntmps251;go_wp2;go_ret;exact⟨rfl,rfl⟩
def vd(r:Nat)(l:List Int)(g c n i j:Nat)(w:World)(d:bm r w (.slice (some ⟨g,0,none⟩) n c) l)(k:n=l.length)(h:i<l.length)(f:j<l.length)(p:l.length<=2000000):
 Calls prog 252 #[.slice (some ⟨g,0,none⟩) n c,.int .i64 i,.int .i64 j] w λe w'=>e= .returned (.bool (decide (l.getD i 0<l.getD j 0)))∧∃q,w'=w.drewN q:=by
 have o:=d.cell i h;have m:=d.cell j f;rw[<-kW h]at o;rw[<-kW f]at m;clear d;rw[<-k]at h f p;generalize l.getD i 0=x at o ⊢
 generalize l.getD j 0=y at m ⊢
 clear k;go_enter func252,ntmps252;go_wp2;go_quiet (fail);go_wp2;go_ret;exact⟨rfl,nq,rfl⟩
def GN(g c n i j:Nat)(x d:Int)(w:World)(o:i<n)(m:j<n)(l:n<=2000000)
 (s:w.cell? ⟨g,i,none⟩=some (.int .i64 x))(f:w.cell? ⟨g,j,none⟩=some (.int .i64 d))(fi:w.frozen? ⟨g,i,none⟩=false)(r:w.frozen? ⟨g,j,none⟩=false):
 Calls prog 253 #[.slice (some ⟨g,0,none⟩) n c,.int .i64 i,.int .i64 j] w λe w'=>e= .returned (.tuple #[])∧∃q,w'=((w.setCell ⟨g,i,none⟩ (.int .i64 d)).setCell ⟨g,j,none⟩ (.int .i64 x)).drewN q:=by
 obtain⟨h,k⟩:=cell?_setCell_some (w:=w) (p:=⟨g,i,none⟩) (x:= .int .i64 d) (q:=⟨g,j,none⟩) f;go_enter func253,ntmps253;go_wp2;go_region
 all_goals(try go_wp2)
 all_goals go_end0
 all_goals exact⟨rfl,1,rfl⟩
def Bx(k:Nat)(l:List Int)(g c n i j:Nat)(w:World)(d:bm k w (.slice (some ⟨g,0,none⟩) n c) l)(o:n=l.length)(h:i<l.length)(f:j<l.length)(q:l.length<=2000000):
 Calls prog 253 #[.slice (some ⟨g,0,none⟩) n c,.int .i64 i,.int .i64 j] w λe w'=>e= .returned (.tuple #[])∧bm k w' (.slice (some ⟨g,0,none⟩) n c) (iI l i j)∧cP [g] w w':=by
 refine(GN g c n i j (l.getD i 0) (l.getD j 0) w (by omega) (by omega) (by omega) (by rw[kW h];exact d.cell i h) (by rw[kW f];exact d.cell j f) (d.free i) (d.free j)).mono ?_;rintro e w' ⟨rfl,m,rfl⟩;refine⟨rfl,?_,?_⟩
 ·exact((d.stored i (l.getD j 0)).1.stored j (l.getD i 0)).1
 ·exact(((cP.refl [g] w).setCell (p:=⟨g,i,none⟩) (.inl (by simp)) _).setCell (p:=⟨g,j,none⟩) (.inl (by simp)) _).drewN m
end
section
open Go.RowKit Go.Proofs.PeepPlain
def blk(a:Value):List Nat:=a.ownBlock.toList
def eC{a:Value}{g:Nat}:g∈blk a↔a.ownBlock=some g:=by
 unfold blk;simp
structure dT(Bo:Nat)(w:World)(R:Nat)(t:TypeId)(v:Value)(l:List Int):Prop where
 row:ah w R t [v]
 own:bm Bo w v l
 ne:∀g,v.ownBlock=some g->g≠R
structure iB(R:Nat)(v:Value)(w:World)(v':Value)(w':World):Prop where
 only:cP (R::blk v) w w'
 new:∀g,v'.ownBlock=some g->g∈blk v∨w.heap.size<=g
def iB.trans{d:Nat}{g v1 v2:Value}{w f e:World}(b:iB d g w v1 f)(k:iB d v1 f v2 e):iB d g w v2 e where
 only:=b.only.trans k.only (λi c=>by
  rcases zC.1 c with rfl|c
  ·exact .inl (by simp)
  ·rcases b.new i (eC.1 c)with a|a
   ·exact .inl (by simp[a])
   ·exact .inr a)
 new:=λh j=>by
  rcases k.new h j with a|a
  ·exact b.new h (eC.1 a)
  ·exact .inr (zi b.only.size a)
def iB.refl(c:Nat)(a:Value)(w:World):iB c a w a w:=⟨cP.refl _ _,λd b=> .inl (eC.2 b)⟩
def dT.drewN{d:Nat}{w:World}{c:Nat}{t:TypeId}{b:Value}{l:List Int}(a:dT d w c t b l)(n:Nat):dT d (w.drewN n) c t b l:=⟨a.row.drewN n,a.own.drewN n,a.ne⟩
def Kx(w:World)(x:Value)(t:TypeId):∀(j:Nat) u,[x][j]?=some u->(w.alloc (.cells #[x] t)).cell? ((⟨w.heap.size,0,none⟩:Addr).add j)=some u:=λj u a=>by
 have:=(ah.made w t [x]).cell j;rw[Addr.add_lit,zP,this];exact a
def IT{j a:Nat}{d:Value}{l:List Int}{x:Int}{w e:World}{g cap n:Nat}(i:dT j w a 152 d l)(v:j<=w.heap.size)
 (r:e.ownsRow j 3 1 (.slice (some ⟨g,0,none⟩) n cap) n (bv l++ [.int .i64 x]))(t:n=l.length+1)(h:(w.alloc (.cells #[.int .i64 x] 3)).drew.grownBy e d.ownBlock)(o:d.ownBlock=some g∨g=(w.alloc (.cells #[.int .i64 x] 3)).heap.size):
 Hid (e.frozen? ⟨a,0,none⟩=false∧e.cell? ⟨a,0,none⟩=some d∧dT j (e.setCell ⟨a,0,none⟩ (.slice (some ⟨g,0,none⟩) n cap)) a 152 (.slice (some ⟨g,0,none⟩) n cap) (l++ [x])∧iB a d w (.slice (some ⟨g,0,none⟩) n cap) (e.setCell ⟨a,0,none⟩ (.slice (some ⟨g,0,none⟩) n cap))):=by
 have u:=i.row.lt;have k:ah e a 152 [d]:=(i.row.alloc _).drew.grown h (λb=>i.ne a b.symm rfl);have m:g≠a:=by
  rcases o with b|b
  ·exact i.ne g b
  ·rw[b];simp;omega
 refine⟨k.free 0,k.cell 0,⟨k.set 0 _,?_,λf c=>?_⟩,⟨?_,λf c=>?_⟩⟩
 ·refine aE ?_ λf c=>Below.heap_setCell _ _ _ _ ?_
  ·show World.ownsRow _ _ _ _ _ _ _;rw[zw,eM,zK,<-t];exact r
  ·simp only[Value.ownBlock,Option.some.injEq]at c;subst c;exact m
 ·simp only[Value.ownBlock,Option.some.injEq]at c;subst c;exact m
 ·have s:cP (a::blk d) w e:=⟨h.os,h.tape,h.output,zi (by simp[World.drew]) h.size,λf c q=>
   (h.block f (by show f<(w.alloc _).heap.size;simp;omega) (λb=>q (by simp[eC.2 b.symm]))).trans (jz w _ f c)⟩
  exact s.setCell (p:=⟨a,0,none⟩) (.inl (show a∈a::blk d by simp)) _
 ·simp only[Value.ownBlock,Option.some.injEq]at c;subst c;rcases o with b|b
  ·exact .inl (eC.2 b)
  ·exact .inr (by rw[b];simp)
def uv(x:Int)(w:World):(Instr.typeAssert (.iface 3 (.int .i64 x)) 20 3 false).run prog w= .ok (.int .i64 x) w:=by kernel_rfl
def K0(c b:Nat)(g:Value)(l:List Int)(x:Int)(w:World)(a:dT c w b 152 g l)(t:c<=w.heap.size)(y:l.length<=1000000):
 Calls prog 255 #[.pointer (some ⟨b,0,none⟩),.iface 3 (.int .i64 x)] w λe w'=>e= .returned (.tuple #[])∧∃f,dT c w' b 152 f (l++ [x])∧iB b g w f w':=by
 obtain⟨o,s,p,r,q⟩:=info_parts mP;obtain⟨n,k,rfl⟩:=a.own.shape;have C:w.cell? ⟨b,0,none⟩=some (.slice n l.length k):=a.row.cell 0;have A:=a.row.free 0;have E:=a.row.lt;have D:=uv x;have m:=za a;have u:=za (Kx w (.int .i64 x) 3);clear a;go_enter func255,ntmps255;go_wp2_with fail;go_region_law ((refine step_append_lies _ (by rfl) (.tmp 7) (.tmp 10) 152 (by rfl) c 3 o (.int .i64 0) 1 8 underlying152 s p r q (by rfl) (by omega) (.slice n l.length k) l.length (bv l) (by rfl) (m.own.alloc _) ⟨w.heap.size,0,none⟩ 1 1 [.int .i64 x] (by rfl) (by rfl) u.out (qt [x]) (by omega) (by simp only[maxLen];omega) (by omega) (by simp;omega) _ rfl ?_;intro F cap G h i j v;have d:=IT m.out t h rfl i j;have z:=d.1;have B:=d.2.1;clear h i j))
 all_goals(try go_wp2)
 all_goals go_end0
 all_goals exact⟨rfl,_,d.2.2⟩
def KO{f a g cap n:Nat}{l:List Int}{x:Int}{w:World}(c:dT f w a 152 (.slice (some ⟨g,0,none⟩) n cap) (l++ [x])):
 dT f (w.setCell ⟨a,0,none⟩ (.slice (some ⟨g,0,none⟩) l.length cap)) a 152 (.slice (some ⟨g,0,none⟩) l.length cap) l∧iB a (.slice (some ⟨g,0,none⟩) n cap) w (.slice (some ⟨g,0,none⟩) l.length cap) (w.setCell ⟨a,0,none⟩ (.slice (some ⟨g,0,none⟩) l.length cap)):=by
 have e:g≠a:=c.ne g rfl;refine⟨⟨c.row.set 0 _,?_,λd b=>?_⟩,⟨(cP.refl _ _).setCell (p:=⟨a,0,none⟩) (.inl (show a∈a::blk _ by simp)) _,λd b=> .inl (eC.2 b)⟩⟩
 ·refine aE c.own.shrink λd b=>Below.heap_setCell _ _ _ _ ?_;simp only[Value.ownBlock,Option.some.injEq]at b;subst b;exact e
 ·simp only[Value.ownBlock,Option.some.injEq]at b;subst b;exact e
def Nm(n c:Nat)(i:Value)(l:List Int)(x:Int)(w:World)(b:dT n w c 152 i (l++ [x]))(y:l.length<=1000000):
 Calls prog 254 #[.pointer (some ⟨c,0,none⟩)] w λe w'=>e= .returned (.iface 3 (.int .i64 x))∧∃h,dT n w' c 152 h l∧iB c i w h w':=by
 obtain⟨D,q,rfl⟩:=b.own.shape;obtain⟨p,rfl,o,k,A⟩:=b.own.addr (by simp);have g:=b.own.cell l.length (by simp);rw[List.getElem_append_right (zb _)]at g;simp only[Nat.sub_self,List.getElem_cons_zero]at g;have d:(l++ [x]).length=l.length+1:=by simp
 have r:=za (KO b);have C:=za d;have m:w.cell? ⟨c,0,none⟩=some (.slice (some ⟨p,0,none⟩) (l++ [x]).length q):=b.row.cell 0;rw[d]at m k;have B:=b.row.free 0;obtain⟨a,f⟩:∃a,a=l.length:=⟨_,rfl⟩
 rw[<-f]at m k g;have s:=za f;have v:a<=1000000:=by omega
 have z:(0:Int)<=(a:Int)∧(a:Int)<((a+1:Nat):Int):=by omega
 have u:wrap64 (((a+1:Nat):Int) - 1)=(a:Int):=by
  unfold wrap64;omega
 have t:wrap64 (a:Int)=(a:Int):=by
  unfold wrap64;omega
 clear b f d o;go_enter func254,ntmps254;go_wp2_with fail;go_ret;have j:=r.out;rw[<-s.out]at j;exact⟨rfl,_,j⟩
end
section
open Go.RowKit Go.Proofs.PeepPlain
def Ha(a:Nat)(w:World):Sem.run prog (method 418 154 (.pointer (some ⟨a,0,none⟩)) "Len") w=match w.cell? ⟨a,0,none⟩with|some v=> .ok (251,v) w|none=>match World.farLoad prog w ⟨a,0,none⟩ (Mode.plain==Mode.atomic)with| .ok (v,_)=> .ok (251,v) w| .error h=> .halt h w:=by kernel_rfl
def Cu(b:Nat)(a:Value)(w:World)(c:w.cell? ⟨b,0,none⟩=some a):Sem.run prog (method 418 154 (.pointer (some ⟨b,0,none⟩)) "Len") w= .ok (251,a) w:=by
 rw[Ha,c]
def EN(a:Nat)(w:World):Sem.run prog (method 418 154 (.pointer (some ⟨a,0,none⟩)) "Less") w=match w.cell? ⟨a,0,none⟩with|some v=> .ok (252,v) w|none=>match World.farLoad prog w ⟨a,0,none⟩ (Mode.plain==Mode.atomic)with| .ok (v,_)=> .ok (252,v) w| .error h=> .halt h w:=by kernel_rfl
def jU(b:Nat)(a:Value)(w:World)(c:w.cell? ⟨b,0,none⟩=some a):Sem.run prog (method 418 154 (.pointer (some ⟨b,0,none⟩)) "Less") w= .ok (252,a) w:=by
 rw[EN,c]
def E2(a:Nat)(w:World):Sem.run prog (method 418 154 (.pointer (some ⟨a,0,none⟩)) "Swap") w=match w.cell? ⟨a,0,none⟩with|some v=> .ok (253,v) w|none=>match World.farLoad prog w ⟨a,0,none⟩ (Mode.plain==Mode.atomic)with| .ok (v,_)=> .ok (253,v) w| .error h=> .halt h w:=by kernel_rfl
def lC(b:Nat)(a:Value)(w:World)(c:w.cell? ⟨b,0,none⟩=some a):Sem.run prog (method 418 154 (.pointer (some ⟨b,0,none⟩)) "Swap") w= .ok (253,a) w:=by
 rw[E2,c]
def II(a:Nat)(w:World):Sem.run prog (method 418 154 (.pointer (some ⟨a,0,none⟩)) "Push") w= .ok (255,.pointer (some ⟨a,0,none⟩)) w:=by kernel_rfl
def Kz(a:Nat)(w:World):Sem.run prog (method 418 154 (.pointer (some ⟨a,0,none⟩)) "Pop") w= .ok (254,.pointer (some ⟨a,0,none⟩)) w:=by kernel_rfl
def iB.swap{f g n c:Nat}{w b a:World}(e:iB f (.slice (some ⟨g,0,none⟩) n c) w (.slice (some ⟨g,0,none⟩) n c) b){q:Nat}(h:cP [g] (b.drewN q) a)(j:Nat):iB f (.slice (some ⟨g,0,none⟩) n c) w (.slice (some ⟨g,0,none⟩) n c) a:=
 ⟨(e.only.drewN q).trans h (λi d=> .inl (by simp at d;subst d;simp[blk,Value.ownBlock])),e.new⟩
def N0(q g:Nat)(r:Value)(l:List Int)(j:Nat)(w:World)(t:dT q w g 152 r l)(y:j<l.length)(L:l.length<=1000000):
 Calls prog 178 #[.iface 154 (.pointer (some ⟨g,0,none⟩)),.int .i64 j] w λe w'=>e= .returned (.tuple #[])∧dT q w' g 152 r (BO l j)∧iB g r w r w':=by
 have B:=za t;obtain⟨Z,m,rfl⟩:=t.own.shape;obtain⟨h,rfl,M,N,Y⟩:=t.own.addr (by omega);obtain⟨b,z⟩:∃b,b=l.length:=⟨_,rfl⟩
 rw[<-z]at y L N B ⊢
 have c:Hid (l.length=b):=za z.symm;clear t M z;go_enter func178,ntmps178;go_wp2_with fail;go_loopw [1,4] (λv P C=> ∃(x:Nat) (l':List Int),v= .int .i64 x∧x<b∧Hid (l'.length=b)∧Hid (dT q C g 152 (.slice (some ⟨h,0,none⟩) b m) l')∧Hid (BO l' x=BO l j)∧Hid (iB g (.slice (some ⟨h,0,none⟩) b m) w (.slice (some ⟨h,0,none⟩) b m) C)) (λv _ _=>(intOf v).toNat)
 case atStart=>exact⟨j,l,rfl,y,c,B,rfl,iB.refl _ _ _⟩
 case round=>
  clear B y c;rename World=>w2;obtain⟨d,p,rfl,T,c,i,o,u⟩:=hrel;have F:w2.cell? ⟨g,0,none⟩=some (.slice (some ⟨h,0,none⟩) b m):=i.row.cell 0;have R:=jU g _ w2 F;by_cases A:d=0
  ·subst A;have a:=o.out;rw[BO,dif_pos rfl]at a;replace a:=za a;clear o;go_wp2_with fail;go_end0;exact⟨rfl,by rw[<-a.out];exact i.out,u⟩
  ·obtain⟨f,E⟩:∃f,f=(d - 1) / 2:=⟨_,rfl⟩
   have W:f<d:=by omega
   have X:((d:Int) - 1) / 2=(f:Int):=by omega
   have V:((f:Int)==(d:Int))=false:=zh.2 (by omega);have U:¬(f:Int)=(d:Int):=by omega
   have S:1<=d:=by omega
   have I:=za E;have H:=za A;have s:=vd q p h m b d f w2 i.own c.symm (by rw[c.out];omega) (by rw[c.out];omega) (by rw[c.out];omega);clear E A;by_cases n:p.getD d 0<p.getD f 0
   ·rw[ze n]at s;have a:=o.out;rw[BO,dif_neg H.out,<-I.out,zn n]at a;replace a:=za a;clear o n;go_wp2_with (first
     |(go_at_call 252;refine s.mono ?_;rintro G J ⟨rfl,k,rfl⟩
       have Q:=lC g (.slice (some ⟨h,0,none⟩) b m) (w2.drewN k) F)
     |(go_at_call 253;refine(Bx q p h m b f d _ (i.drewN k).own c.symm (by rw[c.out];omega) (by rw[c.out];omega) (by rw[c.out];omega)).mono ?_;rintro G O ⟨rfl,K,D⟩))
    go_roundw
    case rel=>exact⟨f,iI p f d,rfl,by omega,by rw[bz];exact c,⟨D.row (i.drewN k).row (by simpa using λe=>i.ne h rfl e.symm),K,i.ne⟩,a,u.swap D k⟩
    case measure=>simp[intOf];omega
   ·rw[zg n]at s;have a:=o.out;rw[BO,dif_neg H.out,<-I.out,zm n]at a;replace a:=za a;clear o n;go_wp2_with (first
     |(go_at_call 252;refine s.mono ?_;rintro G J ⟨rfl,k,rfl⟩))
    go_end0;exact⟨rfl,by rw[<-a.out];exact i.drewN k,u.only.drewN k,u.new⟩
end
section
open Go.RowKit Go.Proofs.PeepPlain
section
variable{Bo R g c N:Nat}{m:List Int}{w w2:World}
def uB(H:dT Bo w R 152 (.slice (some ⟨g,0,none⟩) N c) m)(h:m.length=N)(l:N<=1000000)(i j:Nat)(o:i<N)(n:j<N)(k:m.getD i 0<m.getD j 0)(x a:Int)(f:x=(i:Int))(d:a=(j:Int)):
 Calls prog 252 #[.slice (some ⟨g,0,none⟩) N c,.int .i64 x,.int .i64 a] w λe w'=>e= .returned (.bool true)∧dT Bo w' R 152 (.slice (some ⟨g,0,none⟩) N c) m∧cP [] w w':=by
 subst f d;refine(vd Bo m g c N i j w H.own h.symm (by omega) (by omega) (by omega)).mono ?_;rintro e w' ⟨rfl,b,rfl⟩;rw[ze k];exact⟨rfl,H.drewN b,(cP.refl _ _).drewN b⟩
def uU(H:dT Bo w R 152 (.slice (some ⟨g,0,none⟩) N c) m)(h:m.length=N)(l:N<=1000000)(i j:Nat)(o:i<N)(n:j<N)(k:m.getD j 0<=m.getD i 0)(x a:Int)(f:x=(i:Int))(d:a=(j:Int)):
 Calls prog 252 #[.slice (some ⟨g,0,none⟩) N c,.int .i64 x,.int .i64 a] w λe w'=>e= .returned (.bool false)∧dT Bo w' R 152 (.slice (some ⟨g,0,none⟩) N c) m∧cP [] w w':=by
 subst f d;refine(vd Bo m g c N i j w H.own h.symm (by omega) (by omega) (by omega)).mono ?_;rintro e w' ⟨rfl,b,rfl⟩;rw[zg (by omega)];exact⟨rfl,H.drewN b,(cP.refl _ _).drewN b⟩
def xQ(H:dT Bo w R 152 (.slice (some ⟨g,0,none⟩) N c) m)(h:m.length=N)(k:N<=1000000)(i j:Nat)(n:i<N)(l:j<N)(x b:Int)(d:x=(i:Int))(a:b=(j:Int)):
 Calls prog 253 #[.slice (some ⟨g,0,none⟩) N c,.int .i64 x,.int .i64 b] w λe w'=>e= .returned (.tuple #[])∧dT Bo w' R 152 (.slice (some ⟨g,0,none⟩) N c) (iI m i j)∧cP [g] w w':=by
 subst d a;refine(Bx Bo m g c N i j w H.own h.symm (by omega) (by omega) (by omega)).mono ?_;rintro e w' ⟨rfl,f,a⟩;exact⟨rfl,⟨a.row H.row (by simpa using λe=>H.ne g rfl e.symm),f,H.ne⟩,a⟩
def dT.cellR{t:TypeId}{a:Value}{l:List Int}(H:dT Bo w R t a l):w.cell? ⟨R,0,none⟩=some a:=H.row.cell 0
def iB.only_{a:Value}{b:World}{e:List Nat}(d:iB R a w a w2)(k:cP e w2 b)(h:∀x∈e,x∈blk a):iB R a w a b:=
 ⟨d.only.trans k (λx f=> .inl (by simp[h x f])),d.new⟩
def pZ{n:Nat}:∀x∈ [g],x∈blk (.slice (some ⟨g,0,none⟩) n c):=by simp[blk,Value.ownBlock]
def iW{a:Value}:∀x∈([]:List Nat),x∈blk a:=by simp
end
set_option maxRecDepth 20000 in
def GV(Bo R:Nat)(H:Value)(l:List Int)(n:Nat)(w:World)(v:dT Bo w R 152 H l)(V:n<l.length)(W:l.length<=1000000):
 Calls prog 142 #[.iface 154 (.pointer (some ⟨R,0,none⟩)),.int .i64 0,.int .i64 n] w λe w'=>(∃b,e= .returned (.bool b))∧dT Bo w' R 152 H (gH l 0 n)∧iB R H w H w':=by
 have P:=za v;obtain⟨a0,c,rfl⟩:=v.own.shape;obtain⟨g,rfl,X,Y,ar⟩:=v.own.addr (by omega);obtain⟨N,O⟩:∃N,N=l.length:=⟨_,rfl⟩
 rw[<-O]at V W Y P ⊢
 have h:Hid (l.length=N):=za O.symm;clear v X O;go_enter func142,ntmps142;go_wp2_with fail;go_loopw [7,8,9,10] (λK an af ad Q=> ∃(L:Nat) (l':List Int),K= .int .i64 L∧L<=n∧Hid (l'.length=N)∧Hid (dT Bo Q R 152 (.slice (some ⟨g,0,none⟩) N c) l')∧Hid (gH l' L n=gH l 0 n)∧Hid (iB R (.slice (some ⟨g,0,none⟩) N c) w (.slice (some ⟨g,0,none⟩) N c) Q)) (λK _ _ _ _=>n - (intOf K).toNat)
 case atStart=>exact⟨0,l,rfl,by omega,h,P,rfl,iB.refl _ _ _⟩
 case round=>
  clear P h;rename World=>w2;obtain⟨a,m,rfl,ap,h,x,J,A⟩:=hrel;by_cases I:2 * a+1<n
  ·have ao:=jU R _ w2 x.cellR;have av:(0:Int)<=2 * (a:Int)+1∧2 * (a:Int)+1<(n:Int):=by omega
   have ab:¬(n:Int)<=2 * (a:Int)+1:=by omega
   have d:=J.out;rw[gH,dif_pos I]at d;have Z:=fa (l:=m) I;obtain⟨F,s⟩:∃F,F=cD m a n:=⟨_,rfl⟩
   rw[<-s]at d Z;clear J;by_cases U:2 * a+1+1<n
   ·have aa:2 * (a:Int)+1+1<(n:Int):=by omega
    by_cases k:m.getD (2 * a+1+1) 0<m.getD (2 * a+1) 0
    ·obtain rfl:F=2 * a+1+1:=by rw[s];unfold cD;rw[zn ⟨U,k⟩]
     by_cases f:m.getD (2 * a+1+1) 0<m.getD a 0
     ·rw[zn f]at d;replace d:=za d;have r:=za f;have t:=za k;clear s f k;go_wp2_with (first
     |(go_at_call 252;refine(uB x.out h.out (by omega) (2 * a+1+1) (2 * a+1) (by omega) (by omega) t.out _ _ (by omega) (by omega)).mono ?_;rintro p y ⟨rfl,j,q⟩
       have B:=za j;have z:=za (A.only_ q iW);have M:=jU R _ y j.cellR;clear j q)
     |(go_at_call 252;refine(uB B.out h.out (by omega) (2 * a+1+1) a (by omega) (by omega) r.out _ _ (by omega) (by omega)).mono ?_;rintro p u ⟨rfl,i,o⟩
       have G:=za i;have E:=za (z.only_ o iW);have T:=lC R _ u i.cellR;clear i o)
     |(go_at_call 253;refine(xQ G.out h.out (by omega) a (2 * a+1+1) (by omega) (by omega) _ _ (by omega) (by omega)).mono ?_;rintro p S ⟨rfl,D,C⟩))
      go_roundw
      case rel=>exact⟨2 * a+1+1,iI m a (2 * a+1+1),by go_num,by omega,by rw[bz];exact h,D,d,E.only_ C pZ⟩
      case measure=>simp[intOf];omega
     ·rw[zm f]at d;replace d:=za d;have r:=za (Int.not_lt.1 f);have t:=za k;clear s f k;go_wp2_with (first
     |(go_at_call 252;refine(uB x.out h.out (by omega) (2 * a+1+1) (2 * a+1) (by omega) (by omega) t.out _ _ (by omega) (by omega)).mono ?_;rintro p y ⟨rfl,j,q⟩
       have B:=za j;have z:=za (A.only_ q iW);have M:=jU R _ y j.cellR;clear j q)
     |(go_at_call 252;refine(uU B.out h.out (by omega) (2 * a+1+1) a (by omega) (by omega) r.out _ _ (by omega) (by omega)).mono ?_;rintro p u ⟨rfl,i,o⟩))
      go_ret;exact⟨⟨_,rfl⟩,by rw[<-d.out];exact i,z.only_ o iW⟩
    ·obtain rfl:F=2 * a+1:=by rw[s];unfold cD;rw[zm (λv=>k v.2)]
     by_cases f:m.getD (2 * a+1) 0<m.getD a 0
     ·rw[zn f]at d;replace d:=za d;have r:=za f;have t:=za (Int.not_lt.1 k);clear s f k;go_wp2_with (first
     |(go_at_call 252;refine(uU x.out h.out (by omega) (2 * a+1+1) (2 * a+1) (by omega) (by omega) t.out _ _ (by omega) (by omega)).mono ?_;rintro p y ⟨rfl,j,q⟩
       have B:=za j;have z:=za (A.only_ q iW);have M:=jU R _ y j.cellR;clear j q)
     |(go_at_call 252;refine(uB B.out h.out (by omega) (2 * a+1) a (by omega) (by omega) r.out _ _ (by omega) (by omega)).mono ?_;rintro p u ⟨rfl,i,o⟩
       have G:=za i;have E:=za (z.only_ o iW);have T:=lC R _ u i.cellR;clear i o)
     |(go_at_call 253;refine(xQ G.out h.out (by omega) a (2 * a+1) (by omega) (by omega) _ _ (by omega) (by omega)).mono ?_;rintro p S ⟨rfl,D,C⟩))
      go_roundw
      case rel=>exact⟨2 * a+1,iI m a (2 * a+1),by go_num,by omega,by rw[bz];exact h,D,d,E.only_ C pZ⟩
      case measure=>simp[intOf];omega
     ·rw[zm f]at d;replace d:=za d;have r:=za (Int.not_lt.1 f);have t:=za (Int.not_lt.1 k);clear s f k;go_wp2_with (first
     |(go_at_call 252;refine(uU x.out h.out (by omega) (2 * a+1+1) (2 * a+1) (by omega) (by omega) t.out _ _ (by omega) (by omega)).mono ?_;rintro p y ⟨rfl,j,q⟩
       have B:=za j;have z:=za (A.only_ q iW);have M:=jU R _ y j.cellR;clear j q)
     |(go_at_call 252;refine(uU B.out h.out (by omega) (2 * a+1) a (by omega) (by omega) r.out _ _ (by omega) (by omega)).mono ?_;rintro p u ⟨rfl,i,o⟩))
      go_ret;exact⟨⟨_,rfl⟩,by rw[<-d.out];exact i,z.only_ o iW⟩
   ·have aa:¬2 * (a:Int)+1+1<(n:Int):=by omega
    have k:True:=trivial
    ·obtain rfl:F=2 * a+1:=by rw[s];unfold cD;rw[zm (λv=>U v.1)]
     by_cases f:m.getD (2 * a+1) 0<m.getD a 0
     ·rw[zn f]at d;replace d:=za d;have r:=za f;have t:=za k;clear s f k;go_wp2_with (first
     |(go_at_call 252;refine(uB x.out h.out (by omega) (2 * a+1) a (by omega) (by omega) r.out _ _ (by omega) (by omega)).mono ?_;rintro p u ⟨rfl,i,o⟩
       have G:=za i;have E:=za (A.only_ o iW);have T:=lC R _ u i.cellR;clear i o)
     |(go_at_call 253;refine(xQ G.out h.out (by omega) a (2 * a+1) (by omega) (by omega) _ _ (by omega) (by omega)).mono ?_;rintro p S ⟨rfl,D,C⟩))
      go_roundw
      case rel=>exact⟨2 * a+1,iI m a (2 * a+1),by go_num,by omega,by rw[bz];exact h,D,d,E.only_ C pZ⟩
      case measure=>simp[intOf];omega
     ·rw[zm f]at d;replace d:=za d;have r:=za (Int.not_lt.1 f);have t:=za k;clear s f k;go_wp2_with (first
     |(go_at_call 252;refine(uU x.out h.out (by omega) (2 * a+1) a (by omega) (by omega) r.out _ _ (by omega) (by omega)).mono ?_;rintro p u ⟨rfl,i,o⟩))
      go_ret;exact⟨⟨_,rfl⟩,by rw[<-d.out];exact i,A.only_ o iW⟩
  ·have ab:(n:Int)<=2 * (a:Int)+1:=by omega
   have d:=J.out;rw[gH,dif_neg I]at d;replace d:=za d;clear J I;go_wp2_with fail;go_ret;exact⟨⟨_,rfl⟩,by rw[<-d.out];exact x.out,A⟩
end
section
open Go.RowKit Go.Proofs.PeepPlain
def dT.shape{e d:Nat}{t:TypeId}{a:Value}{l:List Int}{w:World}(b:dT e w d t a l):∃f c,a= .slice f l.length c:=b.own.shape
def Jq(b a:Nat)(d:Value)(l:List Int)(x:Int)(w:World)(h:dT b w a 152 d l)(p:b<=w.heap.size)(z:l.length<=900000):
 Calls prog 144 #[.iface 154 (.pointer (some ⟨a,0,none⟩)),.iface 3 (.int .i64 x)] w λe w'=>e= .returned (.tuple #[])∧∃f,dT b w' a 152 f (qg l x)∧iB a d w f w':=by
 have s:=za h;have n:=II a w;clear h;go_enter func144,ntmps144;go_wp2_with (first
  |(go_at_call 255;refine(K0 b a d l x _ s.out p (by omega)).mono ?_;rintro i j ⟨rfl,y,c,g⟩
    have t:=za c;have r:=za g;obtain⟨B,A,rfl⟩:=c.shape;have m:=Cu a _ j c.cellR;have q:(l++ [x]).length=l.length+1:=by simp
    rw[q]at m;clear c g n)
  |(go_at_call 251;refine(GI _ _ _ _).mono ?_;rintro i v ⟨rfl,rfl⟩)
  |(go_at_call 178;refine(N0 b a _ (l++ [x]) l.length _ t.out (by simp) (by simp;omega)).mono ?_;rintro i u ⟨rfl,o,k⟩))
 go_end0;exact⟨rfl,_,o,r.trans k⟩
def Kk(h a:Nat)(m:Value)(l:List Int)(w:World)(c:dT h w a 152 m l)(f:0<l.length)(x:l.length<=900000):
 Calls prog 110 #[.iface 154 (.pointer (some ⟨a,0,none⟩))] w λe w'=>e= .returned (.iface 3 (.int .i64 (iD l).1))∧∃k,dT h w' a 152 k (iD l).2∧iB a m w k w':=by
 have s:=za c;obtain⟨P,C,rfl⟩:=c.own.shape;obtain⟨B,rfl,z,A,M⟩:=c.own.addr f;have q:=Cu a _ w c.cellR;have p:=lC a _ w c.cellR;obtain⟨b,d⟩:∃b,l.length=b+1:=⟨l.length - 1,by omega⟩
 rw[d]at q p A s x ⊢
 have g:=za d;have O:=za (pd f);have F:Hid (gH (iI l 0 b) 0 b=(iD l).2++ [(iD l).1]):=za (by rw[<-pd f];unfold fw;rw[d];rfl);clear c z d f;go_enter func110,ntmps110;go_wp2_with (first
  |(go_at_call 251;refine(GI _ _ _ _).mono ?_;rintro j K ⟨rfl,rfl⟩)
  |(go_at_call 253;refine(xQ s.out g.out (by omega) 0 b (by omega) (by omega) _ _ (by omega) (by omega)).mono ?_;rintro j J ⟨rfl,r,n⟩
    have H:=za r;have E:=za ((iB.refl a (.slice (some ⟨B,0,none⟩) (b+1) C) _).only_ n pZ);clear r n q p)
  |(go_at_call 142;refine(GV h a _ (iI l 0 b) b _ H.out (by rw[bz,g.out];omega) (by rw[bz,g.out];omega)).mono ?_;rintro j t ⟨⟨N,rfl⟩,i,o⟩
    rw[F.out]at i;have G:=za i;have D:=za (E.trans o);have L:=Kz a t;clear i o)
  |(go_at_call 254;refine(Nm h a _ (iD l).2 (iD l).1 _ G.out (by rw[nD,g.out];omega)).mono ?_;rintro j I ⟨rfl,u,y,v⟩))
 go_ret;exact⟨rfl,u,y,D.trans v⟩
def dT.into{d c:Nat}{a:Value}{l:List Int}{w:World}(b:dT d w c 44 a l):
 dT d (w.alloc (.cells #[a] 152)) w.heap.size 152 a l∧cP (c::blk a) w (w.alloc (.cells #[a] 152))∧ah (w.alloc (.cells #[a] 152)) c 44 [a]∧w.heap.size<(w.alloc (.cells #[a] 152)).heap.size:=
 ⟨⟨ah.made w 152 [a],b.own.alloc _,λf e=>by have:=(b.own.lt e).2;omega⟩,(cP.refl _ _).alloc _,b.row.alloc _,by simp⟩
def dT.back{o a n:Nat}{e v2:Value}{l q:List Int}{w h d:World}(m:dT o w a 44 e l)(k:cP (a::blk e) w h)(s:ah h a 44 [e])(v:w.heap.size<=n)(x:dT o d n 152 v2 q)(g:iB n e h v2 d):
 d.cell? ⟨a,0,none⟩=some e∧d.frozen? ⟨a,0,none⟩=false∧dT o (d.setCell ⟨a,0,none⟩ v2) a 44 v2 q∧iB a e w v2 (d.setCell ⟨a,0,none⟩ v2):=by
 have z:=m.row.lt;have j:ah d a 44 [e]:=g.only.row s (by
  intro u;rcases zC.1 u with c|c
  ·omega
  ·exact m.ne a (eC.1 c) rfl)
 have r:∀b,v2.ownBlock=some b->b≠a:=λb f=>by
  rcases g.new b f with c|c
  ·exact m.ne b (eC.1 c)
  ·have:=k.size;omega
 have t:cP (a::blk e) w d:=k.trans g.only (λy i=>by
  rcases zC.1 i with rfl|i
  ·exact .inr v
  ·exact .inl (by simp[i]))
 refine⟨j.cell 0,j.free 0,⟨j.set 0 v2,aE x.own λb f=>Below.heap_setCell _ _ _ _ (r b f),r⟩,⟨t.setCell (p:=⟨a,0,none⟩) (.inl (by simp)) _,λb f=>?_⟩⟩;rcases g.new b f with c|c
 ·exact .inl c
 ·exact .inr (zi k.size c)
def Jg(d c:Nat)(k:Value)(l:List Int)(x:Int)(w:World)(a:dT d w c 44 k l)(C:d<=w.heap.size)(p:l.length<=900000):
 Calls prog 114 #[.pointer (some ⟨c,0,none⟩),.int .i64 x] w λe w'=>e= .returned (.tuple #[])∧∃j,dT d w' c 44 j (qg l x)∧iB c k w j w':=by
 have r:=za a;obtain⟨i,h,g,f⟩:=a.into;obtain⟨H,F,rfl⟩:=a.own.shape;have A:=a.cellR;have B:=a.row.lt;replace i:=za i;replace h:=za h;replace g:=za g;replace f:=za f;clear a;go_enter func114,ntmps114;go_wp2_with (first
  |(go_at_call 144;refine(Jq d _ _ l x _ i.out (by have:=f.out;omega) p).mono ?_;rintro D t ⟨rfl,u,b,n⟩
    obtain⟨G,E,rfl⟩:=b.shape;have z:=b.cellR;obtain⟨y,v,o,m⟩:=r.back h.out g.out (zb _) b n;have s:=za o;have q:=za m;clear b n o m))
 go_end0;exact⟨rfl,_,s.out,q⟩
def LC(h c:Nat)(j:Value)(l:List Int)(w:World)(a:dT h w c 44 j l)(o:0<l.length)(q:l.length<=900000):
 Calls prog 74 #[.pointer (some ⟨c,0,none⟩)] w λe w'=>e= .returned (.int .i64 (iD l).1)∧∃i,dT h w' c 44 i (iD l).2∧iB c j w i w':=by
 have s:=za a;obtain⟨g,f,d,p⟩:=a.into;obtain⟨I,G,rfl⟩:=a.own.shape;have B:=a.cellR;have D:=a.row.lt;replace g:=za g;replace f:=za f;replace d:=za d;replace p:=za p;have u:=za o;have C:=uv (iD l).1;clear a o;go_enter func74,ntmps74;go_wp2_with (first
  |(go_at_call 110;refine(Kk h _ _ l _ g.out u.out q).mono ?_;rintro E v ⟨rfl,x,b,m⟩
    obtain⟨H,F,rfl⟩:=b.shape;have A:=b.cellR;obtain⟨z,y,n,k⟩:=s.back f.out d.out (zb _) b m;have t:=za n;have r:=za k;clear b m n k))
 go_ret;exact⟨rfl,_,t.out,r⟩
end
end Go.Proofs.YtmecmlpoallpcaaGreatDoor

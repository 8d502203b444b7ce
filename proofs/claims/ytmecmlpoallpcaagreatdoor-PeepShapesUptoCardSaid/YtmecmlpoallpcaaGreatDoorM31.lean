/- Parts of the proof: ShapeP ShapeQ ShapeW -/
import Derived.Test.YtmecmlpoallpcaaGreatDoorM26
import Derived.Test.YtmecmlpoallpcaaGreatDoorM27
import Derived.Test.YtmecmlpoallpcaaGreatDoorM30
import Derived.Test.YtmecmlpoallpcaaGreatDoorM11
import Derived.Test.YtmecmlpoallpcaaGreatDoorM28
import Derived.Test.YtmecmlpoallpcaaGreatDoorM29
import Derived.Test.YtmecmlpoallpcaaGreatDoorM20
import Derived.Deep.RegionHeld3
set_option linter.all false
set_option maxHeartbeats 8000000
namespace Go.Proofs.YtmecmlpoallpcaaGreatDoor
open Go.Proofs.Tryz
section
open Go.RowKit Go.Proofs.PeepPlain
theorem gk(p:Nat->Bool):∀n,(cF p n=none∧∀j,j<n->p j=true)∨∃k,cF p n=some k∧k<n∧p k=false
 |0=> .inl ⟨rfl,λj a=>absurd a (Nat.not_lt_zero j)⟩
 |n+1=>by
  rcases gk p n with⟨a,f⟩|⟨k,a,g,e⟩
  ·cases b:p n
   ·exact .inr ⟨n,by simp only[cF,a,b];rfl,Nat.lt_succ_self n,b⟩
   ·refine .inl ⟨by simp only[cF,a,b];rfl,λj h=>?_⟩;rcases Nat.lt_or_ge j n with d|d
    ·exact f j d
    ·obtain rfl:j=n:=by omega
     exact b
  ·exact .inr ⟨k,by simp only[cF,a],by omega,e⟩
def Kt(w:World){l:List au}(i:WF l)(m:l.length<=60000)(e:∀k,k<l.length->(0<=(l.getD k default).a∧(l.getD k default).a<=100000)∧0<=(l.getD k default).b∧(l.getD k default).b<=3)(h:jJ E0 l= -1):PeepPlain.vA E0 l:=by
 have d:aK (w.alloc (.cells (bV l).toArray 50)) w.heap.size l.length l:=⟨[],by rw[List.append_nil];exact ah.made w 50 (bV l),zb _,by simp only[maxLen];omega,by rw[List.append_nil,bw]⟩
 obtain⟨n,w',⟨j,_,⟨g,f⟩,_⟩,_⟩:=uP (sb ⟨#[]⟩ 0 0 0 none (some ⟨w.heap.size,0,none⟩) 0 0 l.length l _ i d.insAt (by omega) e);exact g.1 (f.trans h)
def EH(w:World){fs:List Fn}{gs:List ByteArray}(a:(bO fs gs).code=0):bs fs gs:=by
 by_cases l:dN fs gs.length=false
 ·exfalso;rw[rm l]at a;unfold mL at a;split at a
  ·exact absurd a (by decide)
  ·rename_i y;rcases gk (λe=>sS (fs.getD e default)) fs.length with⟨f,x⟩|⟨e,f,g,_⟩
   ·rw[og (by omega) (by omega) (by omega) (by omega),uI (λj q=>by rw[<-EQ q];exact x j q)]at l;exact absurd l (by decide)
   ·rw[f]at a;exact absurd a (by show ¬(22:Int)=0;decide)
 have n:dN fs gs.length=true:=by cases o:dN fs gs.length;exact absurd o l;rfl
 by_cases p:cB gs=false
 ·rw[yg n p]at a;exact absurd a (by show ¬(130:Int)=0;decide)
 have t:cB gs=true:=by cases o:cB gs;exact absurd o p;rfl
 unfold bO at a;rw[zm l,zm p]at a;rcases gk (λb=>bR fs b (aB fs b)) fs.length with⟨f,s⟩|⟨e,f,_,_⟩
 rotate_left
 ·rw[f]at a;exact absurd a (by show ¬(130:Int)=0;decide)
 rw[f]at a;dsimp only at a;rcases gk (cX fs gs.length) fs.length with⟨f,v⟩|⟨e,f,g,k⟩
 rotate_left
 ·rw[f]at a;dsimp only at a;unfold fW at a;unfold cX at k;split at a
  ·exact absurd a (by show ¬(130:Int)=0;decide)
  ·rename_i r;rcases gk (bW fs gs.length e) (fs.getD e default).code.length with⟨i,_⟩|⟨j,i,_,_⟩
   ·rw[i,ze r]at k;exact absurd k (by decide)
   ·rw[i]at a;exact absurd a (by show ¬(130:Int)=0;decide)
 rw[f]at a;dsimp only at a;have m:∀b,(d:b<fs.length)->fs[b].code.length≠0∧∀j,j<fs[b].code.length->bW fs gs.length b j=true:=λb d=>by
  have h:=v b d;unfold cX at h;rw[aC d,zy,decide_eq_true_iff]at h;refine⟨h.1,?_⟩;rcases gk (bW fs gs.length b) fs[b].code.length with⟨_,i⟩|⟨j,i,_,_⟩
  ·exact i
  ·rw[i]at h;exact absurd h.2 (by simp)
 rcases gk (λb=>decide (jJ E0 (fs.getD b default).code= -1)) fs.length with⟨f,u⟩|⟨e,f,g,k⟩
 rotate_left
 ·rw[f]at a;dsimp only at a;unfold jd at a;rw[zm (of_decide_eq_false k)]at a;exact absurd a (by show ¬(130:Int)=0;decide)
 exact⟨n,t,s,λb d=>(m b d).1,λb e d g=>(m b d).2 e g,λb d=>by
  have h:=zx (u b d);rw[aC d]at h;exact Kt w (sW d (m b d).1 (λe g=>(m b d).2 e g)) (zi (iq d) (dF n).2.2.2.1) (tC d n (λe g=>(m b d).2 e g)) h⟩
def xt{fs own:List Fn}(b:fA fs own):∀k,aY own k=aY fs k:=by
 intro k;have:=zp (λa=>aY a k) (pD b);simpa only[uL]using this
def k9{fs own:List Fn}{gs:List ByteArray}(a:fA fs own)(b:Small fs gs):Small own gs where
 nf:=by rw[a.1];exact b.nf
 all:=by rw[xt a,a.1];exact b.all
 ng:=b.ng
 names:=b.names
 each:=λj g=>by
  obtain⟨d,f,rfl⟩:=zQ g
  have e:d<fs.length:=by rw[<-a.1];exact f
  obtain⟨l,n,c,k,m,_⟩:=a.2 d e f
  rw[l,k]
  exact b.each _ (zk e)
 text:=λj g i h=>by
  obtain⟨d,f,rfl⟩:=zQ g
  have e:d<fs.length:=by rw[<-a.1];exact f
  rw[(a.2 d e f).2.2.2.2.2]at h
  exact b.text _ (zk e) i h
def Dw{fs own g:List Fn}(b:fA fs own)(f:iE own g):iE fs g:=⟨f.1.trans b.1,λa e h=>by
 have d:a<own.length:=by rw[b.1];exact e
 obtain⟨s,q,c,n,l,j⟩:=b.2 a e d;obtain⟨r,p,o,m,k,i⟩:=f.2 a d h;exact⟨r.trans s,p.trans q,o.trans c,m.trans n,k.trans l,by rw[i,j]⟩⟩
def JR{fs h g:List Fn}(b:iE fs h)(f:iE fs g):fA h g:=⟨f.1.trans b.1.symm,λa e i=>by
 have d:a<fs.length:=by rw[<-b.1];exact e
 obtain⟨t,r,c,o,m,k⟩:=b.2 a d e;obtain⟨s,q,p,n,l,j⟩:=f.2 a d i;exact⟨s.trans t.symm,q.trans r.symm,p.trans c.symm,n.trans o.symm,l.trans m.symm,by rw[j,k]⟩⟩
def DQ{fs g:List Fn}(f:iE fs g)(j:xg fs):xg g:=λk i h b=>by
 obtain⟨a,e,rfl⟩:=zQ i;have d:a<fs.length:=by rw[<-f.1];exact e
 rw[(f.2 a d e).2.2.2.1]at b;exact j _ (zk d) h b
def DO{fs g:List Fn}{gs:List ByteArray}(i:bs fs gs)(e:iE fs g):∀f∈g,Gy O0 f.code:=λf h=>by
 obtain⟨a,d,rfl⟩:=zQ h;have b:a<fs.length:=by rw[<-e.1];exact d
 rw[(e.2 a b d).2.2.2.2.2];exact EA cS (mg cS _ fs[a].code (zb _) (i.wf b)).1
def AI{fs i:List Fn}{gs:List ByteArray}(m:bs fs gs)(l:Small fs gs)(h:iE fs i):∀f∈i,∀x∈f.code,x.op=3->∃n,bB x.text=some n:=λf k x b=>by
 obtain⟨a,g,rfl⟩:=zQ k;have e:a<fs.length:=by rw[<-h.1];exact g
 rw[(h.2 a e g).2.2.2.2.2]at b;obtain⟨j,d,rfl⟩:=zQ b;have:=mB cS iR _ fs[a].code (zb _) (vC m l e) j d;rw[aC d]at this;exact this.1.1
def ox(fs:List Fn):gN fs=aY fs fs.length:=by
 unfold gN aY;rw[List.take_length]
section
variable{B:Nat}{w w':World}{A GA:Option Addr}{c gc:Nat}{fs:List Fn}{gs:List ByteArray}
def jD.fnsAt(d:jD B w A c fs GA gc gs):bD w A fs:=⟨vu d.fns [],λb a=>(d.parts b a).code,λb a=>(d.parts b a).taken⟩
def jD.lies(a:jD B w A c fs GA gc gs):bd w GA (gs.map Value.string):=vu a.texts []
def jD.blk(d:jD B w A c fs GA gc gs){b:Nat}(g:BG A GA fs b):B<=b∧b<w.heap.size:=by
 rcases g with⟨a,rfl,rfl⟩|⟨a,rfl,rfl⟩|⟨h,e,f⟩
 ·exact zW d.fns a.block rfl
 ·exact zW d.texts a.block rfl
 ·exact(d.parts h e).blk f
def jD.turns{S:Nat->Prop}(a:jD B w A c fs GA gc gs)(f:aR S w w')(g:∀b,B<=b->b<w.heap.size->¬S b):jD B w' A c fs GA gc gs where
 fns:=ep a.fns f λd e=>g d (zW a.fns d e).1 (zW a.fns d e).2
 parts:=λi h=>(a.parts i h).turns f λb j=>g b ((a.parts i h).blk j).1 ((a.parts i h).blk j).2
 rising:=a.rising
 texts:=ep a.texts f λd e=>g d (zW a.texts d e).1 (zW a.texts d e).2
def jD.below(d:jD B w A c fs GA gc gs)(a:zz w w'):jD B w' A c fs GA gc gs:=
 d.turns (S:=λ_=>False) (aR.ofBelow a) (λ_ _ _ b=>b)
def rn.below(b:rn B w A c fs GA gc gs)(a:zz w w'):rn B w' A c fs GA gc gs where
 mine:=b.mine.below a
 fnsM:=ep (S:=λ_=>False) b.fnsM (aR.ofBelow a) λ_ _ d=>d
 partsM:=λf e=>(b.partsM f e).below a
 textsM:=ep (S:=λ_=>False) b.textsM (aR.ofBelow a) λ_ _ d=>d
def uG.lt(d:rn B w A c fs GA gc gs){b:Nat}(a:uG fs b):B<=b∧b<w.heap.size:=d.mine.blk (.inr (.inr a))
end
end
section
open Go.RowKit Go.Proofs.PeepPlain
structure Dl(w:World)(A:Option Addr)(fs:List Fn)(GA:Option Addr)(gc:Nat)(gs:List ByteArray):Prop where
 fns:bD w A fs
 texts:bd w GA (gs.map Value.string)
 small:Small fs gs
 tints:xg fs
 cap:∀f∈fs,(f.CA=none->f.cc=0)∧(f.TA=none->f.tc=0)
 gcap:GA=none->gc=0
 each:∀f∈fs,f.taken.length<=1999000∧f.code.length<=1999000
 len:fs.length<=1999000
 glen:gs.length<=1999000
section
variable{w wx:World}{A GA OA OGA:Option Addr}{fc gc oc ogc B:Nat}{fs own f1 f2:List Fn}{gs:List ByteArray}
def FF(P:Dl w A fs GA gc gs)(c:zz w wx){k a:Int}{b:ByteArray}(f:bO fs gs=⟨k,a,b⟩):
 Calls prog 7 #[.agg #[.slice A fs.length fc,.slice GA gs.length gc]] wx λe w'=>e= .returned (.agg #[.int .i64 k,.int .i64 a,.string b])∧zz wx w':=by
 have d:=xe fs gs A GA fc gc wx (P.fns.below c) (P.texts.below c rfl) P.small P.tints;rw[f]at d;exact d
def FG(P:Dl w A fs GA gc gs)(a:zz w wx):Calls prog 6 #[.agg #[.slice A fs.length fc,.slice GA gs.length gc]] wx (Dm wx):=
 Dr fs gs.length A GA fc gc wx (P.fns.below a) P.small.nf P.small.ng (Dk P.small)
def K4(P:Dl w A fs GA gc gs)(a:zz w wx):
 Calls prog 8 #[.agg #[.slice A fs.length fc,.slice GA gs.length gc]] wx λe w'=> ∃own OA oc OGA ogc,e= .returned (.agg #[.slice OA fs.length oc,.slice OGA gs.length ogc])∧fA fs own∧rn wx.heap.size w' OA oc own OGA ogc gs∧zz wx w':=
 JA fs gs A GA fc gc wx (P.fns.below a) (P.texts.below a rfl) P.small P.cap P.gcap P.each P.len P.glen
def Kn(P:Dl w A fs GA gc gs)(m:bs fs gs)(a:fA fs own)(j:rn B wx OA oc own OGA ogc gs)(n:∀g,zz wx g->aX g∧fT g):
 Calls prog 9 #[.agg #[.slice OA fs.length oc,.slice OGA gs.length ogc]] wx λe w'=> ∃f1 f c d b,e= .returned (.tuple #[.agg #[.slice f fs.length c,.slice d gs.length b],.nilIface])∧iE own f1∧jD wx.heap.size w' f c f1 d b gs∧zz wx w':=by
 have i:=mF own gs OA OGA oc ogc wx j.mine.fnsAt j.mine.lies n (k9 a P.small) (nV a m);rw[a.1]at i;refine i.mono ?_;rintro e w' ⟨f1,f,c,d,b,rfl,_,_,h,l,_,_,k⟩;exact⟨f1,f,c,d,b,by rw[h.1,a.1],h,k,l⟩
def MO(P:Dl w A fs GA gc gs)(h:bs fs gs)(a:fA fs own)(j:iE own f1)(f:rn B wx OA oc own OGA ogc gs)(k:∀b,zz wx b->aX b∧fT b):
 Calls prog 10 #[.agg #[.slice OA fs.length oc,.slice OGA gs.length ogc]] wx λe w'=>e= .returned (.tuple #[.int .i64 ((aY fs fs.length:Int) - (aY f1 fs.length:Int)),.nilIface])∧zz wx w':=by
 have c:=vf own gs OA OGA oc ogc wx f.mine.fnsAt f.mine.lies k (k9 a P.small) (nV a h);rw[a.1]at c;refine c.mono ?_;rintro e w' ⟨m,l,i,rfl,rfl,g⟩;refine⟨?_,g⟩;have d:=Mm i j own.length (zb _);rw[a.1]at d;rw[a.1,xt a,d]
def L9(P:Dl w A fs GA gc gs)(g:zz w wx)(k:w.heap.size<=B)(a:fA fs own)(n:rn B wx OA oc own OGA ogc gs):
 Calls prog 11 #[.agg #[.slice OA fs.length oc,.slice OGA gs.length ogc],.agg #[.slice A fs.length fc,.slice GA gs.length gc]] wx λe w'=>e= .returned (.bool true)∧aR (uG own) wx w':=by
 have h:=IC own fs gs OA OGA A GA oc ogc fc gc B wx n (P.fns.below g) (P.texts.below g rfl) a.symm (λl r b=>by
  obtain⟨q,o,e,i,_⟩:=P.fns.at_ (by rw[<-a.1];exact l);rw[e]at b;injection b with b;subst b;exact zv i k) (by rw[a.1];exact P.len) P.glen (λp j=>by
  obtain⟨c,f,rfl⟩:=zQ j;have d:c<fs.length:=by rw[<-a.1];exact f
  obtain⟨_,_,_,m,_,e⟩:=a.2 c d f;rw[m,e];exact P.each _ (zk d))
 rw[a.1]at h;exact h
def yb:Calls prog 12 #[.nilIface,.agg #[.int .i64 0,.int .i64 0,.string ⟨#[]⟩]] wx λe w'=>e= .returned (.bool true)∧zz wx w':=
 Km lH wx
def Dt{k a:Int}{b:ByteArray}(d:k≠0){g:Nat}(c:ah wx g 30 [.int .i64 k,.int .i64 a,.string b]):Calls prog 12 #[.iface 59 (.pointer (some ⟨g,0,none⟩)),.agg #[.int .i64 k,.int .i64 a,.string b]] wx λe w'=>e= .returned (.bool true)∧zz wx w':=by
 have h:=Mw ⟨k,a,b⟩ ⟨k,a,b⟩ g wx c;refine h.mono ?_;rintro e w' ⟨rfl,f⟩;refine⟨?_,f⟩;simp[d]
def pu(a:fA fs own)(b:iE own f1):iE fs f1:=Dw a b
def Bn(P:Dl w A fs GA gc gs)(c:zz w wx)(b:bs fs gs)(a:iE fs f1)(d:jD B wx OA oc f1 OGA ogc gs):
 Calls prog 13 #[.agg #[.slice A fs.length fc,.slice GA gs.length gc],.agg #[.slice OA fs.length oc,.slice OGA gs.length ogc]] wx λe w'=>e= .returned (.bool true)∧zz wx w':=
 AN fs f1 gs A OA GA OGA fc oc gc ogc wx (P.fns.below c) d.fnsAt (P.texts.below c rfl) d.lies a b P.small (uX b P.small a) (DQ a P.tints) (DO b a) (AI b P.small a) (λh g f=>na b a g f)
def PN{e d:Option Addr}{c b k:Nat}(P:Dl w A fs GA gc gs)(i:bs fs gs)(a:iE fs f1)(j:iE fs f2)(h:jD B wx OA oc f1 OGA ogc gs)(g:jD k wx e c f2 d b gs):
 Calls prog 14 #[.agg #[.slice OA fs.length oc,.slice OGA gs.length ogc],.agg #[.slice e fs.length c,.slice d gs.length b]] wx (Qb wx):=by
 have f:=tV f1 f2 gs OA e OGA d oc c ogc b wx h.fnsAt g.fnsAt h.lies g.lies (JR a j) (by rw[a.1];exact P.small.nf) P.small.ng (nB (pC i a));rw[a.1]at f;exact f
def PC(P:Dl w A fs GA gc gs)(c:bs fs gs)(a:iE fs f1)(f:jD B wx OA oc f1 OGA ogc gs)(d:B<=wx.heap.size):
 Calls prog 15 #[.agg #[.slice OA fs.length oc,.slice OGA gs.length ogc],.int .i64 (-73)] wx λe w'=>e= .returned (.tuple #[])∧aR (BG OA OGA f1) wx w':=by
 have b:=Jy f1 gs OA OGA oc ogc B (-73) wx f d (by rw[a.1];exact P.small.nf) P.small.ng (nB (pC c a));rw[a.1]at b;exact b
def Pz(P:Dl w A fs GA gc gs)(b:zz w wx):Calls prog 16 #[.agg #[.slice A fs.length fc,.slice GA gs.length gc]] wx λe w'=>e= .returned (.int .i64 (aY fs fs.length))∧zz wx w':=by
 have a:=xA fs gs.length A GA fc gc wx (P.fns.below b) P.small.nf (by rw[ox];exact P.small.all);rw[ox]at a;exact a
def Ng(P:Dl w A fs GA gc gs)(c:bs fs gs)(a:iE fs f1)(d:jD B wx OA oc f1 OGA ogc gs):Calls prog 16 #[.agg #[.slice OA fs.length oc,.slice OGA gs.length ogc]] wx λe w'=>e= .returned (.int .i64 (aY f1 fs.length))∧zz wx w':=by
 have b:=xA f1 gs.length OA OGA oc ogc wx d.fnsAt (by rw[a.1];exact P.small.nf) (by rw[ox];exact(uX c P.small a).all);rw[ox,a.1]at b;exact b
def GE(P:Dl w A fs GA gc gs)(m:¬bs fs gs){k a:Int}{c:ByteArray}(h:bO fs gs=⟨k,a,c⟩)(b:fA fs own)(f:rn B wx OA oc own OGA ogc gs)(n:aX wx):
 Calls prog 9 #[.agg #[.slice OA fs.length oc,.slice OGA gs.length ogc]] wx λe w'=> ∃g,e= .returned (.tuple #[.agg #[.slice none 0 0,.slice none 0 0],.iface 59 (.pointer (some ⟨g,0,none⟩))])∧wx.heap.size<=g∧ah w' g 30 [.int .i64 k,.int .i64 a,.string c]∧zz wx w':=by
 have d:=sv own gs OA OGA oc ogc wx f.mine.fnsAt f.mine.lies n (k9 b P.small) (mN b m);rw[b.1,sO b,h]at d;refine d.mono ?_;rintro e w' ⟨⟨g,rfl,j,i⟩,l⟩;exact⟨g,rfl,j,i,l⟩
def KF(P:Dl w A fs GA gc gs)(m:¬bs fs gs){k a:Int}{c:ByteArray}(h:bO fs gs=⟨k,a,c⟩)(b:fA fs own)(f:rn B wx OA oc own OGA ogc gs)(n:aX wx):
 Calls prog 10 #[.agg #[.slice OA fs.length oc,.slice OGA gs.length ogc]] wx λe w'=> ∃g,e= .returned (.tuple #[.int .i64 0,.iface 59 (.pointer (some ⟨g,0,none⟩))])∧wx.heap.size<=g∧ah w' g 30 [.int .i64 k,.int .i64 a,.string c]∧zz wx w':=by
 have d:=Hf own gs OA OGA oc ogc wx f.mine.fnsAt f.mine.lies n (k9 b P.small) (mN b m);rw[b.1,sO b,h]at d;refine d.mono ?_;rintro e w' ⟨⟨g,rfl,j,i⟩,l⟩;exact⟨g,rfl,j,i,l⟩
end
end
section
open Go.RowKit Go.Proofs.PeepPlain
def xy{c d:World}{a b:Nat}{h g v0 v1:Value}(e:zz c d)(j:a<c.heap.size)(i:b<c.heap.size)(f:c.cell? ⟨a,0,none⟩=some h∧c.cell? ⟨a,1,none⟩=some g∧c.cell? ⟨b,0,none⟩=some v0∧c.cell? ⟨b,1,none⟩=some v1):d.cell? ⟨a,0,none⟩=some h∧d.cell? ⟨a,1,none⟩=some g∧d.cell? ⟨b,0,none⟩=some v0∧d.cell? ⟨b,1,none⟩=some v1:=⟨(e.cell (p:=⟨a,0,none⟩) j).trans f.1,(e.cell (p:=⟨a,1,none⟩) j).trans f.2.1,(e.cell (p:=⟨b,0,none⟩) i).trans f.2.2.1,(e.cell (p:=⟨b,1,none⟩) i).trans f.2.2.2⟩
def wV{a b:Nat}(d:a<=2000000)(c:b<=2000000):wrap64 ((a:Int) - (b:Int))=(a:Int) - (b:Int):=by unfold wrap64;omega
set_option maxRecDepth 20000 in
def Dd(fs:List Fn)(gs:List ByteArray)(cs GA:Option Addr)(fc gc:Nat)(w:World)(P:Dl w cs fs GA gc gs)(ee:∀m,zz w m->aX m∧fT m)(ew:bs fs gs)(es:bO fs gs=⟨0,0,⟨#[]⟩⟩):
 Calls prog 3 #[.agg #[.slice cs fs.length fc,.slice GA gs.length gc]] w λe w'=>e= .returned (.bool true)∧zz w w':=by
 have gl:=za (λ(m:World) (a:zz w m)=>uF m (λS T=>ee S (ac a T a.size)));have t:=za P;have F:=za ew;have f5:=za es;have ea:=za ee;clear P ew es ee;go_enter func3,ntmps3;go_wp2_with (go_at_call 5;refine(gl.out _ (below1 w _)).mono ?_);rintro n g3 ⟨rfl,a⟩;have b2:=za ((ah.made w 25 [.slice cs fs.length fc,.slice GA gs.length gc]).below a (ah.made w 25 _).lt);have dl:=za (ac (below1 w _) a (below1 w _).size);clear a;have d:=b2.cell 0;have c:=b2.cell 1;have b:=b2.lt;go_wp2_with (go_at_call 6;refine(FG t.out dl.out).mono ?_);rintro n gv ⟨⟨p,rfl⟩,a⟩;have bp:=za (b2.below a b2.lt);have af:=za (ac dl.out a dl.size);clear d c b a dl b2;have d:=bp.cell 0;have c:=bp.cell 1;have b:=bp.lt
 cases p
 ·go_wp2_with fail;go_ret;exact⟨rfl,af⟩
 go_wp2_with (go_at_call 7;refine(FF t.out af.out f5.out).mono ?_);rintro n b8 ⟨rfl,a⟩;have K:=za (bp.below a bp.lt);have cT:=za (ah.made b8 30 [.int .i64 0,.int .i64 0,.string ⟨#[]⟩]);have b7:=za ((ac af.out a af.size).alloc (zi af.size a.size) (.cells #[.int .i64 0,.int .i64 0,.string ⟨#[]⟩] 30));have d1:=za (show w.heap.size<=b8.heap.size from zi af.size a.size);clear d c b a af bp;have d:=K.cell 0;have c:=K.cell 1;have b:=K.lt;go_wp2_with (go_at_call 8;refine(K4 t.out b7.out).mono ?_);rintro n ap ⟨own,b4,a0,b3,av,rfl,ev,dn,a⟩;clear d c b;replace K:=za (K.alloc (.cells #[.int .i64 0,.int .i64 0,.string ⟨#[]⟩] 30));generalize U:b8.alloc (.cells #[.int .i64 0,.int .i64 0,.string ⟨#[]⟩] 30)=w3b at *
 have c2:=za (show b8.heap.size<w3b.heap.size from cT.lt);generalize b8.heap.size=gx at *
 clear U;have e2:=za (below1 ap (.cells #[.slice b4 fs.length a0,.slice b3 gs.length av] 25));have J:=za (K.below a K.lt);have E:=za (cT.below a cT.lt);have c5:=za (ah.made ap 25 [.slice b4 fs.length a0,.slice b3 gs.length av]);have b6:=za ((ac b7.out a b7.size).alloc (zi b7.size a.size) (.cells #[.slice b4 fs.length a0,.slice b3 gs.length av] 25));have d7:=za (dn.below e2.out);have y:=za ev;have O:=za (λ(p:Nat) (f:uG own p)=>uG.lt dn f);have e4:=za (show w3b.heap.size<=ap.heap.size from a.size);have d0:=za (show w.heap.size<=w3b.heap.size from b7.size);clear a dn ev K cT b7 e2;have d:=J.cell 0;have c:=J.cell 1;have b:=J.lt;have j:=E.cell 0;have i:=E.cell 1;have h:=E.cell 2;have g:=E.lt;go_wp2_with (go_at_call 9;refine(Kn t.out F.out y.out d7.out (λS T=>ea.out S (ac b6.out T b6.size))).mono ?_);rintro n ao ⟨f3,R,X,Q,W,rfl,b9,a1,a⟩;clear d c j i h b g;replace J:=za (J.alloc (.cells #[.slice b4 fs.length a0,.slice b3 gs.length av] 25));replace E:=za (E.alloc (.cells #[.slice b4 fs.length a0,.slice b3 gs.length av] 25));generalize U:ap.alloc (.cells #[.slice b4 fs.length a0,.slice b3 gs.length av] 25)=w4b at *
 have bk:=za (show ap.heap.size<w4b.heap.size from c5.lt);generalize ap.heap.size=go at *
 clear U;have dB:=za (below1 ao (.cells #[.slice R fs.length X,.slice Q gs.length W] 25));have I:=za (J.below a J.lt);have D:=za (E.below a E.lt);have N:=za (c5.below a c5.lt);have cC:=za (ah.made ao 25 [.slice R fs.length X,.slice Q gs.length W]);have b5:=za ((ac b6.out a b6.size).alloc (zi b6.size a.size) (.cells #[.slice R fs.length X,.slice Q gs.length W] 25));have d6:=za ((d7.below a).below dB.out);have e9:=za (a1.below dB.out);have d2:=za b9;have c6:=za (λ(p:Nat) (f:BG R Q f3 p)=>a1.blk f);have c3:=za (show w4b.heap.size<=ao.heap.size from a.size);clear a a1 b9 J E c5 d7 b6 dB;have d:=I.cell 0;have c:=I.cell 1;have b:=I.lt;have j:=D.cell 0;have i:=D.cell 1;have h:=D.cell 2;have g:=D.lt;have ck:=N.cell 0;have cj:=N.cell 1;have ci:=N.lt;go_wp2_with (go_at_call 9;refine(Kn t.out F.out y.out d6.out (λS T=>ea.out S (ac b5.out T b5.size))).mono ?_);rintro n an ⟨ds,A,x,z,v,rfl,b9,a1,a⟩;clear d c j i h ck cj b g ci;replace I:=za (I.alloc (.cells #[.slice R fs.length X,.slice Q gs.length W] 25));replace D:=za (D.alloc (.cells #[.slice R fs.length X,.slice Q gs.length W] 25));replace N:=za (N.alloc (.cells #[.slice R fs.length X,.slice Q gs.length W] 25));generalize U:ao.alloc (.cells #[.slice R fs.length X,.slice Q gs.length W] 25)=w5b at *
 have c1:=za (show ao.heap.size<w5b.heap.size from cC.lt);generalize ao.heap.size=ga at *
 clear U;have c0:=za (below1 an (.cells #[.slice A fs.length x,.slice z gs.length v] 25));have H:=za (I.below a I.lt);have C:=za (D.below a D.lt);have L:=za (N.below a N.lt);have G:=za (cC.below a cC.lt);have cv:=za (ah.made an 25 [.slice A fs.length x,.slice z gs.length v]);have cn:=za ((ac b5.out a b5.size).alloc (zi b5.size a.size) (.cells #[.slice A fs.length x,.slice z gs.length v] 25));have d5:=za ((d6.below a).below c0.out);have e8:=za ((e9.below a).below c0.out);have fm:=za (a1.below c0.out);have cl:=za b9;have e3:=za (show w5b.heap.size<=an.heap.size from a.size);clear a a1 b9 I D N cC d6 e9 b5 c0;have d:=H.cell 0;have c:=H.cell 1;have b:=H.lt;have j:=C.cell 0;have i:=C.cell 1;have h:=C.cell 2;have g:=C.lt;have ck:=L.cell 0;have cj:=L.cell 1;have ci:=L.lt;have s:=G.cell 0;have r:=G.cell 1;have q:=G.lt;go_wp2_with (go_at_call 10;refine(MO t.out F.out y.out cl.out d5.out (λS T=>ea.out S (ac cn.out T cn.size))).mono ?_);rintro n f0 ⟨rfl,a⟩;clear d c j i h ck cj s r b g ci q;replace H:=za (H.alloc (.cells #[.slice A fs.length x,.slice z gs.length v] 25));replace C:=za (C.alloc (.cells #[.slice A fs.length x,.slice z gs.length v] 25));replace L:=za (L.alloc (.cells #[.slice A fs.length x,.slice z gs.length v] 25));replace G:=za (G.alloc (.cells #[.slice A fs.length x,.slice z gs.length v] 25));generalize U:an.alloc (.cells #[.slice A fs.length x,.slice z gs.length v] 25)=w6b at *
 have g9:=za (show an.heap.size<w6b.heap.size from cv.lt);generalize an.heap.size=gb at *
 clear U;have cg:=za (H.below a H.lt);have bj:=za (C.below a C.lt);have c4:=za (L.below a L.lt);have cc:=za (G.below a G.lt);have ca:=za (cv.below a cv.lt);have c8:=za (ac cn.out a cn.size);have fi:=za (d5.below a);have e7:=za (e8.below a);have fl:=za (fm.below a);have hd:=za (show w6b.heap.size<=f0.heap.size from a.size);clear a H C L G cv d5 e8 fm cn;have d:=cg.cell 0;have c:=cg.cell 1;have b:=cg.lt;have j:=bj.cell 0;have i:=bj.cell 1;have h:=bj.cell 2;have g:=bj.lt;have ck:=c4.cell 0;have cj:=c4.cell 1;have ci:=c4.lt;have s:=cc.cell 0;have r:=cc.cell 1;have q:=cc.lt;have l:=ca.cell 0;have k:=ca.cell 1;have Zz:=ca.lt;have e1:aY fs fs.length<=2000000:=t.small.all;have e0:aY ds fs.length<=2000000:=by
  have u:=pu y.out cl.out;have:=qi u (λg4 f2 f1=>na F.out u f2 f1) fs.length (zb _);omega
 have gh:=za (λ(m:World) (a:zz w m)=>Pz (fc:=fc) t.out a);have f9:=za (λ(m:World) (B:Nat) (M:jD B m A x ds z v gs)=>Ng t.out F.out (pu y.out cl.out) M);generalize aY fs fs.length=La at *
 generalize aY ds fs.length=Lb at *
 have c7:=za (And.intro e1 e0);clear e1 e0;go_wp2_with (go_at_call 11;refine(L9 t.out c8.out d0.out y.out fi.out).mono ?_);rintro n gt ⟨rfl,o⟩;clear d c j i h ck cj s r l k b g ci q Zz;have bo:=za (o.row cg.out (λf=>by have u:=(O.out _ f).1;have V:=d0.out;have a2:=d1.out;have ct:=c2.out;omega));have Z:=za (o.row bj.out (λf=>by have u:=(O.out _ f).1;have ct:=c2.out;omega));have bb:=za (o.row cc.out (λf=>by have u:=(O.out _ f).2;have V:=c3.out;have a2:=bk.out;omega));have a5:=za (o.row ca.out (λf=>by have u:=(O.out _ f).2;have V:=c3.out;have a2:=bk.out;have g8:=c1.out;have g7:=e3.out;omega));have ej:=za (c8.trans (o.below c8.size (λp f=>zi d0.out (O.out p f).1)));have e6:=za (e7.turns o (λp a3 _ f=>by have u:=(O.out p f).2;have a2:=bk.out;omega));have fk:=za (fl.turns o (λp a3 _ f=>by have u:=(O.out p f).2;have a2:=bk.out;have V:=c3.out;have ct:=c1.out;omega));have hc:=za o.size;clear o cg bj c4 cc ca fi e7 fl c8 O;have d:=bo.cell 0;have c:=bo.cell 1;have b:=bo.lt;have j:=Z.cell 0;have i:=Z.cell 1;have h:=Z.cell 2;have g:=Z.lt;have s:=bb.cell 0;have r:=bb.cell 1;have q:=bb.lt;have l:=a5.cell 0;have k:=a5.cell 1;have Zz:=a5.lt;go_wp2_with (go_at_call 12;refine yb.mono ?_);rintro n gr ⟨rfl,a⟩;clear d c j i h s r l k b g q Zz;have bl:=za (bo.below a bo.lt);have Y:=za (Z.below a Z.lt);have ba:=za (bb.below a bb.lt);have a4:=za (a5.below a a5.lt);have ef:=za (ac ej.out a ej.size);have e5:=za (e6.below a);have fj:=za (fk.below a);have hb:=za a.size;clear a bo Z bb a5 e6 fk ej;have d:=bl.cell 0;have c:=bl.cell 1;have b:=bl.lt;have j:=Y.cell 0;have i:=Y.cell 1;have h:=Y.cell 2;have g:=Y.lt;have s:=ba.cell 0;have r:=ba.cell 1;have q:=ba.lt;have l:=a4.cell 0;have k:=a4.cell 1;have Zz:=a4.lt;go_wp2_with (go_at_call 12;refine yb.mono ?_);rintro n g2 ⟨rfl,a⟩;clear d c j i h s r l k b g q Zz;have b1:=za (bl.below a bl.lt);have ad:=za (Y.below a Y.lt);have bi:=za (ba.below a ba.lt);have a9:=za (a4.below a a4.lt);have en:=za (ac ef.out a ef.size);have fh:=za (e5.below a);have fr:=za (fj.below a);have ha:=za a.size;clear a bl Y ba a4 e5 fj ef;have d:=b1.cell 0;have c:=b1.cell 1;have b:=b1.lt;have j:=ad.cell 0;have i:=ad.cell 1;have h:=ad.cell 2;have g:=ad.lt;have s:=bi.cell 0;have r:=bi.cell 1;have q:=bi.lt;have l:=a9.cell 0;have k:=a9.cell 1;have Zz:=a9.lt;go_wp2_with (go_at_call 12;refine yb.mono ?_);rintro n g1 ⟨rfl,a⟩;clear d c j i h s r l k b g q Zz;have b0:=za (b1.below a b1.lt);have ab:=za (ad.below a ad.lt);have be:=za (bi.below a bi.lt);have a8:=za (a9.below a a9.lt);have df:=za (ac en.out a en.size);have d4:=za (fh.below a);have fo:=za (fr.below a);have hg:=za a.size;clear a b1 ad bi a9 fh fr en;have d:=b0.cell 0;have c:=b0.cell 1;have b:=b0.lt;have j:=ab.cell 0;have i:=ab.cell 1;have h:=ab.cell 2;have g:=ab.lt;have s:=be.cell 0;have r:=be.cell 1;have q:=be.lt;have l:=a8.cell 0;have k:=a8.cell 1;have Zz:=a8.lt;go_wp2_with (go_at_call 13;refine(Bn t.out df.out F.out (pu y.out d2.out) d4.out).mono ?_);rintro n g0 ⟨rfl,a⟩;clear d c j i h s r l k b g q Zz;have bt:=za (b0.below a b0.lt);have aa:=za (ab.below a ab.lt);have bc:=za (be.below a be.lt);have a7:=za (a8.below a a8.lt);have em:=za (ac df.out a df.size);have d3:=za (d4.below a);have d9:=za (fo.below a);have hf:=za a.size;clear a b0 ab be a8 d4 fo df;have d:=bt.cell 0;have c:=bt.cell 1;have b:=bt.lt;have j:=aa.cell 0;have i:=aa.cell 1;have h:=aa.cell 2;have g:=aa.lt;have s:=bc.cell 0;have r:=bc.cell 1;have q:=bc.lt;have l:=a7.cell 0;have k:=a7.cell 1;have Zz:=a7.lt;go_wp2_with (go_at_call 14;refine(PN t.out F.out (pu y.out d2.out) (pu y.out cl.out) d3.out d9.out).mono ?_);rintro n gT ⟨rfl,a⟩;clear d c j i h s r l k b g q Zz;have ch:=za (bt.below a bt.lt);have cf:=za (aa.below a aa.lt);have cd:=za (bc.below a bc.lt);have cb:=za (a7.below a a7.lt);have ek:=za (ac em.out a em.size);have ff:=za (d3.below a);have fn:=za (d9.below a);have he:=za a.size;clear a bt aa bc a7 d3 d9 em;have d:=ch.cell 0;have c:=ch.cell 1;have b:=ch.lt;have j:=cf.cell 0;have i:=cf.cell 1;have h:=cf.cell 2;have g:=cf.lt;have s:=cd.cell 0;have r:=cd.cell 1;have q:=cd.lt;have l:=cb.cell 0;have k:=cb.cell 1;have Zz:=cb.lt;go_wp2_with (go_at_call 15;refine(PC t.out F.out (pu y.out d2.out) ff.out (by have a3:=c3.out;have u:=cd.lt;omega)).mono ?_);rintro n gF ⟨rfl,o⟩;clear d c j i h s r l k b g q Zz;have bq:=za (o.row ch.out (λf=>by have a3:=(c6.out _ f).1;have u:=d1.out;have V:=c2.out;have a2:=e4.out;have ct:=bk.out;omega));have a6:=za (o.row cb.out (λf=>by have a3:=(c6.out _ f).2;have u:=c1.out;have V:=e3.out;omega));have c9:=za (ek.trans (o.below ek.size (λp f=>by have a3:=(c6.out p f).1;have u:=d1.out;have V:=c2.out;have a2:=e4.out;have ct:=bk.out;omega)));have d8:=za (fn.turns o (λp a3 _ f=>by have u:=(c6.out p f).2;have V:=c1.out;omega));clear o ch cf cd cb ff fn ek;have d:=bq.cell 0;have c:=bq.cell 1;have b:=bq.lt;have l:=a6.cell 0;have k:=a6.cell 1;have Zz:=a6.lt;go_wp2_with (go_at_call 13;refine(Bn t.out c9.out F.out (pu y.out cl.out) d8.out).mono ?_);rintro n ar ⟨rfl,a⟩;clear d c l k b Zz;have dC:=za (bq.below a bq.lt);have dA:=za (a6.below a a6.lt);have cp:=za (ac c9.out a c9.size);have f4:=za (d8.below a);clear a bq a6 c9 d8;have fx:=za (λ(m:World) (a:zz ar m)=>gh.out m (ac cp.out a cp.size));have ft:=za (λ(m:World) (a:zz ar m)=>f9.out m _ (f4.below a));have g6:IntKind.i64.wrap ((La:Int) - (Lb:Int))=(La:Int) - (Lb:Int):=(IntWalk.i64_left _).trans (wV c7.1 c7.2);have g5:wrap64 ((La:Int) - (Lb:Int))=(La:Int) - (Lb:Int):=wV c7.1 c7.2;have d:=dC.cell 0;have c:=dC.cell 1;have b:=dC.lt;have l:=dA.cell 0;have k:=dA.cell 1;have Zz:=dA.lt;go_wp2_with fail;have ed:ar.cell? ⟨w.heap.size,0,none⟩=some (.slice cs fs.length fc)∧ar.cell? ⟨w.heap.size,1,none⟩=some (.slice GA gs.length gc)∧ar.cell? ⟨gb,0,none⟩=some (.slice A fs.length x)∧ar.cell? ⟨gb,1,none⟩=some (.slice z gs.length v):=⟨d,c,l,k⟩
 go_region_held3 (λw'=>w'.cell? ⟨w.heap.size,0,none⟩=some (.slice cs fs.length fc)∧w'.cell? ⟨w.heap.size,1,none⟩=some (.slice GA gs.length gc)∧w'.cell? ⟨gb,0,none⟩=some (.slice A fs.length x)∧w'.cell? ⟨gb,1,none⟩=some (.slice z gs.length v)) (first|exact ed|exact ec|exact gm|go_keep) (first
  |(go_at_call 16;refine(fx.out _ (ae (zZ _ _) 1)).mono ?_;rintro n gC ⟨rfl,a⟩;have ec:=xy a b Zz ed;have co:=za a;clear a fx ed)
  |(go_at_call 16;refine(ft.out _ ((ae (zZ _ _) 1).trans co.out)).mono ?_;rintro n gz ⟨rfl,a⟩;have gm:=xy a (zv b co.size) (zv Zz co.size) ec;have gq:=za a;clear a ft ec))
 go_wp2_with fail;go_ret;exact⟨rfl,((ae cp.out 1).trans (az co.out cp.size)).trans (az gq.out (zi cp.size co.size))⟩
set_option maxRecDepth 20000 in
def Ev(fs:List Fn)(gs:List ByteArray)(df GA:Option Addr)(fc gc:Nat)(w:World)(P:Dl w df fs GA gc gs)(c2:∀N,zz w N->aX N∧fT N)(ds:¬bs fs gs)(k a:Int)(a2:ByteArray)(dl:bO fs gs=⟨k,a,a2⟩)(cj:k≠0):
 Calls prog 3 #[.agg #[.slice df fs.length fc,.slice GA gs.length gc]] w λe w'=>e= .returned (.bool true)∧zz w w':=by
 have ca:=za cj;clear cj;have ec:=za (λ(N:World) (b:zz w N)=>uF N (λd6 d8=>c2 d6 (ac b d8 b.size)));have L:=za P;have cC:=za ds;have b9:=za dl;have cT:=za c2;clear P ds dl c2;go_enter func3,ntmps3;go_wp2_with (go_at_call 5;refine(ec.out _ (below1 w _)).mono ?_);rintro m ew ⟨rfl,b⟩;have ap:=za ((ah.made w 25 [.slice df fs.length fc,.slice GA gs.length gc]).below b (ah.made w 25 _).lt);have ci:=za (ac (below1 w _) b (below1 w _).size);clear b;have f:=ap.cell 0;have d:=ap.cell 1;have c:=ap.lt;go_wp2_with (go_at_call 6;refine(FG L.out ci.out).mono ?_);rintro m en ⟨⟨a5,rfl⟩,b⟩;have an:=za (ap.below b ap.lt);have M:=za (ac ci.out b ci.size);clear f d c b ci ap;have f:=an.cell 0;have d:=an.cell 1;have c:=an.lt
 cases a5
 ·go_wp2_with fail;go_ret;exact⟨rfl,M⟩
 go_wp2_with (go_at_call 7;refine(FF L.out M.out b9.out).mono ?_);rintro m a1 ⟨rfl,b⟩;have E:=za (an.below b an.lt);have b5:=za (ah.made a1 30 [.int .i64 k,.int .i64 a,.string a2]);have a0:=za ((ac M.out b M.size).alloc (zi M.size b.size) (.cells #[.int .i64 k,.int .i64 a,.string a2] 30));have ea:=za (show w.heap.size<=a1.heap.size from zi M.size b.size);clear f d c b M an;have f:=E.cell 0;have d:=E.cell 1;have c:=E.lt;go_wp2_with (go_at_call 8;refine(K4 L.out a0.out).mono ?_);rintro m R ⟨own,av,T,ar,S,rfl,dn,ck,b⟩;clear f d c;replace E:=za (E.alloc (.cells #[.int .i64 k,.int .i64 a,.string a2] 30));generalize H:a1.alloc (.cells #[.int .i64 k,.int .i64 a,.string a2] 30)=w3b at *
 have d1:=za (show a1.heap.size<w3b.heap.size from b5.lt);generalize a1.heap.size=gx at *
 clear H;have d0:=za (below1 R (.cells #[.slice av fs.length T,.slice ar gs.length S] 25));have D:=za (E.below b E.lt);have t:=za (b5.below b b5.lt);have b8:=za (ah.made R 25 [.slice av fs.length T,.slice ar gs.length S]);have bt:=za ((ac a0.out b a0.size).alloc (zi a0.size b.size) (.cells #[.slice av fs.length T,.slice ar gs.length S] 25));have cv:=za (ck.below d0.out);have cb:=za dn;have u:=za (λ(a5:Nat) (g:uG own a5)=>uG.lt ck g);have e4:=za (show w3b.heap.size<=R.heap.size from b.size);have cp:=za (show w.heap.size<=w3b.heap.size from a0.size);clear b ck dn E b5 a0 d0;have f:=D.cell 0;have d:=D.cell 1;have c:=D.lt;have l:=t.cell 0;have j:=t.cell 1;have i:=t.cell 2;have h:=t.lt;go_wp2_with (go_at_call 9;refine(GE L.out cC.out b9.out cb.out cv.out (cT.out _ bt.out).1).mono ?_);rintro m Q ⟨e2,rfl,x,v,b⟩;clear f d l j i c h;replace D:=za (D.alloc (.cells #[.slice av fs.length T,.slice ar gs.length S] 25));replace t:=za (t.alloc (.cells #[.slice av fs.length T,.slice ar gs.length S] 25));generalize H:R.alloc (.cells #[.slice av fs.length T,.slice ar gs.length S] 25)=w4b at *
 have ba:=za (show R.heap.size<w4b.heap.size from b8.lt);generalize R.heap.size=go at *
 clear H;have dC:=za (below1 Q (.cells #[.slice none 0 0,.slice none 0 0] 25));have C:=za (D.below b D.lt);have s:=za (t.below b t.lt);have G:=za (b8.below b b8.lt);have b4:=za (ah.made Q 25 [.slice none 0 0,.slice none 0 0]);have bp:=za v;have ef:=za x;have bq:=za ((ac bt.out b bt.size).alloc (zi bt.size b.size) (.cells #[.slice none 0 0,.slice none 0 0] 25));have ct:=za ((cv.below b).below dC.out);have bc:=za (show w4b.heap.size<=Q.heap.size from b.size);clear b x v D t b8 cv bt dC;have f:=C.cell 0;have d:=C.cell 1;have c:=C.lt;have l:=s.cell 0;have j:=s.cell 1;have i:=s.cell 2;have h:=s.lt;have bk:=G.cell 0;have bj:=G.cell 1;have bi:=G.lt;go_wp2_with (go_at_call 9;refine(GE L.out cC.out b9.out cb.out ct.out (cT.out _ bq.out).1).mono ?_);rintro m O ⟨e1,rfl,x,v,b⟩;replace bp:=za (bp.alloc (.cells #[.slice none 0 0,.slice none 0 0] 25));clear f d l j i bk bj c h bi;replace C:=za (C.alloc (.cells #[.slice none 0 0,.slice none 0 0] 25));replace s:=za (s.alloc (.cells #[.slice none 0 0,.slice none 0 0] 25));replace G:=za (G.alloc (.cells #[.slice none 0 0,.slice none 0 0] 25));generalize H:Q.alloc (.cells #[.slice none 0 0,.slice none 0 0] 25)=w5b at *
 have a9:=za (show Q.heap.size<w5b.heap.size from b4.lt);generalize Q.heap.size=ga at *
 clear H;have dB:=za (below1 O (.cells #[.slice none 0 0,.slice none 0 0] 25));have B:=za (C.below b C.lt);have r:=za (s.below b s.lt);have F:=za (G.below b G.lt);have A:=za (b4.below b b4.lt);have bo:=za (bp.below b bp.lt);have b3:=za (ah.made O 25 [.slice none 0 0,.slice none 0 0]);have bl:=za v;have ee:=za x;have ch:=za ((ac bq.out b bq.size).alloc (zi bq.size b.size) (.cells #[.slice none 0 0,.slice none 0 0] 25));have cs:=za ((ct.below b).below dB.out);have bb:=za (show w5b.heap.size<=O.heap.size from b.size);clear b x v C s G b4 bp ct bq dB;have f:=B.cell 0;have d:=B.cell 1;have c:=B.lt;have l:=r.cell 0;have j:=r.cell 1;have i:=r.cell 2;have h:=r.lt;have bk:=F.cell 0;have bj:=F.cell 1;have bi:=F.lt;have p:=A.cell 0;have o:=A.cell 1;have n:=A.lt;go_wp2_with (go_at_call 10;refine(KF L.out cC.out b9.out cb.out cs.out (cT.out _ ch.out).1).mono ?_);rintro m d7 ⟨e0,rfl,x,v,b⟩;replace bo:=za (bo.alloc (.cells #[.slice none 0 0,.slice none 0 0] 25));replace bl:=za (bl.alloc (.cells #[.slice none 0 0,.slice none 0 0] 25));clear f d l j i bk bj p o c h bi n;replace B:=za (B.alloc (.cells #[.slice none 0 0,.slice none 0 0] 25));replace r:=za (r.alloc (.cells #[.slice none 0 0,.slice none 0 0] 25));replace F:=za (F.alloc (.cells #[.slice none 0 0,.slice none 0 0] 25));replace A:=za (A.alloc (.cells #[.slice none 0 0,.slice none 0 0] 25));generalize H:O.alloc (.cells #[.slice none 0 0,.slice none 0 0] 25)=w6b at *
 have a8:=za (show O.heap.size<w6b.heap.size from b3.lt);generalize O.heap.size=gb at *
 clear H;have be:=za (B.below b B.lt);have ab:=za (r.below b r.lt);have b7:=za (F.below b F.lt);have a7:=za (A.below b A.lt);have a6:=za (b3.below b b3.lt);have d5:=za (bo.below b bo.lt);have d4:=za (bl.below b bl.lt);have cg:=za (ac ch.out b ch.size);have d3:=za v;have ed:=za x;have d2:=za (cs.below b);have e3:=za (show w6b.heap.size<=d7.heap.size from b.size);clear b x v B r F A b3 bo bl cs ch;have f:=be.cell 0;have d:=be.cell 1;have c:=be.lt;have l:=ab.cell 0;have j:=ab.cell 1;have i:=ab.cell 2;have h:=ab.lt;have bk:=b7.cell 0;have bj:=b7.cell 1;have bi:=b7.lt;have p:=a7.cell 0;have o:=a7.cell 1;have n:=a7.lt;have z:=a6.cell 0;have y:=a6.cell 1;have Zz:=a6.lt;go_wp2_with (go_at_call 11;refine(L9 L.out cg.out cp.out cb.out d2.out).mono ?_);rintro m em ⟨rfl,q⟩;clear f d l j i bk bj p o z y c h bi n Zz;have af:=za (q.row be.out (λg=>by have U:=(u.out _ g).1;have a4:=cp.out;have a3:=ea.out;have d9:=d1.out;omega));have J:=za (q.row ab.out (λg=>by have U:=(u.out _ g).1;have d9:=d1.out;omega));have Z:=za (q.row a7.out (λg=>by have U:=(u.out _ g).2;have a4:=bc.out;have a3:=ba.out;have b2:=a9.out;have b1:=bb.out;have b0:=a8.out;omega));have W:=za (q.row a6.out (λg=>by have U:=(u.out _ g).2;have a4:=bc.out;have a3:=ba.out;have b2:=a9.out;have b1:=bb.out;have b0:=a8.out;omega));have cf:=za (q.row d5.out (λg=>by have U:=(u.out _ g).2;have a4:=bc.out;have a3:=ba.out;have b2:=a9.out;have b1:=bb.out;have b0:=a8.out;have dA:=ef.out;omega));have c3:=za (q.row d4.out (λg=>by have U:=(u.out _ g).2;have a4:=bc.out;have a3:=ba.out;have b2:=a9.out;have b1:=bb.out;have b0:=a8.out;have dA:=ee.out;omega));have c1:=za (q.row d3.out (λg=>by have U:=(u.out _ g).2;have a4:=bc.out;have a3:=ba.out;have b2:=a9.out;have b1:=bb.out;have b0:=a8.out;have dA:=ed.out;omega));have c8:=za (cg.trans (q.below cg.size (λa5 g=>zi cp.out (u.out a5 g).1)));clear q be ab b7 a7 a6 d5 d4 d3 d2 cg u;have f:=af.cell 0;have d:=af.cell 1;have c:=af.lt;have l:=J.cell 0;have j:=J.cell 1;have i:=J.cell 2;have h:=J.lt;have p:=Z.cell 0;have o:=Z.cell 1;have n:=Z.lt;have z:=W.cell 0;have y:=W.cell 1;have Zz:=W.lt;go_wp2_with (go_at_call 12;refine(Dt ca.out cf.out).mono ?_);rintro m ek ⟨rfl,b⟩;clear f d l j i p o z y c h n Zz;have ad:=za (af.below b af.lt);have I:=za (J.below b J.lt);have Y:=za (Z.below b Z.lt);have V:=za (W.below b W.lt);have c5:=za (cf.below b cf.lt);have cd:=za (c3.below b c3.lt);have c0:=za (c1.below b c1.lt);have c7:=za (ac c8.out b c8.size);clear b af J Z W cf c3 c1 c8;have f:=ad.cell 0;have d:=ad.cell 1;have c:=ad.lt;have l:=I.cell 0;have j:=I.cell 1;have i:=I.cell 2;have h:=I.lt;have p:=Y.cell 0;have o:=Y.cell 1;have n:=Y.lt;have z:=V.cell 0;have y:=V.cell 1;have Zz:=V.lt;go_wp2_with (go_at_call 12;refine(Dt ca.out cd.out).mono ?_);rintro m ev ⟨rfl,b⟩;clear f d l j i p o z y c h n Zz;have ao:=za (ad.below b ad.lt);have K:=za (I.below b I.lt);have aa:=za (Y.below b Y.lt);have X:=za (V.below b V.lt);have c6:=za (c5.below b c5.lt);have c4:=za (cd.below b cd.lt);have cc:=za (c0.below b c0.lt);have c9:=za (ac c7.out b c7.size);clear b ad I Y V c5 cd c0 c7;have f:=ao.cell 0;have d:=ao.cell 1;have c:=ao.lt;have l:=K.cell 0;have j:=K.cell 1;have i:=K.cell 2;have h:=K.lt;have p:=aa.cell 0;have o:=aa.cell 1;have n:=aa.lt;have z:=X.cell 0;have y:=X.cell 1;have Zz:=X.lt;go_wp2_with (go_at_call 12;refine(Dt ca.out cc.out).mono ?_);rintro m es ⟨rfl,b⟩;clear f d l j i p o z y c h n Zz;have co:=za (ao.below b ao.lt);have b6:=za (K.below b K.lt);have cn:=za (aa.below b aa.lt);have cl:=za (X.below b X.lt);have e7:=za (c6.below b c6.lt);have e6:=za (c4.below b c4.lt);have e5:=za (cc.below b cc.lt);have ej:=za (ac c9.out b c9.size);clear b ao K aa X c6 c4 cc c9;have f:=co.cell 0;have d:=co.cell 1;have c:=co.lt;have l:=b6.cell 0;have j:=b6.cell 1;have i:=b6.cell 2;have h:=b6.lt;have p:=cn.cell 0;have o:=cn.cell 1;have n:=cn.lt;have z:=cl.cell 0;have y:=cl.cell 1;have Zz:=cl.lt;have cj:=ca.out;go_wp2_with fail;go_ret;exact⟨rfl,ej⟩
def DV(fs:List Fn)(gs:List ByteArray)(c GA:Option Addr)(fc gc:Nat)(w:World)(P:Dl w c fs GA gc gs)(i:aX w)(O:fT w):
 Calls prog 3 #[.agg #[.slice c fs.length fc,.slice GA gs.length gc]] w λe w'=>e= .returned (.bool true)∧zz w w':=by
 by_cases b:bs fs gs
 ·exact Dd fs gs c GA fc gc w P (λj a=>⟨i.below a,O.below a⟩) b (sw w b)
 ·obtain⟨f,g,d,h⟩:∃f g d,bO fs gs=⟨f,g,d⟩:=⟨_,_,_,rfl⟩
  refine Ev fs gs c GA fc gc w P (λj a=>⟨i.below a,O.below a⟩) b f g d h (λe=>b (EH w ?_));rw[h];exact e
end
end Go.Proofs.YtmecmlpoallpcaaGreatDoor

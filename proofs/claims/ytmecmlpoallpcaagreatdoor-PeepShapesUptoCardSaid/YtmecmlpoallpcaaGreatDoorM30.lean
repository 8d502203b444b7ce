/- Parts of the proof: RefZ6 RefZ7 -/
import Derived.Test.YtmecmlpoallpcaaGreatDoorM29
import Derived.Test.YtmecmlpoallpcaaGreatDoorM26
import Derived.Test.YtmecmlpoallpcaaGreatDoorM23
import Derived.Test.YtmecmlpoallpcaaGreatDoorM28
set_option linter.all false
set_option maxHeartbeats 8000000
namespace Go.Proofs.YtmecmlpoallpcaaGreatDoor
open Go.Proofs.Tryz
section
open Go.RowKit Go.Proofs.PeepPlain
def bare(f:Fn):Fn:=⟨f.name,f.params,f.slots,none,f.taken,0,f.around,none,f.code,0⟩
def gJ(fs:List Fn)(i:Nat):(fs.map bare).getD i default=bare (fs.getD i default):=by
 rw[zd,zd,zL]
 cases fs[i]? with
 |none=>rfl
 |some x=>rfl
def uL(fs:List Fn)(k:Nat):aY (fs.map bare) k=aY fs k:=by
 unfold aY;rw[<-List.map_take,List.map_map];rfl
def rR(fs:List Fn)(gl:Nat):dN (fs.map bare) gl=dN fs gl:=by
 unfold dN;rw[uL,List.length_map,List.all_map];rfl
def Eu(fs:List Fn)(gl:Nat):mL (fs.map bare) gl=mL fs gl:=by
 unfold mL;simp only[uL,List.length_map,gJ];rfl
def nx(fs:List Fn)(i:Nat)(l:List ByteArray):bR (fs.map bare) i l=bR fs i l:=by
 unfold bR gf;simp only[gJ];rfl
theorem mD(fs:List Fn):∀k,aB (fs.map bare) k=aB fs k
 |0=>rfl
 |k+1=>by
  show db (fs.map bare) k (aB (fs.map bare) k)=db fs k (aB fs k);rw[mD fs k];unfold db;simp only[gJ];rfl
def oz(fs:List Fn)(gl f k:Nat):bW (fs.map bare) gl f k=bW fs gl f k:=by
 unfold bW ax;simp only[gJ,List.length_map];rfl
def CO(fs:List Fn)(gl f:Nat):cX (fs.map bare) gl f=cX fs gl f:=by
 unfold cX;rw[show bW (fs.map bare) gl f=bW fs gl f from funext λa=>oz fs gl f a,gJ];rfl
def El(fs:List Fn)(gl f:Nat):fW (fs.map bare) gl f=fW fs gl f:=by
 unfold fW;rw[show bW (fs.map bare) gl f=bW fs gl f from funext λa=>oz fs gl f a,gJ];rfl
def EZ(fs:List Fn)(f:Nat):jd (fs.map bare) f=jd fs f:=by
 unfold jd;rw[gJ];rfl
def uu(fs:List Fn)(gs:List ByteArray):bO (fs.map bare) gs=bO fs gs:=by
 unfold bO;simp only[rR,Eu,nx,mD,El,EZ,List.length_map,gJ];rw[show cX (fs.map bare) gs.length=cX fs gs.length from funext λa=>CO fs gs.length a];rfl
def EG{fs:List Fn}{gs:List ByteArray}(c:bs fs gs):bs (fs.map bare) gs where
 many:=by rw[rR];exact c.many
 globals:=c.globals
 heads:=λa b=>by rw[nx,mD];exact c.heads a (by simpa using b)
 some_:=λa b=>by
  have d:a<fs.length:=by simpa using b
  rw[List.getElem_map]
  exact c.some_ a d
 fine:=λa f b e=>by
  have d:a<fs.length:=by simpa using b
  rw[List.getElem_map]at e
  rw[oz]
  exact c.fine a f d e
 fits:=λa b=>by
  have d:a<fs.length:=by simpa using b
  rw[List.getElem_map]
  exact c.fits a d
def yE{fs:List Fn}{gs:List ByteArray}(c:bs (fs.map bare) gs):bs fs gs where
 many:=by have:=c.many;rw[rR]at this;exact this
 globals:=c.globals
 heads:=λa b=>by have:=c.heads a (by simpa using b);rw[nx,mD]at this;exact this
 some_:=λa b=>by
  have:=c.some_ a (by simpa using b)
  rw[List.getElem_map]at this
  exact this
 fine:=λa d b e=>by
  have:=c.fine a d (by simpa using b) (by rw[List.getElem_map];exact e)
  rw[oz]at this
  exact this
 fits:=λa b=>by
  have:=c.fits a (by simpa using b)
  rw[List.getElem_map]at this
  exact this
def pD{fs gs:List Fn}(b:fA fs gs):gs.map bare=fs.map bare:=by
 apply List.ext_getElem
 ·simp[b.1]
 ·intro a f e;have d:a<gs.length:=by simpa using f
  have c:a<fs.length:=by simpa using e
  rw[List.getElem_map,List.getElem_map];obtain⟨l,k,j,i,h,g⟩:=b.2 a c d;unfold bare;rw[l,k,j,i,h,g]
def sO{fs gs:List Fn}(b:fA fs gs)(a:List ByteArray):bO gs a=bO fs a:=by
 rw[<-uu gs,pD b,uu]
def nV{fs gs:List Fn}(b:fA fs gs){a:List ByteArray}(c:bs fs a):bs gs a:=by
 have:=EG c;rw[<-pD b]at this;exact yE this
def fA.symm{fs gs:List Fn}(a:fA fs gs):fA gs fs:=⟨a.1.symm,λb d c=>by
 obtain⟨j,i,h,g,f,e⟩:=a.2 b c d;exact⟨j.symm,i.symm,h.symm,g.symm,f.symm,e.symm⟩⟩
def mN{fs gs:List Fn}(c:fA fs gs){a:List ByteArray}(d:¬bs fs a):¬bs gs a:=λb=>d (nV c.symm b)
def uP{P:Program}{f:FuncId}{args:Array Value}{w:World}{a:Ending->World->Prop}(c:Calls P f args w a):∃e w',a e w':=by
 obtain⟨e,w',_,b,_⟩:=c [];exact⟨e,w',b⟩
def Lz(w:World){l:List au}(h:WF l)(m:l.length<=60000)(d:∀k,k<l.length->(0<=(l.getD k default).a∧(l.getD k default).a<=100000)∧0<=(l.getD k default).b∧(l.getD k default).b<=3)(g:PeepPlain.vA E0 l):jJ E0 l= -1:=by
 have c:aK (w.alloc (.cells (bV l).toArray 50)) w.heap.size l.length l:=⟨[],by rw[List.append_nil];exact ah.made w 50 (bV l),zb _,by simp only[maxLen];omega,by rw[List.append_nil,bw]⟩
 obtain⟨n,i,⟨j,_,⟨f,e⟩,_⟩,_⟩:=uP (sb ⟨#[]⟩ 0 0 0 none (some ⟨w.heap.size,0,none⟩) 0 0 l.length l _ h c.insAt (by omega) d);rw[<-e];exact f.2 g
def sw(w:World){fs:List Fn}{gs:List ByteArray}(b:bs fs gs):bO fs gs=lH:=
 Ae b.many b.globals b.heads (λc a=>Gz a (b.some_ c a) (λe g=>b.fine c e a g)) (λc a=>by
  rw[aC a];exact Lz w (b.wf a) (zi (iq a) (dF b.many).2.2.2.1) (tC a b.many (λd f=>b.fine c d a f)) (b.fits c a))
end
section
open Go.RowKit Go.Proofs.PeepPlain
structure J9(w:World)(pc qc:List Value)(wr:World):Prop where
 p:ah wr w.heap.size 25 pc
 q:ah wr (w.heap.size+1) 25 qc
 below:Below w.heap.size w wr
def J9.more{w wr w':World}{pc c:List Value}(a:J9 w pc c wr)(b:zz wr w'):J9 w pc c w':=
 ⟨a.p.below b a.p.lt,a.q.below b a.q.lt,ac a.below b a.below.size⟩
def J9.drewN{w wr:World}{pc a:List Value}(b:J9 w pc a wr)(n:Nat):J9 w pc a (wr.drewN n):=b.more (ae (zZ _ _) n)
set_option maxRecDepth 20000 in
def AN(fs gs:List Fn)(b:List ByteArray)(u B v l:Option Addr)(c d y m:Nat)(w:World)(bq:bD w u fs)(a0:bD w B gs)(b0:bd w v (b.map Value.string))(a1:bd w l (b.map Value.string))(U:iE fs gs)(av:bs fs b)(ap:Small fs b)(ao:Small gs b)(bo:xg gs)(bp:∀f∈gs,Gy O0 f.code)(bt:∀f∈gs,∀x∈f.code,x.op=3->∃n,bB x.text=some n)(bj:∀i,(bk:i<fs.length)->(hi':i<gs.length)->gs[i].code.length<=fs[i].code.length):
 Calls prog 13 #[.agg #[.slice u fs.length c,.slice v b.length y],.agg #[.slice B fs.length d,.slice l b.length m]] w λe w'=>e= .returned (.bool true)∧zz w w':=by
 have ar:=pC av U;have Y:=za (λ(t:World) (s:zz w t)=>xe gs b B l d m t (a0.below s) (a1.below s rfl) ao bo);rw[U.1,sw w ar]at Y;unfold lH Wr.val at Y;have Z:=za ar;have c8:=za av;have df:=za bq;have ci:=za a0;have R:=za U;have cg:=za bp;have dl:=za bt;have c9:=za bj;have c7:=za ao;have ds:=za b0;have dn:=za a1;have d6:=ap.nf;have d5:=ap.ng;clear bq a0 U av ap ao bo bp bt bj b0 a1 ar;go_enter func13,ntmps13;go_upto_block 0 with(first
  |(go_at_call 7;refine(Y.out _ (aU w _ _)).mono ?_;rintro b1 J ⟨rfl,s⟩
    have A:=za (show J9 w [.slice u fs.length c,.slice v b.length y] [.slice B fs.length d,.slice l b.length m] J from⟨((ah.made w 25 _).alloc _).below s ((ah.made w 25 _).alloc _).lt,(am w _ 25 _).below s (am w _ 25 _).lt,ac (aU w _ _) s (aU w _ _).size⟩);clear s Y)
  |(refine aP (.tmp 5) (.tmp 15) 30 J.heap.size 0 30 [.int .i64 0,.int .i64 0,.string ⟨#[]⟩] [.int .i64 0,.int .i64 0,.string ⟨#[]⟩] _ _ rfl rfl rfl rfl rfl bK (by simp[Value.oneCell']) (ah.made J 30 _) (by simp) ?_;intro E ab bl an
    have z:=za (show J9 w [.slice u fs.length c,.slice v b.length y] [.slice B fs.length d,.slice l b.length m] E from⟨(an _ (Nat.ne_of_lt A.p.lt)).trans (A.p.alloc _),(an _ (Nat.ne_of_lt A.q.lt)).trans (A.q.alloc _),(A.below.alloc A.below.size _).trans (bl _ A.below.size)⟩);have co:E.cell? ⟨J.heap.size,0,none⟩=some (.int .i64 0):=ab.cell 0;have ba:=ab.lt;have G:E.cell? ⟨w.heap.size,0,none⟩=some (.slice u fs.length c):=z.p.cell 0;have aa:E.cell? ⟨w.heap.size,1,none⟩=some (.slice v b.length y):=z.p.cell 1;have D:E.cell? ⟨w.heap.size+1,0,none⟩=some (.slice B fs.length d):=z.q.cell 0;have S:E.cell? ⟨w.heap.size+1,1,none⟩=some (.slice l b.length m):=z.q.cell 1;have F:=z.p.lt;have C:=z.q.lt;clear ab bl an))
 clear co ba G aa D S F C A;generalize J.heap.size=X;go_wp2_with fail;go_loopw [6] (λh wr=> ∃(a:Nat),h= .int .i64 a∧a<=b.length∧Hid (J9 w [.slice u fs.length c,.slice v b.length y] [.slice B fs.length d,.slice l b.length m] wr)) (λh _=>b.length - (intOf h).toNat)
 case atStart=>exact⟨0,rfl,zu _,z⟩
 case round=>
  clear z;obtain⟨a,rfl,T,g⟩:=hrel;have G:wr.cell? ⟨w.heap.size,0,none⟩=some (.slice u fs.length c):=g.p.cell 0;have aa:wr.cell? ⟨w.heap.size,1,none⟩=some (.slice v b.length y):=g.p.cell 1;have D:wr.cell? ⟨w.heap.size+1,0,none⟩=some (.slice B fs.length d):=g.q.cell 0;have S:wr.cell? ⟨w.heap.size+1,1,none⟩=some (.slice l b.length m):=g.q.cell 1;have F:=g.p.lt;have C:=g.q.lt;by_cases k:a<b.length
  ·obtain⟨c4,cC,rfl,c2,M⟩:=ds.below g.below rfl (by simp;omega);obtain⟨c3,cv,rfl,c1,L⟩:=dn.below g.below rfl (by simp;omega);have V:=M a _ (ti k);have O:=L a _ (ti k);clear M L;have bk:(0:Int)<=(a:Int)∧(a:Int)<(b.length:Int):=by omega
   generalize b[a]=x at V O;go_wp2_with fail;go_quiet (fail);go_wp2_with fail;go_roundw
   case rel=>exact⟨a+1,by go_num,by omega,g.drewN nq⟩
   case measure=>simp[intOf];omega
  ·obtain rfl:a=b.length:=by omega
   clear k T;go_wp2_with fail;clear G aa D S F C;go_loopw [7] (λh wr=> ∃(a:Nat),h= .int .i64 a∧a<=fs.length∧Hid (J9 w [.slice u fs.length c,.slice v b.length y] [.slice B fs.length d,.slice l b.length m] wr)) (λh _=>fs.length - (intOf h).toNat)
   case atStart=>exact⟨0,rfl,zu _,g⟩
   case round=>
    clear g;rename World=>wr;obtain⟨a,rfl,T,g⟩:=hrel;have G:wr.cell? ⟨w.heap.size,0,none⟩=some (.slice u fs.length c):=g.p.cell 0;have D:wr.cell? ⟨w.heap.size+1,0,none⟩=some (.slice B fs.length d):=g.q.cell 0;have F:=g.p.lt;have C:=g.q.lt;by_cases k:a<fs.length
    ·have j:a<gs.length:=by have:=R.1;omega
     have cj:=za (df.below g.below);have a8:=za (ci.below g.below);obtain⟨c4,cC,rfl,c2,M⟩:=cj.at_ (by omega);obtain⟨c3,cv,rfl,c1,L⟩:=a8.at_ (by omega);obtain⟨V,b6,b5,b4,b3,b2⟩:=M a k;obtain⟨O,a4,a3,W,a2,b7⟩:=L a j;obtain⟨cd,cb,ca,b9,b8,_⟩:=R.2 a k j;have a5:=za (cj.taken _ (zk k));have Q:=za (a8.taken _ (zk j));have a7:=za (λ(t:World) (s:zz wr t)=>Ej gs[a].code gs[a].CA gs[a].cc t (Z.wf j) ((a8.code _ (zk j)).below s) (zi (iq j) (dF Z.many).2.2.2.1) (cg.out _ (zk j)) (dl.out _ (zk j)) (c7.text _ (zk j)));have ad:¬((fs[a].code.length:Int)<(gs[a].code.length:Int)):=by have:=c9.out a k j;omega
     have cT:fs[a].taken.length<=2000000:=(nB c8.out _ (zk k)).1;rw[cd]at O;rw[cb]at a4;rw[ca]at a3;rw[b9]at W Q;rw[b8]at a2;clear M L cd cb ca b9 b8;have bk:(0:Int)<=(a:Int)∧(a:Int)<(fs.length:Int):=by omega
     have ch:=za k;generalize fs[a]=o at V b6 b5 b4 b3 b2 O a4 a3 W a2 a5 Q ad cT;generalize gs[a]=o' at W b7 a7 ad Q;go_wp2_with fail;have ck:=za (g.more (aU wr (.cells #[.string o.name,.int .i64 o.params,.int .i64 o.slots,.slice o.TA o.taken.length o.tc,.int .i64 o.around,.slice o.CA o.code.length o.cc] 47) (.cells #[.string o.name,.int .i64 o.params,.int .i64 o.slots,.slice o'.TA o.taken.length o'.tc,.int .i64 o.around,.slice o'.CA o'.code.length o'.cc] 47)));have I:=za (aU wr (.cells #[.string o.name,.int .i64 o.params,.int .i64 o.slots,.slice o.TA o.taken.length o.tc,.int .i64 o.around,.slice o.CA o.code.length o.cc] 47) (.cells #[.string o.name,.int .i64 o.params,.int .i64 o.slots,.slice o'.TA o.taken.length o'.tc,.int .i64 o.around,.slice o'.CA o'.code.length o'.cc] 47));have P:=za ((ah.made wr 47 [.string o.name,.int .i64 o.params,.int .i64 o.slots,.slice o.TA o.taken.length o.tc,.int .i64 o.around,.slice o.CA o.code.length o.cc]).alloc (.cells #[.string o.name,.int .i64 o.params,.int .i64 o.slots,.slice o'.TA o.taken.length o'.tc,.int .i64 o.around,.slice o'.CA o'.code.length o'.cc] 47));have H:=za (am wr (.cells #[.string o.name,.int .i64 o.params,.int .i64 o.slots,.slice o.TA o.taken.length o.tc,.int .i64 o.around,.slice o.CA o.code.length o.cc] 47) 47 [.string o.name,.int .i64 o.params,.int .i64 o.slots,.slice o'.TA o.taken.length o'.tc,.int .i64 o.around,.slice o'.CA o'.code.length o'.cc]);simp only[List.toArray]at P H;generalize((wr.alloc (.cells #[.string o.name,.int .i64 o.params,.int .i64 o.slots,.slice o.TA o.taken.length o.tc,.int .i64 o.around,.slice o.CA o.code.length o.cc] 47)).alloc (.cells #[.string o.name,.int .i64 o.params,.int .i64 o.slots,.slice o'.TA o.taken.length o'.tc,.int .i64 o.around,.slice o'.CA o'.code.length o'.cc] 47))=w5 at ck I P H;have cn:w5.cell? ⟨wr.heap.size,3,none⟩=some (.slice o.TA o.taken.length o.tc):=P.cell 3;have cl:w5.cell? ⟨wr.heap.size+1,3,none⟩=some (.slice o'.TA o.taken.length o'.tc):=H.cell 3;have dB:w5.cell? ⟨wr.heap.size+1,5,none⟩=some (.slice o'.CA o'.code.length o'.cc):=H.cell 5;have ba:=P.lt;have dA:=H.lt;have c6:=za (a5.below I.out rfl);have c5:=za (Q.below I.out rfl);have cf:=za (λ(t:World) (s:zz w5 t)=>a7.out t (ac I.out s I.size));clear a5 Q G D V b6 b5 b4 b3 b2 O a4 a3 W a2 b7 P H a7 ad g F C I;go_loopw [10] (λh t=> ∃(r K:Nat),t=w5.drewN K∧h= .int .i64 r∧r<=o.taken.length) (λh _=>o.taken.length - (intOf h).toNat)
     case atStart=>exact⟨0,0,rfl,rfl,zu _⟩
     case round=>
      obtain⟨r,K,rfl,rfl,c0⟩:=hrel;by_cases af:r<o.taken.length
      ·obtain⟨d2,dC,bi,d4,bc⟩:=c6.out (by simp;omega);obtain⟨d1,d0,be,d3,bb⟩:=c5.out (by simp;omega);rw[bi]at cn;rw[be]at cl;have ct:=bc r _ (tg af);have cs:=bb r _ (tg af);clear bc bb bi be;have d7:(0:Int)<=(r:Int)∧(r:Int)<(o.taken.length:Int):=by omega
       generalize o.taken[r]=x at ct cs;go_wp2_with fail;go_quiet (fail);go_wp2_with fail;go_roundw
       case rel=>exact⟨r+1,K+nq,rfl,by go_num,by omega⟩
       case measure=>simp[intOf];omega
      ·obtain rfl:r=o.taken.length:=by omega
       clear af c0;go_wp2_with (go_at_call 28;refine(cf.out _ (ae (zZ _ _) K)).mono ?_;rintro b1 cp ⟨rfl,N⟩;have a9:=za ((ck.drewN K).more N);clear N cf);go_roundw
       case rel=>exact⟨a+1,by go_num,ch.out,a9⟩
       case measure=>have:=ch.out;simp[intOf];omega
    ·obtain rfl:a=fs.length:=by omega
     clear k T;go_wp2_with fail;clear G D F C;go_loopw [12] (λh wr=> ∃(a:Nat),h= .int .i64 a∧a<=fs.length∧Hid (J9 w [.slice u fs.length c,.slice v b.length y] [.slice B fs.length d,.slice l b.length m] wr)) (λh _=>fs.length - (intOf h).toNat)
     case atStart=>exact⟨0,rfl,zu _,g⟩
     case round=>
      clear g;rename World=>wr;obtain⟨a,rfl,T,g⟩:=hrel;have D:wr.cell? ⟨w.heap.size+1,0,none⟩=some (.slice B fs.length d):=g.q.cell 0;have S:wr.cell? ⟨w.heap.size+1,1,none⟩=some (.slice l b.length m):=g.q.cell 1;have C:=g.q.lt;by_cases k:a<fs.length
      ·have j:a<gs.length:=by have:=R.1;omega
       have a6:=za (we gs B l d b.length m a wr (ci.below g.below) j (by have:=R.1;omega) (zi (iq j) (dF Z.many).2.2.2.1) (Z.wf j) (cg.out _ (zk j)).toA);rw[R.1]at a6;go_wp2_with (go_at_call 29;refine a6.out.mono ?_;rintro b1 cp ⟨rfl,N⟩;have a9:=za (g.more N);clear N a6);go_roundw
       case rel=>exact⟨a+1,by go_num,k,a9⟩
       case measure=>simp[intOf];omega
      ·obtain rfl:a=fs.length:=by omega
       go_wp2_with fail;go_ret;exact⟨rfl,g.below⟩
end
end Go.Proofs.YtmecmlpoallpcaaGreatDoor

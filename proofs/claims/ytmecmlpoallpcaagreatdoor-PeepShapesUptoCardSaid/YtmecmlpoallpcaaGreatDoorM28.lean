/- Parts of the proof: RefV RefX RefZ1 RefZ3 RefZ4 RefN -/
import Derived.Test.YtmecmlpoallpcaaGreatDoorM02
import Derived.Test.YtmecmlpoallpcaaGreatDoorM11
import Derived.Test.YtmecmlpoallpcaaGreatDoorM16
import Derived.Test.YtmecmlpoallpcaaGreatDoorM12
import Derived.Test.YtmecmlpoallpcaaGreatDoorM24
import Derived.Test.YtmecmlpoallpcaaGreatDoorM15
import Derived.Deep.DeepCutAuto
import Derived.Deep.CutBlock
import Derived.StillTailTactics
import Derived.Test.YtmecmlpoallpcaaGreatDoorM14
import Derived.Deep.QuietTactic
import Derived.BigQuiet
import Derived.Laws.StructEq
set_option linter.all false
set_option maxHeartbeats 8000000
namespace Go.Proofs.YtmecmlpoallpcaaGreatDoor
open Go.Proofs.Tryz
section
open Go.RowKit Go.Proofs.PeepPlain
def eP(l:List au)(k:Nat):List Int:=(if al (PeepPlain.aq l k)then [((bE l k:Nat):Int)]else [])++(if PeepPlain.aq l k≠34∧PeepPlain.aq l k≠50 then [((k+1:Nat):Int)]else [])
def Je{l:List au}{is:List Bool}{c b:List Int}(S:qj l is c)(a:∀t,t∈b↔t∈c)(i:b.length=c.length):qj l is b where
 len:=S.len
 here:=S.here
 want:=λt h=>S.want t ((a t).1 h)
 zero:=S.zero.imp_right (a 0).2
 next:=λd g f e j=>(S.next d g f e j).imp_right (a _).2
 toA:=λd g f e=>(S.toA d g f e).imp_right (a _).2
 few:=by rw[i];exact S.few
def IM{l:List au}{is:List Bool}{b:List Int}{k:Nat}(S:qj l is (b++ [(k:Int)]))(c:k<l.length)(a:is.getD k false=false):qj l (is.set k true) (b++eP l k):=by
 refine Je (CP S c a) (λd=>?_) ?_
 ·unfold eP eB;simp only[List.mem_append];constructor
  ·rintro(a|a|a)
   ·exact .inl a
   ·exact .inr (.inr a)
   ·exact .inr (.inl a)
  ·rintro(a|a|a)
   ·exact .inl a
   ·exact .inr (.inr a)
   ·exact .inr (.inl a)
 ·unfold eP eB;simp only[zw];omega
def Fp{l:List au}{k:Nat}(a:PeepPlain.aq l k=34):eP l k=[((bE l k:Nat):Int)]:=by
 unfold eP;rw[zn (show al (PeepPlain.aq l k)from .inl a),zm (by rintro⟨b,_⟩;exact b a)];rfl
def Et{l:List au}{k:Nat}(a:PeepPlain.aq l k=50):eP l k=[]:=by
 unfold eP;rw[zm (show ¬al (PeepPlain.aq l k) by rw[a];rintro(a|a|a|a|a)<;>omega),zm (by rintro⟨_,b⟩;exact b a)];rfl
def yQ{l:List au}{k:Nat}(c:PeepPlain.aq l k≠34)(b:PeepPlain.aq l k≠50)(a:al (PeepPlain.aq l k)):eP l k=[((bE l k:Nat):Int),((k+1:Nat):Int)]:=by
 unfold eP;rw[zn a,zn ⟨c,b⟩];rfl
def yv{l:List au}{k:Nat}(c:PeepPlain.aq l k≠34)(b:PeepPlain.aq l k≠50)(a:¬al (PeepPlain.aq l k)):eP l k=[((k+1:Nat):Int)]:=by
 unfold eP;rw[zm a,zn ⟨c,b⟩];rfl
set_option maxRecDepth 200000 in
def wR(l:List au)(b0:Option Addr)(c:Nat)(w:World)(b8:WF l)(bi:bX w b0 l)(co:l.length<=100000):
 Calls prog 59 #[.slice b0 l.length c] w λe w'=>e= .returned (.slice (some ⟨w.heap.size,0,none⟩) l.length l.length)∧ah w' w.heap.size 4 (aL (ei l))∧zz w w':=by
 have cd:=kz l.length (by omega) w;have y:=za bi;have a2:=za b8;have x:=za bi.old;clear bi b8;go_enter func59,ntmps59;go_wp2_with fail;go_loopw [4,5,6] (λa8 ci ch wr=> ∃(is:List Bool) (Y:List Int),Hid (bm (w.heap.size+1) wr a8 Y)∧Hid (ah wr w.heap.size 4 (aL is))∧Hid (qj l is Y)∧Hid (bX wr b0 l)∧Hid (zz w wr)) (λa8 _ _ wr=>3 * MC wr w.heap.size+jw a8)
 case atStart=>exact⟨_,[0],za (by have:=yR (w.alloc (.cells (aL (List.replicate l.length false)).toArray 4)) 0;simpa using this),za ((ah.made w 4 (aL (List.replicate l.length false))).alloc _),uJ l,(y.below (below1 w _)).below (below1 _ _),(below1 w _).alloc (by simp) _⟩
 case round=>
  clear y cd;rename World=>w2;obtain⟨is,Y,V,I,W,y,X⟩:=hrel;obtain⟨c2,ad,rfl⟩:=V.shape;by_cases bk:0<Y.length
  ·obtain⟨g,cj,rfl⟩:=AF bk;obtain⟨a,rfl,C⟩:=xq W.out a2.out;obtain⟨v,rfl,cf,b3,cv⟩:=V.addr bk;have a9:(g++ [(a:Int)]).length=g.length+1:=by simp
   have b4:=W.few;have bc:=V.cell g.length (by omega);rw[List.getElem_append_right (zb _)]at bc;simp only[Nat.sub_self,List.getElem_cons_zero]at bc;have B:=za V.shrink;have D:=za (V.lt (g:=v) rfl).1;have Q:a<is.length:=by rw[W.len];exact C
   have b6:=jE I.out Q;have ct:(0:Int)<=(a:Int)∧(a:Int)<(l.length:Int):=by omega
   rw[a9];rw[a9]at b3;obtain⟨m,ap⟩:∃m,m=g.length:=⟨_,rfl⟩
   rw[<-ap]at bc b3 ⊢
   have t:(0:Int)<=(m:Int)∧(m:Int)<((m+1:Nat):Int):=by omega
   have cc:wrap64 (((m+1:Nat):Int) - 1)=(m:Int):=by
    unfold wrap64;omega
   have cn:wrap64 (m:Int)=(m:Int):=by
    unfold wrap64;omega
   have a3:=za ap;have a5:Hid (g.length<=1000000):=za (by simp only[zw,zK]at b4;omega);have b2:Hid (bm (w.heap.size+1) w2 (.slice (some ⟨v,0,none⟩) m ad) g):=za (by rw[ap];exact B);have ar:=za (V.lt (g:=v) rfl).2;clear B;have B:=b2;clear b2 ap b4 a9 cf cc;by_cases Z:is.getD a false=true
   ·rw[Z]at b6;have U:=za (wP W.out Z);clear Z;go_wp2_with fail;go_roundw
    case rel=>exact⟨is,g,B,I,U,y,X⟩
    case measure=>simp[jw]
   ·have bb:is.getD a false=false:=by simpa using Z
    rw[bb]at b6;have cs:¬((a:Int)<0):=by omega
    have cp:¬((l.length:Int)<=(a:Int)):=by omega
    have U:=za (IM W.out C bb);have av:=za (count_set Q bb);have ao:Hid ((aL is).set a (.bool true)=aL (is.set a true)):=za (by rw[eZ]);have a4:=za (gd I.out);obtain⟨b,n,rfl,cT,b5⟩:=y.at_ (by omega);obtain⟨af,T,_,_,_⟩:=b5 a C;have cC:b<w.heap.size:=x.out (by omega) _ rfl;have E:b≠w.heap.size:=by omega
    clear b5 Z;obtain⟨r,P⟩:∃r,r=l[a].op:=⟨_,rfl⟩
    have o:PeepPlain.aq l a=r:=by rw[eG C,P]
    rw[<-P]at af;by_cases A:r=34
    ·have t:al (PeepPlain.aq l a):=by rw[o,A];exact .inl rfl
     have f:=mT C (a2.low a C t);rw[f]at T;have L:=za (Fp (o.trans A));subst A;have be:decide (al 34)=true:=by decide
     clear P o t f;go_wp2_with (first
      |(refine aP (.tmp 41) _ 4 w.heap.size a 4 (aL is) [.bool true] _ _ rfl rfl rfl rfl rfl oY (by simp[Value.oneCell']) I.out (by rw[bx];simp;omega) ?_;intro i J k h
        have S:=(zI (a:=⟨b,n+a * 5,none⟩) (h b E)).trans af;have ab:=(zI (a:=⟨b,n+a * 5+1,none⟩) (h b E)).trans T;have H:Hid (bm (w.heap.size+1) i (.slice (some ⟨v,0,none⟩) m ad) g):=za (aE B.out λK s=>h K (nG s D.out));have G:Hid (ah i w.heap.size 4 (aL (is.set a true))):=za (by rw[<-ao.out,<-cI _ _ _ (by rw[bx];exact Q)];exact J);have M:=za (X.trans (k w.heap.size (zb _)));have N:=za (y.far (λj d f=>by have:=x.out j d f;omega) (k w.heap.size (zb _)).size h);have z:w.heap.size+1<=i.heap.size:=zi (by have:=D.out;have:=ar.out;omega) (k w.heap.size (zb _)).size)
      |(go_at_call 63;refine(kY _ _).mono ?_;rintro bl a6 ⟨rfl,rfl⟩)
      |(at_builtin;refine qR (.tmp 49) (.tmp 55) (w.heap.size+1) _ g _ _ _ rfl rfl rfl H.out rfl rfl (by have:=a5.out;omega) z ?_;intro ca b9 aa F _
        have an:=za (G.below F (Nat.lt_succ_self _));have bo:=za (M.trans (az F (zE _)));have b7:=(F.cell (p:=⟨b,n+a * 5,none⟩) (show b<w.heap.size+1 by omega)).trans S;have bq:=za (N.lowB (λj d f=>Nat.lt_succ_of_lt (x.out j d f)) F)))
     go_roundw
     case rel=>exact⟨is.set a true,g++eP l a,by rw[L.out];exact za aa,an,U,bq,bo⟩
     case measure=>
      rw[a4.out,gd an.out];have u:=jC aa;simp only[zw,zK]at u;simp only[show ∀d b c,jw (.slice d b c)=b from λ_ _ _=>rfl]at u ⊢
      have bj:=av.out;have s:=a3.out;omega
    ·by_cases O:r=50
     ·have L:=za (Et (o.trans O));subst O;have be:decide (al 50)=false:=by decide
      clear P o A;go_wp2_with (first
      |(refine aP (.tmp 41) _ 4 w.heap.size a 4 (aL is) [.bool true] _ _ rfl rfl rfl rfl rfl oY (by simp[Value.oneCell']) I.out (by rw[bx];simp;omega) ?_;intro i J k h
        have S:=(zI (a:=⟨b,n+a * 5,none⟩) (h b E)).trans af;have ab:=(zI (a:=⟨b,n+a * 5+1,none⟩) (h b E)).trans T;have H:Hid (bm (w.heap.size+1) i (.slice (some ⟨v,0,none⟩) m ad) g):=za (aE B.out λK s=>h K (nG s D.out));have G:Hid (ah i w.heap.size 4 (aL (is.set a true))):=za (by rw[<-ao.out,<-cI _ _ _ (by rw[bx];exact Q)];exact J);have M:=za (X.trans (k w.heap.size (zb _)));have N:=za (y.far (λj d f=>by have:=x.out j d f;omega) (k w.heap.size (zb _)).size h);have z:w.heap.size+1<=i.heap.size:=zi (by have:=D.out;have:=ar.out;omega) (k w.heap.size (zb _)).size)
      |(go_at_call 63;refine(kY _ _).mono ?_;rintro bl a6 ⟨rfl,rfl⟩))
      go_roundw
      case rel=>exact⟨is.set a true,g++eP l a,by rw[L.out,List.append_nil];exact H,G,U,N,M⟩
      case measure=>
       rw[a4.out,gd G.out];have u:=jC H.out;simp only[show ∀d b c,jw (.slice d b c)=b from λ_ _ _=>rfl]at u ⊢
       have bj:=av.out;have s:=a3.out;omega
     ·have c1:(r==34)=false:=zh.2 A;have c0:(r==50)=false:=zh.2 O;have cl:(r !=34)=true:=zO.2 A;have ck:(r !=50)=true:=zO.2 O;by_cases t:al r
      ·have R:al (PeepPlain.aq l a):=by rw[o];exact t
       have f:=mT C (a2.low a C R);rw[f]at T;have L:=za (yQ (by rw[o];exact A) (by rw[o];exact O) R);have be:decide (al r)=true:=ze t;clear P o t R f;go_wp2_with (first
      |(refine aP (.tmp 41) _ 4 w.heap.size a 4 (aL is) [.bool true] _ _ rfl rfl rfl rfl rfl oY (by simp[Value.oneCell']) I.out (by rw[bx];simp;omega) ?_;intro i J k h
        have S:=(zI (a:=⟨b,n+a * 5,none⟩) (h b E)).trans af;have ab:=(zI (a:=⟨b,n+a * 5+1,none⟩) (h b E)).trans T;have H:Hid (bm (w.heap.size+1) i (.slice (some ⟨v,0,none⟩) m ad) g):=za (aE B.out λK s=>h K (nG s D.out));have G:Hid (ah i w.heap.size 4 (aL (is.set a true))):=za (by rw[<-ao.out,<-cI _ _ _ (by rw[bx];exact Q)];exact J);have M:=za (X.trans (k w.heap.size (zb _)));have N:=za (y.far (λj d f=>by have:=x.out j d f;omega) (k w.heap.size (zb _)).size h);have z:w.heap.size+1<=i.heap.size:=zi (by have:=D.out;have:=ar.out;omega) (k w.heap.size (zb _)).size)
      |(go_at_call 63;refine(kY _ _).mono ?_;rintro bl a6 ⟨rfl,rfl⟩)
      |(at_builtin;refine qR (.tmp 49) (.tmp 55) (w.heap.size+1) _ g ((bE l a:Nat):Int) _ _ rfl rfl rfl H.out rfl rfl (by have:=a5.out;omega) z ?_;intro cb a7 ba q _
        have a1:=za ba;have a0:=za (G.below q (Nat.lt_succ_self _));have bp:=za (M.trans (az q (zE _)));have bt:=za (N.lowB (λj d f=>Nat.lt_succ_of_lt (x.out j d f)) q);have b7:=(q.cell (p:=⟨b,n+a * 5,none⟩) (show b<w.heap.size+1 by omega)).trans S;have cg:=(q.cell (p:=⟨b,n+a * 5+1,none⟩) (show b<w.heap.size+1 by omega)).trans ab;have b1:w.heap.size+1<=a7.heap.size:=zi z q.size)
         |(at_builtin;refine qR (.tmp 71) (.tmp 74) (w.heap.size+1) _ (g++ [((bE l a:Nat):Int)]) ((a+1:Nat):Int) _ _ rfl rfl rfl a1.out (by simp) rfl (by rw[zw,zK];have:=a5.out;omega) b1 ?_;intro ca b9 aa F _
           have an:=za (a0.below F (Nat.lt_succ_self _));have bo:=za (bp.trans (az F (zE _)));have bq:=za (bt.lowB (λj d f=>Nat.lt_succ_of_lt (x.out j d f)) F)))
       go_roundw
       case rel=>exact⟨is.set a true,g++eP l a,by rw[L.out];exact za (by simpa using aa),an,U,bq,bo⟩
       case measure=>
        rw[a4.out,gd an.out];have u:=jC aa;simp only[zw,zK]at u;simp only[show ∀d b c,jw (.slice d b c)=b from λ_ _ _=>rfl]at u ⊢
        have bj:=av.out;have s:=a3.out;omega
      ·have R:¬al (PeepPlain.aq l a):=by rw[o];exact t
       have L:=za (yv (by rw[o];exact A) (by rw[o];exact O) R);have be:decide (al r)=false:=zg t;clear P o t R;go_wp2_with (first
      |(refine aP (.tmp 41) _ 4 w.heap.size a 4 (aL is) [.bool true] _ _ rfl rfl rfl rfl rfl oY (by simp[Value.oneCell']) I.out (by rw[bx];simp;omega) ?_;intro i J k h
        have S:=(zI (a:=⟨b,n+a * 5,none⟩) (h b E)).trans af;have ab:=(zI (a:=⟨b,n+a * 5+1,none⟩) (h b E)).trans T;have H:Hid (bm (w.heap.size+1) i (.slice (some ⟨v,0,none⟩) m ad) g):=za (aE B.out λK s=>h K (nG s D.out));have G:Hid (ah i w.heap.size 4 (aL (is.set a true))):=za (by rw[<-ao.out,<-cI _ _ _ (by rw[bx];exact Q)];exact J);have M:=za (X.trans (k w.heap.size (zb _)));have N:=za (y.far (λj d f=>by have:=x.out j d f;omega) (k w.heap.size (zb _)).size h);have z:w.heap.size+1<=i.heap.size:=zi (by have:=D.out;have:=ar.out;omega) (k w.heap.size (zb _)).size)
      |(go_at_call 63;refine(kY _ _).mono ?_;rintro bl a6 ⟨rfl,rfl⟩)
      |(at_builtin;refine qR (.tmp 71) (.tmp 74) (w.heap.size+1) _ g ((a+1:Nat):Int) _ _ rfl rfl rfl H.out (by simp) rfl (by have:=a5.out;omega) z ?_;intro cb a7 ba q _
        have a1:=za ba;have a0:=za (G.below q (Nat.lt_succ_self _));have bp:=za (M.trans (az q (zE _)));have bt:=za (N.lowB (λj d f=>Nat.lt_succ_of_lt (x.out j d f)) q);have b7:=(q.cell (p:=⟨b,n+a * 5,none⟩) (show b<w.heap.size+1 by omega)).trans S;have cg:=(q.cell (p:=⟨b,n+a * 5+1,none⟩) (show b<w.heap.size+1 by omega)).trans ab;have b1:w.heap.size+1<=a7.heap.size:=zi z q.size))
       go_roundw
       case rel=>exact⟨is.set a true,g++eP l a,by rw[L.out];exact a1,a0,U,bt,bp⟩
       case measure=>
        rw[a4.out,gd a0.out];have u:=jC a1.out;simp only[zw,zK]at u;simp only[show ∀d b c,jw (.slice d b c)=b from λ_ _ _=>rfl]at u ⊢
        have bj:=av.out;have s:=a3.out;omega
  ·obtain rfl:Y=[]:=zD (by omega);clear bk;have e:=xj a2.out W.out;subst e;go_wp2_with fail;go_ret;exact⟨rfl,I.out,X⟩
end
section
open Go.RowKit Go.Proofs.PeepPlain
def xh{w:World}{g:Nat}{l:List au}(d:ah w g 4 (aL (ei l))){k:Nat}(a:k<l.length)(b:PeepPlain.ko l k):w.cell? ⟨g,k,none⟩=some (.bool true):=by
 have c:(ei l).length=l.length:=by simp[ei]
 rw[jE d (by rw[c];exact a),(pI a).2 b]
set_option maxRecDepth 200000 in
def CK(l:List au)(q:Option Addr)(c:Nat)(w:World)(u:WF l)(p:bX w q l)(U:l.length<=100000)(J:∀k,k<l.length->PeepPlain.ko l k):
 Calls prog 60 #[.slice q l.length c] w λe w'=> ∃g,e= .returned (.slice (some ⟨g,0,none⟩) l.length l.length)∧w.heap.size<=g∧ah w' g 4 (aL (dd l))∧zz w w':=by
 have O:=za (wR l q c w u p U);have af:=za (λw=>kz l.length (by omega) w);have ap:=za p;have M:=za u;have ad:=za p.old;have ao:=za J;clear p u J;go_enter func60,ntmps60;go_wp2_with (go_at_call 59;refine O.out.mono ?_;rintro L i ⟨rfl,F,s⟩;have x:=za F;have D:=za s;have P:=za (ap.below s);have T:=af.out i;clear F s O);obtain⟨b,t⟩:∃b,i.heap.size=b:=⟨_,rfl⟩
 have Y:w.heap.size<b:=by have:=x.lt;omega
 have v:=za (x.alloc (.cells (aL (List.replicate l.length false)).toArray 4));have y:Hid (ah (i.alloc (.cells (aL (List.replicate l.length false)).toArray 4)) b 4 (aL (cy l 0))):=za (by rw[qN,<-t];exact ah.made _ _ _);have C:=za (D.alloc D.size (.cells (aL (List.replicate l.length false)).toArray 4));have E:=za (P.below (below1 i (.cells (aL (List.replicate l.length false)).toArray 4)));rw[t];generalize i.alloc (.cells (aL (List.replicate l.length false)).toArray 4)=w2 at v y C E;clear T t x D P;go_loopw [5,6] (λr _ wr=> ∃k:Nat,r= .int .i64 k∧k<=l.length∧Hid (ah wr b 4 (aL (cy l k)))∧Hid (ah wr w.heap.size 4 (aL (ei l)))∧Hid (bX wr q l)∧Hid (zz w wr)) (λr _ _=>l.length - (intOf r).toNat)
 case atStart=>exact⟨0,rfl,zu _,y,v,E,C⟩
 case round=>
  clear y v E C;rename World=>w3;obtain⟨k,rfl,V,m,j,B,A⟩:=hrel;by_cases a:k<l.length
  ·obtain⟨bc,a1,rfl,a7,H⟩:=B.at_ (by omega);obtain⟨bb,Z,ba,a9,a8⟩:=H k a;have a4:(0:Int)<=(k:Int)∧(k:Int)<(l.length:Int):=by omega
   have a6:=m.lt;have a2:=j.lt;have a0:=xh j.out a (ao.out k a);clear H;by_cases f:al l[k].op
   ·have W:decide (al l[k].op)=true:=ze f;have d:al (PeepPlain.aq l k):=by rw[eG a];exact f
    have K:=M.low k a d;have o:=mT a K;have a5:=M.high k a d;rw[o]at Z;have a3:(0:Int)<=(bE l k:Int)∧(bE l k:Int)<(l.length:Int):=by omega
    have z:Hid ((aL (cy l k)).set (bE l k) (.bool true)=aL (cy l (k+1))):=za (by rw[<-eZ,sr d]);have N:Hid ((aL (cy l k)).length=l.length):=za (by rw[bx,cY]);clear f d K o;go_wp2_with (first
     |(go_at_call 63;refine(kY _ _).mono ?_;rintro L h ⟨rfl,rfl⟩)
     |(refine aP (.tmp 55) _ 4 b (bE l k) 4 (aL (cy l k)) [.bool true] _ _ rfl rfl rfl rfl rfl oY (by simp[Value.oneCell']) m.out (by rw[N.out];simp;omega) ?_;intro h R X G))
    have Q:ah h b 4 (aL (cy l (k+1))):=by rw[<-z.out,<-cI _ _ _ (by rw[N.out];omega)];exact R
    have I:=X w.heap.size (by omega);have ar:zz w h:=A.trans I;have ab:ah h w.heap.size 4 (aL (ei l)):=(G _ (by omega)).trans j.out;have av:=B.far (λS aa o=>by have:=ad.out S aa o;omega) I.size G;go_roundw
    case rel=>exact⟨k+1,by go_num,by omega,Q,ab,av,ar⟩
    case measure=>simp[intOf];omega
   ·have W:decide (al l[k].op)=false:=zg f;have d:¬al (PeepPlain.aq l k):=by rw[eG a];exact f
    have z:Hid (cy l k=cy l (k+1)):=za (vy d);clear f d;go_wp2_with (first
     |(go_at_call 63;refine(kY _ _).mono ?_;rintro L h ⟨rfl,rfl⟩))
    go_roundw
    case rel=>exact⟨k+1,by go_num,by omega,by rw[<-z.out];exact m,j,B,A⟩
    case measure=>simp[intOf];omega
  ·obtain rfl:k=l.length:=by omega
   have n:=m.out;rw[nX]at n;replace n:=za n;have an:=za Y;clear j m a V;go_wp2_with fail;go_ret;exact⟨b,rfl,Nat.le_of_lt an.out,n.out,A⟩
end
section
set_option maxRecDepth 200000
open Go.RowKit Go.Proofs.PeepPlain
def LD(u x v:Int)(r:ByteArray)(s:Int)(a m l:Int)(d:ByteArray)(op:Int)(k n:Int)(t:ByteArray)(z:Bool)(w:World)
 (E:∀w,Calls prog 96 #[.agg #[.int .i64 u,.int .i64 x,.int .i64 v,.string r,.int .i64 s]] w λe w'=>e= .returned (.tuple #[(mk k t n 0 ⟨#[]⟩).val,.bool z])∧zz w w')(o:z=false∨a≠18):
 Calls prog 61 #[.agg #[.int .i64 u,.int .i64 x,.int .i64 v,.string r,.int .i64 s],.agg #[.int .i64 a,.int .i64 m,.int .i64 l,.string d,.int .i64 op]] w λe w'=>e= .returned (.bool false)∧zz w w':=by
 have y:=za E;clear E;rcases o with rfl|o
 ·unfold mk aH.val at *
  go_enter func61,ntmps61;go_wp2_with (first
  |(go_at_call 96;refine(y.out _).mono ?_;rintro G c ⟨rfl,i⟩
    have b:=za ((am w (.cells #[.int .i64 u,.int .i64 x,.int .i64 v,.string r,.int .i64 s] 50) 50 [.int .i64 a,.int .i64 m,.int .i64 l,.string d,.int .i64 op]).below i (am w _ 50 _).lt);have B:c.cell? ⟨w.heap.size+1,0,none⟩=some (.int .i64 a):=b.cell 0;have A:c.cell? ⟨w.heap.size+1,3,none⟩=some (.string d):=b.cell 3;have g:=za (ac (aU w _ _) i (aU w _ _).size);have C:=b.lt;clear i y)
  |(refine bL (.tmp 5) (.tmp 12) c.heap.size [.int .i64 0,.string ⟨#[]⟩,.int .i64 0,.int .u64 0,.string ⟨#[]⟩,.int .i64 0,.int .i64 0,.int .i64 0,.int .i64 0,.slice none 0 0,.slice none 0 0] [.int .i64 k,.string t,.int .i64 n,.int .u64 0,.string ⟨#[]⟩,.int .i64 0,.int .i64 0,.int .i64 0,.int .i64 0,.slice none 0 0,.slice none 0 0] _ rfl rfl rfl rfl (ah.made c 131 _) rfl rfl rfl ?_;intro h f q p
    have j:=za (show ah h (w.heap.size+1) 50 [.int .i64 a,.int .i64 m,.int .i64 l,.string d,.int .i64 op]from(p _ (by omega)).trans (b.alloc _));have B:h.cell? ⟨w.heap.size+1,0,none⟩=some (.int .i64 a):=j.cell 0;have A:h.cell? ⟨w.heap.size+1,3,none⟩=some (.string d):=j.cell 3;have D:=za ((g.alloc g.size _).trans (q _ g.size));have F:=j.lt;obtain⟨T,S,Q,P,O,N,M,L,K,J,R,I⟩:=aA f;have H:=f.lt;have U:=za f;clear q p f g b C))
  go_ret;exact⟨rfl,D⟩
 ·have W:(a !=18)=true:=zO.2 o;have V:(a==18)=false:=zh.2 o;clear o;unfold mk aH.val at *
  cases z<;>
  ·go_enter func61,ntmps61;go_wp2_with (first
   |(go_at_call 96;refine(y.out _).mono ?_;rintro G c ⟨rfl,i⟩
     have b:=za ((am w (.cells #[.int .i64 u,.int .i64 x,.int .i64 v,.string r,.int .i64 s] 50) 50 [.int .i64 a,.int .i64 m,.int .i64 l,.string d,.int .i64 op]).below i (am w _ 50 _).lt);have B:c.cell? ⟨w.heap.size+1,0,none⟩=some (.int .i64 a):=b.cell 0;have A:c.cell? ⟨w.heap.size+1,3,none⟩=some (.string d):=b.cell 3;have g:=za (ac (aU w _ _) i (aU w _ _).size);have C:=b.lt;clear i y)
   |(refine bL (.tmp 5) (.tmp 12) c.heap.size [.int .i64 0,.string ⟨#[]⟩,.int .i64 0,.int .u64 0,.string ⟨#[]⟩,.int .i64 0,.int .i64 0,.int .i64 0,.int .i64 0,.slice none 0 0,.slice none 0 0] [.int .i64 k,.string t,.int .i64 n,.int .u64 0,.string ⟨#[]⟩,.int .i64 0,.int .i64 0,.int .i64 0,.int .i64 0,.slice none 0 0,.slice none 0 0] _ rfl rfl rfl rfl (ah.made c 131 _) rfl rfl rfl ?_;intro h f q p
     have j:=za (show ah h (w.heap.size+1) 50 [.int .i64 a,.int .i64 m,.int .i64 l,.string d,.int .i64 op]from(p _ (by omega)).trans (b.alloc _));have B:h.cell? ⟨w.heap.size+1,0,none⟩=some (.int .i64 a):=j.cell 0;have A:h.cell? ⟨w.heap.size+1,3,none⟩=some (.string d):=j.cell 3;have D:=za ((g.alloc g.size _).trans (q _ g.size));have F:=j.lt;obtain⟨T,S,Q,P,O,N,M,L,K,J,R,I⟩:=aA f;have H:=f.lt;have U:=za f;clear q p f g b C))
   go_ret;exact⟨rfl,D⟩
def Ol(s v u:Int)(q:ByteArray)(r:Int)(a m l:Int)(b:ByteArray)(op:Int)(k n:Int)(t:ByteArray)(E:Bool)(w:World)
 (G:∀w,Calls prog 96 #[.agg #[.int .i64 s,.int .i64 v,.int .i64 u,.string q,.int .i64 r]] w λe w'=>e= .returned (.tuple #[(mk k t n 0 ⟨#[]⟩).val,.bool E])∧zz w w')(I:E=true)(C:a=18)(F:k≠2)(B:b.toList=[43,43]∨b.toList=[45,45]):
 Calls prog 61 #[.agg #[.int .i64 s,.int .i64 v,.int .i64 u,.string q,.int .i64 r],.agg #[.int .i64 a,.int .i64 m,.int .i64 l,.string b,.int .i64 op]] w λe w'=>e= .returned (.bool false)∧zz w w':=by
 have x:=za G;clear G;subst I;have Z:(a !=18)=false:=by rw[C];rfl
 have Y:(a==18)=true:=by rw[C];rfl
 clear C;have aa:(k==2)=false:=zh.2 F;clear F;unfold mk aH.val at *
 rcases B with B|B
 ·go_enter func61,ntmps61;go_wp2_with (first
  |(go_at_call 96;refine(x.out _).mono ?_;rintro J d ⟨rfl,i⟩
    have c:=za ((am w (.cells #[.int .i64 s,.int .i64 v,.int .i64 u,.string q,.int .i64 r] 50) 50 [.int .i64 a,.int .i64 m,.int .i64 l,.string b,.int .i64 op]).below i (am w _ 50 _).lt);have z:d.cell? ⟨w.heap.size+1,0,none⟩=some (.int .i64 a):=c.cell 0;have y:d.cell? ⟨w.heap.size+1,3,none⟩=some (.string b):=c.cell 3;have g:=za (ac (aU w _ _) i (aU w _ _).size);have A:=c.lt;clear i x)
  |(refine bL (.tmp 5) (.tmp 12) d.heap.size [.int .i64 0,.string ⟨#[]⟩,.int .i64 0,.int .u64 0,.string ⟨#[]⟩,.int .i64 0,.int .i64 0,.int .i64 0,.int .i64 0,.slice none 0 0,.slice none 0 0] [.int .i64 k,.string t,.int .i64 n,.int .u64 0,.string ⟨#[]⟩,.int .i64 0,.int .i64 0,.int .i64 0,.int .i64 0,.slice none 0 0,.slice none 0 0] _ rfl rfl rfl rfl (ah.made d 131 _) rfl rfl rfl ?_;intro h f p o
    have j:=za (show ah h (w.heap.size+1) 50 [.int .i64 a,.int .i64 m,.int .i64 l,.string b,.int .i64 op]from(o _ (by omega)).trans (c.alloc _));have z:h.cell? ⟨w.heap.size+1,0,none⟩=some (.int .i64 a):=j.cell 0;have y:h.cell? ⟨w.heap.size+1,3,none⟩=some (.string b):=j.cell 3;have D:=za ((g.alloc g.size _).trans (p _ g.size));have H:=j.lt;obtain⟨W,V,T,S,R,Q,P,O,N,M,U,L⟩:=aA f;have K:=f.lt;have X:=za f;clear p o f g c A))
  go_ret;exact⟨rfl,D⟩
 ·go_enter func61,ntmps61;go_wp2_with (first
  |(go_at_call 96;refine(x.out _).mono ?_;rintro J d ⟨rfl,i⟩
    have c:=za ((am w (.cells #[.int .i64 s,.int .i64 v,.int .i64 u,.string q,.int .i64 r] 50) 50 [.int .i64 a,.int .i64 m,.int .i64 l,.string b,.int .i64 op]).below i (am w _ 50 _).lt);have z:d.cell? ⟨w.heap.size+1,0,none⟩=some (.int .i64 a):=c.cell 0;have y:d.cell? ⟨w.heap.size+1,3,none⟩=some (.string b):=c.cell 3;have g:=za (ac (aU w _ _) i (aU w _ _).size);have A:=c.lt;clear i x)
  |(refine bL (.tmp 5) (.tmp 12) d.heap.size [.int .i64 0,.string ⟨#[]⟩,.int .i64 0,.int .u64 0,.string ⟨#[]⟩,.int .i64 0,.int .i64 0,.int .i64 0,.int .i64 0,.slice none 0 0,.slice none 0 0] [.int .i64 k,.string t,.int .i64 n,.int .u64 0,.string ⟨#[]⟩,.int .i64 0,.int .i64 0,.int .i64 0,.int .i64 0,.slice none 0 0,.slice none 0 0] _ rfl rfl rfl rfl (ah.made d 131 _) rfl rfl rfl ?_;intro h f p o
    have j:=za (show ah h (w.heap.size+1) 50 [.int .i64 a,.int .i64 m,.int .i64 l,.string b,.int .i64 op]from(o _ (by omega)).trans (c.alloc _));have z:h.cell? ⟨w.heap.size+1,0,none⟩=some (.int .i64 a):=j.cell 0;have y:h.cell? ⟨w.heap.size+1,3,none⟩=some (.string b):=j.cell 3;have D:=za ((g.alloc g.size _).trans (p _ g.size));have H:=j.lt;obtain⟨W,V,T,S,R,Q,P,O,N,M,U,L⟩:=aA f;have K:=f.lt;have X:=za f;clear p o f g c A))
  go_ret;exact⟨rfl,D⟩
def Om(r u s:Int)(p:ByteArray)(q:Int)(b m l:Int)(a:ByteArray)(op:Int)(k n:Int)(t:ByteArray)(z:Bool)(w:World)
 (F:∀w,Calls prog 96 #[.agg #[.int .i64 r,.int .i64 u,.int .i64 s,.string p,.int .i64 q]] w λe w'=>e= .returned (.tuple #[(mk k t n 0 ⟨#[]⟩).val,.bool z])∧zz w w')(L:z=true)(o:b=18)(ap:(a.toList==[43,43])=false)(ao:(a.toList==[45,45])=false)(x I:ByteArray)(an:(x.toList==[])=false)
 (E:∀w,Calls prog 97 #[.string a,(mk k t n 0 ⟨#[]⟩).val] w λe w'=>e= .returned (.tuple #[aS.val,.agg #[.string x,.string I]])∧zz w w'):
 Calls prog 61 #[.agg #[.int .i64 r,.int .i64 u,.int .i64 s,.string p,.int .i64 q],.agg #[.int .i64 b,.int .i64 m,.int .i64 l,.string a,.int .i64 op]] w λe w'=>e= .returned (.bool false)∧zz w w':=by
 have H:=za F;clear F;have G:=za E;clear E;subst L;have af:(b !=18)=false:=by rw[o];rfl
 have ad:(b==18)=true:=by rw[o];rfl
 clear o;unfold aS mk aH.val at *
 go_enter func61,ntmps61;go_wp2_with (first
  |(go_at_call 96;refine(H.out _).mono ?_;rintro M f ⟨rfl,c⟩
    have d:=za ((am w (.cells #[.int .i64 r,.int .i64 u,.int .i64 s,.string p,.int .i64 q] 50) 50 [.int .i64 b,.int .i64 m,.int .i64 l,.string a,.int .i64 op]).below c (am w _ 50 _).lt);have B:f.cell? ⟨w.heap.size+1,0,none⟩=some (.int .i64 b):=d.cell 0;have A:f.cell? ⟨w.heap.size+1,3,none⟩=some (.string a):=d.cell 3;have i:=za (ac (aU w _ _) c (aU w _ _).size);have K:=d.lt;clear c H)
  |(refine bL (.tmp 5) (.tmp 12) f.heap.size [.int .i64 0,.string ⟨#[]⟩,.int .i64 0,.int .u64 0,.string ⟨#[]⟩,.int .i64 0,.int .i64 0,.int .i64 0,.int .i64 0,.slice none 0 0,.slice none 0 0] [.int .i64 k,.string t,.int .i64 n,.int .u64 0,.string ⟨#[]⟩,.int .i64 0,.int .i64 0,.int .i64 0,.int .i64 0,.slice none 0 0,.slice none 0 0] _ rfl rfl rfl rfl (ah.made f 131 _) rfl rfl rfl ?_;intro j g D C
    have h:=za (show ah j (w.heap.size+1) 50 [.int .i64 b,.int .i64 m,.int .i64 l,.string a,.int .i64 op]from(C _ (by omega)).trans (d.alloc _));have B:j.cell? ⟨w.heap.size+1,0,none⟩=some (.int .i64 b):=h.cell 0;have A:j.cell? ⟨w.heap.size+1,3,none⟩=some (.string a):=h.cell 3;have y:=za ((i.alloc i.size _).trans (D _ i.size));have J:=h.lt;obtain⟨Z,Y,W,V,U,T,S,R,Q,P,X,O⟩:=aA g;have N:=g.lt;have aa:=za g;clear D C g i d K)
  |(go_at_call 97;refine(G.out _).mono ?_;rintro M ab ⟨rfl,c⟩
    have v:=za (ac y.out c y.size);clear c G y Z Y W V U T S R Q P X O N aa h B A J))
 go_returns;refine⟨rfl,?_⟩;go_grown
 all_goals first|exact v|exact v.size|(have:=v.size;simp;omega)
end
section
open Go.RowKit Go.Proofs.PeepPlain
def Lo(op:ByteArray)(l:op.size<=2000000)(k n:Int)(t:ByteArray)(j:t.size<=4)(f:k=2->op.toList≠ [45]∧op.toList≠ [94])(i:k=1->op.toList≠ [33])(h:k≠3)(w:World):
 ∃g,Calls prog 97 #[.string op,(mk k t n 0 ⟨#[]⟩).val] w λe w'=>e= .returned (.tuple #[aS.val,.agg #[.string cA,.string g]])∧zz w w':=by
 by_cases c:op.toList=[45]
 ·obtain rfl:=aQ c;exact⟨_,Gb t ⟨#[]⟩ n 0 0 0 0 0 none none 0 0 0 0 k (zh.2 (λa=>(f a).1 c)) (zh.2 h) w (by show 1+t.size<=_;omega)⟩
 ·by_cases b:op.toList=[94]
  ·obtain rfl:=aQ b;exact⟨_,Gh t ⟨#[]⟩ n 0 0 0 0 0 none none 0 0 0 0 k (zh.2 (λa=>(f a).2 b)) w (by show 1+t.size<=_;omega)⟩
  ·by_cases d:op.toList=[33]
   ·obtain rfl:=aQ d;exact⟨_,FI t ⟨#[]⟩ n 0 0 0 0 0 none none 0 0 0 0 k (zh.2 (λa=>i a d)) w (by show 1+t.size<=_;omega)⟩
   ·exact⟨_,Fm op t ⟨#[]⟩ n 0 0 0 0 0 none none 0 0 0 0 k (ak c) (ak b) (ak d) w (by omega)⟩
def kx:(cA.toList==[])=false:=by kernel_rfl
def Cl:(jY.toList==[])=false:=by kernel_rfl
def Gl{c:au}{n:Int}(a:c.op=3)(b:bB c.text=some n):cm c=some (.int n):=by
 unfold cm;rw[zn a,b];rfl
def ve{c:au}(b:c.op=6):cm c=some (.flag c.a):=by
 unfold cm;rw[zm (by omega),zn b]
def OH(c op:au)(z:c.op=3->∃n,bB c.text=some n)(y:op.text.size<=2000000)(r:op.op=18->∀d,cm c=some d->mV op.text d=none)(w:World):
 Calls prog 61 #[br c,br op] w λe w'=>e= .returned (.bool false)∧zz w w':=by
 by_cases m:c.op=3
 ·obtain⟨n,s⟩:=z m;have k:=λw=>tI c n m s w;by_cases g:op.op=18
  ·have f:=r g _ (Gl m s);have h:op.text.toList≠ [43,43]:=λe=>by unfold mV at f;dsimp only at f;rw[zn e]at f;cases f
   have j:op.text.toList≠ [45,45]:=λe=>by unfold mV at f;dsimp only at f;rw[zm h,zn e]at f;cases f
   have l:op.text.toList≠ [45]:=λe=>by unfold mV at f;dsimp only at f;rw[zm h,zm j,zn e]at f;cases f
   have v:op.text.toList≠ [94]:=λe=>by unfold mV at f;dsimp only at f;rw[zm h,zm j,zm l,zn e]at f;cases f
   have A:=λw=>Lo op.text y 2 n ⟨#[105,110,116]⟩ (by decide) (λ_=>⟨l,v⟩) (λC=>by omega) (by omega) w;obtain⟨B,_⟩:=A w;have q:∃i,∀w,Calls prog 97 #[.string op.text,(mk 2 ⟨#[105,110,116]⟩ n 0 ⟨#[]⟩).val] w λe w'=>e= .returned (.tuple #[aS.val,.agg #[.string cA,.string i]])∧zz w w':=by
    by_cases x:op.text.toList=[33]
    ·rw[aQ x];exact⟨_,λw=>FI ⟨#[105,110,116]⟩ ⟨#[]⟩ n 0 0 0 0 0 none none 0 0 0 0 2 rfl w (by decide)⟩
    ·exact⟨_,λw=>Fm op.text ⟨#[105,110,116]⟩ ⟨#[]⟩ n 0 0 0 0 0 none none 0 0 0 0 2 (ak l) (ak v) (ak x) w (by show op.text.size+3<=_;omega)⟩
   obtain⟨i,o⟩:=q;exact Om c.op c.a c.b c.text c.pos op.op op.a op.b op.text op.pos 2 n ⟨#[105,110,116]⟩ true w k rfl g (ak h) (ak j) cA i kx o
  ·exact LD c.op c.a c.b c.text c.pos op.op op.a op.b op.text op.pos 2 n ⟨#[105,110,116]⟩ true w k (.inr g)
 ·by_cases p:c.op=6
  ·have k:=λw=>sn c p w;by_cases g:op.op=18
   ·have f:=r g _ (ve p);by_cases h:op.text.toList=[43,43]
    ·exact Ol c.op c.a c.b c.text c.pos op.op op.a op.b op.text op.pos 1 c.a fy true w k rfl g (by omega) (.inl h)
    ·by_cases j:op.text.toList=[45,45]
     ·exact Ol c.op c.a c.b c.text c.pos op.op op.a op.b op.text op.pos 1 c.a fy true w k rfl g (by omega) (.inr j)
     ·have l:op.text.toList≠ [33]:=λe=>by unfold mV at f;dsimp only at f;rw[zm h,zm j,zn e]at f;cases f
      have q:∃i,∀w,Calls prog 97 #[.string op.text,(mk 1 fy c.a 0 ⟨#[]⟩).val] w λe w'=>e= .returned (.tuple #[aS.val,.agg #[.string cA,.string i]])∧zz w w':=by
       by_cases u:op.text.toList=[45]
       ·rw[aQ u];exact⟨_,λw=>Gb fy ⟨#[]⟩ c.a 0 0 0 0 0 none none 0 0 0 0 1 rfl rfl w (by decide)⟩
       ·by_cases t:op.text.toList=[94]
        ·rw[aQ t];exact⟨_,λw=>Gh fy ⟨#[]⟩ c.a 0 0 0 0 0 none none 0 0 0 0 1 rfl w (by decide)⟩
        ·exact⟨_,λw=>Fm op.text fy ⟨#[]⟩ c.a 0 0 0 0 0 none none 0 0 0 0 1 (ak u) (ak t) (ak l) w (by show op.text.size+4<=_;omega)⟩
      obtain⟨i,o⟩:=q;exact Om c.op c.a c.b c.text c.pos op.op op.a op.b op.text op.pos 1 c.a fy true w k rfl g (ak h) (ak j) cA i kx o
   ·exact LD c.op c.a c.b c.text c.pos op.op op.a op.b op.text op.pos 1 c.a fy true w k (.inr g)
  ·exact LD c.op c.a c.b c.text c.pos op.op op.a op.b op.text op.pos 0 0 ⟨#[]⟩ false w (λw=>sM c m p w) (.inl rfl)
def Nn(op:ByteArray)(A:op.size<=2000000)(n m:Int)(u: -9223372036854775808<=m)(t:m<=9223372036854775807)(a:bg op n m=none):
 ∃x y,(x.toList==[])=false∧∀w,Calls prog 98 #[.string op,(mk 2 ⟨#[105,110,116]⟩ n 0 ⟨#[]⟩).val,(mk 2 ⟨#[105,110,116]⟩ m 0 ⟨#[]⟩).val] w λe w'=>e= .returned (.tuple #[aS.val,.agg #[.string x,.string y]])∧zz w w':=by
 have q:=λw=>Pv ⟨#[105,110,116]⟩ ⟨#[]⟩ n 0 0 0 0 0 none none 0 0 0 0 ⟨#[]⟩ m 0 0 0 0 0 none none 0 0 0 0 w;have b:op.toList≠ [43]:=λe=>by unfold bg at a;rw[zn e]at a;cases a
 have d:op.toList≠ [45]:=λe=>by unfold bg at a;rw[zm b,zn e]at a;cases a
 have g:op.toList≠ [42]:=λe=>by unfold bg at a;rw[zm b,zm d,zn e]at a;cases a
 by_cases c:op.toList=[47]
 ·obtain rfl:=aQ c;have l:m=0:=by
   apply Classical.byContradiction;intro k;unfold bg at a;rw[zm b,zm d,zm g,zn c,zm k]at a
   cases a
  subst l;exact⟨_,_,(by kernel_rfl),λw=>mn ⟨#[47]⟩ ⟨#[100,105,118,105,100,101]⟩ ⟨#[]⟩ ⟨#[105,110,116]⟩ ⟨#[]⟩ n 0 0 0 0 0 none none 0 0 0 0 ⟨#[]⟩ 0 0 0 0 0 0 none none 0 0 0 0 _ _ _ false 0 (by kernel_rfl) (by kernel_rfl) w q (λw=>AR ⟨#[47]⟩ _ _ _ w (by kernel_rfl) (by kernel_rfl) (by kernel_rfl) (by kernel_rfl)) (λw=>PL n 0 w)⟩
 by_cases f:op.toList=[37]
 ·obtain rfl:=aQ f;have l:m=0:=by
   apply Classical.byContradiction;intro k;unfold bg at a;rw[zm b,zm d,zm g,zm c,zn f,zm k]at a
   cases a
  subst l;exact⟨_,_,(by kernel_rfl),λw=>mn ⟨#[37]⟩ ⟨#[100,105,118,105,100,101]⟩ ⟨#[]⟩ ⟨#[105,110,116]⟩ ⟨#[]⟩ n 0 0 0 0 0 none none 0 0 0 0 ⟨#[]⟩ 0 0 0 0 0 0 none none 0 0 0 0 _ _ _ false 0 (by kernel_rfl) (by kernel_rfl) w q (λw=>AR ⟨#[37]⟩ _ _ _ w (by kernel_rfl) (by kernel_rfl) (by kernel_rfl) (by kernel_rfl)) (λw=>OD n 0 w)⟩
 have h:op.toList≠ [38]:=λe=>by unfold bg at a;rw[zm b,zm d,zm g,zm c,zm f,zn e]at a;cases a
 have j:op.toList≠ [124]:=λe=>by unfold bg at a;rw[zm b,zm d,zm g,zm c,zm f,zm h,zn e]at a;cases a
 have o:op.toList≠ [94]:=λe=>by unfold bg at a;rw[zm b,zm d,zm g,zm c,zm f,zm h,zm j,zn e]at a;cases a
 by_cases i:op.toList=[60,60]
 ·obtain rfl:=aQ i;have l:m<0:=by
   apply Classical.byContradiction;intro k;unfold bg at a;rw[zm b,zm d,zm g,zm c,zm f,zm h,zm j,zm o,zn i,zm k]at a
   cases a
  exact⟨_,_,Cl,λw=>mn ⟨#[60,60]⟩ jY _ ⟨#[105,110,116]⟩ ⟨#[]⟩ n 0 0 0 0 0 none none 0 0 0 0 ⟨#[]⟩ m 0 0 0 0 0 none none 0 0 0 0 _ _ _ false 0 (by kernel_rfl) (by kernel_rfl) w q (λw=>AR ⟨#[60,60]⟩ _ _ _ w (by kernel_rfl) (by kernel_rfl) (by kernel_rfl) (by kernel_rfl)) (λw=>PV n m ⟨u,t⟩ l w)⟩
 by_cases p:op.toList=[62,62]
 ·obtain rfl:=aQ p;have l:m<0:=by
   apply Classical.byContradiction;intro k;unfold bg at a;rw[zm b,zm d,zm g,zm c,zm f,zm h,zm j,zm o,zm i,zn p,zm k]at a
   cases a
  exact⟨_,_,Cl,λw=>mn ⟨#[62,62]⟩ jY _ ⟨#[105,110,116]⟩ ⟨#[]⟩ n 0 0 0 0 0 none none 0 0 0 0 ⟨#[]⟩ m 0 0 0 0 0 none none 0 0 0 0 _ _ _ false 0 (by kernel_rfl) (by kernel_rfl) w q (λw=>AR ⟨#[62,62]⟩ _ _ _ w (by kernel_rfl) (by kernel_rfl) (by kernel_rfl) (by kernel_rfl)) (λw=>Ov n m ⟨u,t⟩ l w)⟩
 have r:op.toList≠ [60,61]:=λe=>by unfold bg at a;rw[zm b,zm d,zm g,zm c,zm f,zm h,zm j,zm o,zm i,zm p,zn e]at a;cases a
 have s:op.toList≠ [60]:=λe=>by unfold bg at a;rw[zm b,zm d,zm g,zm c,zm f,zm h,zm j,zm o,zm i,zm p,zm r,zn e]at a;cases a
 have v:op.toList≠ [62,61]:=λe=>by unfold bg at a;rw[zm b,zm d,zm g,zm c,zm f,zm h,zm j,zm o,zm i,zm p,zm r,zm s,zn e]at a;cases a
 have z:op.toList≠ [62]:=λe=>by unfold bg at a;rw[zm b,zm d,zm g,zm c,zm f,zm h,zm j,zm o,zm i,zm p,zm r,zm s,zm v,zn e]at a;cases a
 exact⟨_,_,kx,λw=>Hz op cA _ ⟨#[105,110,116]⟩ ⟨#[]⟩ n 0 0 0 0 0 none none 0 0 0 0 ⟨#[]⟩ m 0 0 0 0 0 none none 0 0 0 0 _ _ _ false 0 w q (λw=>AR op _ _ _ w (ak s) (ak r) (ak z) (ak v)) (λw=>Rr op n m (ak b) (ak d) (ak g) (ak h) (ak j) (ak o) (ak c) (ak f) (ak i) (ak p) w) (λw=>rT op ⟨#[105,110,116]⟩ ⟨#[105,110,116]⟩ ⟨#[]⟩ ⟨#[]⟩ 2 2 n 0 0 0 0 0 m 0 0 0 0 0 none none none none 0 0 0 0 0 0 0 0 w (by show op.size+3+3<=_;omega))⟩
def BF(op:ByteArray)(g:op.size<=2000000)(k a n m:Int)(t t2:ByteArray)(f:t.size<=4)(d:t2.size<=4)(c:k≠a):
 ∃x b,(x.toList==[])=false∧∀w,Calls prog 98 #[.string op,(mk k t n 0 ⟨#[]⟩).val,(mk a t2 m 0 ⟨#[]⟩).val] w λe w'=>e= .returned (.tuple #[aS.val,.agg #[.string x,.string b]])∧zz w w':=
 ⟨_,_,kx,λw=>OC op cA _ k a t2 t ⟨#[]⟩ n 0 0 0 0 0 none none 0 0 0 0 ⟨#[]⟩ m 0 0 0 0 0 none none 0 0 0 0 w (zO.2 c) (λw=>rT op t t2 ⟨#[]⟩ ⟨#[]⟩ k a n 0 0 0 0 0 m 0 0 0 0 0 none none none none 0 0 0 0 0 0 0 0 w (by omega))⟩
def Lt(op:ByteArray)(b:op.size<=2000000)(n m:Int):
 ∃x a,(x.toList==[])=false∧∀w,Calls prog 98 #[.string op,(mk 1 fy n 0 ⟨#[]⟩).val,(mk 1 fy m 0 ⟨#[]⟩).val] w λe w'=>e= .returned (.tuple #[aS.val,.agg #[.string x,.string a]])∧zz w w':=
 ⟨_,_,kx,λw=>Nc op cA _ 1 fy ⟨#[]⟩ n 0 0 0 0 0 none none 0 0 0 0 ⟨#[]⟩ m 0 0 0 0 0 none none 0 0 0 0 w rfl rfl rfl rfl rfl rfl (λw=>rT op fy fy ⟨#[]⟩ ⟨#[]⟩ 1 1 n 0 0 0 0 0 m 0 0 0 0 0 none none none none 0 0 0 0 0 0 0 0 w (by show op.size+4+4<=_;omega))⟩
def Bw(c:au)(g:c.op=3->∃n,bB c.text=some n):∃(k n:Int) (t:ByteArray) (ok:Bool),(∀w,Calls prog 96 #[br c] w λe w'=>e= .returned (.tuple #[(mk k t n 0 ⟨#[]⟩).val,.bool ok])∧zz w w')∧((ok=false)∨(ok=true∧k=2∧t=⟨#[105,110,116]⟩∧cm c=some (.int n)∧bB c.text=some n)∨(ok=true∧k=1∧t=fy∧cm c=some (.flag n))):=by
 by_cases b:c.op=3
 ·obtain⟨n,d⟩:=g b;exact⟨2,n,_,true,λw=>tI c n b d w,.inr (.inl ⟨rfl,rfl,rfl,Gl b d,d⟩)⟩
 ·by_cases f:c.op=6
  ·exact⟨1,c.a,_,true,λw=>sn c f w,.inr (.inr ⟨rfl,rfl,rfl,ve f⟩)⟩
  ·exact⟨0,0,_,false,λw=>sM c b f w,.inl rfl⟩
def pS(a b op:au)(K:a.op=3->∃n,bB a.text=some n)(J:b.op=3->∃n,bB b.text=some n)(u:op.text.size<=2000000)(v:op.op=19->∀c d,cm a=some c->cm b=some d->iF op.text c d=none)(w:World):
 Calls prog 62 #[br a,br b,br op] w λe w'=>e= .returned (.bool false)∧zz w w':=by
 obtain⟨A,n,y,s,F,H⟩:=Bw a K;obtain⟨z,k,t2,r,E,D⟩:=Bw b J;have t:((s&&r)=false∨op.op≠19)->Calls prog 62 #[br a,br b,br op] w λe w'=>e= .returned (.bool false)∧zz w w':=λN=>
  QT a.op a.a a.b a.text a.pos b.op b.a b.b b.text b.pos op.op op.a op.b op.text op.pos A n y s z k t2 r w F E N
 by_cases m:op.op=19
 ·have p:s=true->r=true->op.text.toList≠ [61,61]->op.text.toList≠ [33,61]->(∃q x,(q.toList==[])=false∧∀w,Calls prog 98 #[.string op.text,(mk A y n 0 ⟨#[]⟩).val,(mk z t2 k 0 ⟨#[]⟩).val] w λe w'=>e= .returned (.tuple #[aS.val,.agg #[.string q,.string x]])∧zz w w')->Calls prog 62 #[br a,br b,br op] w λe w'=>e= .returned (.bool false)∧zz w w':=by
   rintro i g M L ⟨q,x,G,I⟩;exact Qg a.op a.a a.b a.text a.pos b.op b.a b.b b.text b.pos op.op op.a op.b op.text op.pos A n y s z k t2 r w F E i g m (ak M) (ak L) q x G I
  rcases H with i|⟨i,rfl,rfl,o,O⟩|⟨i,rfl,rfl,o⟩
  ·exact t (.inl (by rw[i];rfl))
  ·rcases D with g|⟨g,rfl,rfl,l,C⟩|⟨g,rfl,rfl,l⟩
   ·exact t (.inl (by rw[g,zF]))
   ·have f:=v m _ _ o l;have h:op.text.toList≠ [61,61]:=λe=>by unfold iF at f;rw[zn e]at f;cases f
    have j:op.text.toList≠ [33,61]:=λe=>by unfold iF at f;rw[zm h,zn e]at f;cases f
    unfold iF at f;rw[zm h,zm j]at f;have B:=(ku C).2.2;exact p i g h j (Nn op.text u n k B.1 B.2 f)
   ·have f:=v m _ _ o l;have h:op.text.toList≠ [61,61]:=λe=>by unfold iF at f;rw[zn e]at f;cases f
    have j:op.text.toList≠ [33,61]:=λe=>by unfold iF at f;rw[zm h,zn e]at f;cases f
    exact p i g h j (BF op.text u 2 1 n k _ _ (by decide) (by decide) (by decide))
  ·rcases D with g|⟨g,rfl,rfl,l,C⟩|⟨g,rfl,rfl,l⟩
   ·exact t (.inl (by rw[g,zF]))
   ·have f:=v m _ _ o l;have h:op.text.toList≠ [61,61]:=λe=>by unfold iF at f;rw[zn e]at f;cases f
    have j:op.text.toList≠ [33,61]:=λe=>by unfold iF at f;rw[zm h,zn e]at f;cases f
    exact p i g h j (BF op.text u 1 2 n k _ _ (by decide) (by decide) (by decide))
   ·have f:=v m _ _ o l;have h:op.text.toList≠ [61,61]:=λe=>by unfold iF at f;rw[zn e]at f;cases f
    have j:op.text.toList≠ [33,61]:=λe=>by unfold iF at f;rw[zm h,zn e]at f;cases f
    exact p i g h j (Lt op.text u n k)
 ·exact t (.inr m)
end
section
open Go.RowKit Go.Proofs.PeepPlain
structure Mt(w:World)(g0 g1:Nat)(A:Option Addr)(l:List au)(wr:World):Prop where
 come:ah wr g0 4 (aL (ei l))
 mrk:ah wr g1 4 (aL (dd l))
 ins:bX wr A l
 below:Below w.heap.size w wr
def Mt.more{w wr w':World}{d c:Nat}{e:Option Addr}{l:List au}(a:Mt w d c e l wr)(b:zz wr w'):Mt w d c e l w':=
 ⟨a.come.below b a.come.lt,a.mrk.below b a.mrk.lt,a.ins.below b,ac a.below b a.below.size⟩
def Mt.drew{w wr:World}{b a:Nat}{c:Option Addr}{l:List au}(d:Mt w b a c l wr):Mt w b a c l wr.drew:=
 d.more (ay (zZ _ _))
def Fd{l:List au}{k:Nat}(a:k<l.length):l.getD k default=l[k]:=by rw[zd,zo a];rfl
def xm(l:List au):(dd l).length=l.length:=by
 rw[<-nX,cY]
def s7{w:World}{g:Nat}{l:List au}(b:ah w g 4 (aL (dd l))){k:Nat}(a:k<l.length):w.cell? ⟨g,k,none⟩=some (.bool ((dd l).getD k true)):=by
 rw[jE b (by rw[xm];exact a)];rw[zd,zd,zo (by rw[xm];exact a)];rfl
def Gs{k:Nat}{d:Nat}(a:k<=100000)(b:d<=2):wrap64 ((k:Int)+(d:Int))=((k+d:Nat):Int):=by unfold wrap64;omega
def OS{k:Nat}(a:k<=100000):IntKind.i64.wrap ((k:Int)+1)=((k+1:Nat):Int):=(IntWalk.i64_left _).trans (by unfold wrap64;omega)
def RE{k:Nat}(a:k<=100000):IntKind.i64.wrap ((k:Int)+2)=((k+2:Nat):Int):=(IntWalk.i64_left _).trans (by unfold wrap64;omega)
set_option maxRecDepth 200000 in
def Ej(l:List au)(E:Option Addr)(c:Nat)(w:World)(V:WF l)(O:bX w E l)(cT:l.length<=60000)(aa:Gy O0 l)(bj:∀x∈l,x.op=3->∃n,bB x.text=some n)(a7:∀x∈l,x.text.size<=2000000):
 Calls prog 28 #[.slice E l.length c] w λe w'=>e= .returned (.bool true)∧zz w w':=by
 have bp:=za (wR l E c w V O (by omega));have bo:=za (λ(k:World) (B:zz w k)=>CK l E c k V (O.below B) (by omega) aa.come);have bt:=za O;have J:=za aa;have a2:=za bj;have bl:=za a7;have c5:=za V;clear O V aa bj a7;go_enter func28,ntmps28;go_wp2_with (first
  |(go_at_call 59;refine bp.out.mono ?_;rintro Q ck ⟨rfl,a8,bi⟩;have ar:=za a8;have M:=za bi;clear a8 bi bp)
  |(go_at_call 60;refine(bo.out _ M.out).mono ?_;rintro Q b1 ⟨P,rfl,b6,a9,B⟩;have b0:=za (show Mt w w.heap.size P E l b1 from⟨ar.below B ar.lt,a9,(bt.below M.out).below B,ac M.out B M.size⟩);clear a9 B b6 bo))
 go_loopw [5,6,7] (λX _ _ wr=> ∃b:Nat,X= .int .i64 b∧b<=l.length∧Hid (Mt w w.heap.size P E l wr)) (λX _ _ _=>l.length - (intOf X).toNat)
 case atStart=>exact⟨0,rfl,zu _,b0⟩
 case round=>
  clear b0 ar M bt;rename World=>w3;obtain⟨b,rfl,b4,i⟩:=hrel;by_cases f:b<l.length
  ·obtain⟨h,m,rfl,A,o⟩:=i.ins.at_ (by omega);obtain⟨t,U,T,S,R⟩:=o b f;have c1:(0:Int)<=(b:Int)∧(b:Int)<(l.length:Int):=by omega
   have bc:=i.come.lt;have ba:=i.mrk.lt;have b2:=xh i.come f (J.come b f);have cj:wrap64 ((b:Int)+1)=((b+1:Nat):Int):=Gs (d:=1) (by omega) (by omega);have ci:wrap64 ((b:Int)+2)=((b+2:Nat):Int):=Gs (d:=2) (by omega) (by omega);have a1:=za (show ¬(l[b].op=34∧l[b].a=((b+1:Nat):Int))from λd=>J.jump b f ⟨by rw[eG f];exact d.1,by unfold bE;rw[Fd f,d.2];omega⟩);have K:=za (λ(d:b+1<l.length)=>s7 i.mrk d);have W:=za (λ(d:b+2<l.length)=>s7 i.mrk d);have C:=za o;have a0:=za (λ(d:b+1<l.length) (g:(dd l).getD (b+1) true=false) (k:World)=>OH l[b] l[b+1] (a2.out _ (zk f)) (bl.out _ (zk d)) (λb9 I Z=>by
    have:=J.one b I d g (by rw[eG d];exact b9) (by rw[Fd f];exact Z);rw[Fd d]at this;exact this) k)
   have a3:=za (λ(d:b+1<l.length) (g:(dd l).getD (b+1) true=false) (h6:l[b].op=6) (h35:l[b+1].op=35)=>J.branch b (.flag l[b].a) d g (by rw[eG d];exact h35) (by rw[Fd f];exact ve h6) (by rw[eG f];exact h6));have av:=za (λ(d:b+2<l.length) (g:(dd l).getD (b+1) true=false) (v:(dd l).getD (b+2) true=false) (k:World)=>pS l[b] l[b+1] l[b+2] (a2.out _ (zk f)) (a2.out _ (zk (by omega))) (bl.out _ (zk d)) (λb8 c I o Z=>by
    have:=J.two b c I d g v (by rw[eG d];exact b8) (by rw[Fd f];exact o) (by rw[Fd (show b+1<l.length by omega)];exact Z);rw[Fd d]at this;exact this) k)
   obtain⟨x,bk⟩:∃x,Hid (l[b]=x):=⟨_,za rfl⟩
   have u:=bk.out;rw[u]at t U T S R a1;simp only[u]at a0 a3 av;clear u;clear o;go_upto_block 1 with fail;go_step;go_step;go_cut [] (λk=>k=w3)
   case first=>as_aux_lemma=>
    by_cases N:x.op=34
    ·have cl:(x.a==((b+1:Nat):Int))=false:=zh.2 (λd=>a1.out ⟨N,d⟩);rw[N]at t;go_wp2_with fail;go_meet;rfl
    ·have co:(x.op==34)=false:=zh.2 N;clear N;go_wp2_with fail;go_meet;rfl
   case rest=>
    subst hcut;clear a1;go_step;go_step;go_cut [6] (λ_ k=>Hid (Mt w w.heap.size P (some ⟨h,m,none⟩) l k))
    case first=>as_aux_lemma=>
     by_cases s:b+1<l.length
     ·have b5:(0:Int)<=((b+1:Nat):Int)∧((b+1:Nat):Int)<(l.length:Int):=by omega
      have G:=K.out s
      cases g:(dd l).getD (b+1) true with
      |true=>
       rw[g]at G;go_wp2_with fail;go_meet;exact i
      |false=>
       rw[g]at G;have D:=za (a0.out s g);obtain⟨H,ap,ao,an,af⟩:=C.out (b+1) s;have bq:=za (a3.out s g);generalize l[b+1]=y at H ap ao an af D bq;unfold br at D;by_cases F:x.op=6
       ·have b3:(x.op==6)=true:=beq_iff_eq.2 F;have cn:(y.op==35)=false:=zh.2 (λd=>bq.out F d);clear F;have a6:IntKind.i64.wrap ((b:Int)+1)=((b+1:Nat):Int):=OS (by omega);have bb:(0:Int)<=(b:Int)+1:=by omega
        go_upto_region 9 with fail;go_still_tail 9,(by kernel_rfl);go_wp2_with (go_at_call 61;refine(D.out _).mono ?_;rintro Q r ⟨rfl,j⟩;have a4:=za (i.drew.more j);have cf:r.cell? ⟨h,m+b * 5,none⟩=some (.int .i64 x.op):=(j.cell (p:=⟨h,m+b * 5,none⟩) A).trans t;have ad:r.cell? ⟨h,m+(b+1) * 5,none⟩=some (.int .i64 y.op):=(j.cell (p:=⟨h,m+(b+1) * 5,none⟩) A).trans H;have b7:h<r.heap.size:=zv A j.size;clear j D);go_meet;exact a4
       ·have b3:(x.op==6)=false:=zh.2 F;clear F;have a6:IntKind.i64.wrap ((b:Int)+1)=((b+1:Nat):Int):=OS (by omega);have bb:(0:Int)<=(b:Int)+1:=by omega
        go_upto_region 9 with fail;go_still_tail 9,(by kernel_rfl);go_wp2_with (go_at_call 61;refine(D.out _).mono ?_;rintro Q r ⟨rfl,j⟩;have a4:=za (i.drew.more j);have cf:r.cell? ⟨h,m+b * 5,none⟩=some (.int .i64 x.op):=(j.cell (p:=⟨h,m+b * 5,none⟩) A).trans t;have ad:r.cell? ⟨h,m+(b+1) * 5,none⟩=some (.int .i64 y.op):=(j.cell (p:=⟨h,m+(b+1) * 5,none⟩) A).trans H;have b7:h<r.heap.size:=zv A j.size;clear j D);go_meet;exact a4
     ·go_wp2_with fail;go_meet;exact i
    case rest=>
     have q:Hid (Mt w w.heap.size P (some ⟨h,m,none⟩) l wc):=hcut;clear t U T S R bc ba b2 K W C a0 a3 i;have bc:=q.come.lt;have ba:=q.mrk.lt;obtain⟨c4,cp,Y,c3,o⟩:=q.ins.at_ (by omega);injection Y with Y;injection Y with e1 e2 _;subst e1 e2;obtain⟨t,U,T,S,R⟩:=o b f;have u:=bk.out;rw[u]at t U T S R;clear u;have C:=za o;have K:=za (λ(d:b+1<l.length)=>s7 q.mrk d);have W:=za (λ(d:b+2<l.length)=>s7 q.mrk d);clear o;by_cases ab:b+2<l.length
     ·have s:b+1<l.length:=by omega
      have b5:(0:Int)<=((b+1:Nat):Int)∧((b+1:Nat):Int)<(l.length:Int):=by omega
      have c0:(0:Int)<=((b+2:Nat):Int)∧((b+2:Nat):Int)<(l.length:Int):=by omega
      have G:=K.out s;have a5:=W.out ab
      cases g:(dd l).getD (b+1) true with
      |true=>
       rw[g]at G;go_wp2_with fail;go_roundw
       case rel=>exact⟨b+1,by go_num,f,q⟩
       case measure=>simp[intOf];omega
      |false=>
       rw[g]at G
       cases v:(dd l).getD (b+2) true with
       |true=>
        rw[v]at a5;go_wp2_with fail;go_roundw
        case rel=>exact⟨b+1,by go_num,f,q⟩
        case measure=>simp[intOf];omega
       |false=>
        rw[v]at a5;have L:=za (av.out ab g v);obtain⟨H,ap,ao,an,af⟩:=C.out (b+1) s;obtain⟨ad,cd,cc,cb,ca⟩:=C.out (b+2) ab;generalize l[b+1]=y at H ap ao an af L;generalize l[b+2]=z at ad cd cc cb ca L;unfold br at L;clear av C K W g v;have a6:IntKind.i64.wrap ((b:Int)+1)=((b+1:Nat):Int):=OS (by omega);have bb:(0:Int)<=(b:Int)+1:=by omega
        have cs:IntKind.i64.wrap ((b:Int)+2)=((b+2:Nat):Int):=RE (by omega);have c2:(0:Int)<=(b:Int)+2:=by omega
        have cv:(b:Int)+1<(l.length:Int):=by omega
        have ct:(b:Int)+2<(l.length:Int):=by omega
        have cC:((b:Int)+2).toNat=b+2:=by omega
        go_upto_region 13 with fail;go_still_tail 14,(by kernel_rfl);go_wp2_with (go_at_call 62;refine(L.out _).mono ?_;rintro Q ch ⟨rfl,be⟩;have cg:=za (q.drew.more be);clear be L);go_roundw
        case rel=>exact⟨b+1,by go_num,f,cg⟩
        case measure=>simp[intOf];omega
     ·go_wp2_with fail;go_roundw
      case rel=>exact⟨b+1,by go_num,f,q⟩
      case measure=>simp[intOf];omega
  ·obtain rfl:b=l.length:=by omega
   clear f b4;go_wp2_with fail;go_ret;exact⟨rfl,i.below⟩
end
section
open Go.RowKit Go.Proofs.PeepPlain
def KZ:prog.underlying 30=some (.struct (prog.fieldsOf 30)):=by kernel_rfl
def Od:prog.stoodInHeld 30=false:=by kernel_rfl
def Qj(c f h g:Int)(s e:ByteArray)(w:World):Sem.run prog (Go.binOp BinOp.eql 30 (.agg #[.int .i64 h,.int .i64 g,.string e]) (.agg #[.int .i64 c,.int .i64 f,.string s])) w= .ok (.bool (h==c&&(g==f&&e.toList==s.toList))) w:=by
 rw[run_eql_struct,show(10000:Nat)=9999+1 from rfl,run_equalIn_struct w 9999 30 _ _ KZ Od];simp only[Program.fieldsOf,underlying30];simp only[Op.eqFields,Sem.run_bind,Sem.run_ite];have i:prog.underlying 28=some (.int .i64):=by kernel_rfl
 have l:∀(d b a:Value),(part 28 #[d,b,a] 0).run prog w= .ok d w:=λd b a=>by kernel_rfl
 have k:∀(d b a:Value),(part 3 #[d,b,a] 1).run prog w= .ok b w:=λd b a=>by kernel_rfl
 have j:∀(d b a:Value),(part 9 #[d,b,a] 2).run prog w= .ok a w:=λd b a=>by kernel_rfl
 simp only[l,k,j,Result.andThen_ok,run_equalIn_int w 9998 28 .i64 .i64 _ _ i,run_equalIn_int w 9998 3 .i64 .i64 _ _ underlying3,run_equalIn_string w 9998 9 _ _ underlying9,Sem.run_pure]
 cases(h==c)<;>cases(g==f)<;>cases(e.toList==s.toList)<;>simp
def Eb(w:World):Sem.run prog (Instr.typeAssert .nilIface 34 59 true) w= .ok (.tuple #[.pointer none,.bool false]) w:=by kernel_rfl
def JJ(g:Nat)(w:World):Sem.run prog (Instr.typeAssert (.iface 59 (.pointer (some ⟨g,0,none⟩))) 34 59 true) w= .ok (.tuple #[.pointer (some ⟨g,0,none⟩),.bool true]) w:=by kernel_rfl
set_option maxRecDepth 100000 in
def Km(x:Wr)(w:World):Calls prog 12 #[.nilIface,.agg #[.int .i64 x.code,.int .i64 x.at_,.string x.name]] w λe w'=>e= .returned (.bool (decide (x.code=0)))∧zz w w':=by
 obtain⟨b,g,c⟩:=x;dsimp only;by_cases a:b=0
 ·subst a;go_enter func12,ntmps12;go_wp2_with fail;go_ret;exact⟨rfl,by go_grown⟩
 ·have f:(b==0)=false:=zh.2 a;rw[zg a];have d:=Eb;go_enter func12,ntmps12;go_wp2_with fail;go_quiet (fail);go_wp2;go_ret;exact⟨rfl,ae (by go_grown) nq⟩
set_option maxRecDepth 100000 in
def Mw(x l:Wr)(g:Nat)(w:World)(h:ah w g 30 l.cells):Calls prog 12 #[.iface 59 (.pointer (some ⟨g,0,none⟩)),.agg #[.int .i64 x.code,.int .i64 x.at_,.string x.name]] w λe w'=>e= .returned (.bool (decide (x.code≠0)&&(decide (l.code=x.code)&&(decide (l.at_=x.at_)&&(l.name.toList==x.name.toList)))))∧zz w w':=by
 obtain⟨c,j,f⟩:=x;obtain⟨k,i,d⟩:=l;dsimp only;have u:w.cell? ⟨g,0,none⟩=some (.int .i64 k):=h.cell 0;have t:w.cell? ⟨g,1,none⟩=some (.int .i64 i):=h.cell 1;have s:w.cell? ⟨g,2,none⟩=some (.string d):=h.cell 2;have B:=h.lt;have J:g≠w.heap.size:=by omega
 have I:g<w.heap.size+1:=by omega
 have z:=za h;clear h;by_cases p:c=0
 ·subst p;go_enter func12,ntmps12;go_wp2_with fail;go_ret;exact⟨ag (by simp),by go_grown⟩
 ·have L:(c==0)=false:=zh.2 p;have K:=JJ g;have v:∃b,w.alloc (.cells #[.int .i64 c,.int .i64 j,.string f] 30)=b:=⟨_,rfl⟩
  obtain⟨b,m⟩:=v;have o:ah b w.heap.size 30 [.int .i64 c,.int .i64 j,.string f]:=m ▸ ah.made w 30 _;have n:ah b g 30 [.int .i64 k,.int .i64 i,.string d]:=m ▸ z.alloc _;have A:=za (show zz w b from m ▸ below1 w _);have E:b.cell? ⟨w.heap.size,0,none⟩=some (.int .i64 c):=o.cell 0;have D:b.cell? ⟨w.heap.size,1,none⟩=some (.int .i64 j):=o.cell 1;have C:b.cell? ⟨w.heap.size,2,none⟩=some (.string f):=o.cell 2;have H:b.cell? ⟨g,0,none⟩=some (.int .i64 k):=n.cell 0;have G:b.cell? ⟨g,1,none⟩=some (.int .i64 i):=n.cell 1;have F:b.cell? ⟨g,2,none⟩=some (.string d):=n.cell 2;have N:=λw'=>Qj c j k i f d w';have M:=λw' r q=>run_eqGuard_agg (P:=prog) w' .eql 30 r q #[.int .i64 k,.int .i64 i,.string d] #[.int .i64 c,.int .i64 j,.string f] (by kernel_rfl);have y:=za m;clear m o n u t s;go_enter func12,ntmps12;go_wp2_with fail;rw[y.out];go_quiet (fail);go_wp2;go_ret;exact⟨ag (a:=(k==c&&(i==j&&d.toList==f.toList))) (by simp only[ze p,Bool.true_and];rfl),ae A.out nq⟩
end
end Go.Proofs.YtmecmlpoallpcaaGreatDoor

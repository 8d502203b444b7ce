/- Parts of the proof: SameA SameB RefP RefZ5 -/
import Derived.Test.YtmecmlpoallpcaaGreatDoorM20
import Derived.Test.YtmecmlpoallpcaaGreatDoorM11
set_option linter.all false
set_option maxHeartbeats 8000000
namespace Go.Proofs.YtmecmlpoallpcaaGreatDoor
open Go.Proofs.Tryz
section
open Go.RowKit Go.Proofs.PeepPlain
end
section
open Go.RowKit Go.Proofs.PeepPlain
def Qb(w:World)(e:Ending)(w':World):Prop:=e= .returned (.bool true)∧zz w w'
def fA(fs gs:List Fn):Prop:=gs.length=fs.length∧∀a,(h:a<fs.length)->(h':a<gs.length)->gs[a].name=fs[a].name∧gs[a].params=fs[a].params∧gs[a].slots=fs[a].slots∧gs[a].taken=fs[a].taken∧gs[a].around=fs[a].around∧gs[a].code=fs[a].code
end
section
open Go.RowKit Go.Proofs.PeepPlain
def JQ(a B:Option Addr)(e d:Nat)(l:List Int)(w:World)(g:bd w a (l.map (Value.int .i64)))(f:bd w B (l.map (Value.int .i64)))(b:l.length<=2000000):
 Calls prog 30 #[.slice a l.length e,.slice B l.length d] w (BU w true):=by
 have c:=Iw a B e d l l w g f b b;rw[show ut l l=true from beq_self_eq_true l]at c;exact c
def ti{l:List ByteArray}{k:Nat}(a:k<l.length):(l.map Value.string)[k]?=some (.string l[k]):=by rw[zL,zo a];rfl
set_option maxRecDepth 20000 in
def tV(fs gs:List Fn)(b:List ByteArray)(p B n k:Option Addr)(c d q l:Nat)(w:World)(ad:bD w p fs)(ab:bD w B gs)(ao:bd w n (b.map Value.string))(an:bd w k (b.map Value.string))(af:fA fs gs)(ci:fs.length<=2000000)(ch:b.length<=2000000)(y:∀f∈fs,f.taken.length<=2000000∧f.code.length<=2000000):
 Calls prog 14 #[.agg #[.slice p fs.length c,.slice n b.length q],.agg #[.slice B fs.length d,.slice k b.length l]] w (Qb w):=by
 have b9:=za ad;have b8:=za ab;have a8:=za af;have ca:=za y;have L:=za ao;have C:=za an;clear ad ab af y ao an;go_enter func14,ntmps14;go_wp2_with fail;have e:=za (aU w (.cells #[.slice p fs.length c,.slice n b.length q] 25) (.cells #[.slice B fs.length d,.slice k b.length l] 25));have h:=za ((ah.made w 25 [.slice p fs.length c,.slice n b.length q]).alloc (.cells #[.slice B fs.length d,.slice k b.length l] 25));have g:=za (show ah ((w.alloc (.cells #[.slice p fs.length c,.slice n b.length q] 25)).alloc (.cells #[.slice B fs.length d,.slice k b.length l] 25)) (w.heap.size+1) 25 [.slice B fs.length d,.slice k b.length l] by
  have:=ah.made (w.alloc (.cells #[.slice p fs.length c,.slice n b.length q] 25)) 25 [.slice B fs.length d,.slice k b.length l];simpa using this)
 generalize((w.alloc (.cells #[.slice p fs.length c,.slice n b.length q] 25)).alloc (.cells #[.slice B fs.length d,.slice k b.length l] 25))=w1 at e h g;go_loopw [5] (λi wr=> ∃(a:Nat),i= .int .i64 a∧a<=b.length∧Hid (zz w wr)∧Hid (ah wr w.heap.size 25 [.slice p fs.length c,.slice n b.length q])∧Hid (ah wr (w.heap.size+1) 25 [.slice B fs.length d,.slice k b.length l])) (λi _=>b.length - (intOf i).toNat)
 case atStart=>exact⟨0,rfl,zu _,e,h,g⟩
 case round=>
  clear e h g;obtain⟨a,rfl,X,e,h,g⟩:=hrel;have N:=h.cell 0;have bo:=h.cell 1;have M:=g.cell 0;have bl:=g.cell 1;have P:=h.lt;have O:=g.lt;by_cases m:a<b.length
  ·obtain⟨b5,bq,rfl,b3,v⟩:=L.below e.out rfl (by simp;omega);obtain⟨b4,bp,rfl,b2,u⟩:=C.below e.out rfl (by simp;omega);have F:=v a _ (ti m);have z:=u a _ (ti m);clear v u;have bt:(0:Int)<=(a:Int)∧(a:Int)<(b.length:Int):=by omega
   generalize b[a]=x at F z;go_wp2_with fail;go_quiet (fail);go_wp2_with fail;go_roundw
   case rel=>exact⟨a+1,by go_num,by omega,ae e.out nq,h.drewN nq,g.drewN nq⟩
   case measure=>simp[intOf];omega
  ·obtain rfl:a=b.length:=by omega
   go_wp2_with fail;clear N bo M bl P O m X;go_loopw [6] (λi wr=> ∃(a:Nat),i= .int .i64 a∧a<=fs.length∧Hid (zz w wr)∧Hid (ah wr w.heap.size 25 [.slice p fs.length c,.slice n b.length q])∧Hid (ah wr (w.heap.size+1) 25 [.slice B fs.length d,.slice k b.length l])) (λi _=>fs.length - (intOf i).toNat)
   case atStart=>exact⟨0,rfl,zu _,e,h,g⟩
   case round=>
    clear e h g;obtain⟨a,rfl,X,e,h,g⟩:=hrel;have N:=h.cell 0;have M:=g.cell 0;have P:=h.lt;have O:=g.lt;by_cases m:a<fs.length
    ·have E:a<gs.length:=by have:=a8.1;omega
     have W:=za (b9.below e.out);have V:=za (b8.below e.out);obtain⟨b5,bq,rfl,b3,v⟩:=W.at_ (by omega);obtain⟨b4,bp,rfl,b2,u⟩:=V.at_ (by omega);obtain⟨F,a1,a0,av,ar,ap⟩:=v a m;obtain⟨z,S,R,H,Q,G⟩:=u a E;obtain⟨a7,a6,a5,a4,a3,a2⟩:=a8.2 a m E;have L:=za (W.taken _ (zk m));have C:=za (V.taken _ (zk E));have U:=za (W.code _ (zk m));have A:=za (V.code _ (zk E));have T:=za (ca.out _ (zk m));rw[a7]at z;rw[a6]at S;rw[a5]at R;rw[a4]at H C;rw[a3]at Q;rw[a2]at G A;clear v u a7 a6 a5 a4 a3 a2;have bt:(0:Int)<=(a:Int)∧(a:Int)<(fs.length:Int):=by omega
     have K:=za (λ(D:World) (y:zz wr D)=>JQ fs[a].TA gs[a].TA fs[a].tc gs[a].tc fs[a].taken D (L.below y rfl) (C.below y rfl) T.1);generalize fs[a]=o at F a1 a0 av ar ap z S R H Q G K U A T;generalize gs[a]=o' at H G K A;go_wp2_with (first
      |(go_at_call 30;refine(K.out _ (aU wr _ _)).mono ?_;rintro co cf ⟨rfl,t,rfl⟩))
     have s:=za (ae (aU wr (.cells #[.string o.name,.int .i64 o.params,.int .i64 o.slots,.slice o.TA o.taken.length o.tc,.int .i64 o.around,.slice o.CA o.code.length o.cc] 47) (.cells #[.string o.name,.int .i64 o.params,.int .i64 o.slots,.slice o'.TA o.taken.length o'.tc,.int .i64 o.around,.slice o'.CA o.code.length o'.cc] 47)) t);have J:=za (((ah.made wr 47 [.string o.name,.int .i64 o.params,.int .i64 o.slots,.slice o.TA o.taken.length o.tc,.int .i64 o.around,.slice o.CA o.code.length o.cc]).alloc (.cells #[.string o.name,.int .i64 o.params,.int .i64 o.slots,.slice o'.TA o.taken.length o'.tc,.int .i64 o.around,.slice o'.CA o.code.length o'.cc] 47)).drewN t);have I:=za (show ah (((wr.alloc (.cells #[.string o.name,.int .i64 o.params,.int .i64 o.slots,.slice o.TA o.taken.length o.tc,.int .i64 o.around,.slice o.CA o.code.length o.cc] 47)).alloc (.cells #[.string o.name,.int .i64 o.params,.int .i64 o.slots,.slice o'.TA o.taken.length o'.tc,.int .i64 o.around,.slice o'.CA o.code.length o'.cc] 47)).drewN t) (wr.heap.size+1) 47 [.string o.name,.int .i64 o.params,.int .i64 o.slots,.slice o'.TA o.taken.length o'.tc,.int .i64 o.around,.slice o'.CA o.code.length o'.cc] by
      have:=(ah.made (wr.alloc (.cells #[.string o.name,.int .i64 o.params,.int .i64 o.slots,.slice o.TA o.taken.length o.tc,.int .i64 o.around,.slice o.CA o.code.length o.cc] 47)) 47 [.string o.name,.int .i64 o.params,.int .i64 o.slots,.slice o'.TA o.taken.length o'.tc,.int .i64 o.around,.slice o'.CA o.code.length o'.cc]).drewN t;simpa using this)
     generalize((wr.alloc (.cells #[.string o.name,.int .i64 o.params,.int .i64 o.slots,.slice o.TA o.taken.length o.tc,.int .i64 o.around,.slice o.CA o.code.length o.cc] 47)).alloc (.cells #[.string o.name,.int .i64 o.params,.int .i64 o.slots,.slice o'.TA o.taken.length o'.tc,.int .i64 o.around,.slice o'.CA o.code.length o'.cc] 47)).drewN t=w5 at s J I;have ba:w5.cell? ⟨wr.heap.size,5,none⟩=some (.slice o.CA o.code.length o.cc):=J.cell 5;have a9:w5.cell? ⟨wr.heap.size+1,5,none⟩=some (.slice o'.CA o.code.length o'.cc):=I.cell 5;have cg:=T.2;have cd:=J.lt;have cb:=I.lt;have b7:=za (U.below s.out);have b6:=za (A.below s.out);clear U A N M F a1 a0 av ar ap z S R H Q G J I K L C;go_loopw [10] (λi D=> ∃(j r:Nat),D=w5.drewN r∧i= .int .i64 j∧j<=o.code.length) (λi _=>o.code.length - (intOf i).toNat)
     case atStart=>exact⟨0,0,rfl,rfl,zu _⟩
     case round=>
      obtain⟨j,r,rfl,rfl,ck⟩:=hrel;by_cases Y:j<o.code.length
      ·obtain⟨cv,cs,b1,cn,aa⟩:=b7.at_ (by omega);obtain⟨ct,cp,b0,cl,Z⟩:=b6.at_ (by omega);rw[b1]at ba;rw[b0]at a9;obtain⟨bk,bj,bi,be,bc⟩:=aa j Y;obtain⟨t0,t1,t2,t3,bb⟩:=Z j Y;clear aa Z;have cj:(0:Int)<=(j:Int)∧(j:Int)<(o.code.length:Int):=by omega
       generalize o.code[j]=x at bk bj bi be bc t0 t1 t2 t3 bb;go_wp2_with fail;go_quiet (fail);go_wp2_with fail;go_roundw
       case rel=>exact⟨j+1,r+nq,rfl,by go_num,by omega⟩
       case measure=>simp[intOf];omega
      ·obtain rfl:j=o.code.length:=by omega
       go_wp2_with fail;go_roundw
       case rel=>exact⟨a+1,by go_num,by omega,za (ae (ac e.out s.out e.size) r),za ((h.below s.out P).drewN r),za ((g.below s.out O).drewN r)⟩
       case measure=>simp[intOf];omega
    ·obtain rfl:a=fs.length:=by omega
     go_wp2_with fail;go_ret;exact⟨rfl,e⟩
end
section
set_option maxRecDepth 20000
open Go.RowKit Go.Proofs.PeepPlain
def we(gs:List Fn)(B m:Option Addr)(d h i f:Nat)(w:World)(s:bD w B gs)(C:f<gs.length)(af:gs.length<=2000000)(U:gs[f].code.length<=60000)(I:WF gs[f].code)(F:∀k,k<gs[f].code.length->al (PeepPlain.aq gs[f].code k)->PeepPlain.aq gs[f].code (bE gs[f].code k)≠34):
 Calls prog 29 #[.agg #[.slice B gs.length d,.slice m h i],.int .i64 (f:Int)] w λe w'=>e= .returned (.bool true)∧zz w w':=by
 have v:=za (s.code _ (zk C));have u:=za I;have J:=za F;obtain⟨t,p,rfl,W,D⟩:=s.at_ (by omega);obtain⟨ad,ab,aa,Z,Y,H⟩:=D f C;have T:(0:Int)<=(f:Int)∧(f:Int)<(gs.length:Int):=by omega
 clear D I F s ad ab aa Z Y;generalize gs[f]=o at H v u J U;go_enter func29,ntmps29;go_wp2_with fail;have L:=za (below1 w (.cells #[.slice (some ⟨t,p,none⟩) gs.length d,.slice m h i] 25));have K:=za (v.below (below1 w (.cells #[.slice (some ⟨t,p,none⟩) gs.length d,.slice m h i] 25)));generalize w.alloc (.cells #[.slice (some ⟨t,p,none⟩) gs.length d,.slice m h i] 25)=w1 at L K;clear H v W T;go_loopw [6,7] (λn _ wr=> ∃(k c:Nat),wr=w1.drewN c∧n= .int .i64 k∧k<=o.code.length) (λn _ _=>o.code.length - (intOf n).toNat)
 case atStart=>exact⟨0,0,rfl,rfl,zu _⟩
 case round=>
  obtain⟨k,c,rfl,rfl,an⟩:=hrel;by_cases b:k<o.code.length
  ·obtain⟨a0,av,V,ar,l⟩:=K.at_ (by omega);rw[V];obtain⟨z,R,Q,P,O⟩:=l k b;have ao:(0:Int)<=(k:Int)∧(k:Int)<(o.code.length:Int):=by omega
   clear Q P O;by_cases g:al o.code[k].op
   ·have r:decide (al o.code[k].op)=true:=ze g;have j:al (PeepPlain.aq o.code k):=by rw[eG b];exact g
    have G:=u.low k b j;have E:=mT b G;have A:=u.high k b j;have q:=J.out k b j;rw[eG A]at q;rw[E]at R;obtain⟨t0,t1,t2,t3,N⟩:=l (bE o.code k) A;have ap:(0:Int)<=(bE o.code k:Int)∧(bE o.code k:Int)<(o.code.length:Int):=by omega
    have S:(o.code[bE o.code k].op !=34)=true:=zO.2 q;clear g j G E l q t1 t2 t3 N;generalize bE o.code k=a at *
    generalize o.code[a].op=y at t0 S;generalize o.code[k].op=x at z r;go_wp2_with (go_at_call 63;refine(kY _ _).mono ?_;rintro X M ⟨rfl,rfl⟩);go_quiet (fail);go_wp2_with fail;go_roundw
    case rel=>exact⟨k+1,c+nq,rfl,by go_num,b⟩
    case measure=>simp[intOf];omega
   ·have r:decide (al o.code[k].op)=false:=zg g;clear g l;generalize o.code[k].op=x at z r;go_wp2_with (go_at_call 63;refine(kY _ _).mono ?_;rintro X M ⟨rfl,rfl⟩);go_quiet (fail);go_wp2_with fail;go_roundw
    case rel=>exact⟨k+1,c+nq,rfl,by go_num,b⟩
    case measure=>simp[intOf];omega
  ·obtain rfl:k=o.code.length:=by omega
   go_wp2_with fail;go_ret;exact⟨rfl,ae L.out c⟩
end
end Go.Proofs.YtmecmlpoallpcaaGreatDoor

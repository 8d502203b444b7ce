/- Parts of the proof: Forms -/
import Derived.Test.YtmecmlpoallpcaaGreatDoorM05
import Derived.Deep.CutBlock
set_option linter.all false
set_option maxHeartbeats 8000000
namespace Go.Proofs.YtmecmlpoallpcaaGreatDoor
open Go.Proofs.Tryz
section
open Go.RowKit Go.Proofs.PeepPlain
def di(f:PeepPlain.Pt):List Value:=[.string f.word,.int .i64 f.a,.int .i64 f.text,.string f.takes,.string f.lays]
def Oe(f:PeepPlain.Pt):Value:= .agg (di f).toArray
def ka(l:List PeepPlain.Pt):List Value:=l.flatMap di
def KQ(l:List PeepPlain.Pt)(i:Nat)(b:i<l.length):(ka l)[i * 5]?=some (.string l[i].word)∧(ka l)[i * 5+1]?=some (.int .i64 l[i].a)∧(ka l)[i * 5+2]?=some (.int .i64 l[i].text)∧(ka l)[i * 5+3]?=some (.string l[i].takes)∧(ka l)[i * 5+4]?=some (.string l[i].lays):=by
 induction l generalizing i with
 |nil=>simp at b
 |cons e l ih=>
  cases i with
  |zero=>simp[ka,di]
  |succ i=>
   have:=ih i (by simpa using b);simp only[ka,List.flatMap_cons]at *
   have c:(di e).length=5:=rfl;refine⟨?_,?_,?_,?_,?_⟩
   ·rw[zJ (by omega),show(i+1) * 5 - (di e).length=i * 5 by omega];simpa using this.1
   ·rw[zJ (by omega),show(i+1) * 5+1 - (di e).length=i * 5+1 by omega];simpa using this.2.1
   ·rw[zJ (by omega),show(i+1) * 5+2 - (di e).length=i * 5+2 by omega];simpa using this.2.2.1
   ·rw[zJ (by omega),show(i+1) * 5+3 - (di e).length=i * 5+3 by omega];simpa using this.2.2.2.1
   ·rw[zJ (by omega),show(i+1) * 5+4 - (di e).length=i * 5+4 by omega];simpa using this.2.2.2.2
def tf:(prog.info? 100).map (·.size)=some 5:=by kernel_rfl
def Nf:(prog.info? 148).map (·.size)=some (ka jx).length:=by kernel_rfl
def lW:List Value:=di k7
def m8:List Value:=(List.replicate 54 lW).flatten
def mR:m8.length=270:=by kernel_rfl
def rg:(ka jx).length=270:=by kernel_rfl
def IF:∀u∈ka jx,u.oneCell'=true:=by
 intro u a;simp only[ka,List.mem_flatMap,di]at a;obtain⟨c,_,b⟩:=a;simp at b;rcases b with rfl|rfl|rfl|rfl|rfl<;>rfl
def LW(w:World):(Instr.alloc 148 true (.tuple #[])).run prog w= .ok (.pointer (some ⟨w.heap.size,0,none⟩)) (w.alloc (.cells m8.toArray 148)):=by kernel_rfl
def wm{c:Array Oper}{b:List Oper}{o:Oper}{a:Act}{d:Exit->Act->World->Prop}(w:World)(H:Nat)(f:o.guard=none)(e:o.op= .alloc 148)(h:w.heap.size=H)
 (i:∀w',ah w' H 148 m8->Below H w w'->w'.heap.size=H+1->wpList prog c d b (a.put o.dst (.pointer (some ⟨H,0,none⟩))) w'):wpList prog c d (o::b) a w:=by
 subst h;refine wpList_plain f λj g=>?_;unfold Oper.wp execOp;simp only[e,Sem.run_bind,LW,Result.andThen_ok,Sem.run_pure];exact g _ _ (i _ (ah.made _ _ _) (below1 w _) (by simp))
def vM{e:Array Oper}{c:List Oper}{o:Oper}{a:Act}{f:Exit->Act->World->Prop}(w:World)(d:Array (Nat × Operand))(j:o.guard=none)(h:o.op= .build 148 d)
 (g:(Instr.build 148 (d.map λ(i,x)=>(i,a.eval x))).run prog w= .ok (.agg (ka jx).toArray) w)
 (l:∀b,b= .agg (ka jx).toArray->wpList prog e f c (a.put o.dst b) w):wpList prog e f (o::c) a w:=by
 refine wpList_plain j λm k=>?_;unfold Oper.wp execOp;simp only[h,Sem.run_bind,g,Result.andThen_ok,Sem.run_pure];exact k _ _ (l _ rfl)
def J2{k:Nat}(a:k<54):jx[k]'a=aj k:=by
 unfold aj;rw[zV,zd,zo a];rfl
def oK{old a:List Value}(b:a.length=old.length):old.take 0++a++old.drop (0+a.length)=a:=by
 rw[zP,b,List.drop_length];simp
def yM{a:Func}{p:Tmp}(d:a.results= #[.cell p 100])(tmps:Array Value)(w:World)(g:Nat)(f:PeepPlain.Pt)(c:tmps.getD p undef= .pointer (some ⟨g,0,none⟩))(b:ah w g 100 (di f)):
 (results a tmps).run prog w= .ok (Oe f) w:=
 results_cell_row d tmps w g 100 (di f).toArray (0,0) _ c b underlying100 rfl (by rw[tf];rfl)
def uj{op:Int}(a:op<1∨53<op):aj op=k7:=by
 unfold aj;rcases a with a|a
 ·have:op.toNat=0:=by omega
  rw[this];rfl
 ·rw[zd,zM (by show 54<=op.toNat;omega)];rfl
def Oo(w a:World):Prop:=ah a (w.heap.size+1) 148 (ka jx)∧ah a w.heap.size 100 lW∧zz w a
set_option maxRecDepth 200000 in
def I0(op:Int)(w:World):
 Calls prog 70 #[.int .i64 op] w λe w'=>e= .returned (Oe (aj op))∧zz w w':=by
 go_enter func70,ntmps70;go_upto_region 1 with fail;go_cut [2,3]from 4 (λF E C=>F= .pointer (some ⟨w.heap.size,0,none⟩)∧E= .pointer (some ⟨w.heap.size+1,0,none⟩)∧Hid (Oo w C))
 case first=>
  go_wp2_with (first
   |(with_reducible (refine vM _ _ (by rfl) (by rfl) ?_ ?_);kernel_rfl;intro W A;have B:=za A;clear A)
   |(with_reducible (refine wm _ (w.heap.size+1) (by rfl) (by rfl) (by simp) ?_);intro k v n H
     have K:Hid (ah k (w.heap.size+1) 148 m8):=za v;have I:Hid (ah k w.heap.size 100 lW):=za ((ah.made w 100 lW).below n (by omega));have L:Hid (zz w k):=za ((below1 w _).trans (az n (by omega)));clear v n H)
   |(have G:=B.out;refine aP (.tmp 3) (.tmp 58) 148 (w.heap.size+1) 0 148 m8 (ka jx) _ _ rfl rfl rfl rfl (by rw[B.out];rfl) Nf IF K.out (by rw[mR,rg];omega) ?_
     intro D l z y;rw[oK (by rw[mR,rg])]at l;have J:Hid (Oo w D):=za ⟨l,(y w.heap.size (by omega)).trans I.out,L.trans (z w.heap.size (by omega))⟩;clear l z y G))
  go_meet
  case rel=>exact⟨rfl,rfl,J⟩
 case rest=>
  obtain⟨rfl,rfl,c⟩:=hcut;by_cases m:1<=op∧op<=53
  ·obtain⟨a,rfl⟩:∃a:Nat,op=a:=⟨op.toNat,by omega⟩
   have x:a<jx.length:=by show a<54;omega
   obtain⟨t,s,r,q,p⟩:=KQ jx a x;have O:(0:Int)<=(a:Int)∧(a:Int)<54:=by omega
   have N:¬(a:Int)<1:=by omega
   have M:¬(53:Int)<(a:Int):=by omega
   obtain⟨h,o⟩:∃h,h=jx[a]:=⟨_,rfl⟩
   rw[<-o]at t s r q p;have j:Hid (aj a=h):=za (by rw[o];exact(J2 (by omega)).symm);have V:=(c.1.cell (a * 5)).trans t;have U:=(c.1.cell (a * 5+1)).trans s;have T:=(c.1.cell (a * 5+2)).trans r;have S:=(c.1.cell (a * 5+3)).trans q;have R:=(c.1.cell (a * 5+4)).trans p;clear t s r q p o x m;go_wp2_with (first
    |(refine aP (.tmp 2) (.tmp 68) 100 w.heap.size 0 100 lW (di h) _ _ rfl rfl rfl rfl rfl tf (by simp[di,Value.oneCell']) c.2.1 (by simp[lW,di]) ?_
      intro u b d f;rw[oK (by simp[lW,di])]at b;have g:=za b;have i:=za (c.2.2.trans (d w.heap.size (zb _)));clear b d f))
   refine bodyPost_ret (yM rfl _ _ _ h rfl g.out) rfl ?_;exact⟨by rw[j.out],i⟩
  ·have j:Hid (aj op=k7):=za (uj (by omega));by_cases Q:op<1
   ·clear m;go_wp2_with (first
     |(refine aP (.tmp 2) (.tmp 65) 100 w.heap.size 0 100 lW (di k7) _ _ rfl rfl rfl rfl rfl tf (by simp[di,Value.oneCell']) c.2.1 (by simp[lW,di]) ?_
       intro u b d f;rw[oK (by simp[lW,di])]at b;have g:=za b;have i:=za (c.2.2.trans (d w.heap.size (zb _)));clear b d f))
    refine bodyPost_ret (yM rfl _ _ _ k7 rfl g.out) rfl ?_;exact⟨by rw[j.out],i⟩
   ·have P:53<op:=by omega
    clear m;go_wp2_with (first
     |(refine aP (.tmp 2) (.tmp 65) 100 w.heap.size 0 100 lW (di k7) _ _ rfl rfl rfl rfl rfl tf (by simp[di,Value.oneCell']) c.2.1 (by simp[lW,di]) ?_
       intro u b d f;rw[oK (by simp[lW,di])]at b;have g:=za b;have i:=za (c.2.2.trans (d w.heap.size (zb _)));clear b d f))
    refine bodyPost_ret (yM rfl _ _ _ k7 rfl g.out) rfl ?_;exact⟨by rw[j.out],i⟩
end
end Go.Proofs.YtmecmlpoallpcaaGreatDoor

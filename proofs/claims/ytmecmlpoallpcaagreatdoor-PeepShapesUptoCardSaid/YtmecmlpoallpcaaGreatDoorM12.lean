/- Parts of the proof: RefY2 RefY3 RefY4 -/
import Derived.Test.YtmecmlpoallpcaaGreatDoorM08
import Derived.Test.YtmecmlpoallpcaaGreatDoorM11
import Derived.Deep.QuietTactic
import Derived.BigQuiet
import Derived.Deep.RegionHeld3
set_option linter.all false
set_option maxHeartbeats 8000000
namespace Go.Proofs.YtmecmlpoallpcaaGreatDoor
open Go.Proofs.Tryz
section
open Go.RowKit
def yo:(prog.info? 139).map (·.size)=some 2:=by kernel_rfl
def jH{e:Array Oper}{d:List Oper}{o:Oper}{a:Act}{i:Exit->Act->World->Prop}(x c:Operand)(g:Nat)(old b:List Value)(w:World)
 (q:o.guard=none)(m:o.op= .store 139 x c)(l:a.eval x= .pointer (some ⟨g,0,none⟩))(j:a.eval c= .agg b.toArray)
 (f:ah w g 139 old)(n:old.length=2)(h:b.length=2)(s:b.all (·.oneCell')=true)
 (t:∀w',ah w' g 139 b->(∀B,B<=g->Below B w w')->(∀k,k≠g->w'.heap[k]?=w.heap[k]?)->wpList prog e i d (a.put o.dst undef) w'):wpList prog e i (o::d) a w:=
 wpList_store_row q 139 x c m g b.toArray l j 139 old.toArray f (by rw[yo];simp[h]) (by simp[n,h]) (by simpa using s)
  (t _ (f.turn b) (λB r=>below_setRow (zZ _ _) r _) (λk p=>po w g k _ p))
def Gg(w:World)(g:Nat)(a:List Value)(b:ah w g 139 a)(c:a.length=2):(loadVar 139 ⟨g,0,none⟩).run prog w= .ok (.agg a.toArray) w:=
 run_loadVar_row w g 139 139 a.toArray (0,0) _ b underlying139 rfl (by rw[yo];simp[c])
def nj{c:Func}{p q:Tmp}(n:c.results= #[.cell p 131,.cell q 139])(tmps:Array Value)(w:World)(g:Nat)(b:List Value)(k:Nat)(a:List Value)(j:tmps.getD p undef= .pointer (some ⟨g,0,none⟩))(h:tmps.getD q undef= .pointer (some ⟨k,0,none⟩))(e:ah w g 131 b)(d:ah w k 139 a)(m:b.length=11)(l:a.length=2):
 (results c tmps).run prog w= .ok (.tuple #[.agg b.toArray,.agg a.toArray]) w:=by
 have i:tmps[p]?.getD undef= .pointer (some ⟨g,0,none⟩):=by simpa using j
 have f:tmps[q]?.getD undef= .pointer (some ⟨k,0,none⟩):=by simpa using h
 simp[results,n,i,f,asAddr,Result.andThen,Ap w g b e m,Gg w k a d l]
def gK(d:aH)(w:World)(h:d.t.size<=9223372036854775806):Calls prog 124 #[d.val] w λe w'=>e= .returned (.string (cu d))∧zz w w':=by
 unfold aH.val cu;have g:(1:Int)+(d.t.size:Int)<=9223372036854775807:=by omega
 by_cases a:d.k=0
 ·rw[zn a];have f:(d.k==0)=true:=by simp[a]
  clear a;go_enter func124,ntmps124;go_wp2;go_returns;exact⟨rfl,by go_grown⟩
 ·rw[zm a];have f:(d.k==0)=false:=by simp[a]
  by_cases b:d.k=9
  ·rw[zn b];have c:(d.k==9)=true:=by simp[b]
   clear a b;go_enter func124,ntmps124;go_wp2;go_returns;exact⟨rfl,by go_grown⟩
  ·rw[zm b];have c:(d.k==9)=false:=by simp[b]
   clear a b;go_enter func124,ntmps124;go_wp2;go_returns;exact⟨rfl,by go_grown⟩
def eV(x a:ByteArray)(w:World):Calls prog 123 #[.string x,.string a] w λe w'=>e= .returned (.agg #[.string x,.string a])∧zz w w':=by
 go_enter func123,ntmps123;go_wp2;go_returns;exact⟨rfl,by go_grown⟩
set_option maxRecDepth 200000 in
def Fm(op:ByteArray)(t s:ByteArray)(n f b d c g:Int)(i l:Option Addr)(h pc m j:Nat)(k:Int)(W:(op.toList==[45])=false)(V:(op.toList==[94])=false)(U:(op.toList==[33])=false)(w:World)(N:op.size+t.size<=3000000):Calls prog 97 #[.string op,(aH.mk k t n f s b d c g i h pc l m j).val] w λe w'=>e= .returned (.tuple #[aS.val,.agg #[.string cA,.string (op++⟨#[32]⟩++cu (aH.mk k t n f s b d c g i h pc l m j))]])∧zz w w':=by
 have B:=λw=>gK (aH.mk k t n f s b d c g i h pc l m j) w (by simp only;omega);have q:=dx (aH.mk k t n f s b d c g i h pc l m j);generalize cu (aH.mk k t n f s b d c g i h pc l m j)=nm at *
 have T:(op.size:Int)+1<=9223372036854775807:=by simp only at q;omega
 have S:((op++⟨#[32]⟩:ByteArray).size:Int)+(nm.size:Int)<=9223372036854775807:=by rw[ByteArray.size_append];simp only at q;show((op.size+1:Nat):Int)+_<=_;omega
 unfold aH.val at *
 have K:=za B;clear B q N;go_enter func97,ntmps97;go_wp2_with (first
  |(go_at_call 124;refine(K.out _).mono ?_;rintro O p ⟨rfl,a⟩
    have u:Hid (ah p (w.heap.size+1) 131 aG):=(((am w _ 131 aG).alloc _).alloc _).below a (by simp<;>omega);have r:Hid (ah p (w.heap.size+1+1) 139 [.string ⟨#[]⟩,.string ⟨#[]⟩]):=((bh w _ _ 139 [.string ⟨#[]⟩,.string ⟨#[]⟩]).alloc _).below a (by simp<;>omega);have v:Hid (zz w p):=ac (n0 w _ _ _ _) a (by simp<;>omega);clear a K)
  |(go_at_call 123;refine(eV _ _ _).mono ?_;rintro O o ⟨rfl,a⟩
    have J:Hid (ah o (w.heap.size+1) 131 aG):=u.below a u.lt;have H:Hid (ah o (w.heap.size+1+1) 139 [.string ⟨#[]⟩,.string ⟨#[]⟩]):=r.below a r.lt;have M:Hid (zz w o):=ac v.out a v.size;clear a v u r)
  |(refine bL (.tmp 4) (.tmp 12) (w.heap.size+1) aG aS.cells _ rfl rfl rfl rfl J.out rfl rfl rfl ?_;intro y A F D
    have L:Hid (zz w y):=M.trans (F _ (by omega));have I:=za A;have G:Hid (ah y (w.heap.size+1+1) 139 [.string ⟨#[]⟩,.string ⟨#[]⟩]):=(D _ (by omega)).trans H.out;clear M J F A D H)
  |(refine jH (.tmp 5) (.tmp 18) (w.heap.size+1+1) _ _ _ rfl rfl rfl rfl G.out rfl rfl rfl ?_;intro x z E C
    have R:Hid (zz w x):=L.trans (E _ (by omega));have P:=za z;have Q:Hid (ah x (w.heap.size+1) 131 aS.cells):=(C _ (by omega)).trans I.out;clear L I G E z C))
 exact bodyPost_ret (nj rfl _ _ (w.heap.size+1) _ (w.heap.size+1+1) _ rfl rfl Q.out P.out rfl rfl) rfl ⟨rfl,R⟩
set_option maxRecDepth 200000 in
def Gb(t s:ByteArray)(n f b d c g:Int)(i l:Option Addr)(h pc m j:Nat)(k:Int)(V:(k==2)=false)(U:(k==3)=false)(w:World)(N:(⟨#[45]⟩:ByteArray).size+t.size<=3000000):Calls prog 97 #[.string ⟨#[45]⟩,(aH.mk k t n f s b d c g i h pc l m j).val] w λe w'=>e= .returned (.tuple #[aS.val,.agg #[.string cA,.string ((⟨#[45]⟩:ByteArray)++⟨#[32]⟩++cu (aH.mk k t n f s b d c g i h pc l m j))]])∧zz w w':=by
 have B:=λw=>gK (aH.mk k t n f s b d c g i h pc l m j) w (by simp only;omega);have q:=dx (aH.mk k t n f s b d c g i h pc l m j);generalize cu (aH.mk k t n f s b d c g i h pc l m j)=nm at *
 have T:((⟨#[45]⟩:ByteArray).size:Int)+1<=9223372036854775807:=by simp only at q;omega
 have S:(((⟨#[45]⟩:ByteArray)++⟨#[32]⟩:ByteArray).size:Int)+(nm.size:Int)<=9223372036854775807:=by rw[ByteArray.size_append];simp only at q;show(((⟨#[45]⟩:ByteArray).size+1:Nat):Int)+_<=_;omega
 unfold aH.val at *
 have K:=za B;clear B q N;go_enter func97,ntmps97;go_wp2_with (first
  |(go_at_call 124;refine(K.out _).mono ?_;rintro O p ⟨rfl,a⟩
    have u:Hid (ah p (w.heap.size+1) 131 aG):=(((am w _ 131 aG).alloc _).alloc _).below a (by simp<;>omega);have r:Hid (ah p (w.heap.size+1+1) 139 [.string ⟨#[]⟩,.string ⟨#[]⟩]):=((bh w _ _ 139 [.string ⟨#[]⟩,.string ⟨#[]⟩]).alloc _).below a (by simp<;>omega);have v:Hid (zz w p):=ac (n0 w _ _ _ _) a (by simp<;>omega);clear a K)
  |(go_at_call 123;refine(eV _ _ _).mono ?_;rintro O o ⟨rfl,a⟩
    have J:Hid (ah o (w.heap.size+1) 131 aG):=u.below a u.lt;have H:Hid (ah o (w.heap.size+1+1) 139 [.string ⟨#[]⟩,.string ⟨#[]⟩]):=r.below a r.lt;have M:Hid (zz w o):=ac v.out a v.size;clear a v u r)
  |(refine bL (.tmp 4) (.tmp 12) (w.heap.size+1) aG aS.cells _ rfl rfl rfl rfl J.out rfl rfl rfl ?_;intro y A F D
    have L:Hid (zz w y):=M.trans (F _ (by omega));have I:=za A;have G:Hid (ah y (w.heap.size+1+1) 139 [.string ⟨#[]⟩,.string ⟨#[]⟩]):=(D _ (by omega)).trans H.out;clear M J F A D H)
  |(refine jH (.tmp 5) (.tmp 18) (w.heap.size+1+1) _ _ _ rfl rfl rfl rfl G.out rfl rfl rfl ?_;intro x z E C
    have R:Hid (zz w x):=L.trans (E _ (by omega));have P:=za z;have Q:Hid (ah x (w.heap.size+1) 131 aS.cells):=(C _ (by omega)).trans I.out;clear L I G E z C))
 exact bodyPost_ret (nj rfl _ _ (w.heap.size+1) _ (w.heap.size+1+1) _ rfl rfl Q.out P.out rfl rfl) rfl ⟨rfl,R⟩
set_option maxRecDepth 200000 in
def Gh(t s:ByteArray)(n f b d c g:Int)(i l:Option Addr)(h pc m j:Nat)(k:Int)(U:(k==2)=false)(w:World)(N:(⟨#[94]⟩:ByteArray).size+t.size<=3000000):Calls prog 97 #[.string ⟨#[94]⟩,(aH.mk k t n f s b d c g i h pc l m j).val] w λe w'=>e= .returned (.tuple #[aS.val,.agg #[.string cA,.string ((⟨#[94]⟩:ByteArray)++⟨#[32]⟩++cu (aH.mk k t n f s b d c g i h pc l m j))]])∧zz w w':=by
 have B:=λw=>gK (aH.mk k t n f s b d c g i h pc l m j) w (by simp only;omega);have q:=dx (aH.mk k t n f s b d c g i h pc l m j);generalize cu (aH.mk k t n f s b d c g i h pc l m j)=nm at *
 have T:((⟨#[94]⟩:ByteArray).size:Int)+1<=9223372036854775807:=by simp only at q;omega
 have S:(((⟨#[94]⟩:ByteArray)++⟨#[32]⟩:ByteArray).size:Int)+(nm.size:Int)<=9223372036854775807:=by rw[ByteArray.size_append];simp only at q;show(((⟨#[94]⟩:ByteArray).size+1:Nat):Int)+_<=_;omega
 unfold aH.val at *
 have K:=za B;clear B q N;go_enter func97,ntmps97;go_wp2_with (first
  |(go_at_call 124;refine(K.out _).mono ?_;rintro O p ⟨rfl,a⟩
    have u:Hid (ah p (w.heap.size+1) 131 aG):=(((am w _ 131 aG).alloc _).alloc _).below a (by simp<;>omega);have r:Hid (ah p (w.heap.size+1+1) 139 [.string ⟨#[]⟩,.string ⟨#[]⟩]):=((bh w _ _ 139 [.string ⟨#[]⟩,.string ⟨#[]⟩]).alloc _).below a (by simp<;>omega);have v:Hid (zz w p):=ac (n0 w _ _ _ _) a (by simp<;>omega);clear a K)
  |(go_at_call 123;refine(eV _ _ _).mono ?_;rintro O o ⟨rfl,a⟩
    have J:Hid (ah o (w.heap.size+1) 131 aG):=u.below a u.lt;have H:Hid (ah o (w.heap.size+1+1) 139 [.string ⟨#[]⟩,.string ⟨#[]⟩]):=r.below a r.lt;have M:Hid (zz w o):=ac v.out a v.size;clear a v u r)
  |(refine bL (.tmp 4) (.tmp 12) (w.heap.size+1) aG aS.cells _ rfl rfl rfl rfl J.out rfl rfl rfl ?_;intro y A F D
    have L:Hid (zz w y):=M.trans (F _ (by omega));have I:=za A;have G:Hid (ah y (w.heap.size+1+1) 139 [.string ⟨#[]⟩,.string ⟨#[]⟩]):=(D _ (by omega)).trans H.out;clear M J F A D H)
  |(refine jH (.tmp 5) (.tmp 18) (w.heap.size+1+1) _ _ _ rfl rfl rfl rfl G.out rfl rfl rfl ?_;intro x z E C
    have R:Hid (zz w x):=L.trans (E _ (by omega));have P:=za z;have Q:Hid (ah x (w.heap.size+1) 131 aS.cells):=(C _ (by omega)).trans I.out;clear L I G E z C))
 exact bodyPost_ret (nj rfl _ _ (w.heap.size+1) _ (w.heap.size+1+1) _ rfl rfl Q.out P.out rfl rfl) rfl ⟨rfl,R⟩
set_option maxRecDepth 200000 in
def FI(t s:ByteArray)(n f b d c g:Int)(i l:Option Addr)(h pc m j:Nat)(k:Int)(U:(k==1)=false)(w:World)(N:(⟨#[33]⟩:ByteArray).size+t.size<=3000000):Calls prog 97 #[.string ⟨#[33]⟩,(aH.mk k t n f s b d c g i h pc l m j).val] w λe w'=>e= .returned (.tuple #[aS.val,.agg #[.string cA,.string ((⟨#[33]⟩:ByteArray)++⟨#[32]⟩++cu (aH.mk k t n f s b d c g i h pc l m j))]])∧zz w w':=by
 have B:=λw=>gK (aH.mk k t n f s b d c g i h pc l m j) w (by simp only;omega);have q:=dx (aH.mk k t n f s b d c g i h pc l m j);generalize cu (aH.mk k t n f s b d c g i h pc l m j)=nm at *
 have T:((⟨#[33]⟩:ByteArray).size:Int)+1<=9223372036854775807:=by simp only at q;omega
 have S:(((⟨#[33]⟩:ByteArray)++⟨#[32]⟩:ByteArray).size:Int)+(nm.size:Int)<=9223372036854775807:=by rw[ByteArray.size_append];simp only at q;show(((⟨#[33]⟩:ByteArray).size+1:Nat):Int)+_<=_;omega
 unfold aH.val at *
 have K:=za B;clear B q N;go_enter func97,ntmps97;go_wp2_with (first
  |(go_at_call 124;refine(K.out _).mono ?_;rintro O p ⟨rfl,a⟩
    have u:Hid (ah p (w.heap.size+1) 131 aG):=(((am w _ 131 aG).alloc _).alloc _).below a (by simp<;>omega);have r:Hid (ah p (w.heap.size+1+1) 139 [.string ⟨#[]⟩,.string ⟨#[]⟩]):=((bh w _ _ 139 [.string ⟨#[]⟩,.string ⟨#[]⟩]).alloc _).below a (by simp<;>omega);have v:Hid (zz w p):=ac (n0 w _ _ _ _) a (by simp<;>omega);clear a K)
  |(go_at_call 123;refine(eV _ _ _).mono ?_;rintro O o ⟨rfl,a⟩
    have J:Hid (ah o (w.heap.size+1) 131 aG):=u.below a u.lt;have H:Hid (ah o (w.heap.size+1+1) 139 [.string ⟨#[]⟩,.string ⟨#[]⟩]):=r.below a r.lt;have M:Hid (zz w o):=ac v.out a v.size;clear a v u r)
  |(refine bL (.tmp 4) (.tmp 12) (w.heap.size+1) aG aS.cells _ rfl rfl rfl rfl J.out rfl rfl rfl ?_;intro y A F D
    have L:Hid (zz w y):=M.trans (F _ (by omega));have I:=za A;have G:Hid (ah y (w.heap.size+1+1) 139 [.string ⟨#[]⟩,.string ⟨#[]⟩]):=(D _ (by omega)).trans H.out;clear M J F A D H)
  |(refine jH (.tmp 5) (.tmp 18) (w.heap.size+1+1) _ _ _ rfl rfl rfl rfl G.out rfl rfl rfl ?_;intro x z E C
    have R:Hid (zz w x):=L.trans (E _ (by omega));have P:=za z;have Q:Hid (ah x (w.heap.size+1) 131 aS.cells):=(C _ (by omega)).trans I.out;clear L I G E z C))
 exact bodyPost_ret (nj rfl _ _ (w.heap.size+1) _ (w.heap.size+1+1) _ rfl rfl Q.out P.out rfl rfl) rfl ⟨rfl,R⟩
end
section
set_option maxRecDepth 200000
open Go.RowKit
def Ot{w:World}{g:Nat}{t:TypeId}{b a v0 v1:Value}(c:ah w g t [b,a]):ah ((w.setCell ⟨g,0,none⟩ v0).setCell ⟨g,1,none⟩ v1) g t [v0,v1]:=by
 have:=(c.set 0 v0).set 1 v1;simpa using this
def Q3{b:Func}{p:Tmp}(f:b.results= #[.cell p 139])(tmps:Array Value)(w:World)(g:Nat)(a:List Value)(d:tmps.getD p undef= .pointer (some ⟨g,0,none⟩))(c:ah w g 139 a)(e:a.length=2):
 (results b tmps).run prog w= .ok (.agg a.toArray) w:=
 results_cell_row f tmps w g 139 a.toArray (0,0) _ d c underlying139 rfl (by rw[yo];simp[e])
def rT(op t t2 s m:ByteArray)(k F n f p v r y E M o u q x:Int)(D J C I:Option Addr)(A pc L H z B K G:Nat)(w:World)(be:op.size+t.size+t2.size<=3000000):
 Calls prog 125 #[.string op,(aH.mk k t n f s p v r y D A pc J L H).val,(aH.mk F t2 E M m o u q x C z B I K G).val] w λe w'=>e= .returned (.agg #[.string cA,.string (op++⟨#[32]⟩++cu (aH.mk k t n f s p v r y D A pc J L H)++⟨#[32]⟩++cu (aH.mk F t2 E M m o u q x C z B I K G))])∧zz w w':=by
 have bb:=λw=>gK (aH.mk k t n f s p v r y D A pc J L H) w (by simp only;omega);have ba:=λw=>gK (aH.mk F t2 E M m o u q x C z B I K G) w (by simp only;omega);have a4:=dx (aH.mk k t n f s p v r y D A pc J L H);have a3:=dx (aH.mk F t2 E M m o u q x C z B I K G);generalize cu (aH.mk k t n f s p v r y D A pc J L H)=nm at *
 generalize cu (aH.mk F t2 E M m o u q x C z B I K G)=nm2 at *
 have b2:(9223372036854775807<op.size+1)=False:=eq_false (by simp only at a4 a3;omega);have b1:(9223372036854775807<op.size+1+nm.size)=False:=eq_false (by simp only at a4 a3;omega);have b0:(9223372036854775807<op.size+1+nm.size+1)=False:=eq_false (by simp only at a4 a3;omega);have bt:(9223372036854775807<op.size+1+nm.size+1+nm2.size)=False:=eq_false (by simp only at a4 a3;omega);clear a4 a3 be;unfold aH.val at *
 go_enter func125,ntmps125;go_wp2_with fail;obtain⟨N,d,c,b,g,e⟩:∃N,ah N w.heap.size 131 [.int .i64 k,.string t,.int .i64 n,.int .u64 f,.string s,.int .i64 p,.int .i64 v,.int .i64 r,.int .i64 y,.slice D A pc,.slice J L H]∧ah N (w.heap.size+1) 131 [.int .i64 F,.string t2,.int .i64 E,.int .u64 M,.string m,.int .i64 o,.int .i64 u,.int .i64 q,.int .i64 x,.slice C z B,.slice I K G]∧ah N (w.heap.size+1+1) 139 [.string ⟨#[]⟩,.string ⟨#[]⟩]∧zz w N∧(((w.alloc (.cells [.int .i64 k,.string t,.int .i64 n,.int .u64 f,.string s,.int .i64 p,.int .i64 v,.int .i64 r,.int .i64 y,.slice D A pc,.slice J L H].toArray 131)).alloc (.cells [.int .i64 F,.string t2,.int .i64 E,.int .u64 M,.string m,.int .i64 o,.int .i64 u,.int .i64 q,.int .i64 x,.slice C z B,.slice I K G].toArray 131)).alloc (.cells [.string ⟨#[]⟩,.string ⟨#[]⟩].toArray 139))=N:=
  ⟨_,((ah.made w 131 _).alloc _).alloc _,(am w _ 131 _).alloc _,bh w _ _ 139 _,bG w _ _ _,rfl⟩
 rw[e];clear e;have a7:=za bb;have a6:=za ba;clear bb ba;obtain⟨a0,av,ap,ao,an,af,ad,ab,aa,Z,ar,a2⟩:=aA d;obtain⟨Y,X,V,U,T,S,R,Q,P,O,W,a1⟩:=aA c;replace d:=za d;replace c:=za c;replace b:=za b;replace g:=za g;have bp:w.heap.size+1+1≠w.heap.size:=by omega
 have bo:w.heap.size+1+1≠w.heap.size+1:=by omega
 have bl:w.heap.size≠w.heap.size+1+1:=by omega
 have bk:w.heap.size+1≠w.heap.size+1+1:=by omega
 go_region_held3 (λw'=>w'.cell? ⟨w.heap.size,0,none⟩=some (.int .i64 k)∧w'.cell? ⟨w.heap.size,1,none⟩=some (.string t)∧w'.cell? ⟨w.heap.size,2,none⟩=some (.int .i64 n)∧w'.cell? ⟨w.heap.size,3,none⟩=some (.int .u64 f)∧w'.cell? ⟨w.heap.size,4,none⟩=some (.string s)∧w'.cell? ⟨w.heap.size,5,none⟩=some (.int .i64 p)∧w'.cell? ⟨w.heap.size,6,none⟩=some (.int .i64 v)∧w'.cell? ⟨w.heap.size,7,none⟩=some (.int .i64 r)∧w'.cell? ⟨w.heap.size,8,none⟩=some (.int .i64 y)∧w'.cell? ⟨w.heap.size,9,none⟩=some (.slice D A pc)∧w'.cell? ⟨w.heap.size,10,none⟩=some (.slice J L H)∧w'.cell? ⟨w.heap.size+1,0,none⟩=some (.int .i64 F)∧w'.cell? ⟨w.heap.size+1,1,none⟩=some (.string t2)∧w'.cell? ⟨w.heap.size+1,2,none⟩=some (.int .i64 E)∧w'.cell? ⟨w.heap.size+1,3,none⟩=some (.int .u64 M)∧w'.cell? ⟨w.heap.size+1,4,none⟩=some (.string m)∧w'.cell? ⟨w.heap.size+1,5,none⟩=some (.int .i64 o)∧w'.cell? ⟨w.heap.size+1,6,none⟩=some (.int .i64 u)∧w'.cell? ⟨w.heap.size+1,7,none⟩=some (.int .i64 q)∧w'.cell? ⟨w.heap.size+1,8,none⟩=some (.int .i64 x)∧w'.cell? ⟨w.heap.size+1,9,none⟩=some (.slice C z B)∧w'.cell? ⟨w.heap.size+1,10,none⟩=some (.slice I K G)) (first|go_keep|exact⟨a0,av,ap,ao,an,af,ad,ab,aa,Z,ar,Y,X,V,U,T,S,R,Q,P,O,W⟩) (first|(go_at_call 124;(with_reducible refine(a7.out _).mono ?_);rintro a5 a9 ⟨rfl,a⟩;have j:=d.drew.below a d.drew.lt;have i:=c.drew.below a c.drew.lt;have h:=b.drew.below a b.drew.lt;have l:zz w a9:=ac (ay g.out) a g.size;clear d c b g a7 a;have d:=za j;have c:=za i;have b:=za h;have g:=za l;clear j i h l;obtain⟨a0,av,ap,ao,an,af,ad,ab,aa,Z,ar,a2⟩:=aA d.out;obtain⟨Y,X,V,U,T,S,R,Q,P,O,W,a1⟩:=aA c.out)|(go_at_call 124;(with_reducible refine(a6.out _).mono ?_);rintro a5 a9 ⟨rfl,a⟩;have j:=d.drew.below a d.drew.lt;have i:=c.drew.below a c.drew.lt;have h:=b.drew.below a b.drew.lt;have l:zz w a9:=ac (ay g.out) a g.size;clear d c b g a6 a;have d:=za j;have c:=za i;have b:=za h;have g:=za l;clear j i h l;obtain⟨a0,av,ap,ao,an,af,ad,ab,aa,Z,ar,a2⟩:=aA d.out;obtain⟨Y,X,V,U,T,S,R,Q,P,O,W,a1⟩:=aA c.out)|(go_at_call 124;(with_reducible refine(a7.out _).mono ?_);rintro a5 a8 ⟨rfl,a⟩;have j:=d.below a d.lt;have i:=c.below a c.lt;have h:=b.below a b.lt;have l:zz w a8:=ac (g.out) a g.size;clear d c b g a7 a;have d:=za j;have c:=za i;have b:=za h;have g:=za l;clear j i h l;obtain⟨a0,av,ap,ao,an,af,ad,ab,aa,Z,ar,a2⟩:=aA d.out;obtain⟨Y,X,V,U,T,S,R,Q,P,O,W,a1⟩:=aA c.out)|(go_at_call 124;(with_reducible refine(a6.out _).mono ?_);rintro a5 a8 ⟨rfl,a⟩;have j:=d.below a d.lt;have i:=c.below a c.lt;have h:=b.below a b.lt;have l:zz w a8:=ac (g.out) a g.size;clear d c b g a6 a;have d:=za j;have c:=za i;have b:=za h;have g:=za l;clear j i h l;obtain⟨a0,av,ap,ao,an,af,ad,ab,aa,Z,ar,a2⟩:=aA d.out;obtain⟨Y,X,V,U,T,S,R,Q,P,O,W,a1⟩:=aA c.out)|(go_at_call 123;refine(eV _ _ _).mono ?_;rintro a5 bc ⟨rfl,a⟩;have j:=d.below a d.lt;have i:=c.below a c.lt;have h:=b.below a b.lt;have l:zz w bc:=ac g.out a g.size;clear d c b g a;have b:=za h;have g:=za l;obtain⟨a0,av,ap,ao,an,af,ad,ab,aa,Z,ar,a2⟩:=aA j;obtain⟨Y,X,V,U,T,S,R,Q,P,O,W,a1⟩:=aA i;have bj:=b.cell 0;have bi:=b.cell 1;have bq:=b.free;simp only[List.getElem?_cons_zero,List.getElem?_cons_succ]at bj bi;clear j i h l))
 all_goals
  go_wp2;exact bodyPost_ret (Q3 rfl _ _ (w.heap.size+1+1) _ rfl (Ot b.out) rfl) rfl ⟨rfl,(g.setCell (by show w.heap.size<=w.heap.size+1+1;omega) _).setCell (by show w.heap.size<=w.heap.size+1+1;omega) _⟩
def AR(op:ByteArray)(b c a:Bool)(w:World)(h:(op.toList==[60])=false)(g:(op.toList==[60,61])=false)(f:(op.toList==[62])=false)(d:(op.toList==[62,61])=false):
 Calls prog 127 #[.string op,.bool b,.bool c,.bool a] w λe w'=>e= .returned (.tuple #[.bool false,.bool false])∧w'=w:=by
 go_enter func127,ntmps127;go_wp2;go_returns;exact⟨rfl,rfl⟩
def PL(n a:Int)(w:World):Calls prog 129 #[.string ⟨#[47]⟩,.int .i64 n,.int .i64 0] w λe w'=>e= .returned (.tuple #[.int .i64 0,.agg #[.string ⟨#[100,105,118,105,100,101]⟩,.string ⟨#[]⟩],.bool true])∧zz w w':=by
 go_enter func129,ntmps129;go_wp2;go_returns;exact⟨rfl,by go_grown⟩
def OD(n a:Int)(w:World):Calls prog 129 #[.string ⟨#[37]⟩,.int .i64 n,.int .i64 0] w λe w'=>e= .returned (.tuple #[.int .i64 0,.agg #[.string ⟨#[100,105,118,105,100,101]⟩,.string ⟨#[]⟩],.bool true])∧zz w w':=by
 go_enter func129,ntmps129;go_wp2;go_returns;exact⟨rfl,by go_grown⟩
def FJ{c:Func}{u p b:Tmp}(i:c.results= #[.tmp u,.cell p 139,.tmp b])(tmps:Array Value)(w:World)(g:Nat)(a:List Value)(f:tmps.getD p undef= .pointer (some ⟨g,0,none⟩))(d:ah w g 139 a)(h:a.length=2):
 (results c tmps).run prog w= .ok (.tuple #[tmps.getD u undef,.agg a.toArray,tmps.getD b undef]) w:=by
 have e:tmps[p]?.getD undef= .pointer (some ⟨g,0,none⟩):=by simpa using f
 simp[results,i,e,asAddr,Result.andThen,Gg w g a d h]
def PV(n a:Int)(s: -9223372036854775808<=a∧a<=9223372036854775807)(r:a<0)(w:World):Calls prog 129 #[.string ⟨#[60,60]⟩,.int .i64 n,.int .i64 a] w λe w'=>e= .returned (.tuple #[.int .i64 0,.agg #[.string jY,.string ⟨(Lib.itoa a).toArray⟩],.bool true])∧zz w w':=by
 have l:=za λw=>oX w a.natAbs (by omega) (by omega) a (by omega);have x:decide (a<0)=true:=ze r;generalize(⟨(Lib.itoa a).toArray⟩:ByteArray)=m at *
 clear s;go_enter func129,ntmps129;go_wp2_with (first
  |(go_at_call 46;refine(l.out _).mono ?_;rintro t h ⟨rfl,c⟩
    have d:Hid (ah h w.heap.size 139 [.string ⟨#[]⟩,.string ⟨#[]⟩]):=(ah.made w 139 [.string ⟨#[]⟩,.string ⟨#[]⟩]).below c (by simp);have f:Hid (zz w h):=ac (below1 w _) c (by simp);clear c l)
  |(go_at_call 123;refine(eV _ _ _).mono ?_;rintro t g ⟨rfl,b⟩
    have k:Hid (ah g w.heap.size 139 [.string ⟨#[]⟩,.string ⟨#[]⟩]):=d.below b d.lt;have o:Hid (zz w g):=ac f.out b f.size;clear b d f)
  |(refine jH (.tmp 7) (.tmp 85) w.heap.size _ _ _ rfl rfl rfl rfl k.out rfl rfl rfl ?_;intro p i j q
    have v:Hid (zz w p):=o.trans (j _ (by omega));have u:=za i;clear o k j i q))
 exact bodyPost_ret (FJ rfl _ _ w.heap.size _ rfl u.out rfl) rfl ⟨rfl,v⟩
def Ov(n a:Int)(s: -9223372036854775808<=a∧a<=9223372036854775807)(r:a<0)(w:World):Calls prog 129 #[.string ⟨#[62,62]⟩,.int .i64 n,.int .i64 a] w λe w'=>e= .returned (.tuple #[.int .i64 0,.agg #[.string jY,.string ⟨(Lib.itoa a).toArray⟩],.bool true])∧zz w w':=by
 have l:=za λw=>oX w a.natAbs (by omega) (by omega) a (by omega);have x:decide (a<0)=true:=ze r;generalize(⟨(Lib.itoa a).toArray⟩:ByteArray)=m at *
 clear s;go_enter func129,ntmps129;go_wp2_with (first
  |(go_at_call 46;refine(l.out _).mono ?_;rintro t h ⟨rfl,c⟩
    have d:Hid (ah h w.heap.size 139 [.string ⟨#[]⟩,.string ⟨#[]⟩]):=(ah.made w 139 [.string ⟨#[]⟩,.string ⟨#[]⟩]).below c (by simp);have f:Hid (zz w h):=ac (below1 w _) c (by simp);clear c l)
  |(go_at_call 123;refine(eV _ _ _).mono ?_;rintro t g ⟨rfl,b⟩
    have k:Hid (ah g w.heap.size 139 [.string ⟨#[]⟩,.string ⟨#[]⟩]):=d.below b d.lt;have o:Hid (zz w g):=ac f.out b f.size;clear b d f)
  |(refine jH (.tmp 7) (.tmp 85) w.heap.size _ _ _ rfl rfl rfl rfl k.out rfl rfl rfl ?_;intro p i j q
    have v:Hid (zz w p):=o.trans (j _ (by omega));have u:=za i;clear o k j i q))
 exact bodyPost_ret (FJ rfl _ _ w.heap.size _ rfl u.out rfl) rfl ⟨rfl,v⟩
def Rr(op:ByteArray)(n a:Int)(l:(op.toList==[43])=false)(k:(op.toList==[45])=false)(j:(op.toList==[42])=false)(i:(op.toList==[38])=false)(h:(op.toList==[124])=false)(g:(op.toList==[94])=false)(f:(op.toList==[47])=false)(d:(op.toList==[37])=false)(c:(op.toList==[60,60])=false)(b:(op.toList==[62,62])=false)(w:World):Calls prog 129 #[.string op,.int .i64 n,.int .i64 a] w λe w'=>e= .returned (.tuple #[.int .i64 0,.agg #[.string ⟨#[]⟩,.string ⟨#[]⟩],.bool false])∧zz w w':=by
 go_enter func129,ntmps129;go_wp2;go_returns;exact⟨rfl,by go_grown⟩
def Pv(t s:ByteArray)(n f d j h l:Int)(r y:Option Addr)(o pc A v:Nat)(b:ByteArray)(a B c i g k:Int)(q x:Option Addr)(m p z u:Nat)(w:World):Calls prog 126 #[(aH.mk 2 t n f s d j h l r o pc y A v).val,(aH.mk 2 t a B b c i g k q m p x z u).val] w λe w'=>e= .returned (.tuple #[.bool (decide (n<a)),.bool (decide (a<n)),.bool true])∧zz w w':=by
 unfold aH.val;go_enter func126,ntmps126;go_wp2;go_quiet (fail);go_wp2;go_returns;refine And.intro rfl ?_;go_grown
 all_goals(with_reducible refine ae ?_ _)
 go_grown
end
section
set_option maxRecDepth 200000
open Go.RowKit
def ah.setFar'{w:World}{g b o:Nat}{t:TypeId}{a:List Value}(d:ah w g t a)(c:g≠b)(u:Value):ah (w.setCell ⟨b,o,none⟩ u) g t a:=d.setFar c u
def ur{B b o:Nat}{a w:World}(d:Below B a w)(c:B<=b)(u:Value):Below B a (w.setCell ⟨b,o,none⟩ u):=d.setCell c u
def Hz(op x O:ByteArray)(t s:ByteArray)(n f m r p v:Int)(C G:Option Addr)(z pc I E:Nat)(k:ByteArray)(c J l q o u:Int)(B F:Option Addr)(y A H D:Nat)(bt b0 a9 is:Bool)(cd:Int)(w:World)
 (bo:∀w,Calls prog 126 #[(aH.mk 2 t n f s m r p v C z pc G I E).val,(aH.mk 2 t c J k l q o u B y A F H D).val] w λe w'=>e= .returned (.tuple #[.bool bt,.bool b0,.bool a9])∧zz w w')
 (bl:∀w,Calls prog 127 #[.string op,.bool bt,.bool b0,.bool a9] w λe w'=>e= .returned (.tuple #[.bool is,.bool false])∧w'=w)
 (bp:∀w,Calls prog 129 #[.string op,.int .i64 n,.int .i64 c] w λe w'=>e= .returned (.tuple #[.int .i64 cd,.agg #[.string ⟨#[]⟩,.string ⟨#[]⟩],.bool false])∧zz w w')
 (bq:∀w,Calls prog 125 #[.string op,(aH.mk 2 t n f s m r p v C z pc G I E).val,(aH.mk 2 t c J k l q o u B y A F H D).val] w λe w'=>e= .returned (.agg #[.string x,.string O])∧zz w w'):
 Calls prog 98 #[.string op,(aH.mk 2 t n f s m r p v C z pc G I E).val,(aH.mk 2 t c J k l q o u B y A F H D).val] w λe w'=>e= .returned (.tuple #[aS.val,.agg #[.string x,.string O]])∧zz w w':=by
 have b7:=za bo;have b6:=za bl;clear bo bl;have b8:=za bp;have cb:=za bq;clear bp bq;unfold aH.val at *
 go_enter func98,ntmps98;go_wp2_with (first
  |(go_at_call 126;refine(b7.out _).mono ?_;rintro N b ⟨rfl,a⟩
    have g:Hid (ah b w.heap.size 131 [.int .i64 2,.string t,.int .i64 n,.int .u64 f,.string s,.int .i64 m,.int .i64 r,.int .i64 p,.int .i64 v,.slice C z pc,.slice G I E]):=((((ah.made w 131 [.int .i64 2,.string t,.int .i64 n,.int .u64 f,.string s,.int .i64 m,.int .i64 r,.int .i64 p,.int .i64 v,.slice C z pc,.slice G I E]).alloc _).alloc _).alloc _).below a (by simp<;>omega);have d:Hid (ah b (w.heap.size+1) 131 [.int .i64 2,.string t,.int .i64 c,.int .u64 J,.string k,.int .i64 l,.int .i64 q,.int .i64 o,.int .i64 u,.slice B y A,.slice F H D]):=(((am w _ 131 [.int .i64 2,.string t,.int .i64 c,.int .u64 J,.string k,.int .i64 l,.int .i64 q,.int .i64 o,.int .i64 u,.slice B y A,.slice F H D]).alloc _).alloc _).below a (by simp<;>omega);have i:Hid (ah b (w.heap.size+1+1) 131 aG):=((bh w _ _ 131 aG).alloc _).below a (by simp<;>omega);have h:Hid (ah b (w.heap.size+1+1+1) 139 [.string ⟨#[]⟩,.string ⟨#[]⟩]):=(s6 w _ _ _ 139 [.string ⟨#[]⟩,.string ⟨#[]⟩]).below a (by simp<;>omega);have K:Hid (zz w b):=ac (n0 w _ _ _ _) a (by simp<;>omega);obtain⟨a6,a5,a3,a2,a1,a0,av,ar,ap,ao,a4,an⟩:=aA g.out;have af:=g.lt;obtain⟨ad,ab,Z,Y,X,W,V,U,T,S,aa,R⟩:=aA d.out;have Q:=d.lt;clear a b7)
  |(go_at_call 127;refine(b6.out _).mono ?_;rintro N cj ⟨rfl,ba⟩;have cf:=ba.symm;clear ba;subst cf;clear b6)
  |(go_at_call 129;have a8:(w.heap.size+1+1)≠b.heap.size:=Nat.ne_of_lt i.lt;have a7:(w.heap.size+1+1+1)≠b.heap.size:=Nat.ne_of_lt h.lt;refine(b8.out _).mono ?_;rintro N j ⟨rfl,a⟩
    replace i:Hid (ah j (w.heap.size+1+1) 131 aG):=(i.alloc _).below a (i.alloc _).lt;replace h:Hid (ah j (w.heap.size+1+1+1) 139 [.string ⟨#[]⟩,.string ⟨#[]⟩]):=(h.alloc _).below a (h.alloc _).lt;have cl:Hid ((w.heap.size+1+1)≠b.heap.size):=za a8;have ck:Hid ((w.heap.size+1+1+1)≠b.heap.size):=za a7;have cn:Hid (w.heap.size<=b.heap.size):=za K.size;have b5:Hid (ah j b.heap.size 131 [.int .i64 2,.string t,.int .i64 0,.int .u64 0,.string ⟨#[]⟩,.int .i64 0,.int .i64 0,.int .i64 0,.int .i64 0,.slice none 0 0,.slice none 0 0]):=(ah.made b 131 [.int .i64 2,.string t,.int .i64 0,.int .u64 0,.string ⟨#[]⟩,.int .i64 0,.int .i64 0,.int .i64 0,.int .i64 0,.slice none 0 0,.slice none 0 0]).below a (ah.made b 131 [.int .i64 2,.string t,.int .i64 0,.int .u64 0,.string ⟨#[]⟩,.int .i64 0,.int .i64 0,.int .i64 0,.int .i64 0,.slice none 0 0,.slice none 0 0]).lt;have L:Hid (zz w j):=ac (K.alloc K.size _) a (by have:=K.size;simp<;>omega);replace g:Hid (ah j w.heap.size 131 [.int .i64 2,.string t,.int .i64 n,.int .u64 f,.string s,.int .i64 m,.int .i64 r,.int .i64 p,.int .i64 v,.slice C z pc,.slice G I E]):=(g.alloc _).below a (g.alloc _).lt;replace d:Hid (ah j (w.heap.size+1) 131 [.int .i64 2,.string t,.int .i64 c,.int .u64 J,.string k,.int .i64 l,.int .i64 q,.int .i64 o,.int .i64 u,.slice B y A,.slice F H D]):=(d.alloc _).below a (d.alloc _).lt;clear a b8 K a6 a5 a3 a2 a1 a0 av ar ap ao a4 an af ad ab Z Y X W V U T S aa R Q a8 a7;obtain⟨a6,a5,a3,a2,a1,a0,av,ar,ap,ao,a4,an⟩:=aA g.out;have af:=g.lt;obtain⟨ad,ab,Z,Y,X,W,V,U,T,S,aa,R⟩:=aA d.out;have Q:=d.lt;obtain⟨c5,c4,c2,c1,c0,cT,cC,cv,ct,cs,c3,cp⟩:=aA b5.out;have co:=b5.lt;skip)
  |(go_at_call 125;refine(cb.out _).mono ?_;rintro N M ⟨rfl,a⟩
    have b4:Hid (ah M (w.heap.size+1+1) 131 aG):=(i.alloc _).below a (i.alloc _).lt;have b2:Hid (ah M (w.heap.size+1+1+1) 139 [.string ⟨#[]⟩,.string ⟨#[]⟩]):=(h.alloc _).below a (h.alloc _).lt;have ca:Hid (zz w M):=ac (L.alloc L.size _) a (by have:=L.size;simp<;>omega);clear a cb L i h)
  |(refine bL (.tmp 6) (.tmp 91) (w.heap.size+1+1) aG aS.cells _ rfl rfl rfl rfl b4.out rfl rfl rfl ?_;intro P bc bk bi
    have b9:Hid (zz w P):=ca.trans (bk _ (by omega));have b3:=za bc;have b1:Hid (ah P (w.heap.size+1+1+1) 139 [.string ⟨#[]⟩,.string ⟨#[]⟩]):=(bi _ (by omega)).trans b2.out;clear ca b4 b2 bk bc bi)
  |(refine jH (.tmp 7) (.tmp 95) (w.heap.size+1+1+1) _ _ _ rfl rfl rfl rfl b1.out rfl rfl rfl ?_;intro cc bb bj be
    have ci:Hid (zz w cc):=b9.trans (bj _ (by omega));have cg:=za bb;have ch:=za ((be (w.heap.size+1+1) (by omega)).trans b3.out);clear b9 b3 b1 bj bb be))
 exact bodyPost_ret (nj rfl _ _ (w.heap.size+1+1) _ (w.heap.size+1+1+1) _ rfl rfl ch.out cg.out rfl rfl) rfl ⟨rfl,ci⟩
def mn(op x d:ByteArray)(t s:ByteArray)(n f q y u A:Int)(F J:Option Addr)(C pc L H:Nat)(m:ByteArray)(k M p v r z:Int)(E I:Option Addr)(B D K G:Nat)(bb bc Z is:Bool)(bp:Int)(R:(x.toList==[])=false)(c4:(x.toList !=[])=true)(w:World)
 (af:∀w,Calls prog 126 #[(aH.mk 2 t n f s q y u A F C pc J L H).val,(aH.mk 2 t k M m p v r z E B D I K G).val] w λe w'=>e= .returned (.tuple #[.bool bb,.bool bc,.bool Z])∧zz w w')
 (ad:∀w,Calls prog 127 #[.string op,.bool bb,.bool bc,.bool Z] w λe w'=>e= .returned (.tuple #[.bool is,.bool false])∧w'=w)
 (an:∀w,Calls prog 129 #[.string op,.int .i64 n,.int .i64 k] w λe w'=>e= .returned (.tuple #[.int .i64 bp,.agg #[.string x,.string d],.bool true])∧zz w w'):
 Calls prog 98 #[.string op,(aH.mk 2 t n f s q y u A F C pc J L H).val,(aH.mk 2 t k M m p v r z E B D I K G).val] w λe w'=>e= .returned (.tuple #[aS.val,.agg #[.string x,.string d]])∧zz w w':=by
 have bj:=za af;have bi:=za ad;clear af ad;have bk:=za an;clear an;unfold aH.val at *
 go_enter func98,ntmps98;go_wp2_with (first
  |(go_at_call 126;refine(bj.out _).mono ?_;rintro ao b ⟨rfl,c⟩
    have V:Hid (ah b w.heap.size 131 [.int .i64 2,.string t,.int .i64 n,.int .u64 f,.string s,.int .i64 q,.int .i64 y,.int .i64 u,.int .i64 A,.slice F C pc,.slice J L H]):=((((ah.made w 131 [.int .i64 2,.string t,.int .i64 n,.int .u64 f,.string s,.int .i64 q,.int .i64 y,.int .i64 u,.int .i64 A,.slice F C pc,.slice J L H]).alloc _).alloc _).alloc _).below c (by simp<;>omega);have U:Hid (ah b (w.heap.size+1) 131 [.int .i64 2,.string t,.int .i64 k,.int .u64 M,.string m,.int .i64 p,.int .i64 v,.int .i64 r,.int .i64 z,.slice E B D,.slice I K G]):=(((am w _ 131 [.int .i64 2,.string t,.int .i64 k,.int .u64 M,.string m,.int .i64 p,.int .i64 v,.int .i64 r,.int .i64 z,.slice E B D,.slice I K G]).alloc _).alloc _).below c (by simp<;>omega);have h:Hid (ah b (w.heap.size+1+1) 131 aG):=((bh w _ _ 131 aG).alloc _).below c (by simp<;>omega);have g:Hid (ah b (w.heap.size+1+1+1) 139 [.string ⟨#[]⟩,.string ⟨#[]⟩]):=(s6 w _ _ _ 139 [.string ⟨#[]⟩,.string ⟨#[]⟩]).below c (by simp<;>omega);have l:Hid (zz w b):=ac (n0 w _ _ _ _) c (by simp<;>omega);obtain⟨cp,co,cl,ck,cj,ci,ch,cg,cf,cd,cn,cc⟩:=aA V.out;have cb:=V.lt;obtain⟨ca,b9,b7,b6,b5,b4,b3,b2,b1,b0,b8,bt⟩:=aA U.out;have bq:=U.lt;clear c bj)
  |(go_at_call 127;refine(bi.out _).mono ?_;rintro ao c0 ⟨rfl,R⟩;have cs:=R.symm;clear R;subst cs;clear bi)
  |(go_at_call 129;have Y:(w.heap.size+1+1)≠b.heap.size:=Nat.ne_of_lt h.lt;have X:(w.heap.size+1+1+1)≠b.heap.size:=Nat.ne_of_lt g.lt;refine(bk.out _).mono ?_;rintro ao a ⟨rfl,c⟩
    replace h:Hid (ah a (w.heap.size+1+1) 131 aG):=(h.alloc _).below c (h.alloc _).lt;replace g:Hid (ah a (w.heap.size+1+1+1) 139 [.string ⟨#[]⟩,.string ⟨#[]⟩]):=(g.alloc _).below c (g.alloc _).lt;have c2:Hid ((w.heap.size+1+1)≠b.heap.size):=za Y;have c1:Hid ((w.heap.size+1+1+1)≠b.heap.size):=za X;have c3:Hid (w.heap.size<=b.heap.size):=za l.size;have be:Hid (ah a b.heap.size 131 [.int .i64 2,.string t,.int .i64 0,.int .u64 0,.string ⟨#[]⟩,.int .i64 0,.int .i64 0,.int .i64 0,.int .i64 0,.slice none 0 0,.slice none 0 0]):=(ah.made b 131 [.int .i64 2,.string t,.int .i64 0,.int .u64 0,.string ⟨#[]⟩,.int .i64 0,.int .i64 0,.int .i64 0,.int .i64 0,.slice none 0 0,.slice none 0 0]).below c (ah.made b 131 [.int .i64 2,.string t,.int .i64 0,.int .u64 0,.string ⟨#[]⟩,.int .i64 0,.int .i64 0,.int .i64 0,.int .i64 0,.slice none 0 0,.slice none 0 0]).lt;have W:Hid (zz w a):=ac (l.alloc l.size _) c (by have:=l.size;simp<;>omega);clear c bk l V U cp co cl ck cj ci ch cg cf cd cn cc cb ca b9 b7 b6 b5 b4 b3 b2 b1 b0 b8 bt bq Y X;obtain⟨ba,a9,a7,a6,a5,a4,a3,a2,a1,a0,a8,av⟩:=aA be.out;have cC:=be.lt;skip))
 obtain⟨i,Q,j,T,S,e⟩:∃i,ah i (w.heap.size+1+1) 131 [.int .i64 0,.string ⟨#[]⟩,.int .i64 0,.int .u64 0,.string ⟨#[]⟩,.int .i64 0,.int .i64 0,.int .i64 0,.int .i64 0,.slice none 0 0,.slice none 0 0]∧ah i (w.heap.size+1+1+1) 139 [.string ⟨#[]⟩,.string ⟨#[]⟩]∧ah i a.heap.size 139 [.string x,.string d]∧zz w i∧a.alloc (.cells ([.string x,.string d]:List Value).toArray 139)=i:=
  ⟨_,h.alloc _,g.alloc _,ah.made a 139 _,W.alloc W.size _,rfl⟩
 have c8:a.heap.size≠(w.heap.size+1+1):=Nat.ne_of_gt h.lt;have c6:a.heap.size≠(w.heap.size+1+1+1):=Nat.ne_of_gt g.lt;have c7:(w.heap.size+1+1)≠a.heap.size:=Nat.ne_of_lt h.lt;have c5:(w.heap.size+1+1+1)≠a.heap.size:=Nat.ne_of_lt g.lt;have ar:(w.heap.size+1+1)≠(w.heap.size+1+1+1):=by omega
 have cv:(w.heap.size+1+1+1)≠(w.heap.size+1+1):=by omega
 have ct:w.heap.size<=(w.heap.size+1+1):=by omega
 have ap:w.heap.size<=(w.heap.size+1+1+1):=by omega
 rw[e];clear e h g W ba a9 a7 a6 a5 a4 a3 a2 a1 a0 a8 av cC;obtain⟨ba,a9,a7,a6,a5,a4,a3,a2,a1,a0,a8,av⟩:=aA Q;have bo:=j.cell 0;have bl:=j.cell 1;have cT:=j.free;have ab:=T.cell 0;have aa:=T.cell 1;simp only[List.getElem?_cons_zero,List.getElem?_cons_succ]at bo bl ab aa;replace Q:=za Q;replace j:=za j;replace S:=za S;clear T;go_region_held3 (λw'=>w'.cell? ⟨a.heap.size,0,none⟩=some (.string x)∧w'.cell? ⟨a.heap.size,1,none⟩=some (.string d)) (first|go_keep|exact⟨ab,aa⟩) (fail);have P:=ah.setFar' (o:=1) (ah.setFar' (o:=0) (lj (v0:= .int .i64 0) (v1:= .string ⟨#[]⟩) (v2:= .int .i64 0) (v3:= .int .u64 0) (v4:= .string ⟨#[]⟩) (v5:= .int .i64 0) (v6:= .int .i64 0) (v7:= .int .i64 0) (v8:= .int .i64 0) (v9:= .slice none 0 0) (v10:= .slice none 0 0) Q.out) ar (.string x)) ar (.string d);have O:=Ot (v0:= .string x) (v1:= .string d) (KN (v0:= .int .i64 0) (v1:= .string ⟨#[]⟩) (v2:= .int .i64 0) (v3:= .int .u64 0) (v4:= .string ⟨#[]⟩) (v5:= .int .i64 0) (v6:= .int .i64 0) (v7:= .int .i64 0) (v8:= .int .i64 0) (v9:= .slice none 0 0) (v10:= .slice none 0 0) j.out cv);have N:=ur (o:=1) (ur (o:=0) (fg (v0:= .int .i64 0) (v1:= .string ⟨#[]⟩) (v2:= .int .i64 0) (v3:= .int .u64 0) (v4:= .string ⟨#[]⟩) (v5:= .int .i64 0) (v6:= .int .i64 0) (v7:= .int .i64 0) (v8:= .int .i64 0) (v9:= .slice none 0 0) (v10:= .slice none 0 0) S.out ct) ap (.string x)) ap (.string d)
 all_goals
  generalize(((((((((((((i.setCell _ _).setCell _ _).setCell _ _).setCell _ _).setCell _ _).setCell _ _).setCell _ _).setCell _ _).setCell _ _).setCell _ _).setCell _ _).setCell _ _).setCell _ _)=wz at P O N ⊢
  replace P:=za P;replace O:=za O;replace N:=za N;go_wp2;exact bodyPost_ret (nj rfl _ _ (w.heap.size+1+1) _ (w.heap.size+1+1+1) _ rfl rfl P.drew O.drew rfl rfl) rfl ⟨rfl,ay N.out⟩
def OC(op x i:ByteArray)(k d:Int)(t2:ByteArray)(t s:ByteArray)(n f o u q y:Int)(D I:Option Addr)(A pc K G:Nat)(l:ByteArray)(E S m r p v:Int)(C H:Option Addr)(z B J F:Nat)(w:World)(ad:(k !=d)=true)
 (R:∀w,Calls prog 125 #[.string op,(aH.mk k t n f s o u q y D A pc I K G).val,(aH.mk d t2 E S l m r p v C z B H J F).val] w λe w'=>e= .returned (.agg #[.string x,.string i])∧zz w w'):
 Calls prog 98 #[.string op,(aH.mk k t n f s o u q y D A pc I K G).val,(aH.mk d t2 E S l m r p v C z B H J F).val] w λe w'=>e= .returned (.tuple #[aS.val,.agg #[.string x,.string i]])∧zz w w':=by
 have X:=za R;clear R;unfold aH.val at *
 go_enter func98,ntmps98;go_wp2_with (first
  |(go_at_call 125;refine(X.out _).mono ?_;rintro af b ⟨rfl,a⟩
    have W:Hid (ah b (w.heap.size+1+1) 131 aG):=((bh w _ _ 131 aG).alloc _).below a (by simp<;>omega);have U:Hid (ah b (w.heap.size+1+1+1) 139 [.string ⟨#[]⟩,.string ⟨#[]⟩]):=(s6 w _ _ _ 139 [.string ⟨#[]⟩,.string ⟨#[]⟩]).below a (by simp<;>omega);have h:Hid (zz w b):=ac (n0 w _ _ _ _) a (by simp<;>omega);clear a X)
  |(have c:=h.size;refine bL (.tmp 6) (.tmp 46) (w.heap.size+1+1) aG aS.cells _ rfl rfl rfl rfl W.out rfl rfl rfl ?_;intro j M Q O
    have g:Hid (zz w j):=h.trans (Q _ (by omega));have V:=za M;have T:Hid (ah j (w.heap.size+1+1+1) 139 [.string ⟨#[]⟩,.string ⟨#[]⟩]):=(O _ (by omega)).trans U.out;clear c h W U Q M O)
  |(have c:=g.size;refine jH (.tmp 7) (.tmp 50) (w.heap.size+1+1+1) _ _ _ rfl rfl rfl rfl T.out rfl rfl rfl ?_;intro Y L P N
    have ab:Hid (zz w Y):=g.trans (P _ (by omega));have Z:=za L;have aa:=za ((N (w.heap.size+1+1) (by omega)).trans V.out);clear c g V T P L N))
 exact bodyPost_ret (nj rfl _ _ (w.heap.size+1+1) _ (w.heap.size+1+1+1) _ rfl rfl aa.out Z.out rfl rfl) rfl ⟨rfl,ab⟩
def Nc(op x h:ByteArray)(k:Int)(t s:ByteArray)(n f m r p v:Int)(C H:Option Addr)(z pc J F:Nat)(j:ByteArray)(D R l q o u:Int)(B G:Option Addr)(y A I E:Nat)(w:World)(ap:(k==2)=false)(an:(k==3)=false)(ad:(k==4)=false)(ao:(k !=2)=true)(af:(k !=3)=true)(ab:(k !=4)=true)
 (Q:∀w,Calls prog 125 #[.string op,(aH.mk k t n f s m r p v C z pc H J F).val,(aH.mk k t D R j l q o u B y A G I E).val] w λe w'=>e= .returned (.agg #[.string x,.string h])∧zz w w'):
 Calls prog 98 #[.string op,(aH.mk k t n f s m r p v C z pc H J F).val,(aH.mk k t D R j l q o u B y A G I E).val] w λe w'=>e= .returned (.tuple #[aS.val,.agg #[.string x,.string h]])∧zz w w':=by
 have W:=za Q;clear Q;unfold aH.val at *
 go_enter func98,ntmps98;go_wp2_with (first
  |(go_at_call 125;refine(W.out _).mono ?_;rintro ar b ⟨rfl,a⟩
    have V:Hid (ah b (w.heap.size+1+1) 131 aG):=((bh w _ _ 131 aG).alloc _).below a (by simp<;>omega);have T:Hid (ah b (w.heap.size+1+1+1) 139 [.string ⟨#[]⟩,.string ⟨#[]⟩]):=(s6 w _ _ _ 139 [.string ⟨#[]⟩,.string ⟨#[]⟩]).below a (by simp<;>omega);have g:Hid (zz w b):=ac (n0 w _ _ _ _) a (by simp<;>omega);clear a W)
  |(have c:=g.size;refine bL (.tmp 6) (.tmp 46) (w.heap.size+1+1) aG aS.cells _ rfl rfl rfl rfl V.out rfl rfl rfl ?_;intro i L P N
    have d:Hid (zz w i):=g.trans (P _ (by omega));have U:=za L;have S:Hid (ah i (w.heap.size+1+1+1) 139 [.string ⟨#[]⟩,.string ⟨#[]⟩]):=(N _ (by omega)).trans T.out;clear c g V T P L N)
  |(have c:=d.size;refine jH (.tmp 7) (.tmp 50) (w.heap.size+1+1+1) _ _ _ rfl rfl rfl rfl S.out rfl rfl rfl ?_;intro X K O M
    have aa:Hid (zz w X):=d.trans (O _ (by omega));have Y:=za K;have Z:=za ((M (w.heap.size+1+1) (by omega)).trans U.out);clear c d U S O K M))
 exact bodyPost_ret (nj rfl _ _ (w.heap.size+1+1) _ (w.heap.size+1+1+1) _ rfl rfl Z.out Y.out rfl rfl) rfl ⟨rfl,aa⟩
end
end Go.Proofs.YtmecmlpoallpcaaGreatDoor

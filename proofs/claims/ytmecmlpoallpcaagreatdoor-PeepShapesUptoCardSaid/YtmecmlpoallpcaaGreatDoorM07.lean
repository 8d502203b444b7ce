/- Parts of the proof: Float NumA Stack StackB -/
import Derived.Handy
import Derived.Test.YtmecmlpoallpcaaGreatDoorM04
import Derived.Test.YtmecmlpoallpcaaGreatDoorM02
import Derived.Deep.QuietTactic
import Derived.BigQuiet
import Derived.LaidEqlPtr
import Derived.Test.YtmecmlpoallpcaaGreatDoorM05
set_option linter.all false
set_option maxHeartbeats 8000000
namespace Go.Proofs.YtmecmlpoallpcaaGreatDoor
open Go.Proofs.Tryz
section
open Go.RowKit Go.Proofs.PeepPlain
def PB(s:ByteArray)(n:Nat)(a:Value):Prop:=(a= .nilIface∧s.size≠0∧eW 0 s.data.toList=some n)∨((∃b,a= .iface 236 (.pointer (some ⟨b,0,none⟩)))∧(eW 0 s.data.toList=none∨s.size≠16))
set_option maxRecDepth 20000 in
def CF(s:ByteArray)(w:World)(j:s.size<=2000000)(g:aX w):
 Calls prog 140 #[.string s,.int .i64 16,.int .i64 64] w λe w'=>(∃n i,e= .returned (.tuple #[.int .u64 (n:Nat),i])∧n<18446744073709551616∧PB s n i)∧zz w w':=by
 obtain⟨z,h,u⟩:=g.syn;obtain⟨y,q,t⟩:=g.rng;have B:=za j;have o:=LF s w j;have J:=za (show ∀a,zz w a->a.cell? ⟨5,0,none⟩=some z from λa k=>(k.cell (p:=⟨5,0,none⟩) (show 5<_ by have:=g.size;omega)).trans h);have I:=za (show ∀a,zz w a->a.cell? ⟨6,0,none⟩=some y from λa k=>(k.cell (p:=⟨6,0,none⟩) (show 6<_ by have:=g.size;omega)).trans q);have G:=za u;have F:=za t;clear j h q u t g;go_enter func140,ntmps140;go_wp2_with (go_at_call 170;refine o.mono ?_);rintro A a ⟨⟨n,i,rfl,r,h⟩,v⟩;have c:=za v;have l:=za r;clear v r o;rcases h with⟨rfl,b,x⟩|⟨rfl,b⟩|⟨rfl,b⟩
 ·have f:=za b;have H:=za x;clear b x;go_wp2;go_returns;exact⟨⟨_,_,rfl,l.out,.inl ⟨rfl,f.out,H⟩⟩,c⟩
 ·have f:=za b;clear b;go_wp2_with (go_at_call 146;refine(jL _ s _ _ z _ (by have:=B.out;omega) (J.out _ c.out) G.out).mono ?_);rintro A C ⟨E,rfl,_,_,d⟩;have m:=za d;clear d;go_wp2;go_returns;exact⟨⟨_,_,rfl,l.out,.inr ⟨⟨_,rfl⟩,f.elim (λD=> .inr (by rw[D];decide)) .inl⟩⟩,c.trans (az m.out c.size)⟩
 ·have f:=za b;clear b;go_wp2_with (go_at_call 146;refine(kI _ s _ _ y _ (by have:=B.out;omega) (I.out _ c.out) F.out).mono ?_);rintro A C ⟨E,rfl,_,_,d⟩;have m:=za d;clear d;go_wp2;go_returns;exact⟨⟨_,_,rfl,l.out,.inr ⟨⟨_,rfl⟩,.inr f.out⟩⟩,c.trans (az m.out c.size)⟩
theorem pq:∀(l:List UInt8) (n m:Nat),eW n l=some m->∀(j:Nat) (b:UInt8),l[j]?=some b->b.toNat<128∧b.toNat≠43
 | [],_,_,_,j,b,hb=>by simp at hb
 |c::l,n,m,h,j,b,hb=>by
  rw[eW]at h
  cases a:jm c with
  |none=>rw[a]at h;simp at h
  |some d=>
   cases j with
   |zero=>
    simp only[List.getElem?_cons_zero,Option.some.injEq]at hb;subst hb;unfold jm at a;split at a
    ·omega
    ·split at a
     ·omega
     ·split at a
      ·omega
      ·simp at a
   |succ j=>rw[a]at h;exact pq l _ m (by simpa using h) j b (by simpa using hb)
def AT(n:Nat):Bool:=decide (bits .and .u64 ((n:Int) / 4503599627370496) 2047=2047)&&!decide (IntKind.u64.wrap ((n:Int) * 4096)=0)
def eF(s:ByteArray):Bool:=decide (s.size=16)&&(match eW 0 s.data.toList with
 |some n=>((⟨(Lib.toLowerA s.data.toList).toArray⟩:ByteArray).toList==s.toList)&&(!AT n||decide ((n:Int)=9221120237041090561))
 |none=>false)
def C7{s:ByteArray}(a:¬s.size=16):eF s=false:=by
 unfold eF;simp[a]
def AV{s:ByteArray}(a:eW 0 s.data.toList=none):eF s=false:=by
 unfold eF;simp[a]
def BZ{s:ByteArray}{n:Nat}(b:s.size=16)(a:eW 0 s.data.toList=some n):eF s=(((⟨(Lib.toLowerA s.data.toList).toArray⟩:ByteArray).toList==s.toList)&&(!AT n||decide ((n:Int)=9221120237041090561))):=by
 unfold eF;rw[a];simp[b]
def Er{s:ByteArray}{n:Nat}(a:eW 0 s.data.toList=some n)(b:s.size=16):¬((s[0]'(by omega)).toNat=43):=by
 refine(pq _ _ _ a 0 (s[0]'(by omega)) ?_).2;rw[zo (by simp only[Array.length_toList,ByteArray.size_data];omega),Array.getElem_toList];rfl
set_option maxRecDepth 20000 in
def Ds(s:ByteArray)(w:World)(j:s.size<=2000000)(t:aX w):
 Calls prog 107 #[.string s] w λe w'=>e= .returned (.bool (eF s))∧zz w w':=by
 have m:=CF s w j t;have C:=za j;clear j t;go_enter func107,ntmps107;go_wp2_with (go_at_call 140;refine m.mono ?_);rintro q d ⟨⟨v,D,rfl,o,n⟩,p⟩;have c:=za p;have G:=za o;clear p o m;by_cases b:s.size=16
 ·have H:=za b;have y:((s.size:Nat):Int)=16:=by omega
  rcases n with⟨rfl,h,g⟩|⟨⟨F,rfl⟩,h⟩
  ·have i:=za (show ∀d,Calls prog 141 #[.string s] d λe w'=>e= .returned (.string ⟨(Lib.toLowerA s.data.toList).toArray⟩)∧zz d w' from λd=>kJ s d (by have:=C.out;omega) (λx B f=>(pq _ _ _ g x B f).1));have a:=za (BZ b g);have r:=za (show ∀A:0<s.size,¬((s[0]'A).toNat=43)from λ_=>Er g b);generalize(⟨(Lib.toLowerA s.data.toList).toArray⟩:ByteArray)=X at i a;clear h g b
   cases l:(X.toList==s.toList)
   ·go_wp2_with (go_at_call 141;refine(i.out _).mono ?_;rintro q u ⟨rfl,k⟩);go_ret;exact⟨ag (by rw[a.out,l];rfl),c.trans (az k c.size)⟩
   ·rw[l,Bool.true_and]at a;go_wp2_with (go_at_call 141;refine(i.out _).mono ?_;rintro q u ⟨rfl,k⟩)
    all_goals(go_ret;refine⟨ag ?_,c.trans (az k c.size)⟩)
    all_goals(rw[a.out];unfold AT;have E:=r.out (by omega);clear a i r;first|(simp[*];done)|(exfalso;simp at *;omega)|(rename_i z f;rw[z,zg f,show(IntKind.u64.wrap ((v:Int) * 4096) !=0)=true from by simpa using f];simp only[decide_true,Bool.not_false,Bool.and_true,Bool.not_true,Bool.false_or];rw[zA];simp))
  ·have a:=za (AV (s:=s) (h.resolve_right (by omega)));clear h b;go_wp2;go_ret;exact⟨ag (by rw[a.out]),c⟩
 ·have y:¬((s.size:Nat):Int)=16:=by omega
  have a:=za (C7 b);clear n b;go_wp2
  all_goals(go_ret;exact⟨ag (by rw[a.out]),c⟩)
end
section
open Go.RowKit
def aU(w:World)(a B:Obj):Below w.heap.size w ((w.alloc a).alloc B):=(below1 w a).alloc (by simp) _
def bG(w:World)(a B C:Obj):Below w.heap.size w (((w.alloc a).alloc B).alloc C):=(aU w a B).alloc (by simp;omega) _
def n0(w:World)(a B C b:Obj):Below w.heap.size w ((((w.alloc a).alloc B).alloc C).alloc b):=(bG w a B C).alloc (by simp;omega) _
def aA{w:World}{g:Nat}{t:TypeId}{v0 v1 v2 v3 v4 v5 v6 v7 v8 v9 v10:Value}(a:ah w g t [v0,v1,v2,v3,v4,v5,v6,v7,v8,v9,v10]):
 w.cell? ⟨g,0,none⟩=some v0∧w.cell? ⟨g,1,none⟩=some v1∧w.cell? ⟨g,2,none⟩=some v2∧w.cell? ⟨g,3,none⟩=some v3∧w.cell? ⟨g,4,none⟩=some v4∧w.cell? ⟨g,5,none⟩=some v5∧w.cell? ⟨g,6,none⟩=some v6∧w.cell? ⟨g,7,none⟩=some v7∧w.cell? ⟨g,8,none⟩=some v8∧w.cell? ⟨g,9,none⟩=some v9∧w.cell? ⟨g,10,none⟩=some v10∧∀j,w.frozen? ⟨g,j,none⟩=false:=
 ⟨a.cell 0,a.cell 1,a.cell 2,a.cell 3,a.cell 4,a.cell 5,a.cell 6,a.cell 7,a.cell 8,a.cell 9,a.cell 10,a.free⟩
def aG:List Value:=[.int .i64 0,.string ⟨#[]⟩,.int .i64 0,.int .u64 0,.string ⟨#[]⟩,.int .i64 0,.int .i64 0,.int .i64 0,.int .i64 0,.slice none 0 0,.slice none 0 0]
structure aH where
 k:Int
 t:ByteArray
 n:Int
 f:Int
 s:ByteArray
 ro:Int
 rf:Int
 rl:Int
 rc:Int
 pa:Option Addr
 pn:Nat
 pc:Nat
 ia:Option Addr
 iN:Nat
 ic:Nat
def aH.val(d:aH):Value:= .agg #[.int .i64 d.k,.string d.t,.int .i64 d.n,.int .u64 d.f,.string d.s,.int .i64 d.ro,.int .i64 d.rf,.int .i64 d.rl,.int .i64 d.rc,.slice d.pa d.pn d.pc,.slice d.ia d.iN d.ic]
def mk(k:Int)(t:ByteArray)(n f:Int)(s:ByteArray):aH:=⟨k,t,n,f,s,0,0,0,0,none,0,0,none,0,0⟩
def fy:ByteArray:=⟨#[98,111,111,108]⟩
def jP(x a:ByteArray)(w:World):Calls prog 184 #[.string x,.string a] w λe w'=> ∃g,e= .returned (.iface 209 (.pointer (some ⟨g,0,none⟩)))∧w.heap.size<=g∧ah w' g 139 [.string x,.string a]∧zz w w':=by
 go_enter func184,ntmps184;go_wp2;go_returns;exact⟨w.heap.size,rfl,zb _,ah.made _ _ _,by go_grown⟩
def cu(d:aH):ByteArray:=if d.k=0 then⟨#[110,105,108]⟩else if d.k=9 then⟨#[42]⟩++d.t else d.t
def ji(d:aH)(w:World)(h:d.t.size<=9223372036854775806):Calls prog 152 #[d.val] w λe w'=>e= .returned (.string (cu d))∧zz w w':=by
 unfold aH.val cu;have g:(1:Int)+(d.t.size:Int)<=9223372036854775807:=by omega
 by_cases a:d.k=0
 ·rw[zn a];have f:(d.k==0)=true:=by simp[a]
  clear a;go_enter func152,ntmps152;go_wp2;go_returns;exact⟨rfl,by go_grown⟩
 ·rw[zm a];have f:(d.k==0)=false:=by simp[a]
  by_cases b:d.k=9
  ·rw[zn b];have c:(d.k==9)=true:=by simp[b]
   clear a b;go_enter func152,ntmps152;go_wp2;go_returns;exact⟨rfl,by go_grown⟩
  ·rw[zm b];have c:(d.k==9)=false:=by simp[b]
   clear a b;go_enter func152,ntmps152;go_wp2;go_returns;exact⟨rfl,by go_grown⟩
def GJ:(prog.info? 131).map (·.size)=some 11:=by kernel_rfl
def aH.cells(d:aH):List Value:=[.int .i64 d.k,.string d.t,.int .i64 d.n,.int .u64 d.f,.string d.s,.int .i64 d.ro,.int .i64 d.rf,.int .i64 d.rl,.int .i64 d.rc,.slice d.pa d.pn d.pc,.slice d.ia d.iN d.ic]
def bL{e:Array Oper}{d:List Oper}{o:Oper}{a:Act}{i:Exit->Act->World->Prop}(x c:Operand)(g:Nat)(old b:List Value)(w:World)
 (q:o.guard=none)(m:o.op= .store 131 x c)(l:a.eval x= .pointer (some ⟨g,0,none⟩))(j:a.eval c= .agg b.toArray)
 (f:ah w g 131 old)(n:old.length=11)(h:b.length=11)(s:b.all (·.oneCell')=true)
 (t:∀w',ah w' g 131 b->(∀B,B<=g->Below B w w')->(∀k,k≠g->w'.heap[k]?=w.heap[k]?)->wpList prog e i d (a.put o.dst undef) w'):wpList prog e i (o::d) a w:=
 wpList_store_row q 131 x c m g b.toArray l j 131 old.toArray f (by rw[GJ];simp[h]) (by simp[n,h]) (by simpa using s)
  (t _ (f.turn b) (λB r=>below_setRow (zZ _ _) r _) (λk p=>po w g k _ p))
def Ap(w:World)(g:Nat)(a:List Value)(b:ah w g 131 a)(c:a.length=11):(loadVar 131 ⟨g,0,none⟩).run prog w= .ok (.agg a.toArray) w:=
 run_loadVar_row w g 131 131 a.toArray (0,0) _ b underlying131 rfl (by rw[GJ];simp[c])
def eT{b:Func}{p u:Tmp}(f:b.results= #[.cell p 131,.tmp u])(tmps:Array Value)(w:World)(g:Nat)(a:List Value)(d:tmps.getD p undef= .pointer (some ⟨g,0,none⟩))(c:ah w g 131 a)(e:a.length=11):
 (results b tmps).run prog w= .ok (.tuple #[.agg a.toArray,tmps.getD u undef]) w:=by
 rw[results_cell_tmp f,d];simp[asAddr,Result.andThen,Ap w g a c e]
def oE{c:Func}{p u b:Tmp}(i:c.results= #[.cell p 131,.tmp u,.tmp b])(tmps:Array Value)(w:World)(g:Nat)(a:List Value)(f:tmps.getD p undef= .pointer (some ⟨g,0,none⟩))(d:ah w g 131 a)(h:a.length=11):
 (results c tmps).run prog w= .ok (.tuple #[.agg a.toArray,tmps.getD u undef,tmps.getD b undef]) w:=by
 have e:tmps[p]?.getD undef= .pointer (some ⟨g,0,none⟩):=by simpa using f
 simp[results,i,e,asAddr,Result.andThen,Ap w g a d h]
def bh(w:World)(b B:Obj)(t:TypeId)(a:List Value):ah (((w.alloc b).alloc B).alloc (.cells a.toArray t)) (w.heap.size+1+1) t a:=by
 have:=ah.made ((w.alloc b).alloc B) t a;simpa using this
def s6(w:World)(b B C:Obj)(t:TypeId)(a:List Value):ah ((((w.alloc b).alloc B).alloc C).alloc (.cells a.toArray t)) (w.heap.size+1+1+1) t a:=by
 have:=ah.made (((w.alloc b).alloc B).alloc C) t a;simpa using this
def aS:aH:=mk 0 ⟨#[]⟩ 0 0 ⟨#[]⟩
def eu(w w':World)(c:Value)(x b:ByteArray):Prop:=∃a,c= .iface 209 (.pointer (some ⟨a,0,none⟩))∧w.heap.size<=a∧ah w' a 139 [.string x,.string b]
def cA:ByteArray:=⟨#[111,112,101,114,97,110,100]⟩
def QU(x a:ByteArray):(⟨(Lib.join ([x,a].map (·.data.toList)) (⟨#[32]⟩:ByteArray).data.toList).toArray⟩:ByteArray)=x++⟨#[32]⟩++a:=by
 apply ByteArray.ext;simp[Lib.join_cons,Lib.joinTail]
def Qt(x a z:ByteArray):(⟨(Lib.join ([x,a,z].map (·.data.toList)) (⟨#[32]⟩:ByteArray).data.toList).toArray⟩:ByteArray)=x++⟨#[32]⟩++a++⟨#[32]⟩++z:=by
 apply ByteArray.ext;simp[Lib.join_cons,Lib.joinTail]
def qH(d:Nat)(q:TypeId)(x a:ByteArray)(w:World)(h:ah w d q [.string x,.string a])(r:x.size+a.size<=4000000):
 Calls prog 151 #[.slice (some ⟨d,0,none⟩) 2 2] w λe w'=> ∃i,e= .returned i∧eu w w' i cA (x++⟨#[32]⟩++a)∧zz w w':=by
 have g:=lm d 0 2 [x,a] ⟨#[32]⟩ w (λf A j=>by
  have t:=h.cell f;rw[zP,t];rcases f with _|_|f<;>simp at j ⊢ <;>exact j) h.lt (by simp) (by simp) (by
   have C:x.size=x.data.size:=rfl;have B:a.size=a.data.size:=rfl;simp[Lib.join_cons,Lib.joinTail];omega)
 rw[QU]at g;generalize x++⟨#[32]⟩++a=m at *
 have o:Hid (Calls prog 185 #[.slice (some ⟨d,0,none⟩) 2 2,.string ⟨#[32]⟩] w λe w'=>e= .returned (.string m)∧zz w w'):=g;clear g h r;go_enter func151,ntmps151;go_wp2_with (first
  |(go_at_call 185;refine o.out.mono ?_;rintro u z ⟨rfl,b⟩;have c:=za b;clear b o)
  |(go_at_call 184;refine(jP _ _ _).mono ?_;rintro u p ⟨n,rfl,l,k,b⟩
    have y:Hid (zz w p):=ac c.out b c.size;have s:Hid (w.heap.size<=n):=zi c.size l;have v:=za k;clear k b l c))
 go_returns;exact⟨_,rfl,⟨n,rfl,s.out,v⟩,y⟩
def CC(d:Nat)(q:TypeId)(x a z:ByteArray)(w:World)(h:ah w d q [.string x,.string a,.string z])(r:x.size+a.size+z.size<=4000000):
 Calls prog 151 #[.slice (some ⟨d,0,none⟩) 3 3] w λe w'=> ∃i,e= .returned i∧eu w w' i cA (x++⟨#[32]⟩++a++⟨#[32]⟩++z)∧zz w w':=by
 have g:=lm d 0 3 [x,a,z] ⟨#[32]⟩ w (λf B j=>by
  have t:=h.cell f;rw[zP,t];rcases f with _|_|_|f<;>simp at j ⊢ <;>exact j) h.lt (by simp) (by simp) (by
   have E:x.size=x.data.size:=rfl;have D:a.size=a.data.size:=rfl;have C:z.size=z.data.size:=rfl;simp[Lib.join_cons,Lib.joinTail];omega)
 rw[Qt]at g;generalize x++⟨#[32]⟩++a++⟨#[32]⟩++z=m at *
 have o:Hid (Calls prog 185 #[.slice (some ⟨d,0,none⟩) 3 3,.string ⟨#[32]⟩] w λe w'=>e= .returned (.string m)∧zz w w'):=g;clear g h r;go_enter func151,ntmps151;go_wp2_with (first
  |(go_at_call 185;refine o.out.mono ?_;rintro u A ⟨rfl,b⟩;have c:=za b;clear b o)
  |(go_at_call 184;refine(jP _ _ _).mono ?_;rintro u p ⟨n,rfl,l,k,b⟩
    have y:Hid (zz w p):=ac c.out b c.size;have s:Hid (w.heap.size<=n):=zi c.size l;have v:=za k;clear k b l c))
 go_returns;exact⟨_,rfl,⟨n,rfl,s.out,v⟩,y⟩
def am(w:World)(b:Obj)(t:TypeId)(a:List Value):ah ((w.alloc b).alloc (.cells a.toArray t)) (w.heap.size+1) t a:=by
 have:=ah.made (w.alloc b) t a;simpa using this
def dx(d:aH):(cu d).size<=d.t.size+3:=by
 unfold cu;split
 ·show 3<=_;omega
 ·split
  ·rw[ByteArray.size_append];show 1+_<=_;omega
  ·omega
def Mv(t s:ByteArray)(n f a c b d:Int)(h j:Option Addr)(g pc k i:Nat)(w:World):Calls prog 119 #[.string ⟨#[45]⟩,(aH.mk 2 t n f s a c b d h g pc j k i).val] w λe w'=>e= .returned (.tuple #[(mk 2 t (wrap64 (-n)) 0 ⟨#[]⟩).val,.nilIface])∧zz w w':=by
 unfold mk aH.val;go_enter func119,ntmps119;go_wp2;go_returns;exact⟨rfl,by go_grown⟩
def MF(t s:ByteArray)(n f a c b d:Int)(h j:Option Addr)(g pc k i:Nat)(w:World):Calls prog 119 #[.string ⟨#[94]⟩,(aH.mk 2 t n f s a c b d h g pc j k i).val] w λe w'=>e= .returned (.tuple #[(mk 2 t (bits BinOp.xor .i64 (-1) n) 0 ⟨#[]⟩).val,.nilIface])∧zz w w':=by
 unfold mk aH.val;go_enter func119,ntmps119;go_wp2;go_returns;exact⟨rfl,by go_grown⟩
def JN(t s:ByteArray)(n f a c b d:Int)(h j:Option Addr)(g pc k i:Nat)(l:(n==0)=true)(w:World):Calls prog 119 #[.string ⟨#[33]⟩,(aH.mk 1 t n f s a c b d h g pc j k i).val] w λe w'=>e= .returned (.tuple #[(mk 1 t 1 0 ⟨#[]⟩).val,.nilIface])∧zz w w':=by
 unfold mk aH.val;go_enter func119,ntmps119;go_wp2;go_returns;exact⟨rfl,by go_grown⟩
def JT(t s:ByteArray)(n f a c b d:Int)(h j:Option Addr)(g pc k i:Nat)(l:(n==0)=false)(w:World):Calls prog 119 #[.string ⟨#[33]⟩,(aH.mk 1 t n f s a c b d h g pc j k i).val] w λe w'=>e= .returned (.tuple #[(mk 1 t 0 0 ⟨#[]⟩).val,.nilIface])∧zz w w':=by
 unfold mk aH.val;go_enter func119,ntmps119;go_wp2;go_returns;exact⟨rfl,by go_grown⟩
def KJ(op:ByteArray)(t s:ByteArray)(n f b d c g:Int)(i l:Option Addr)(h pc m j:Nat)(k:Int)(S:(op.toList==[45])=false)(R:(op.toList==[94])=false)(Q:(op.toList==[33])=false)(w:World)(L:op.size+t.size<=3000000):Calls prog 119 #[.string op,(aH.mk k t n f s b d c g i h pc l m j).val] w λe w'=> ∃u,e= .returned (.tuple #[aS.val,u])∧eu w w' u cA (op++⟨#[32]⟩++cu (aH.mk k t n f s b d c g i h pc l m j))∧zz w w':=by
 have B:=λw=>ji (aH.mk k t n f s b d c g i h pc l m j) w (by simp only;omega);have y:=dx (aH.mk k t n f s b d c g i h pc l m j);generalize cu (aH.mk k t n f s b d c g i h pc l m j)=nm at *
 have K:Hid (op.size+nm.size<=4000000):=za (by simp only at y;omega);unfold aH.val at *
 have H:=za B;clear B y L;go_enter func119,ntmps119;go_wp2_with (first
  |(go_at_call 152;refine(H.out _).mono ?_;rintro M o ⟨rfl,a⟩
    have q:Hid (ah o (w.heap.size+1) 131 aG):=(am w _ 131 aG).below a (by simp);have r:Hid (zz w o):=ac (aU w _ _) a (by simp<;>omega);clear a H)
  |(go_at_call 151;refine(qH o.heap.size _ op nm _ (ah.made o _ [.string op,.string nm]) K.out).mono ?_
    rintro M x ⟨u,rfl,⟨p,rfl,D,A⟩,a⟩;have G:Hid (ah x (w.heap.size+1) 131 aG):=(q.alloc _).below a (q.alloc _).lt;have J:Hid (zz w x):=ac (r.alloc r.size _) a (by have:=r.size;simp<;>omega);have C:Hid (w.heap.size+1<p):=by have:=q.lt;simp at D;exact za (by omega)
    have I:=za A;clear A a D r q)
  |(refine bL (.tmp 4) (.tmp 66) (w.heap.size+1) aG aS.cells _ rfl rfl rfl rfl G.out rfl rfl rfl ?_;intro v z F E
    have P:Hid (zz w v):=J.trans (F _ (by omega));have N:=za z;have O:Hid (ah v p 139 _):=(E p (by have:=C.out;omega)).trans I.out;clear J G F z E I))
 refine bodyPost_ret (eT rfl _ _ (w.heap.size+1) _ rfl N.out rfl) rfl ⟨_,rfl,⟨p,rfl,by have:=C.out;omega,O⟩,P⟩
def NT(t s:ByteArray)(n f b d c g:Int)(i l:Option Addr)(h pc m j:Nat)(k:Int)(R:(k==2)=false)(Q:(k==3)=false)(w:World)(L:(⟨#[45]⟩:ByteArray).size+t.size<=3000000):Calls prog 119 #[.string ⟨#[45]⟩,(aH.mk k t n f s b d c g i h pc l m j).val] w λe w'=> ∃u,e= .returned (.tuple #[aS.val,u])∧eu w w' u cA ((⟨#[45]⟩:ByteArray)++⟨#[32]⟩++cu (aH.mk k t n f s b d c g i h pc l m j))∧zz w w':=by
 have B:=λw=>ji (aH.mk k t n f s b d c g i h pc l m j) w (by simp only;omega);have y:=dx (aH.mk k t n f s b d c g i h pc l m j);generalize cu (aH.mk k t n f s b d c g i h pc l m j)=nm at *
 have K:Hid ((⟨#[45]⟩:ByteArray).size+nm.size<=4000000):=za (by simp only at y;omega);unfold aH.val at *
 have H:=za B;clear B y L;go_enter func119,ntmps119;go_wp2_with (first
  |(go_at_call 152;refine(H.out _).mono ?_;rintro M o ⟨rfl,a⟩
    have q:Hid (ah o (w.heap.size+1) 131 aG):=(am w _ 131 aG).below a (by simp);have r:Hid (zz w o):=ac (aU w _ _) a (by simp<;>omega);clear a H)
  |(go_at_call 151;refine(qH o.heap.size _ ⟨#[45]⟩ nm _ (ah.made o _ [.string ⟨#[45]⟩,.string nm]) K.out).mono ?_
    rintro M x ⟨u,rfl,⟨p,rfl,D,A⟩,a⟩;have G:Hid (ah x (w.heap.size+1) 131 aG):=(q.alloc _).below a (q.alloc _).lt;have J:Hid (zz w x):=ac (r.alloc r.size _) a (by have:=r.size;simp<;>omega);have C:Hid (w.heap.size+1<p):=by have:=q.lt;simp at D;exact za (by omega)
    have I:=za A;clear A a D r q)
  |(refine bL (.tmp 4) (.tmp 66) (w.heap.size+1) aG aS.cells _ rfl rfl rfl rfl G.out rfl rfl rfl ?_;intro v z F E
    have P:Hid (zz w v):=J.trans (F _ (by omega));have N:=za z;have O:Hid (ah v p 139 _):=(E p (by have:=C.out;omega)).trans I.out;clear J G F z E I))
 refine bodyPost_ret (eT rfl _ _ (w.heap.size+1) _ rfl N.out rfl) rfl ⟨_,rfl,⟨p,rfl,by have:=C.out;omega,O⟩,P⟩
def N9(t s:ByteArray)(n f b d c g:Int)(i l:Option Addr)(h pc m j:Nat)(k:Int)(Q:(k==2)=false)(w:World)(L:(⟨#[94]⟩:ByteArray).size+t.size<=3000000):Calls prog 119 #[.string ⟨#[94]⟩,(aH.mk k t n f s b d c g i h pc l m j).val] w λe w'=> ∃u,e= .returned (.tuple #[aS.val,u])∧eu w w' u cA ((⟨#[94]⟩:ByteArray)++⟨#[32]⟩++cu (aH.mk k t n f s b d c g i h pc l m j))∧zz w w':=by
 have B:=λw=>ji (aH.mk k t n f s b d c g i h pc l m j) w (by simp only;omega);have y:=dx (aH.mk k t n f s b d c g i h pc l m j);generalize cu (aH.mk k t n f s b d c g i h pc l m j)=nm at *
 have K:Hid ((⟨#[94]⟩:ByteArray).size+nm.size<=4000000):=za (by simp only at y;omega);unfold aH.val at *
 have H:=za B;clear B y L;go_enter func119,ntmps119;go_wp2_with (first
  |(go_at_call 152;refine(H.out _).mono ?_;rintro M o ⟨rfl,a⟩
    have q:Hid (ah o (w.heap.size+1) 131 aG):=(am w _ 131 aG).below a (by simp);have r:Hid (zz w o):=ac (aU w _ _) a (by simp<;>omega);clear a H)
  |(go_at_call 151;refine(qH o.heap.size _ ⟨#[94]⟩ nm _ (ah.made o _ [.string ⟨#[94]⟩,.string nm]) K.out).mono ?_
    rintro M x ⟨u,rfl,⟨p,rfl,D,A⟩,a⟩;have G:Hid (ah x (w.heap.size+1) 131 aG):=(q.alloc _).below a (q.alloc _).lt;have J:Hid (zz w x):=ac (r.alloc r.size _) a (by have:=r.size;simp<;>omega);have C:Hid (w.heap.size+1<p):=by have:=q.lt;simp at D;exact za (by omega)
    have I:=za A;clear A a D r q)
  |(refine bL (.tmp 4) (.tmp 66) (w.heap.size+1) aG aS.cells _ rfl rfl rfl rfl G.out rfl rfl rfl ?_;intro v z F E
    have P:Hid (zz w v):=J.trans (F _ (by omega));have N:=za z;have O:Hid (ah v p 139 _):=(E p (by have:=C.out;omega)).trans I.out;clear J G F z E I))
 refine bodyPost_ret (eT rfl _ _ (w.heap.size+1) _ rfl N.out rfl) rfl ⟨_,rfl,⟨p,rfl,by have:=C.out;omega,O⟩,P⟩
def N5(t s:ByteArray)(n f b d c g:Int)(i l:Option Addr)(h pc m j:Nat)(k:Int)(Q:(k==1)=false)(w:World)(L:(⟨#[33]⟩:ByteArray).size+t.size<=3000000):Calls prog 119 #[.string ⟨#[33]⟩,(aH.mk k t n f s b d c g i h pc l m j).val] w λe w'=> ∃u,e= .returned (.tuple #[aS.val,u])∧eu w w' u cA ((⟨#[33]⟩:ByteArray)++⟨#[32]⟩++cu (aH.mk k t n f s b d c g i h pc l m j))∧zz w w':=by
 have B:=λw=>ji (aH.mk k t n f s b d c g i h pc l m j) w (by simp only;omega);have y:=dx (aH.mk k t n f s b d c g i h pc l m j);generalize cu (aH.mk k t n f s b d c g i h pc l m j)=nm at *
 have K:Hid ((⟨#[33]⟩:ByteArray).size+nm.size<=4000000):=za (by simp only at y;omega);unfold aH.val at *
 have H:=za B;clear B y L;go_enter func119,ntmps119;go_wp2_with (first
  |(go_at_call 152;refine(H.out _).mono ?_;rintro M o ⟨rfl,a⟩
    have q:Hid (ah o (w.heap.size+1) 131 aG):=(am w _ 131 aG).below a (by simp);have r:Hid (zz w o):=ac (aU w _ _) a (by simp<;>omega);clear a H)
  |(go_at_call 151;refine(qH o.heap.size _ ⟨#[33]⟩ nm _ (ah.made o _ [.string ⟨#[33]⟩,.string nm]) K.out).mono ?_
    rintro M x ⟨u,rfl,⟨p,rfl,D,A⟩,a⟩;have G:Hid (ah x (w.heap.size+1) 131 aG):=(q.alloc _).below a (q.alloc _).lt;have J:Hid (zz w x):=ac (r.alloc r.size _) a (by have:=r.size;simp<;>omega);have C:Hid (w.heap.size+1<p):=by have:=q.lt;simp at D;exact za (by omega)
    have I:=za A;clear A a D r q)
  |(refine bL (.tmp 4) (.tmp 66) (w.heap.size+1) aG aS.cells _ rfl rfl rfl rfl G.out rfl rfl rfl ?_;intro v z F E
    have P:Hid (zz w v):=J.trans (F _ (by omega));have N:=za z;have O:Hid (ah v p 139 _):=(E p (by have:=C.out;omega)).trans I.out;clear J G F z E I))
 refine bodyPost_ret (eT rfl _ _ (w.heap.size+1) _ rfl N.out rfl) rfl ⟨_,rfl,⟨p,rfl,by have:=C.out;omega,O⟩,P⟩
end
section
open Go.RowKit Go.Proofs.PeepPlain
abbrev lu:=Nat->Option (List Int)
def nU(b:lu)(o:Option Addr)(s:Option (List Int)):Prop:=match s with
 |none=>o=none
 |some s=> ∃a,o=some ⟨a,0,none⟩∧b a=some s
def uM(b:lu)(o:Option Addr)(s:List Int):Prop:=(o=none∧∀a,b a≠some s)∨∃a,o=some ⟨a,0,none⟩∧b a=some s
def xS(b:lu)(o:Option Addr)(s:List Int):Prop:=match s with
 | []=>o=none
 |_::t=> ∃a,o=some ⟨a,0,none⟩∧b a=some t
def dw(s:List Int)(d c b a:Option Addr):List Value:=[.int .u8 (s.headD 0),.pointer d,.int .i64 s.length,.pointer c,.pointer b,.pointer a]
structure KD(w:World)(R:lu)(g:Nat)(s:List Int)(bl o0 o1 o2:Option Addr):Prop where
 row:ah w g 106 (dw s bl o0 o1 o2)
 below:xS R bl s
 on0:uM R o0 (118::s)
 on1:uM R o1 (112::s)
 on2:uM R o2 (116::s)
structure fM(B:Nat)(w:World)(R:lu):Prop where
 low:∀g s,R g=some s->B<=g
 inj:∀g h s,R g=some s->R h=some s->g=h
 node:∀g s,R g=some s->∃bl o0 o1 o2,KD w R g s bl o0 o1 o2
def fM.lt{B:Nat}{w:World}{a:lu}(H:fM B w a){g:Nat}{s:List Int}(c:a g=some s):g<w.heap.size:=by
 obtain⟨h,f,e,d,b⟩:=H.node g s c;exact b.row.lt
def fM.same{B:Nat}{w w':World}{b:lu}(H:fM B w b)(i:∀g,b g≠none->w'.heap[g]?=w.heap[g]?):fM B w' b where
 low:=H.low
 inj:=H.inj
 node:=λg d c=>by
  obtain⟨j,h,f,e,a⟩:=H.node g d c
  exact⟨j,h,f,e,⟨(i g (by rw[c];simp)).trans a.row,a.below,a.on0,a.on1,a.on2⟩⟩
def uD{c t:Int}{n:Nat}{s:List Int}(a:t=c∨(c=63∧(t=118∨t=112))):aw c (n+1) (t::s)=aw c n s:=by simp only[aw,zn a]
def wZ{c t:Int}{n:Nat}{s:List Int}(a:¬(t=c∨(c=63∧(t=118∨t=112)))):aw c (n+1) (t::s)=none:=by simp only[aw,zm a]
def xD(B:Nat)(x:lu)(g:Nat)(s:List Int)(c n:Int)(w:World)(H:fM B w x)(J:x g=some s)(K:c≠0)(C:n<=1000000):
 Calls prog 112 #[.pointer (some ⟨g,0,none⟩),.int .u8 c,.int .i64 n] w λe w'=>(∃o,e= .returned (.pointer o)∧nU x o (aw c n.toNat s))∧w'=w:=by
 have S:=za H;have m:=za J;clear H J;go_enter func112,ntmps112;go_wp2_with fail;go_loop [0,2] (λQ A=> ∃(M:Nat) (s':List Int) (n':Int),Q= .pointer (some ⟨M,0,none⟩)∧A= .int .i64 n'∧n'<=1000000∧Hid (x M=some s')∧Hid (aw c n'.toNat s'=aw c n.toNat s)) (λ_ A=>(intOf A).toNat)
 case atStart=>exact⟨g,s,n,rfl,rfl,C,m,rfl⟩
 case round=>
  clear m C;obtain⟨l,r,f,rfl,rfl,C,m,j⟩:=hrel;obtain⟨R,Z,Y,X,v⟩:=S.node l r m.out;have G:w.cell? ⟨l,0,none⟩=some (.int .u8 (r.headD 0)):=v.row.cell 0;have aa:w.cell? ⟨l,1,none⟩=some (.pointer R):=v.row.cell 1;have N:=za v.below;clear v;by_cases L:0<f
  ·obtain⟨u,k⟩:∃u:Nat,f=((u+1:Nat):Int):=⟨(f - 1).toNat,by omega⟩
   have ab:=za k;have P:decide (f>0)=true:=ze L
   cases r with
   |nil=>
    simp only[List.headD_nil]at G;have i:Hid (aw c n.toNat s=none):=za (by rw[<-j.out,k,zV];rfl);have t1:((0:Int)==c)=false:=zh.2 (λb=>K b.symm);have t2:((0:Int) !=c)=true:=zO.2 (λb=>K b.symm);clear k j;by_cases a:c=63
    ·have q:(c==(63:Int))=true:=beq_iff_eq.2 a;have p:(c !=(63:Int))=false:=by simp[a]
     clear a;go_wp2_with fail;go_ret;exact⟨⟨none,rfl,by rw[i.out];rfl⟩,rfl⟩
    ·have q:(c==(63:Int))=false:=zh.2 a;have p:(c !=(63:Int))=true:=zO.2 a;clear a;go_wp2_with fail;go_ret;exact⟨⟨none,rfl,by rw[i.out];rfl⟩,rfl⟩
   |cons t s2=>
    simp only[List.headD_cons]at G;obtain⟨D,rfl,I⟩:=N.out;have F:=za I;clear I N;by_cases h:t=c∨(c=63∧(t=118∨t=112))
    ·have i:Hid (aw c u s2=aw c n.toNat s):=za (by rw[<-j.out,k,zV,uD h]);have E:=za (show aw c (f - 1).toNat s2=aw c n.toNat s by rw[show(f - 1).toNat=u by omega];exact i);clear j k;by_cases d:t=c
     ·have t1:(t==c)=true:=beq_iff_eq.2 d;have t2:(t !=c)=false:=by simp[d]
      clear h d;go_wp2_with fail;go_round
      case rel=>exact⟨D,s2,f - 1,rfl,rfl,by omega,F,E⟩
      case measure=>simp[intOf];omega
     ·have a:c=63:=by rcases h with b|b;exact absurd b d;exact b.1
      have O:t=118∨t=112:=by rcases h with b|b;exact absurd b d;exact b.2
      have t1:(t==c)=false:=zh.2 d;have t2:(t !=c)=true:=zO.2 d;have q:(c==(63:Int))=true:=beq_iff_eq.2 a;have p:(c !=(63:Int))=false:=by simp[a]
      clear h d a;rcases O with rfl|rfl
      ·go_wp2_with fail;go_round
       case rel=>exact⟨D,s2,f - 1,rfl,rfl,by omega,F,E⟩
       case measure=>simp[intOf];omega
      ·go_wp2_with fail;go_round
       case rel=>exact⟨D,s2,f - 1,rfl,rfl,by omega,F,E⟩
       case measure=>simp[intOf];omega
    ·have i:Hid (aw c n.toNat s=none):=za (by rw[<-j.out,k,zV,wZ h]);have d:t≠c:=λb=>h (.inl b);have t1:(t==c)=false:=zh.2 d;have t2:(t !=c)=true:=zO.2 d;clear j k;by_cases a:c=63
     ·have z:t≠118:=λb=>h (.inr ⟨a,.inl b⟩);have y:t≠112:=λb=>h (.inr ⟨a,.inr b⟩);have q:(c==(63:Int))=true:=beq_iff_eq.2 a;have p:(c !=(63:Int))=false:=by simp[a]
      have W:(t==(118:Int))=false:=zh.2 z;have V:(t !=(118:Int))=true:=zO.2 z;have U:(t==(112:Int))=false:=zh.2 y;have T:(t !=(112:Int))=true:=zO.2 y;clear h d a z y;go_wp2_with fail;go_ret;exact⟨⟨none,rfl,by rw[i.out];rfl⟩,rfl⟩
     ·have q:(c==(63:Int))=false:=zh.2 a;have p:(c !=(63:Int))=true:=zO.2 a;clear h d a;go_wp2_with fail;go_ret;exact⟨⟨none,rfl,by rw[i.out];rfl⟩,rfl⟩
  ·have i:Hid (aw c n.toNat s=some r):=za (by rw[<-j.out,show f.toNat=0 by omega,bC]);have P:decide (f>0)=false:=zg L;clear j;go_wp2_with fail;go_ret;exact⟨⟨some ⟨l,0,none⟩,rfl,by rw[i.out];exact⟨l,rfl,m⟩⟩,rfl⟩
end
section
open Go.RowKit Go.Proofs.PeepPlain
structure fI(R:lu)(w:World)(R':lu)(w':World):Prop where
 os:w'.os=w.os
 tape:w'.tape=w.tape
 output:w'.output=w.output
 size:w.heap.size<=w'.heap.size
 block:∀k,k<w.heap.size->R k=none->w'.heap[k]?=w.heap[k]?
 keep:∀k s,R k=some s->R' k=some s
 new:∀k,k<w.heap.size->R k=none->R' k=none
def fI.refl(b:lu)(w:World):fI b w b w:=⟨rfl,rfl,rfl,zb _,λ_ _ _=>rfl,λ_ _ a=>a,λ_ _ a=>a⟩
def fI.trans{j i h:lu}{w f e:World}(a:fI j w i f)(k:fI i f h e):fI j w h e where
 os:=k.os.trans a.os
 tape:=k.tape.trans a.tape
 output:=k.output.trans a.output
 size:=zi a.size k.size
 block:=λb c d=>(k.block b (zv c a.size) (a.new b c d)).trans (a.block b c d)
 keep:=λb g l=>k.keep b g (a.keep b g l)
 new:=λb c d=>k.new b (zv c a.size) (a.new b c d)
def fI.below{c f:lu}{w w':World}{B:Nat}(a:fI c w f w')(i:B<=w.heap.size)(e:∀g s,c g=some s->B<=g):Below B w w':=
 ⟨a.os,a.tape,a.output,a.size,λb h=>a.block b (by omega) (by
   cases d:c b with
   |none=>rfl
   |some s=>have:=e b s d;omega)⟩
def fI.row{c f:lu}{w w':World}{g:Nat}{t:TypeId}{b:List Value}(e:fI c w f w')(a:ah w g t b)(d:c g=none):ah w' g t b:=(e.block g a.lt d).trans a
def fI.ofOnly{b:lu}{S:List Nat}{w w':World}(a:cP S w w')(d:S=[])(e:∀k,w.heap.size<=k->b k=none):fI b w b w':=by
 subst d;exact⟨a.os,a.tape,a.output,a.size,λk c _=>a.block k c (by simp),λ_ _ a=>a,λ_ _ a=>a⟩
def IB(i:Nat)(c b a:Option Addr):Option Addr:=if i=0 then c else if i=1 then b else a
def bS(i:Nat):Int:=if i=0 then 118 else if i=1 then 112 else 116
def dH(c:lu)(b:Nat)(s:List Int):lu:=λa=>if a=b then some s else c a
def xa{d:lu}{e:Nat}{s t:List Int}{o:Option Addr}(g:uM d o t)(i:d e=none)(h:s≠t):uM (dH d e s) o t:=by
 rcases g with⟨c,j⟩|⟨a,c,b⟩
 ·refine .inl ⟨c,λa=>?_⟩;unfold dH;split
  ·exact λf=>h (zj f)
  ·exact j a
 ·refine .inr ⟨a,c,?_⟩;unfold dH;rw[zm (by rintro rfl;rw[i]at b;cases b)];exact b
def mC{b:lu}{d:Nat}{s t:List Int}{o:Option Addr}(c:xS b o t)(f:b d=none):xS (dH b d s) o t:=by
 cases t with
 |nil=>exact c
 |cons x t=>
  obtain⟨e,g,a⟩:=c;refine⟨e,g,?_⟩;unfold dH;rw[zm (by rintro rfl;rw[f]at a;cases a)];exact a
def Hp{B:Nat}{w w':World}{c:lu}{g:Nat}{s:List Int}{C p o n:Option Addr}(H:fM B w c)(E:c g=some s)(d:KD w c g s C p o n)(i:Nat)(ao:i<3)(v:IB i p o n=none)(ap:B<=w.heap.size)
 (X:w'.os=w.os)(S:w'.tape=w.tape)(W:w'.output=w.output)(T:w.heap.size<=w'.heap.size)(O:∀k,k<w.heap.size->k≠g->w'.heap[k]?=w.heap[k]?)
 (U:ah w' g 106 ((dw s C p o n).set (3+i) (.pointer (some ⟨w.heap.size,0,none⟩))))(V:ah w' w.heap.size 106 (dw (bS i::s) (some ⟨g,0,none⟩) none none none)):
 fM B w' (dH c w.heap.size (bS i::s))∧fI c w (dH c w.heap.size (bS i::s)) w':=by
 have an:=d.row.lt;have r:c w.heap.size=none:=by
  cases u:c w.heap.size with
  |none=>rfl
  |some h=>have:=H.lt u;omega
 have I:∀e,c e≠some (bS i::s):=by
  have af:=d.on0;have ad:=d.on1;have ab:=d.on2;unfold IB at v;unfold bS;split at v
  ·subst v;rename_i a;rw[zn a];rcases af with⟨_,e⟩|⟨k,a,_⟩
   ·exact e
   ·cases a
  ·rename_i a;rw[zm a];split at v
   ·subst v;rename_i a;rw[zn a];rcases ad with⟨_,e⟩|⟨k,a,_⟩
    ·exact e
    ·cases a
   ·subst v;rename_i a;rw[zm a];rcases ab with⟨_,e⟩|⟨k,a,_⟩
    ·exact e
    ·cases a
 have j:∀k,k≠w.heap.size->dH c w.heap.size (bS i::s) k=c k:=λk b=>by unfold dH;rw[zm b]
 have A:dH c w.heap.size (bS i::s) w.heap.size=some (bS i::s):=by unfold dH;rw[zn rfl]
 have Z:g≠w.heap.size:=by omega
 refine⟨⟨?_,?_,?_⟩,⟨?_,?_,?_,T,?_,?_,?_⟩⟩
 ·intro k h b;by_cases a:k=w.heap.size
  ·omega
  ·rw[j k a]at b;exact H.low k h b
 ·intro D z h y x;by_cases K:D=w.heap.size
  ·by_cases m:z=w.heap.size
   ·omega
   ·subst K;rw[A]at y;rw[j z m,<-y]at x;exact absurd x (I z)
  ·by_cases m:z=w.heap.size
   ·subst m;rw[A]at x;rw[j D K,<-x]at y;exact absurd y (I D)
   ·rw[j D K]at y;rw[j z m]at x;exact H.inj D z h y x
 ·intro k h b;by_cases a:k=w.heap.size
  ·subst a;rw[A]at b;obtain rfl:=zj b;have J:∀(f:Int) k,dH c w.heap.size (bS i::s) k≠some (f::bS i::s):=λf k b=>by
    by_cases a:k=w.heap.size
    ·subst a;rw[A]at b;have:=zp List.length (zj b);simp at this
    ·rw[j k a]at b;obtain⟨P,_,_,_,t⟩:=H.node k _ b;obtain⟨e,_,Y⟩:=t.below;exact I e Y
   refine⟨some ⟨g,0,none⟩,none,none,none,⟨?_,⟨g,rfl,by rw[j g Z];exact E⟩,.inl ⟨rfl,J 118⟩,.inl ⟨rfl,J 112⟩,.inl ⟨rfl,J 116⟩⟩⟩;exact V
  ·rw[j k a]at b;by_cases m:k=g
   ·subst m;rw[E]at b;obtain rfl:=zj b;have F:=U;have G:uM (dH c w.heap.size (bS i::s)) (some ⟨w.heap.size,0,none⟩) (bS i::s):= .inr ⟨_,rfl,A⟩;have l:∀(f:Int) q,f≠bS i->uM c q (f::s)->uM (dH c w.heap.size (bS i::s)) q (f::s):=λf q Q e=>xa e r (λa=>Q (List.cons.inj a).1.symm);have aa:i=0∨i=1∨i=2:=by omega
    rcases aa with rfl|rfl|rfl
    ·exact⟨C,some ⟨w.heap.size,0,none⟩,o,n,⟨F,mC d.below r,G,l 112 o (by decide) d.on1,l 116 n (by decide) d.on2⟩⟩
    ·exact⟨C,p,some ⟨w.heap.size,0,none⟩,n,⟨F,mC d.below r,l 118 p (by decide) d.on0,G,l 116 n (by decide) d.on2⟩⟩
    ·exact⟨C,p,o,some ⟨w.heap.size,0,none⟩,⟨F,mC d.below r,l 118 p (by decide) d.on0,l 112 o (by decide) d.on1,G⟩⟩
   ·obtain⟨P,N,M,L,t⟩:=H.node k h b;have R:h≠s:=λa=>m (H.inj k g s (by rw[b,a]) E);have l:∀(f:Int) q,uM c q (f::h)->uM (dH c w.heap.size (bS i::s)) q (f::h):=λf q e=>xa e r (λa=>R (List.cons.inj a).2.symm);exact⟨P,N,M,L,⟨(O k (H.lt b) m).trans t.row,mC t.below r,l 118 N t.on0,l 112 M t.on1,l 116 L t.on2⟩⟩
 ·exact X
 ·exact S
 ·exact W
 ·exact λk b u=>O k b (by rintro rfl;rw[E]at u;cases u)
 ·exact λk h b=>by
   rw[j k (by rintro rfl;rw[r]at b;cases b)];exact b
 ·exact λk b u=>by rw[j k (by omega)];exact u
def Fl{B:Nat}{w:World}{d:lu}{g:Nat}{s:List Int}{m h f e:Option Addr}(H:fM B w d)(u:d g=some s)(k:KD w d g s m h f e)(i:Nat)(t:i<3)(p:none=IB i h f e)(x:B<=w.heap.size)(c:Int)(v:c=bS i)(b:World)
 (a:b=((w.setCell ⟨g,3+i,none⟩ (.pointer (some ⟨w.heap.size,0,none⟩))).alloc (.cells #[.int .u8 c,.pointer (some ⟨g,0,none⟩),.int .i64 ((s.length:Int)+1),.pointer none,.pointer none,.pointer none] 106)).drew):
 fM B b (dH d w.heap.size (bS i::s))∧fI d w (dH d w.heap.size (bS i::s)) b∧b.cell? ⟨g,3+i,none⟩=some (.pointer (some ⟨w.heap.size,0,none⟩)):=by
 subst v;have y:=k.row.lt;have j:(w.setCell ⟨g,3+i,none⟩ (.pointer (some ⟨w.heap.size,0,none⟩))).heap.size=w.heap.size:=by simp[World.setCell]
 have l:ah b g 106 ((dw s m h f e).set (3+i) (.pointer (some ⟨w.heap.size,0,none⟩))):=by
  rw[a];exact((k.row.set _ _).alloc _).drew
 have o:ah b w.heap.size 106 (dw (bS i::s) (some ⟨g,0,none⟩) none none none):=by
  rw[a];have:=(ah.made (w.setCell ⟨g,3+i,none⟩ (.pointer (some ⟨w.heap.size,0,none⟩))) 106 (dw (bS i::s) (some ⟨g,0,none⟩) none none none)).drew;rw[j]at this;simpa[dw]using this
 have:=Hp (w':=b) H u k i t p.symm x (by rw[a];rfl) (by rw[a];rfl) (by rw[a];rfl) (by rw[a];show w.heap.size<=(World.alloc _ _).heap.size;simp[j]) (λn r q=>by
  rw[a];exact(jz _ _ n (by rw[j];exact r)).trans (Below.heap_setCell _ _ _ _ q)) l o
 refine⟨this.1,this.2,?_⟩;rw[l.cell,List.getElem?_set,zn rfl,zn (by simp[dw];omega)]
end
end Go.Proofs.YtmecmlpoallpcaaGreatDoor

/- Parts of the proof: OpsA ValB OpsB OpsC Dec RefS RefD RefE RefI StkR -/
import Derived.Test.YtmecmlpoallpcaaGreatDoorM04
import Derived.Lib.ParseIntBTie
import Derived.Test.YtmecmlpoallpcaaGreatDoorM11
import Derived.Test.YtmecmlpoallpcaaGreatDoorM08
import Derived.Deep.RegionHeld3
import Derived.RegionTactic
import Derived.BigRegion
import Derived.Lib.ItoaLen
import Derived.Test.YtmecmlpoallpcaaGreatDoorM07
import Derived.Test.YtmecmlpoallpcaaGreatDoorM10
set_option linter.all false
set_option maxHeartbeats 8000000
namespace Go.Proofs.YtmecmlpoallpcaaGreatDoor
open Go.Proofs.Tryz
section
open Go.RowKit Go.Proofs.PeepPlain
theorem tG(c:UInt8):∀(l:List UInt8) (acc a:Nat),Lib.parseUint10 acc l= .ok a->Lib.parseUint10 acc (l++ [c])=Lib.parseUint10 a [c]
 | [],acc,a,h=>by
   simp only[Lib.parseUint10]at h;injection h with h;subst h;rfl
 |d::l,acc,a,h=>by
  rw[List.cons_append];unfold Lib.parseUint10 at h ⊢
  split at h
  ·rename_i f;rw[zn f];split at h
   ·cases h
   ·rename_i e;rw[zm e];split at h
    ·cases h
    ·rename_i b;rw[zm b];exact tG c l _ _ h
  ·cases h
def JF:∀(u:Nat),u<18446744073709551616->Lib.parseUint10 0 (Lib.decDigits u)= .ok u:=by
 intro u
 induction u using Nat.strongRecOn with
 |_ u ih=>
  intro c;by_cases b:u<10
  ·have a:(UInt8.ofNat (48+u)).toNat=48+u:=by rw[UInt8.toNat_ofNat'];omega
   rw[Lib.decDigits_one b];unfold Lib.parseUint10;rw[a,zn (by omega),zm (by omega),zm (by omega)];unfold Lib.parseUint10;congr 1;omega
  ·have a:(UInt8.ofNat (48+u % 10)).toNat=48+u % 10:=by rw[UInt8.toNat_ofNat'];omega
   rw[Lib.decDigits,dif_neg b,tG _ _ _ _ (ih (u / 10) (by omega) (by omega))];unfold Lib.parseUint10;rw[a,zn (by omega),zm (by omega),zm (by omega)];unfold Lib.parseUint10;congr 1;omega
def qu:∀(u:Nat),∃c r,Lib.decDigits u=c::r∧48<=c.toNat:=by
 intro u
 induction u using Nat.strongRecOn with
 |_ u ih=>
  by_cases a:u<10
  ·exact⟨_,[],Lib.decDigits_one a,by rw[UInt8.toNat_ofNat'];omega⟩
  ·obtain⟨c,r,d,b⟩:=ih (u / 10) (by omega);exact⟨c,r++ [UInt8.ofNat (48+u % 10)],by rw[Lib.decDigits,dif_neg a,d];rfl,b⟩
def FW(u:Nat)(a:u<18446744073709551616):Lib.parseMag (Lib.decDigits u)= .ok u:=by
 obtain⟨d,c,b,_⟩:=qu u;unfold Lib.parseMag;rw[zm (by rw[b];simp),JF u a]
def JG(n:Int)(i: -9223372036854775808<=n)(h:n<=9223372036854775807):Lib.atoiAll (Lib.itoa n)= .ok n:=by
 by_cases b:n<0
 ·have a:Lib.itoa n=45::Lib.decDigits n.natAbs:=by unfold Lib.itoa;rw[zn b]
  rw[a];have e:(45:UInt8).toNat=45:=rfl;unfold Lib.atoiAll;dsimp only;rw[e,zn (.inr rfl),FW _ (by omega)];dsimp only;rw[zm (by simp),zm (by omega),zn rfl];congr 1;omega
 ·have a:Lib.itoa n=Lib.decDigits n.toNat:=by unfold Lib.itoa;rw[zm b]
  obtain⟨j,f,d,g⟩:=qu n.toNat;have c:=FW n.toNat (by omega);rw[d]at c;rw[a,d];unfold Lib.atoiAll;dsimp only;rw[zm (by omega),c];dsimp only;rw[zm (by omega),zm (by omega),zm (by omega)];congr 1;omega
def vk{l:List UInt8}{n:Int}(a:Lib.atoiAll l= .ok n): -9223372036854775808<=n∧n<=9223372036854775807:=by
 unfold Lib.atoiAll at a;split at a
 ·cases a
 ·dsimp only at a;split at a
  ·cases a
  ·cases a
  ·split at a
   ·cases a
   ·split at a
    ·cases a
    ·injection a with a;split at a<;>omega
def ku{s:ByteArray}{n:Int}(a:bB s=some n):Lib.atoiAll s.data.toList= .ok n∧Lib.itoa n=s.data.toList∧ -9223372036854775808<=n∧n<=9223372036854775807:=by
 unfold bB at a;split at a
 ·rename_i d b;split at a
  ·rename_i c;injection a with a;subst a;rw[Lib.parseIntB_64]at b;exact⟨b,c,(vk b).1,(vk b).2⟩
  ·cases a
 ·cases a
def ni{n:Int}(b: -9223372036854775808<=n)(a:n<=9223372036854775807):bB ⟨(Lib.itoa n).toArray⟩=some n:=by
 unfold bB;have c:(⟨(Lib.itoa n).toArray⟩:ByteArray).data.toList=Lib.itoa n:=by simp
 rw[c,Lib.parseIntB_64,JG n b a];dsimp only;rw[zn rfl]
inductive gD where
 |int(n:Int)
 |flag(n:Int)
def cm(i:au):Option gD:=if i.op=3 then(bB i.text).map .int else if i.op=6 then some (.flag i.a)else none
def gQ:gD->Int->au
 | .int n,pos=>⟨3,0,0,⟨(Lib.itoa n).toArray⟩,pos⟩
 | .flag n,pos=>⟨6,n,0,⟨#[]⟩,pos⟩
def Cb(b:Bool):Int:=if b then 1 else 0
def mV(op:ByteArray):gD->Option gD
 | .int n=>
   if op.toList=[43,43]then some (.int (wrap64 (n+1)))
   else if op.toList=[45,45]then some (.int (wrap64 (n - 1)))
   else if op.toList=[45]then some (.int (wrap64 (-n)))
   else if op.toList=[94]then some (.int (bits BinOp.xor .i64 (-1) n))
   else none
 | .flag n=>
   if op.toList=[43,43]then none
   else if op.toList=[45,45]then none
   else if op.toList=[33]then some (.flag (if n=0 then 1 else 0))
   else none
def Hc:gD->gD->Bool
 | .int n,.int m=>n==m
 | .flag n,.flag m=>n==m
 |_,_=>false
def bg(op:ByteArray)(n m:Int):Option gD:=
 if op.toList=[43]then some (.int (wrap64 (n+m)))
 else if op.toList=[45]then some (.int (wrap64 (n - m)))
 else if op.toList=[42]then some (.int (wrap64 (n * m)))
 else if op.toList=[47]then(if m=0 then none else some (.int (if m= -1 then wrap64 (-n)else wrap64 (n.tdiv m))))
 else if op.toList=[37]then(if m=0 then none else some (.int (if m= -1 then wrap64 (n - wrap64 (-wrap64 (-n)))else wrap64 (n - wrap64 (wrap64 (n.tdiv m) * m)))))
 else if op.toList=[38]then some (.int (bits BinOp.and .i64 n m))
 else if op.toList=[124]then some (.int (bits BinOp.or .i64 n m))
 else if op.toList=[94]then some (.int (bits BinOp.xor .i64 n m))
 else if op.toList=[60,60]then(if m<0 then none else some (.int (wrap64 (n * 2 ^ (min m 64).toNat))))
 else if op.toList=[62,62]then(if m<0 then none else some (.int (n / 2 ^ (min m 63).toNat)))
 else if op.toList=[60,61]then some (.flag (Cb (decide (n<=m))))
 else if op.toList=[60]then some (.flag (Cb (decide (n<m))))
 else if op.toList=[62,61]then some (.flag (Cb (decide (m<=n))))
 else if op.toList=[62]then some (.flag (Cb (decide (m<n))))
 else none
def iF(op:ByteArray)(b a:gD):Option gD:=
 if op.toList=[61,61]then some (.flag (Cb (Hc b a)))
 else if op.toList=[33,61]then some (.flag (Cb (!Hc b a)))
 else match b,a with
  | .int n,.int m=>bg op n m
  |_,_=>none
def O0:Dn gD:=⟨cm,mV,iF,gQ⟩
def cS:O0.Fair where
 cst:=λc b a=>by
  have a:cm c=some b:=a
  unfold cm at a
  split at a
  ·exact .inl (by assumption)
  ·split at a
   ·exact .inr (by assumption)
   ·cases a
 lay:=λb pos=>by cases b<;>first|exact .inl rfl|exact .inr rfl
def fv:gD->Prop
 | .int n=> -9223372036854775808<=n∧n<=9223372036854775807
 | .flag n=>n=0∨n=1
def rX(b:Bool):fv (.flag (Cb b)):=by cases b<;>simp[fv,Cb]
def ip(n:Int):fv (.int (wrap64 n)):=by simp only[fv,wrap64];omega
end
section
set_option maxRecDepth 200000
open Go.RowKit
def jf(k n f:Int)(t s:ByteArray)(w:World):Calls prog 187 #[(mk k t n f s).val] w λe w'=>e= .returned (.agg #[.int .i64 k,.string t])∧zz w w':=by
 unfold mk aH.val;go_enter func187,ntmps187;go_wp2;go_returns;exact⟨rfl,by go_grown⟩
@[go_sem ↓] theorem RY(a d:Int)(b c:ByteArray)(w:World):
 (Op.equalIn 10000 245 (.agg #[.int .i64 a,.string b]) (.agg #[.int .i64 d,.string c])).run prog w= .ok (a==d&&b.toList==c.toList) w:=by
 have e:prog.underlying 245=some (.struct (prog.fieldsOf 245)):=by kernel_rfl
 rw[show(10000:Nat)=9999+1 from rfl,run_equalIn_agg w 9999 245 _ _ e stoodInHeld245];simp only[Program.fieldsOf,underlying245];simp[go_sem];by_cases g:a=d<;>by_cases f:b.toList=c.toList<;>simp[g,f]
def EF(n m:Int)(w:World):Calls prog 155 #[(cz n).val,(cz m).val] w λe w'=>e= .returned (.tuple #[.bool (n==m),.string ⟨#[]⟩])∧zz w w':=by
 have M:=jf 2 n 0 ⟨#[105,110,116]⟩ ⟨#[]⟩;have L:=jf 2 m 0 ⟨#[105,110,116]⟩ ⟨#[]⟩;simp only[cz,mk,aH.val]at *
 cases Q:(n==m)
 all_goals
  go_enter func155,ntmps155;go_wp2_with fail;obtain⟨f,b,a,c,e⟩:∃f,ah f w.heap.size 131 [.int .i64 2,.string ⟨#[105,110,116]⟩,.int .i64 n,.int .u64 0,.string ⟨#[]⟩,.int .i64 0,.int .i64 0,.int .i64 0,.int .i64 0,.slice none 0 0,.slice none 0 0]∧ah f (w.heap.size+1) 131 [.int .i64 2,.string ⟨#[105,110,116]⟩,.int .i64 m,.int .u64 0,.string ⟨#[]⟩,.int .i64 0,.int .i64 0,.int .i64 0,.int .i64 0,.slice none 0 0,.slice none 0 0]∧zz w f∧((w.alloc (.cells #[.int .i64 2,.string ⟨#[105,110,116]⟩,.int .i64 n,.int .u64 0,.string ⟨#[]⟩,.int .i64 0,.int .i64 0,.int .i64 0,.int .i64 0,.slice none 0 0,.slice none 0 0] 131)).alloc (.cells #[.int .i64 2,.string ⟨#[105,110,116]⟩,.int .i64 m,.int .u64 0,.string ⟨#[]⟩,.int .i64 0,.int .i64 0,.int .i64 0,.int .i64 0,.slice none 0 0,.slice none 0 0] 131))=f:=
   ⟨_,(ah.made w 131 _).alloc _,am w _ 131 _,aU w _ _,rfl⟩
  rw[e];clear e;have O:=za M;have N:=za L;clear M L;obtain⟨I,H,F,E,D,C,B,A,z,y,G,K⟩:=aA b;obtain⟨x,v,t,s,r,q,p,o,l,k,u,J⟩:=aA a;replace b:=za b;replace a:=za a;replace c:=za c;go_region_held3 (λw'=>w'.cell? ⟨w.heap.size,0,none⟩=some (.int .i64 2)∧w'.cell? ⟨w.heap.size,1,none⟩=some (.string ⟨#[105,110,116]⟩)∧w'.cell? ⟨w.heap.size,2,none⟩=some (.int .i64 n)∧w'.cell? ⟨w.heap.size,3,none⟩=some (.int .u64 0)∧w'.cell? ⟨w.heap.size,4,none⟩=some (.string ⟨#[]⟩)∧w'.cell? ⟨w.heap.size,5,none⟩=some (.int .i64 0)∧w'.cell? ⟨w.heap.size,6,none⟩=some (.int .i64 0)∧w'.cell? ⟨w.heap.size,7,none⟩=some (.int .i64 0)∧w'.cell? ⟨w.heap.size,8,none⟩=some (.int .i64 0)∧w'.cell? ⟨w.heap.size,9,none⟩=some (.slice none 0 0)∧w'.cell? ⟨w.heap.size,10,none⟩=some (.slice none 0 0)∧w'.cell? ⟨w.heap.size+1,0,none⟩=some (.int .i64 2)∧w'.cell? ⟨w.heap.size+1,1,none⟩=some (.string ⟨#[105,110,116]⟩)∧w'.cell? ⟨w.heap.size+1,2,none⟩=some (.int .i64 m)∧w'.cell? ⟨w.heap.size+1,3,none⟩=some (.int .u64 0)∧w'.cell? ⟨w.heap.size+1,4,none⟩=some (.string ⟨#[]⟩)∧w'.cell? ⟨w.heap.size+1,5,none⟩=some (.int .i64 0)∧w'.cell? ⟨w.heap.size+1,6,none⟩=some (.int .i64 0)∧w'.cell? ⟨w.heap.size+1,7,none⟩=some (.int .i64 0)∧w'.cell? ⟨w.heap.size+1,8,none⟩=some (.int .i64 0)∧w'.cell? ⟨w.heap.size+1,9,none⟩=some (.slice none 0 0)∧w'.cell? ⟨w.heap.size+1,10,none⟩=some (.slice none 0 0)) (first|go_keep|exact⟨I,H,F,E,D,C,B,A,z,y,G,x,v,t,s,r,q,p,o,l,k,u⟩) (first|(go_at_call 187;(with_reducible refine(O.out _).mono ?_);rintro P j ⟨rfl,d⟩;have h:=b.drew.below d b.drew.lt;have g:=a.drew.below d a.drew.lt;have i:zz w j:=ac (ay c.out) d c.size;clear b a c O d;have b:=za h;have a:=za g;have c:=za i;clear h g i;obtain⟨I,H,F,E,D,C,B,A,z,y,G,K⟩:=aA b.out;obtain⟨x,v,t,s,r,q,p,o,l,k,u,J⟩:=aA a.out)|(go_at_call 187;(with_reducible refine(N.out _).mono ?_);rintro P j ⟨rfl,d⟩;have h:=b.below d b.lt;have g:=a.below d a.lt;have i:zz w j:=ac c.out d c.size;clear b a c N d;have b:=za h;have a:=za g;have c:=za i;clear h g i;obtain⟨I,H,F,E,D,C,B,A,z,y,G,K⟩:=aA b.out;obtain⟨x,v,t,s,r,q,p,o,l,k,u,J⟩:=aA a.out))
  all_goals
   go_wp2;go_returns;exact⟨rfl,c⟩
def Cv(n m:Int)(w:World):Calls prog 155 #[(eL n).val,(eL m).val] w λe w'=>e= .returned (.tuple #[.bool (n==m),.string ⟨#[]⟩])∧zz w w':=by
 have M:=jf 1 n 0 ⟨#[98,111,111,108]⟩ ⟨#[]⟩;have L:=jf 1 m 0 ⟨#[98,111,111,108]⟩ ⟨#[]⟩;simp only[eL,mk,aH.val,fy]at *
 cases Q:(n==m)
 all_goals
  go_enter func155,ntmps155;go_wp2_with fail;obtain⟨f,b,a,c,e⟩:∃f,ah f w.heap.size 131 [.int .i64 1,.string ⟨#[98,111,111,108]⟩,.int .i64 n,.int .u64 0,.string ⟨#[]⟩,.int .i64 0,.int .i64 0,.int .i64 0,.int .i64 0,.slice none 0 0,.slice none 0 0]∧ah f (w.heap.size+1) 131 [.int .i64 1,.string ⟨#[98,111,111,108]⟩,.int .i64 m,.int .u64 0,.string ⟨#[]⟩,.int .i64 0,.int .i64 0,.int .i64 0,.int .i64 0,.slice none 0 0,.slice none 0 0]∧zz w f∧((w.alloc (.cells #[.int .i64 1,.string ⟨#[98,111,111,108]⟩,.int .i64 n,.int .u64 0,.string ⟨#[]⟩,.int .i64 0,.int .i64 0,.int .i64 0,.int .i64 0,.slice none 0 0,.slice none 0 0] 131)).alloc (.cells #[.int .i64 1,.string ⟨#[98,111,111,108]⟩,.int .i64 m,.int .u64 0,.string ⟨#[]⟩,.int .i64 0,.int .i64 0,.int .i64 0,.int .i64 0,.slice none 0 0,.slice none 0 0] 131))=f:=
   ⟨_,(ah.made w 131 _).alloc _,am w _ 131 _,aU w _ _,rfl⟩
  rw[e];clear e;have O:=za M;have N:=za L;clear M L;obtain⟨I,H,F,E,D,C,B,A,z,y,G,K⟩:=aA b;obtain⟨x,v,t,s,r,q,p,o,l,k,u,J⟩:=aA a;replace b:=za b;replace a:=za a;replace c:=za c;go_region_held3 (λw'=>w'.cell? ⟨w.heap.size,0,none⟩=some (.int .i64 1)∧w'.cell? ⟨w.heap.size,1,none⟩=some (.string ⟨#[98,111,111,108]⟩)∧w'.cell? ⟨w.heap.size,2,none⟩=some (.int .i64 n)∧w'.cell? ⟨w.heap.size,3,none⟩=some (.int .u64 0)∧w'.cell? ⟨w.heap.size,4,none⟩=some (.string ⟨#[]⟩)∧w'.cell? ⟨w.heap.size,5,none⟩=some (.int .i64 0)∧w'.cell? ⟨w.heap.size,6,none⟩=some (.int .i64 0)∧w'.cell? ⟨w.heap.size,7,none⟩=some (.int .i64 0)∧w'.cell? ⟨w.heap.size,8,none⟩=some (.int .i64 0)∧w'.cell? ⟨w.heap.size,9,none⟩=some (.slice none 0 0)∧w'.cell? ⟨w.heap.size,10,none⟩=some (.slice none 0 0)∧w'.cell? ⟨w.heap.size+1,0,none⟩=some (.int .i64 1)∧w'.cell? ⟨w.heap.size+1,1,none⟩=some (.string ⟨#[98,111,111,108]⟩)∧w'.cell? ⟨w.heap.size+1,2,none⟩=some (.int .i64 m)∧w'.cell? ⟨w.heap.size+1,3,none⟩=some (.int .u64 0)∧w'.cell? ⟨w.heap.size+1,4,none⟩=some (.string ⟨#[]⟩)∧w'.cell? ⟨w.heap.size+1,5,none⟩=some (.int .i64 0)∧w'.cell? ⟨w.heap.size+1,6,none⟩=some (.int .i64 0)∧w'.cell? ⟨w.heap.size+1,7,none⟩=some (.int .i64 0)∧w'.cell? ⟨w.heap.size+1,8,none⟩=some (.int .i64 0)∧w'.cell? ⟨w.heap.size+1,9,none⟩=some (.slice none 0 0)∧w'.cell? ⟨w.heap.size+1,10,none⟩=some (.slice none 0 0)) (first|go_keep|exact⟨I,H,F,E,D,C,B,A,z,y,G,x,v,t,s,r,q,p,o,l,k,u⟩) (first|(go_at_call 187;(with_reducible refine(O.out _).mono ?_);rintro P j ⟨rfl,d⟩;have h:=b.drew.below d b.drew.lt;have g:=a.drew.below d a.drew.lt;have i:zz w j:=ac (ay c.out) d c.size;clear b a c O d;have b:=za h;have a:=za g;have c:=za i;clear h g i;obtain⟨I,H,F,E,D,C,B,A,z,y,G,K⟩:=aA b.out;obtain⟨x,v,t,s,r,q,p,o,l,k,u,J⟩:=aA a.out)|(go_at_call 187;(with_reducible refine(N.out _).mono ?_);rintro P j ⟨rfl,d⟩;have h:=b.below d b.lt;have g:=a.below d a.lt;have i:zz w j:=ac c.out d c.size;clear b a c N d;have b:=za h;have a:=za g;have c:=za i;clear h g i;obtain⟨I,H,F,E,D,C,B,A,z,y,G,K⟩:=aA b.out;obtain⟨x,v,t,s,r,q,p,o,l,k,u,J⟩:=aA a.out))
  all_goals
   go_wp2;go_returns;exact⟨rfl,c⟩
def BS(n m:Int)(w:World):Calls prog 155 #[(cz n).val,(eL m).val] w λe w'=>e= .returned (.tuple #[.bool (false),.string ⟨#[]⟩])∧zz w w':=by
 have M:=jf 2 n 0 ⟨#[105,110,116]⟩ ⟨#[]⟩;have L:=jf 1 m 0 ⟨#[98,111,111,108]⟩ ⟨#[]⟩;simp only[eL,cz,mk,aH.val,fy]at *
 go_enter func155,ntmps155;go_wp2_with fail;obtain⟨f,b,a,c,e⟩:∃f,ah f w.heap.size 131 [.int .i64 2,.string ⟨#[105,110,116]⟩,.int .i64 n,.int .u64 0,.string ⟨#[]⟩,.int .i64 0,.int .i64 0,.int .i64 0,.int .i64 0,.slice none 0 0,.slice none 0 0]∧ah f (w.heap.size+1) 131 [.int .i64 1,.string ⟨#[98,111,111,108]⟩,.int .i64 m,.int .u64 0,.string ⟨#[]⟩,.int .i64 0,.int .i64 0,.int .i64 0,.int .i64 0,.slice none 0 0,.slice none 0 0]∧zz w f∧((w.alloc (.cells #[.int .i64 2,.string ⟨#[105,110,116]⟩,.int .i64 n,.int .u64 0,.string ⟨#[]⟩,.int .i64 0,.int .i64 0,.int .i64 0,.int .i64 0,.slice none 0 0,.slice none 0 0] 131)).alloc (.cells #[.int .i64 1,.string ⟨#[98,111,111,108]⟩,.int .i64 m,.int .u64 0,.string ⟨#[]⟩,.int .i64 0,.int .i64 0,.int .i64 0,.int .i64 0,.slice none 0 0,.slice none 0 0] 131))=f:=
  ⟨_,(ah.made w 131 _).alloc _,am w _ 131 _,aU w _ _,rfl⟩
 rw[e];clear e;have O:=za M;have N:=za L;clear M L;obtain⟨I,H,F,E,D,C,B,A,z,y,G,K⟩:=aA b;obtain⟨x,v,t,s,r,q,p,o,l,k,u,J⟩:=aA a;replace b:=za b;replace a:=za a;replace c:=za c;go_region_held3 (λw'=>w'.cell? ⟨w.heap.size,0,none⟩=some (.int .i64 2)∧w'.cell? ⟨w.heap.size,1,none⟩=some (.string ⟨#[105,110,116]⟩)∧w'.cell? ⟨w.heap.size,2,none⟩=some (.int .i64 n)∧w'.cell? ⟨w.heap.size,3,none⟩=some (.int .u64 0)∧w'.cell? ⟨w.heap.size,4,none⟩=some (.string ⟨#[]⟩)∧w'.cell? ⟨w.heap.size,5,none⟩=some (.int .i64 0)∧w'.cell? ⟨w.heap.size,6,none⟩=some (.int .i64 0)∧w'.cell? ⟨w.heap.size,7,none⟩=some (.int .i64 0)∧w'.cell? ⟨w.heap.size,8,none⟩=some (.int .i64 0)∧w'.cell? ⟨w.heap.size,9,none⟩=some (.slice none 0 0)∧w'.cell? ⟨w.heap.size,10,none⟩=some (.slice none 0 0)∧w'.cell? ⟨w.heap.size+1,0,none⟩=some (.int .i64 1)∧w'.cell? ⟨w.heap.size+1,1,none⟩=some (.string ⟨#[98,111,111,108]⟩)∧w'.cell? ⟨w.heap.size+1,2,none⟩=some (.int .i64 m)∧w'.cell? ⟨w.heap.size+1,3,none⟩=some (.int .u64 0)∧w'.cell? ⟨w.heap.size+1,4,none⟩=some (.string ⟨#[]⟩)∧w'.cell? ⟨w.heap.size+1,5,none⟩=some (.int .i64 0)∧w'.cell? ⟨w.heap.size+1,6,none⟩=some (.int .i64 0)∧w'.cell? ⟨w.heap.size+1,7,none⟩=some (.int .i64 0)∧w'.cell? ⟨w.heap.size+1,8,none⟩=some (.int .i64 0)∧w'.cell? ⟨w.heap.size+1,9,none⟩=some (.slice none 0 0)∧w'.cell? ⟨w.heap.size+1,10,none⟩=some (.slice none 0 0)) (first|go_keep|exact⟨I,H,F,E,D,C,B,A,z,y,G,x,v,t,s,r,q,p,o,l,k,u⟩) (first|(go_at_call 187;(with_reducible refine(O.out _).mono ?_);rintro P j ⟨rfl,d⟩;have h:=b.drew.below d b.drew.lt;have g:=a.drew.below d a.drew.lt;have i:zz w j:=ac (ay c.out) d c.size;clear b a c O d;have b:=za h;have a:=za g;have c:=za i;clear h g i;obtain⟨I,H,F,E,D,C,B,A,z,y,G,K⟩:=aA b.out;obtain⟨x,v,t,s,r,q,p,o,l,k,u,J⟩:=aA a.out)|(go_at_call 187;(with_reducible refine(N.out _).mono ?_);rintro P j ⟨rfl,d⟩;have h:=b.below d b.lt;have g:=a.below d a.lt;have i:zz w j:=ac c.out d c.size;clear b a c N d;have b:=za h;have a:=za g;have c:=za i;clear h g i;obtain⟨I,H,F,E,D,C,B,A,z,y,G,K⟩:=aA b.out;obtain⟨x,v,t,s,r,q,p,o,l,k,u,J⟩:=aA a.out))
 all_goals
  go_wp2;go_returns;exact⟨rfl,c⟩
def yI(n m:Int)(w:World):Calls prog 155 #[(eL n).val,(cz m).val] w λe w'=>e= .returned (.tuple #[.bool (false),.string ⟨#[]⟩])∧zz w w':=by
 have M:=jf 1 n 0 ⟨#[98,111,111,108]⟩ ⟨#[]⟩;have L:=jf 2 m 0 ⟨#[105,110,116]⟩ ⟨#[]⟩;simp only[eL,cz,mk,aH.val,fy]at *
 go_enter func155,ntmps155;go_wp2_with fail;obtain⟨f,b,a,c,e⟩:∃f,ah f w.heap.size 131 [.int .i64 1,.string ⟨#[98,111,111,108]⟩,.int .i64 n,.int .u64 0,.string ⟨#[]⟩,.int .i64 0,.int .i64 0,.int .i64 0,.int .i64 0,.slice none 0 0,.slice none 0 0]∧ah f (w.heap.size+1) 131 [.int .i64 2,.string ⟨#[105,110,116]⟩,.int .i64 m,.int .u64 0,.string ⟨#[]⟩,.int .i64 0,.int .i64 0,.int .i64 0,.int .i64 0,.slice none 0 0,.slice none 0 0]∧zz w f∧((w.alloc (.cells #[.int .i64 1,.string ⟨#[98,111,111,108]⟩,.int .i64 n,.int .u64 0,.string ⟨#[]⟩,.int .i64 0,.int .i64 0,.int .i64 0,.int .i64 0,.slice none 0 0,.slice none 0 0] 131)).alloc (.cells #[.int .i64 2,.string ⟨#[105,110,116]⟩,.int .i64 m,.int .u64 0,.string ⟨#[]⟩,.int .i64 0,.int .i64 0,.int .i64 0,.int .i64 0,.slice none 0 0,.slice none 0 0] 131))=f:=
  ⟨_,(ah.made w 131 _).alloc _,am w _ 131 _,aU w _ _,rfl⟩
 rw[e];clear e;have O:=za M;have N:=za L;clear M L;obtain⟨I,H,F,E,D,C,B,A,z,y,G,K⟩:=aA b;obtain⟨x,v,t,s,r,q,p,o,l,k,u,J⟩:=aA a;replace b:=za b;replace a:=za a;replace c:=za c;go_region_held3 (λw'=>w'.cell? ⟨w.heap.size,0,none⟩=some (.int .i64 1)∧w'.cell? ⟨w.heap.size,1,none⟩=some (.string ⟨#[98,111,111,108]⟩)∧w'.cell? ⟨w.heap.size,2,none⟩=some (.int .i64 n)∧w'.cell? ⟨w.heap.size,3,none⟩=some (.int .u64 0)∧w'.cell? ⟨w.heap.size,4,none⟩=some (.string ⟨#[]⟩)∧w'.cell? ⟨w.heap.size,5,none⟩=some (.int .i64 0)∧w'.cell? ⟨w.heap.size,6,none⟩=some (.int .i64 0)∧w'.cell? ⟨w.heap.size,7,none⟩=some (.int .i64 0)∧w'.cell? ⟨w.heap.size,8,none⟩=some (.int .i64 0)∧w'.cell? ⟨w.heap.size,9,none⟩=some (.slice none 0 0)∧w'.cell? ⟨w.heap.size,10,none⟩=some (.slice none 0 0)∧w'.cell? ⟨w.heap.size+1,0,none⟩=some (.int .i64 2)∧w'.cell? ⟨w.heap.size+1,1,none⟩=some (.string ⟨#[105,110,116]⟩)∧w'.cell? ⟨w.heap.size+1,2,none⟩=some (.int .i64 m)∧w'.cell? ⟨w.heap.size+1,3,none⟩=some (.int .u64 0)∧w'.cell? ⟨w.heap.size+1,4,none⟩=some (.string ⟨#[]⟩)∧w'.cell? ⟨w.heap.size+1,5,none⟩=some (.int .i64 0)∧w'.cell? ⟨w.heap.size+1,6,none⟩=some (.int .i64 0)∧w'.cell? ⟨w.heap.size+1,7,none⟩=some (.int .i64 0)∧w'.cell? ⟨w.heap.size+1,8,none⟩=some (.int .i64 0)∧w'.cell? ⟨w.heap.size+1,9,none⟩=some (.slice none 0 0)∧w'.cell? ⟨w.heap.size+1,10,none⟩=some (.slice none 0 0)) (first|go_keep|exact⟨I,H,F,E,D,C,B,A,z,y,G,x,v,t,s,r,q,p,o,l,k,u⟩) (first|(go_at_call 187;(with_reducible refine(O.out _).mono ?_);rintro P j ⟨rfl,d⟩;have h:=b.drew.below d b.drew.lt;have g:=a.drew.below d a.drew.lt;have i:zz w j:=ac (ay c.out) d c.size;clear b a c O d;have b:=za h;have a:=za g;have c:=za i;clear h g i;obtain⟨I,H,F,E,D,C,B,A,z,y,G,K⟩:=aA b.out;obtain⟨x,v,t,s,r,q,p,o,l,k,u,J⟩:=aA a.out)|(go_at_call 187;(with_reducible refine(N.out _).mono ?_);rintro P j ⟨rfl,d⟩;have h:=b.below d b.lt;have g:=a.below d a.lt;have i:zz w j:=ac c.out d c.size;clear b a c N d;have b:=za h;have a:=za g;have c:=za i;clear h g i;obtain⟨I,H,F,E,D,C,B,A,z,y,G,K⟩:=aA b.out;obtain⟨x,v,t,s,r,q,p,o,l,k,u,J⟩:=aA a.out))
 all_goals
  go_wp2;go_returns;exact⟨rfl,c⟩
def Jk(d e:aH)(r:Bool)(i:∀(w:World),fT w->Calls prog 153 #[d.val] w λe w'=>e= .returned (.bool true)∧zz w w')(h:∀(w:World),fT w->Calls prog 153 #[e.val] w λe w'=>e= .returned (.bool true)∧zz w w')
 (g:∀(w:World),Calls prog 155 #[d.val,e.val] w λe w'=>e= .returned (.tuple #[.bool r,.string ⟨#[]⟩])∧zz w w')(w:World)(M:fT w):
 Calls prog 120 #[d.val,e.val] w λe w'=>e= .returned (.tuple #[.bool r,.nilIface])∧zz w w':=by
 have L:=za i;have K:=za h;have a9:=za g;have J:=za M;clear i h g M;obtain⟨av,O,ap,a7,Q,S,W,U,Y,an,aa,ad,a3,a5,a1⟩:=d;obtain⟨ar,t2,ao,a6,P,R,V,T,X,af,Z,ab,a2,a4,a0⟩:=e;simp only[aH.val]at *
 go_enter func120,ntmps120;go_wp2_with (first
  |(go_at_call 153;(with_reducible refine(L.out _ ?hg).mono ?_)
    case hg=>exact J.below (aU w _ _)
    rintro j be ⟨rfl,a⟩;have c:=za (((ah.made w 131 [.int .i64 av,.string O,.int .i64 ap,.int .u64 a7,.string Q,.int .i64 S,.int .i64 W,.int .i64 U,.int .i64 Y,.slice an aa ad,.slice a3 a5 a1]).alloc _).below a ((ah.made w 131 _).alloc _).lt);have b:=za ((am w _ 131 [.int .i64 ar,.string t2,.int .i64 ao,.int .u64 a6,.string P,.int .i64 R,.int .i64 V,.int .i64 T,.int .i64 X,.slice af Z ab,.slice a2 a4 a0]).below a (am w _ 131 _).lt);have f:=za (ac (aU w _ _) a (aU w _ _).size);have bj:=b.lt;obtain⟨H,G,E,D,C,B,A,z,y,x,F,_⟩:=aA c.out;obtain⟨v,u,s,q,p,o,n,m,l,k,t,_⟩:=aA b.out;clear a L)
  |(go_at_call 153;(with_reducible refine(K.out _ ?hg).mono ?_)
    case hg=>exact J.below f.out
    rintro j bc ⟨rfl,a⟩;have a8:=c.below a c.lt;have I:=b.below a b.lt;have N:=za (ac f.out a f.size);have bi:=I.lt;clear H G E D C B A z y x F v u s q p o n m l k t;obtain⟨H,G,E,D,C,B,A,z,y,x,F,_⟩:=aA a8;obtain⟨v,u,s,q,p,o,n,m,l,k,t,_⟩:=aA I;clear a c b K)
  |(go_at_call 155;refine(a9.out _).mono ?_;rintro j bb ⟨rfl,a⟩;have ba:=za (ac N.out a N.size);clear a))
 go_returns;exact⟨rfl,ba⟩
end
section
open Go.RowKit Go.Proofs.PeepPlain
def aQ{s:ByteArray}{l:List UInt8}(a:s.toList=l):s=⟨l.toArray⟩:=by
 rw[zH]at a;subst a;rfl
def ak{s:ByteArray}{l:List UInt8}(a:s.toList≠l):(s.toList==l)=false:=zh.2 a
def aO:gD->aH
 | .int n=>cz n
 | .flag n=>eL n
def mX(r:Option gD)(w:World)(e:Ending)(w':World):Prop:=
 (match r with
  |some d=>e= .returned (.tuple #[(aO d).val,.nilIface])
  |none=> ∃a,e= .returned (.tuple #[aS.val,.iface 209 (.pointer (some ⟨a,0,none⟩))]))∧zz w w'
def bY{r:Option gD}{d:gD}(b:r=some d){w w':World}{e:Ending}(a:e= .returned (.tuple #[(aO d).val,.nilIface])∧zz w w'):mX r w e w':=by
 subst b;exact a
def eR{r:Option gD}(g:r=none){w w':World}{e:Ending}{x b:ByteArray}(c:∃a,e= .returned (.tuple #[aS.val,a])∧eu w w' a x b∧zz w w'):mX r w e w':=by
 subst g;obtain⟨a,f,⟨h,rfl,_⟩,d⟩:=c;exact⟨⟨h,f⟩,d⟩
def mO(op:ByteArray):gD->Option gD
 | .int n=>if op.toList=[45]then some (.int (wrap64 (-n)))else if op.toList=[94]then some (.int (bits BinOp.xor .i64 (-1) n))else none
 | .flag n=>if op.toList=[33]then some (.flag (if n=0 then 1 else 0))else none
def Ja(op:ByteArray)(j:op.size<=2000000)(c:gD)(w:World):Calls prog 119 #[.string op,(aO c).val] w (mX (mO op c) w):=by
 cases c with
 |int n=>
  by_cases e:op.toList=[45]
  ·obtain rfl:=aQ e;exact(Mv ⟨#[105,110,116]⟩ ⟨#[]⟩ n 0 0 0 0 0 none none 0 0 0 0 w).mono λh f a=>bY (d:= .int (wrap64 (-n))) (by unfold mO;dsimp only;rw[zn e]) a
  ·by_cases g:op.toList=[94]
   ·obtain rfl:=aQ g;exact(MF ⟨#[105,110,116]⟩ ⟨#[]⟩ n 0 0 0 0 0 none none 0 0 0 0 w).mono λh f a=>bY (d:= .int (bits BinOp.xor .i64 (-1) n)) (by unfold mO;dsimp only;rw[zm e,zn g]) a
   ·by_cases b:op.toList=[33]
    ·obtain rfl:=aQ b;exact(N5 ⟨#[105,110,116]⟩ ⟨#[]⟩ n 0 0 0 0 0 none none 0 0 0 0 2 rfl w (by decide)).mono λh f a=>eR (by unfold mO;dsimp only;rw[zm e,zm g]) a
    ·exact(KJ op ⟨#[105,110,116]⟩ ⟨#[]⟩ n 0 0 0 0 0 none none 0 0 0 0 2 (ak e) (ak g) (ak b) w (by show op.size+3<=_;omega)).mono λh f a=>eR (by unfold mO;dsimp only;rw[zm e,zm g]) a
 |flag n=>
  by_cases b:op.toList=[33]
  ·obtain rfl:=aQ b;by_cases i:n=0
   ·exact(JN ⟨#[98,111,111,108]⟩ ⟨#[]⟩ n 0 0 0 0 0 none none 0 0 0 0 (beq_iff_eq.2 i) w).mono λh f a=>bY (d:= .flag 1) (by unfold mO;dsimp only;rw[zn b,zn i]) a
   ·exact(JT ⟨#[98,111,111,108]⟩ ⟨#[]⟩ n 0 0 0 0 0 none none 0 0 0 0 (zh.2 i) w).mono λh f a=>bY (d:= .flag 0) (by unfold mO;dsimp only;rw[zn b,zm i]) a
  ·by_cases e:op.toList=[45]
   ·obtain rfl:=aQ e;exact(NT ⟨#[98,111,111,108]⟩ ⟨#[]⟩ n 0 0 0 0 0 none none 0 0 0 0 1 rfl rfl w (by decide)).mono λh f a=>eR (by unfold mO;dsimp only;rw[zm b]) a
   ·by_cases g:op.toList=[94]
    ·obtain rfl:=aQ g;exact(N9 ⟨#[98,111,111,108]⟩ ⟨#[]⟩ n 0 0 0 0 0 none none 0 0 0 0 1 rfl w (by decide)).mono λh f a=>eR (by unfold mO;dsimp only;rw[zm b]) a
    ·exact(KJ op ⟨#[98,111,111,108]⟩ ⟨#[]⟩ n 0 0 0 0 0 none none 0 0 0 0 1 (ak e) (ak g) (ak b) w (by show op.size+4<=_;omega)).mono λh f a=>eR (by unfold mO;dsimp only;rw[zm b]) a
def Mr(op:ByteArray)(J:op.size<=2000000)(n m:Int)(G: -9223372036854775808<=m)(F:m<=9223372036854775807)(w:World)(I:aX w):Calls prog 121 #[.string op,(cz n).val,(cz m).val] w (mX (bg op n m) w):=by
 have H:=λA (y:zz w A)=>(I.below y).pow;by_cases b:op.toList=[43]
 ·obtain rfl:=aQ b;exact(bT _ (cz n) (cz m) (aO (.int (wrap64 (n+m)))) rfl rfl w (λw=>dk _ ⟨#[105,110,116]⟩ ⟨#[]⟩ n 0 0 0 0 0 none none 0 0 0 0 ⟨#[]⟩ m 0 0 0 0 0 none none 0 0 0 0 (aO (.int (wrap64 (n+m)))) true w (λw=>QW ⟨#[105,110,116]⟩ ⟨#[]⟩ n 0 0 0 0 0 none none 0 0 0 0 ⟨#[]⟩ m 0 0 0 0 0 none none 0 0 0 0 w))).mono λh f a=>bY (d:= .int (wrap64 (n+m))) (by unfold bg;rw[zn b]) a
 by_cases c:op.toList=[45]
 ·obtain rfl:=aQ c;exact(bT _ (cz n) (cz m) (aO (.int (wrap64 (n - m)))) rfl rfl w (λw=>dk _ ⟨#[105,110,116]⟩ ⟨#[]⟩ n 0 0 0 0 0 none none 0 0 0 0 ⟨#[]⟩ m 0 0 0 0 0 none none 0 0 0 0 (aO (.int (wrap64 (n - m)))) true w (λw=>Qc ⟨#[105,110,116]⟩ ⟨#[]⟩ n 0 0 0 0 0 none none 0 0 0 0 ⟨#[]⟩ m 0 0 0 0 0 none none 0 0 0 0 w))).mono λh f a=>bY (d:= .int (wrap64 (n - m))) (by unfold bg;rw[zm b,zn c]) a
 by_cases e:op.toList=[42]
 ·obtain rfl:=aQ e;exact(bT _ (cz n) (cz m) (aO (.int (wrap64 (n * m)))) rfl rfl w (λw=>dk _ ⟨#[105,110,116]⟩ ⟨#[]⟩ n 0 0 0 0 0 none none 0 0 0 0 ⟨#[]⟩ m 0 0 0 0 0 none none 0 0 0 0 (aO (.int (wrap64 (n * m)))) true w (λw=>P7 ⟨#[105,110,116]⟩ ⟨#[]⟩ n 0 0 0 0 0 none none 0 0 0 0 ⟨#[]⟩ m 0 0 0 0 0 none none 0 0 0 0 w))).mono λh f a=>bY (d:= .int (wrap64 (n * m))) (by unfold bg;rw[zm b,zm c,zn e]) a
 by_cases g:op.toList=[47]
 ·obtain rfl:=aQ g;by_cases r:m=0
  ·subst r;exact(oN _ lk ⟨#[]⟩ 2 ⟨#[105,110,116]⟩ ⟨#[]⟩ n 0 0 0 0 0 none none 0 0 0 0 ⟨#[]⟩ 0 0 0 0 0 0 none none 0 0 0 0 w (λA y=>tr _ lk ⟨#[]⟩ ⟨#[105,110,116]⟩ ⟨#[]⟩ n 0 0 0 0 0 none none 0 0 0 0 ⟨#[]⟩ 0 0 0 0 0 0 none none 0 0 0 0 A (λz D=>Ou ⟨#[105,110,116]⟩ ⟨#[]⟩ n 0 0 0 0 0 none none 0 0 0 0 ⟨#[]⟩ 0 0 0 0 0 0 none none 0 0 0 0 z))).mono λh f a=>eR (by unfold bg;rw[zm b,zm c,zm e,zn g,zn rfl]) a
  ·by_cases C:m= -1
   ·subst C;exact(bT _ (cz n) (cz (-1)) (aO (.int (wrap64 (-n)))) rfl rfl w (λw=>dk _ ⟨#[105,110,116]⟩ ⟨#[]⟩ n 0 0 0 0 0 none none 0 0 0 0 ⟨#[]⟩ (-1) 0 0 0 0 0 none none 0 0 0 0 (aO (.int (wrap64 (-n)))) true w (λw=>PR ⟨#[105,110,116]⟩ ⟨#[]⟩ n 0 0 0 0 0 none none 0 0 0 0 ⟨#[]⟩ (-1) 0 0 0 0 0 none none 0 0 0 0 w))).mono λh f a=>bY (d:= .int (wrap64 (-n))) (by unfold bg;rw[zm b,zm c,zm e,zn g,zm r,zn rfl]) a
   ·exact(bT _ (cz n) (cz m) (aO (.int (wrap64 (n.tdiv m)))) rfl rfl w (λw=>dk _ ⟨#[105,110,116]⟩ ⟨#[]⟩ n 0 0 0 0 0 none none 0 0 0 0 ⟨#[]⟩ m 0 0 0 0 0 none none 0 0 0 0 (aO (.int (wrap64 (n.tdiv m)))) true w (λw=>QB ⟨#[105,110,116]⟩ ⟨#[]⟩ n 0 0 0 0 0 none none 0 0 0 0 ⟨#[]⟩ m 0 0 0 0 0 none none 0 0 0 0 r C w))).mono λh f a=>bY (d:= .int (wrap64 (n.tdiv m))) (by unfold bg;rw[zm b,zm c,zm e,zn g,zm r,zm C]) a
 by_cases i:op.toList=[37]
 ·obtain rfl:=aQ i;by_cases r:m=0
  ·subst r;exact(oN _ lk ⟨#[]⟩ 2 ⟨#[105,110,116]⟩ ⟨#[]⟩ n 0 0 0 0 0 none none 0 0 0 0 ⟨#[]⟩ 0 0 0 0 0 0 none none 0 0 0 0 w (λA y=>tr _ lk ⟨#[]⟩ ⟨#[105,110,116]⟩ ⟨#[]⟩ n 0 0 0 0 0 none none 0 0 0 0 ⟨#[]⟩ 0 0 0 0 0 0 none none 0 0 0 0 A (λz D=>OT ⟨#[105,110,116]⟩ ⟨#[]⟩ n 0 0 0 0 0 none none 0 0 0 0 ⟨#[]⟩ 0 0 0 0 0 0 none none 0 0 0 0 z))).mono λh f a=>eR (by unfold bg;rw[zm b,zm c,zm e,zm g,zn i,zn rfl]) a
  ·by_cases C:m= -1
   ·subst C;exact(bT _ (cz n) (cz (-1)) (aO (.int (wrap64 (n - wrap64 (-wrap64 (-n)))))) rfl rfl w (λw=>dk _ ⟨#[105,110,116]⟩ ⟨#[]⟩ n 0 0 0 0 0 none none 0 0 0 0 ⟨#[]⟩ (-1) 0 0 0 0 0 none none 0 0 0 0 (aO (.int (wrap64 (n - wrap64 (-wrap64 (-n)))))) true w (λw=>PM ⟨#[105,110,116]⟩ ⟨#[]⟩ n 0 0 0 0 0 none none 0 0 0 0 ⟨#[]⟩ (-1) 0 0 0 0 0 none none 0 0 0 0 w))).mono λh f a=>bY (d:= .int (wrap64 (n - wrap64 (-wrap64 (-n))))) (by unfold bg;rw[zm b,zm c,zm e,zm g,zn i,zm r,zn rfl]) a
   ·exact(bT _ (cz n) (cz m) (aO (.int (wrap64 (n - wrap64 (wrap64 (n.tdiv m) * m))))) rfl rfl w (λw=>dk _ ⟨#[105,110,116]⟩ ⟨#[]⟩ n 0 0 0 0 0 none none 0 0 0 0 ⟨#[]⟩ m 0 0 0 0 0 none none 0 0 0 0 (aO (.int (wrap64 (n - wrap64 (wrap64 (n.tdiv m) * m))))) true w (λw=>QC ⟨#[105,110,116]⟩ ⟨#[]⟩ n 0 0 0 0 0 none none 0 0 0 0 ⟨#[]⟩ m 0 0 0 0 0 none none 0 0 0 0 r C w))).mono λh f a=>bY (d:= .int (wrap64 (n - wrap64 (wrap64 (n.tdiv m) * m)))) (by unfold bg;rw[zm b,zm c,zm e,zm g,zn i,zm r,zm C]) a
 by_cases j:op.toList=[38]
 ·obtain rfl:=aQ j;exact(bT _ (cz n) (cz m) (aO (.int (bits BinOp.and .i64 n m))) rfl rfl w (λw=>dk _ ⟨#[105,110,116]⟩ ⟨#[]⟩ n 0 0 0 0 0 none none 0 0 0 0 ⟨#[]⟩ m 0 0 0 0 0 none none 0 0 0 0 (aO (.int (bits BinOp.and .i64 n m))) true w (λw=>Ql ⟨#[105,110,116]⟩ ⟨#[]⟩ n 0 0 0 0 0 none none 0 0 0 0 ⟨#[]⟩ m 0 0 0 0 0 none none 0 0 0 0 w))).mono λh f a=>bY (d:= .int (bits BinOp.and .i64 n m)) (by unfold bg;rw[zm b,zm c,zm e,zm g,zm i,zn j]) a
 by_cases k:op.toList=[124]
 ·obtain rfl:=aQ k;exact(bT _ (cz n) (cz m) (aO (.int (bits BinOp.or .i64 n m))) rfl rfl w (λw=>dk _ ⟨#[105,110,116]⟩ ⟨#[]⟩ n 0 0 0 0 0 none none 0 0 0 0 ⟨#[]⟩ m 0 0 0 0 0 none none 0 0 0 0 (aO (.int (bits BinOp.or .i64 n m))) true w (λw=>Rw ⟨#[105,110,116]⟩ ⟨#[]⟩ n 0 0 0 0 0 none none 0 0 0 0 ⟨#[]⟩ m 0 0 0 0 0 none none 0 0 0 0 w))).mono λh f a=>bY (d:= .int (bits BinOp.or .i64 n m)) (by unfold bg;rw[zm b,zm c,zm e,zm g,zm i,zm j,zn k]) a
 by_cases l:op.toList=[94]
 ·obtain rfl:=aQ l;exact(bT _ (cz n) (cz m) (aO (.int (bits BinOp.xor .i64 n m))) rfl rfl w (λw=>dk _ ⟨#[105,110,116]⟩ ⟨#[]⟩ n 0 0 0 0 0 none none 0 0 0 0 ⟨#[]⟩ m 0 0 0 0 0 none none 0 0 0 0 (aO (.int (bits BinOp.xor .i64 n m))) true w (λw=>QK ⟨#[105,110,116]⟩ ⟨#[]⟩ n 0 0 0 0 0 none none 0 0 0 0 ⟨#[]⟩ m 0 0 0 0 0 none none 0 0 0 0 w))).mono λh f a=>bY (d:= .int (bits BinOp.xor .i64 n m)) (by unfold bg;rw[zm b,zm c,zm e,zm g,zm i,zm j,zm k,zn l]) a
 by_cases o:op.toList=[60,60]
 ·obtain rfl:=aQ o;by_cases r:m<0
  ·exact(oN _ jY ⟨(Lib.itoa m).toArray⟩ 2 ⟨#[105,110,116]⟩ ⟨#[]⟩ n 0 0 0 0 0 none none 0 0 0 0 ⟨#[]⟩ m 0 0 0 0 0 none none 0 0 0 0 w (λA y=>tr _ jY ⟨(Lib.itoa m).toArray⟩ ⟨#[105,110,116]⟩ ⟨#[]⟩ n 0 0 0 0 0 none none 0 0 0 0 ⟨#[]⟩ m 0 0 0 0 0 none none 0 0 0 0 A (λz D=>Py ⟨#[105,110,116]⟩ ⟨#[]⟩ n 0 0 0 0 0 none none 0 0 0 0 ⟨#[]⟩ m 0 0 0 0 0 none none 0 0 0 0 z ⟨G,F⟩ r (H z (y.trans (az D y.size)))))).mono λh f a=>eR (by unfold bg;rw[zm b,zm c,zm e,zm g,zm i,zm j,zm k,zm l,zn o,zn r]) a
  ·exact(bT _ (cz n) (cz m) (aO (.int (wrap64 (n * 2 ^ (min m 64).toNat)))) rfl rfl w (λw=>dk _ ⟨#[105,110,116]⟩ ⟨#[]⟩ n 0 0 0 0 0 none none 0 0 0 0 ⟨#[]⟩ m 0 0 0 0 0 none none 0 0 0 0 (aO (.int (wrap64 (n * 2 ^ (min m 64).toNat)))) true w (λw=>QE ⟨#[105,110,116]⟩ ⟨#[]⟩ n 0 0 0 0 0 none none 0 0 0 0 ⟨#[]⟩ m 0 0 0 0 0 none none 0 0 0 0 (by omega) w))).mono λh f a=>bY (d:= .int (wrap64 (n * 2 ^ (min m 64).toNat))) (by unfold bg;rw[zm b,zm c,zm e,zm g,zm i,zm j,zm k,zm l,zn o,zm r]) a
 by_cases p:op.toList=[62,62]
 ·obtain rfl:=aQ p;by_cases r:m<0
  ·exact(oN _ jY ⟨(Lib.itoa m).toArray⟩ 2 ⟨#[105,110,116]⟩ ⟨#[]⟩ n 0 0 0 0 0 none none 0 0 0 0 ⟨#[]⟩ m 0 0 0 0 0 none none 0 0 0 0 w (λA y=>tr _ jY ⟨(Lib.itoa m).toArray⟩ ⟨#[105,110,116]⟩ ⟨#[]⟩ n 0 0 0 0 0 none none 0 0 0 0 ⟨#[]⟩ m 0 0 0 0 0 none none 0 0 0 0 A (λz D=>OF ⟨#[105,110,116]⟩ ⟨#[]⟩ n 0 0 0 0 0 none none 0 0 0 0 ⟨#[]⟩ m 0 0 0 0 0 none none 0 0 0 0 z ⟨G,F⟩ r (H z (y.trans (az D y.size)))))).mono λh f a=>eR (by unfold bg;rw[zm b,zm c,zm e,zm g,zm i,zm j,zm k,zm l,zm o,zn p,zn r]) a
  ·exact(bT _ (cz n) (cz m) (aO (.int (n / 2 ^ (min m 63).toNat))) rfl rfl w (λw=>dk _ ⟨#[105,110,116]⟩ ⟨#[]⟩ n 0 0 0 0 0 none none 0 0 0 0 ⟨#[]⟩ m 0 0 0 0 0 none none 0 0 0 0 (aO (.int (n / 2 ^ (min m 63).toNat))) true w (λw=>Qr ⟨#[105,110,116]⟩ ⟨#[]⟩ n 0 0 0 0 0 none none 0 0 0 0 ⟨#[]⟩ m 0 0 0 0 0 none none 0 0 0 0 (by omega) w))).mono λh f a=>bY (d:= .int (n / 2 ^ (min m 63).toNat)) (by unfold bg;rw[zm b,zm c,zm e,zm g,zm i,zm j,zm k,zm l,zm o,zn p,zm r]) a
 by_cases q:op.toList=[60,61]
 ·obtain rfl:=aQ q;by_cases u:n<m
  ·exact(bT _ (cz n) (cz m) (aO (.flag 1)) rfl rfl w (λw=>dk _ ⟨#[105,110,116]⟩ ⟨#[]⟩ n 0 0 0 0 0 none none 0 0 0 0 ⟨#[]⟩ m 0 0 0 0 0 none none 0 0 0 0 (aO (.flag 1)) true w (λw=>OU ⟨#[105,110,116]⟩ ⟨#[]⟩ n 0 0 0 0 0 none none 0 0 0 0 ⟨#[]⟩ m 0 0 0 0 0 none none 0 0 0 0 u w))).mono λh f a=>bY (d:= .flag 1) (by unfold bg;rw[zm b,zm c,zm e,zm g,zm i,zm j,zm k,zm l,zm o,zm p,zn q,ze (show n<=m by omega)];rfl) a
  by_cases x:n=m
  ·exact(bT _ (cz n) (cz m) (aO (.flag 1)) rfl rfl w (λw=>dk _ ⟨#[105,110,116]⟩ ⟨#[]⟩ n 0 0 0 0 0 none none 0 0 0 0 ⟨#[]⟩ m 0 0 0 0 0 none none 0 0 0 0 (aO (.flag 1)) true w (λw=>OY ⟨#[105,110,116]⟩ ⟨#[]⟩ n 0 0 0 0 0 none none 0 0 0 0 ⟨#[]⟩ m 0 0 0 0 0 none none 0 0 0 0 x w))).mono λh f a=>bY (d:= .flag 1) (by unfold bg;rw[zm b,zm c,zm e,zm g,zm i,zm j,zm k,zm l,zm o,zm p,zn q,ze (show n<=m by omega)];rfl) a
  ·have v:m<n:=by omega
   exact(bT _ (cz n) (cz m) (aO (.flag 0)) rfl rfl w (λw=>dk _ ⟨#[105,110,116]⟩ ⟨#[]⟩ n 0 0 0 0 0 none none 0 0 0 0 ⟨#[]⟩ m 0 0 0 0 0 none none 0 0 0 0 (aO (.flag 0)) true w (λw=>PA ⟨#[105,110,116]⟩ ⟨#[]⟩ n 0 0 0 0 0 none none 0 0 0 0 ⟨#[]⟩ m 0 0 0 0 0 none none 0 0 0 0 v w))).mono λh f a=>bY (d:= .flag 0) (by unfold bg;rw[zm b,zm c,zm e,zm g,zm i,zm j,zm k,zm l,zm o,zm p,zn q,zg (show ¬n<=m by omega)];rfl) a
 by_cases s:op.toList=[60]
 ·obtain rfl:=aQ s;by_cases u:n<m
  ·exact(bT _ (cz n) (cz m) (aO (.flag 1)) rfl rfl w (λw=>dk _ ⟨#[105,110,116]⟩ ⟨#[]⟩ n 0 0 0 0 0 none none 0 0 0 0 ⟨#[]⟩ m 0 0 0 0 0 none none 0 0 0 0 (aO (.flag 1)) true w (λw=>PF ⟨#[105,110,116]⟩ ⟨#[]⟩ n 0 0 0 0 0 none none 0 0 0 0 ⟨#[]⟩ m 0 0 0 0 0 none none 0 0 0 0 u w))).mono λh f a=>bY (d:= .flag 1) (by unfold bg;rw[zm b,zm c,zm e,zm g,zm i,zm j,zm k,zm l,zm o,zm p,zm q,zn s,ze (show n<m by omega)];rfl) a
  by_cases x:n=m
  ·exact(bT _ (cz n) (cz m) (aO (.flag 0)) rfl rfl w (λw=>dk _ ⟨#[105,110,116]⟩ ⟨#[]⟩ n 0 0 0 0 0 none none 0 0 0 0 ⟨#[]⟩ m 0 0 0 0 0 none none 0 0 0 0 (aO (.flag 0)) true w (λw=>OQ ⟨#[105,110,116]⟩ ⟨#[]⟩ n 0 0 0 0 0 none none 0 0 0 0 ⟨#[]⟩ m 0 0 0 0 0 none none 0 0 0 0 x w))).mono λh f a=>bY (d:= .flag 0) (by unfold bg;rw[zm b,zm c,zm e,zm g,zm i,zm j,zm k,zm l,zm o,zm p,zm q,zn s,zg (show ¬n<m by omega)];rfl) a
  ·have v:m<n:=by omega
   exact(bT _ (cz n) (cz m) (aO (.flag 0)) rfl rfl w (λw=>dk _ ⟨#[105,110,116]⟩ ⟨#[]⟩ n 0 0 0 0 0 none none 0 0 0 0 ⟨#[]⟩ m 0 0 0 0 0 none none 0 0 0 0 (aO (.flag 0)) true w (λw=>PE ⟨#[105,110,116]⟩ ⟨#[]⟩ n 0 0 0 0 0 none none 0 0 0 0 ⟨#[]⟩ m 0 0 0 0 0 none none 0 0 0 0 v w))).mono λh f a=>bY (d:= .flag 0) (by unfold bg;rw[zm b,zm c,zm e,zm g,zm i,zm j,zm k,zm l,zm o,zm p,zm q,zn s,zg (show ¬n<m by omega)];rfl) a
 by_cases t:op.toList=[62,61]
 ·obtain rfl:=aQ t;by_cases u:n<m
  ·exact(bT _ (cz n) (cz m) (aO (.flag 0)) rfl rfl w (λw=>dk _ ⟨#[105,110,116]⟩ ⟨#[]⟩ n 0 0 0 0 0 none none 0 0 0 0 ⟨#[]⟩ m 0 0 0 0 0 none none 0 0 0 0 (aO (.flag 0)) true w (λw=>Ow ⟨#[105,110,116]⟩ ⟨#[]⟩ n 0 0 0 0 0 none none 0 0 0 0 ⟨#[]⟩ m 0 0 0 0 0 none none 0 0 0 0 u w))).mono λh f a=>bY (d:= .flag 0) (by unfold bg;rw[zm b,zm c,zm e,zm g,zm i,zm j,zm k,zm l,zm o,zm p,zm q,zm s,zn t,zg (show ¬m<=n by omega)];rfl) a
  by_cases x:n=m
  ·exact(bT _ (cz n) (cz m) (aO (.flag 1)) rfl rfl w (λw=>dk _ ⟨#[105,110,116]⟩ ⟨#[]⟩ n 0 0 0 0 0 none none 0 0 0 0 ⟨#[]⟩ m 0 0 0 0 0 none none 0 0 0 0 (aO (.flag 1)) true w (λw=>PS ⟨#[105,110,116]⟩ ⟨#[]⟩ n 0 0 0 0 0 none none 0 0 0 0 ⟨#[]⟩ m 0 0 0 0 0 none none 0 0 0 0 x w))).mono λh f a=>bY (d:= .flag 1) (by unfold bg;rw[zm b,zm c,zm e,zm g,zm i,zm j,zm k,zm l,zm o,zm p,zm q,zm s,zn t,ze (show m<=n by omega)];rfl) a
  ·have v:m<n:=by omega
   exact(bT _ (cz n) (cz m) (aO (.flag 1)) rfl rfl w (λw=>dk _ ⟨#[105,110,116]⟩ ⟨#[]⟩ n 0 0 0 0 0 none none 0 0 0 0 ⟨#[]⟩ m 0 0 0 0 0 none none 0 0 0 0 (aO (.flag 1)) true w (λw=>PJ ⟨#[105,110,116]⟩ ⟨#[]⟩ n 0 0 0 0 0 none none 0 0 0 0 ⟨#[]⟩ m 0 0 0 0 0 none none 0 0 0 0 v w))).mono λh f a=>bY (d:= .flag 1) (by unfold bg;rw[zm b,zm c,zm e,zm g,zm i,zm j,zm k,zm l,zm o,zm p,zm q,zm s,zn t,ze (show m<=n by omega)];rfl) a
 by_cases B:op.toList=[62]
 ·obtain rfl:=aQ B;by_cases u:n<m
  ·exact(bT _ (cz n) (cz m) (aO (.flag 0)) rfl rfl w (λw=>dk _ ⟨#[105,110,116]⟩ ⟨#[]⟩ n 0 0 0 0 0 none none 0 0 0 0 ⟨#[]⟩ m 0 0 0 0 0 none none 0 0 0 0 (aO (.flag 0)) true w (λw=>OE ⟨#[105,110,116]⟩ ⟨#[]⟩ n 0 0 0 0 0 none none 0 0 0 0 ⟨#[]⟩ m 0 0 0 0 0 none none 0 0 0 0 u w))).mono λh f a=>bY (d:= .flag 0) (by unfold bg;rw[zm b,zm c,zm e,zm g,zm i,zm j,zm k,zm l,zm o,zm p,zm q,zm s,zm t,zn B,zg (show ¬m<n by omega)];rfl) a
  by_cases x:n=m
  ·exact(bT _ (cz n) (cz m) (aO (.flag 0)) rfl rfl w (λw=>dk _ ⟨#[105,110,116]⟩ ⟨#[]⟩ n 0 0 0 0 0 none none 0 0 0 0 ⟨#[]⟩ m 0 0 0 0 0 none none 0 0 0 0 (aO (.flag 0)) true w (λw=>Pw ⟨#[105,110,116]⟩ ⟨#[]⟩ n 0 0 0 0 0 none none 0 0 0 0 ⟨#[]⟩ m 0 0 0 0 0 none none 0 0 0 0 x w))).mono λh f a=>bY (d:= .flag 0) (by unfold bg;rw[zm b,zm c,zm e,zm g,zm i,zm j,zm k,zm l,zm o,zm p,zm q,zm s,zm t,zn B,zg (show ¬m<n by omega)];rfl) a
  ·have v:m<n:=by omega
   exact(bT _ (cz n) (cz m) (aO (.flag 1)) rfl rfl w (λw=>dk _ ⟨#[105,110,116]⟩ ⟨#[]⟩ n 0 0 0 0 0 none none 0 0 0 0 ⟨#[]⟩ m 0 0 0 0 0 none none 0 0 0 0 (aO (.flag 1)) true w (λw=>OI ⟨#[105,110,116]⟩ ⟨#[]⟩ n 0 0 0 0 0 none none 0 0 0 0 ⟨#[]⟩ m 0 0 0 0 0 none none 0 0 0 0 v w))).mono λh f a=>bY (d:= .flag 1) (by unfold bg;rw[zm b,zm c,zm e,zm g,zm i,zm j,zm k,zm l,zm o,zm p,zm q,zm s,zm t,zn B,ze (show m<n by omega)];rfl) a
 have E:bg op n m=none:=by unfold bg;rw[zm b,zm c,zm e,zm g,zm i,zm j,zm k,zm l,zm o,zm p,zm q,zm s,zm t,zm B]
 rcases Int.lt_trichotomy n m with u|x|v
 ·exact(qO op 2 ⟨#[105,110,116]⟩ ⟨#[]⟩ n 0 0 0 0 0 none none 0 0 0 0 ⟨#[]⟩ m 0 0 0 0 0 none none 0 0 0 0 (mk 1 ⟨#[98,111,111,108]⟩ 0 0 ⟨#[]⟩) w (by show op.size+3+3<=_;omega) (λw=>dk _ ⟨#[105,110,116]⟩ ⟨#[]⟩ n 0 0 0 0 0 none none 0 0 0 0 ⟨#[]⟩ m 0 0 0 0 0 none none 0 0 0 0 _ false w (λw=>OG op ⟨#[105,110,116]⟩ ⟨#[]⟩ n 0 0 0 0 0 none none 0 0 0 0 ⟨#[]⟩ m 0 0 0 0 0 none none 0 0 0 0 (ak b) (ak c) (ak e) (ak g) (ak i) (ak j) (ak k) (ak l) (ak o) (ak p) (ak q) (ak s) (ak t) (ak B) u w))).mono λh f a=>eR E a
 ·exact(qO op 2 ⟨#[105,110,116]⟩ ⟨#[]⟩ n 0 0 0 0 0 none none 0 0 0 0 ⟨#[]⟩ m 0 0 0 0 0 none none 0 0 0 0 (mk 1 ⟨#[98,111,111,108]⟩ 0 0 ⟨#[]⟩) w (by show op.size+3+3<=_;omega) (λw=>dk _ ⟨#[105,110,116]⟩ ⟨#[]⟩ n 0 0 0 0 0 none none 0 0 0 0 ⟨#[]⟩ m 0 0 0 0 0 none none 0 0 0 0 _ false w (λw=>OR op ⟨#[105,110,116]⟩ ⟨#[]⟩ n 0 0 0 0 0 none none 0 0 0 0 ⟨#[]⟩ m 0 0 0 0 0 none none 0 0 0 0 (ak b) (ak c) (ak e) (ak g) (ak i) (ak j) (ak k) (ak l) (ak o) (ak p) (ak q) (ak s) (ak t) (ak B) x w))).mono λh f a=>eR E a
 ·exact(qO op 2 ⟨#[105,110,116]⟩ ⟨#[]⟩ n 0 0 0 0 0 none none 0 0 0 0 ⟨#[]⟩ m 0 0 0 0 0 none none 0 0 0 0 (mk 1 ⟨#[98,111,111,108]⟩ 0 0 ⟨#[]⟩) w (by show op.size+3+3<=_;omega) (λw=>dk _ ⟨#[105,110,116]⟩ ⟨#[]⟩ n 0 0 0 0 0 none none 0 0 0 0 ⟨#[]⟩ m 0 0 0 0 0 none none 0 0 0 0 _ false w (λw=>P0 op ⟨#[105,110,116]⟩ ⟨#[]⟩ n 0 0 0 0 0 none none 0 0 0 0 ⟨#[]⟩ m 0 0 0 0 0 none none 0 0 0 0 (ak b) (ak c) (ak e) (ak g) (ak i) (ak j) (ak k) (ak l) (ak o) (ak p) (ak q) (ak s) (ak t) (ak B) v w))).mono λh f a=>eR E a
def Ho(op:ByteArray)(c:op.size<=2000000)(n m:Int)(w:World):Calls prog 121 #[.string op,(eL n).val,(eL m).val] w (mX none w):=
 (qO op 1 ⟨#[98,111,111,108]⟩ ⟨#[]⟩ n 0 0 0 0 0 none none 0 0 0 0 ⟨#[]⟩ m 0 0 0 0 0 none none 0 0 0 0 aS w (by show op.size+4+4<=_;omega) (λw=>KV op 1 ⟨#[98,111,111,108]⟩ ⟨#[]⟩ n 0 0 0 0 0 none none 0 0 0 0 ⟨#[]⟩ m 0 0 0 0 0 none none 0 0 0 0 w rfl rfl rfl)).mono λd b a=>eR rfl a
def It(op:ByteArray)(c:op.size<=2000000)(n m:Int)(w:World):Calls prog 121 #[.string op,(cz n).val,(eL m).val] w (mX none w):=
 (wG op ⟨#[105,110,116]⟩ ⟨#[98,111,111,108]⟩ ⟨#[]⟩ ⟨#[]⟩ 2 1 n 0 0 0 0 0 m 0 0 0 0 0 none none none none 0 0 0 0 0 0 0 0 w (by show op.size+3+4<=_;omega) rfl).mono λd b a=>eR rfl a
def Ed(op:ByteArray)(c:op.size<=2000000)(n m:Int)(w:World):Calls prog 121 #[.string op,(eL n).val,(cz m).val] w (mX none w):=
 (wG op ⟨#[98,111,111,108]⟩ ⟨#[105,110,116]⟩ ⟨#[]⟩ ⟨#[]⟩ 1 2 n 0 0 0 0 0 m 0 0 0 0 0 none none none none 0 0 0 0 0 0 0 0 w (by show op.size+4+3<=_;omega) rfl).mono λd b a=>eR rfl a
def LV(op:ByteArray):gD->gD->Option gD
 | .int n,.int m=>bg op n m
 |_,_=>none
def En(op:ByteArray)(c:op.size<=2000000)(b a:gD)(d:fv a)(w:World)(e:aX w):Calls prog 121 #[.string op,(aO b).val,(aO a).val] w (mX (LV op b a) w):=by
 cases b with
 |int n=>
  cases a with
  |int m=>exact Mr op c n m d.1 d.2 w e
  |flag m=>exact It op c n m w
 |flag n=>
  cases a with
  |int m=>exact Ed op c n m w
  |flag m=>exact Ho op c n m w
def AE(c:gD)(g:fv c)(w:World)(a:fT w):Calls prog 153 #[(aO c).val] w λe w'=>e= .returned (.bool true)∧zz w w':=by
 cases c with
 |int n=>exact wE _ (λd w a f b=>vS n d w a f b) w a
 |flag n=>exact wE _ (λd w a f b=>uT n g d w a f b) w a
def qP(b a:gD)(c:fv b)(d:fv a)(w:World)(f:fT w):Calls prog 120 #[(aO b).val,(aO a).val] w λe w'=>e= .returned (.tuple #[.bool (Hc b a),.nilIface])∧zz w w':=by
 refine Jk (aO b) (aO a) (Hc b a) (AE b c) (AE a d) ?_ w f
 cases b with
 |int n=>
  cases a with
  |int m=>exact EF n m
  |flag m=>exact BS n m
 |flag n=>
  cases a with
  |int m=>exact yI n m
  |flag m=>exact Cv n m
end
section
open Go.RowKit Go.Proofs.PeepPlain
def br(i:au):Value:= .agg #[.int .i64 i.op,.int .i64 i.a,.int .i64 i.b,.string i.text,.int .i64 i.pos]
def Lp(s:ByteArray)(n:Int)(c:bB s=some n)(w:World):Calls prog 118 #[.string s] w λe w'=>e= .returned (.tuple #[.int .i64 n,.nilIface])∧zz w w':=by
 have a:=ku c;have b:=Lib.itoa_length_le n a.2.2.1 a.2.2.2;have f:s.size<=21:=by
  have:s.data.toList.length<=21:=by rw[<-a.2.1];exact b
  rw[Array.length_toList]at this;exact this
 refine(od s (by omega) n a.1 w).mono ?_;rintro e w' ⟨rfl,rfl|⟨d,rfl⟩⟩
 ·exact⟨rfl,zZ _ _⟩
 ·exact⟨rfl,Lib.bytesWorld_below _ _ _⟩
set_option maxRecDepth 200000 in
def Al(i:au)(n:Int)(f:i.op=3)(g:bB i.text=some n)(w:World):Calls prog 91 #[br i] w λe w'=>e= .returned (.tuple #[(cz n).val,.bool true])∧zz w w':=by
 have h:=za (Lp i.text n g);unfold br;rw[f];generalize i.text=s at h ⊢
 generalize i.a=a;generalize i.b=b;generalize i.pos=p;clear g f;go_enter func91,ntmps91;go_wp2_with (first
  |(go_at_call 118;refine(h.out _).mono ?_;rintro m l ⟨rfl,c⟩
    have d:=(am w _ 131 aG).below c (am w _ 131 aG).lt;have k:=za (ac (aU w _ _) c (aU w _ _).size);obtain⟨C,B,z,y,x,v,u,t,r,q,A,o⟩:=aA d;have j:=za d;clear c d))
 go_region
 all_goals go_wp2
 all_goals exact bodyPost_ret (eT rfl _ _ (w.heap.size+1) _ rfl (lj j.out).drew rfl) rfl ⟨rfl,ay (fg k.out (by omega))⟩
set_option maxRecDepth 200000 in
def vP(i:au)(c:i.op=6)(w:World):Calls prog 91 #[br i] w λe w'=>e= .returned (.tuple #[(eL i.a).val,.bool true])∧zz w w':=by
 unfold br;rw[c];generalize i.text=s;generalize i.a=a;generalize i.b=b;generalize i.pos=p;clear c;go_enter func91,ntmps91;go_wp2;go_returns;exact⟨rfl,by go_grown⟩
set_option maxRecDepth 200000 in
def vZ(i:au)(d:i.op≠3)(c:i.op≠6)(w:World):Calls prog 91 #[br i] w λe w'=>e= .returned (.tuple #[aS.val,.bool false])∧zz w w':=by
 have g:(i.op==3)=false:=zh.2 d;have f:(i.op==6)=false:=zh.2 c;clear d c;unfold br;generalize i.text=s;generalize i.a=a;generalize i.b=b;generalize i.pos=p;generalize i.op=o at *
 go_enter func91,ntmps91;go_wp2;go_returns;exact⟨rfl,by go_grown⟩
def dg(i:au):Prop:=(i.op=3->∃b,bB i.text=some b)∧(i.op=6->i.a=0∨i.a=1)
def IE(r:Option gD)(w:World)(e:Ending)(w':World):Prop:=
 (match r with
  |some d=>e= .returned (.tuple #[(aO d).val,.bool true])
  |none=>e= .returned (.tuple #[aS.val,.bool false]))∧zz w w'
def bn(i:au)(e:dg i)(w:World):Calls prog 91 #[br i] w (IE (cm i) w):=by
 unfold cm;by_cases a:i.op=3
 ·obtain⟨d,c⟩:=e.1 a;rw[zn a,c];exact Al i d a c w
 ·rw[zm a];by_cases b:i.op=6
  ·rw[zn b];exact vP i b w
  ·rw[zm b];exact vZ i a b w
def pQ{i:au}(f:dg i){c:gD}(a:cm i=some c):fv c:=by
 unfold cm at a;by_cases d:i.op=3
 ·rw[zn d]at a;obtain⟨g,e⟩:=f.1 d;rw[e]at a;injection a with a;subst a;exact(ku e).2.2
 ·rw[zm d]at a;by_cases b:i.op=6
  ·rw[zn b]at a;injection a with a;subst a;exact f.2 b
  ·rw[zm b]at a
   cases a
def Nv{b:Func}{p:Tmp}(f:b.results= #[.cell p 50])(tmps:Array Value)(w:World)(g:Nat)(a:List Value)(d:tmps.getD p undef= .pointer (some ⟨g,0,none⟩))(c:ah w g 50 a)(e:a.length=5):
 (results b tmps).run prog w= .ok (.agg a.toArray) w:=
 results_cell_row f tmps w g 50 a.toArray (0,0) _ d c underlying50 rfl (by rw[Ke];simp[e])
def Rn{w:World}{g:Nat}{e d c b a v0 v1 v2 v3 v4:Value}(f:ah w g 50 [e,d,c,b,a]):
 ah (((((w.setCell ⟨g,0,none⟩ v0).setCell ⟨g,1,none⟩ v1).setCell ⟨g,2,none⟩ v2).setCell ⟨g,3,none⟩ v3).setCell ⟨g,4,none⟩ v4) g 50 [v0,v1,v2,v3,v4]:=by
 have:=((((f.set 0 v0).set 1 v1).set 2 v2).set 3 v3).set 4 v4;simpa using this
def MW{a w:World}{g B:Nat}{v0 v1 v2 v3 v4:Value}(c:Below B a w)(b:B<=g):Below B a (((((w.setCell ⟨g,0,none⟩ v0).setCell ⟨g,1,none⟩ v1).setCell ⟨g,2,none⟩ v2).setCell ⟨g,3,none⟩ v3).setCell ⟨g,4,none⟩ v4):=
 ((((c.setCell b v0).setCell b v1).setCell b v2).setCell b v3).setCell b v4
set_option maxRecDepth 200000 in
def Jf(n p:Int)(w:World):Calls prog 93 #[(eL n).val,.int .i64 p] w λe w'=>e= .returned (br (gQ (.flag n) p))∧zz w w':=by
 unfold eL mk aH.val fy br gQ;go_enter func93,ntmps93;go_wp2;go_returns;exact⟨rfl,by go_grown⟩
set_option maxRecDepth 200000 in
def J3(n p:Int)(f: -9223372036854775808<=n)(d:n<=9223372036854775807)(w:World)(g:aX w):Calls prog 93 #[(cz n).val,.int .i64 p] w λe w'=>e= .returned (br (gQ (.int n) p))∧zz w w':=by
 have j:=za (show ∀b,zz w b->Calls prog 66 #[.int .i64 n] b λe w'=>e= .returned (.string ⟨(Lib.itoa n).toArray⟩)∧zz b w' from λb h=>(fB n f d b (g.below h).pow).mono λe w' ⟨he,q,os,hw⟩=>⟨he,hw ▸ Lib.below_grow _ b (zb _) q os⟩);clear g f d;unfold cz mk aH.val br gQ;dsimp only;generalize(⟨(Lib.itoa n).toArray⟩:ByteArray)=s at *
 go_enter func93,ntmps93;go_wp2_with (first
  |(go_at_call 66;refine(j.out _ (aU w _ _)).mono ?_;rintro m l ⟨rfl,c⟩
    have a:=(am w _ 50 [.int .i64 0,.int .i64 0,.int .i64 0,.string ⟨#[]⟩,.int .i64 0]).below c (am w _ 50 _).lt;have k:=za (ac (aU w _ _) c (aU w _ _).size);have x:=a.cell 0;have v:=a.cell 1;have u:=a.cell 2;have t:=a.cell 3;have r:=a.cell 4;have o:=a.free;have i:=za a;clear c a))
 exact bodyPost_ret (Nv rfl _ _ (w.heap.size+1) _ rfl (Rn i.out) rfl) rfl ⟨rfl,MW k.out (by omega)⟩
def xn(c:gD)(a:fv c)(p:Int)(w:World)(b:aX w):Calls prog 93 #[(aO c).val,.int .i64 p] w λe w'=>e= .returned (br (gQ c p))∧zz w w':=by
 cases c with
 |int n=>exact J3 n p a.1 a.2 w b
 |flag n=>exact Jf n p w
end
section
open Go.RowKit Go.Proofs.PeepPlain
def dc(n:Nat)(l:List UInt8):Nat:=l.foldl (λn a=>10 * n+(a.toNat - 48)) n
def lM(n:Nat):dc n []=n:=by
 unfold dc;rw[List.foldl_nil]
def dO(c:UInt8)(l:List UInt8)(n:Nat):dc n (c::l)=dc (10 * n+(c.toNat - 48)) l:=by
 unfold dc;rw[List.foldl_cons]
def rv(c:UInt8)(l:List UInt8)(n:Nat):dc n (l++ [c])=10 * dc n l+(c.toNat - 48):=by
 unfold dc;rw[List.foldl_append,List.foldl_cons,List.foldl_nil]
def pU(l:List UInt8):Prop:=∀a∈l,48<=a.toNat∧a.toNat<=57
def lT{c:UInt8}{l:List UInt8}(b:pU (c::l)):pU l:=λd a=>b d (by simp[a])
structure oV(l:List UInt8):Prop where
 ne:l≠ []
 dig:pU l
 lead:∀c r,l=c::r->c.toNat=48->r=[]
def kq{d:Nat}(a:d<10):(UInt8.ofNat (48+d)).toNat=48+d:=by rw[UInt8.toNat_ofNat'];omega
def qd:∀(u:Nat),1<=u->∃c r,Lib.decDigits u=c::r∧49<=c.toNat:=by
 intro u
 induction u using Nat.strongRecOn with
 |_ u ih=>
  intro e;by_cases a:u<10
  ·exact⟨_,[],Lib.decDigits_one a,by rw[kq a];omega⟩
  ·obtain⟨c,r,d,b⟩:=ih (u / 10) (by omega) (by omega);exact⟨c,r++ [UInt8.ofNat (48+u % 10)],by rw[Lib.decDigits,dif_neg a,d];rfl,b⟩
def qE:∀(u:Nat),pU (Lib.decDigits u)∧dc 0 (Lib.decDigits u)=u:=by
 intro u
 induction u using Nat.strongRecOn with
 |_ u ih=>
  by_cases b:u<10
  ·rw[Lib.decDigits_one b];refine⟨λd a=>?_,?_⟩
   ·obtain rfl:=List.mem_singleton.1 a;rw[kq b];omega
   ·rw[dO,lM,kq b];omega
  ·have c:u % 10<10:=by omega
   obtain⟨f,e⟩:=ih (u / 10) (by omega);rw[Lib.decDigits,dif_neg b];refine⟨λd a=>?_,?_⟩
   ·rcases List.mem_append.1 a with a|a
    ·exact f d a
    ·obtain rfl:=List.mem_singleton.1 a;rw[kq c];omega
   ·rw[rv,e,kq c];omega
def ud(u:Nat):oV (Lib.decDigits u)where
 ne:=by obtain⟨e,b,a,_⟩:=qu u;rw[a];simp
 dig:=(qE u).1
 lead:=λe b a h=>by
  by_cases c:u<10
  ·rw[Lib.decDigits_one c]at a
   injection a with _ a
   exact a.symm
  ·obtain⟨i,f,d,g⟩:=qd u (by omega)
   rw[d]at a
   injection a with a _
   subst a
   omega
def NM(n a d:Nat):n * (a * 10)<=(10 * n+d) * a:=by
 rw[Nat.add_mul,Nat.mul_comm 10 n,Nat.mul_assoc,Nat.mul_comm 10 a];exact Nat.le_add_right _ _
def EJ(n a d:Nat)(c:d<=9):(10 * n+d+1) * a<=(n+1) * (a * 10):=by
 have b:(10 * n+d+1) * a<=(10 * (n+1)) * a:=Nat.mul_le_mul_right _ (by omega);rw[show(n+1) * (a * 10)=(10 * (n+1)) * a by rw[Nat.mul_comm 10 (n+1),Nat.mul_assoc,Nat.mul_comm 10 a]];exact b
def qM(l:List UInt8)(n:Nat):n * 10 ^ l.length<=dc n l:=by
 induction l generalizing n with
 |nil=>rw[lM,List.length_nil,Nat.pow_zero];omega
 |cons c l ih=>
  rw[dO,List.length_cons,Nat.pow_succ];exact zi (NM n (10 ^ l.length) (c.toNat - 48)) (ih _)
def yP(l:List UInt8)(n:Nat)(a:pU l):dc n l<(n+1) * 10 ^ l.length:=by
 induction l generalizing n with
 |nil=>rw[lM,List.length_nil,Nat.pow_zero];omega
 |cons c l ih=>
  have b:=a c (by simp);rw[dO,List.length_cons,Nat.pow_succ];exact zv (ih _ (lT a)) (EJ n (10 ^ l.length) (c.toNat - 48) (by omega))
def MH{l:List UInt8}(d:oV l)(a:2<=l.length):10 ^ (l.length - 1)<=dc 0 l:=by
 match l,a with
 |c::r,a=>
  have g:=d.dig c (by simp);have h:49<=c.toNat:=by
   apply Classical.byContradiction;intro f;have:=d.lead c r rfl (by omega);subst this;simp at a
  have e:=qM r (10 * 0+(c.toNat - 48));have b:1 * 10 ^ r.length<=(10 * 0+(c.toNat - 48)) * 10 ^ r.length:=Nat.mul_le_mul_right _ (by omega);rw[Nat.one_mul]at b;rw[dO,List.length_cons,Nat.add_sub_cancel];exact zi b e
def qm:∀(k:Nat) (l:List UInt8),l.length=k->oV l->Lib.decDigits (dc 0 l)=l:=by
 intro k
 induction k with
 |zero=>intro l e a;exact absurd (zD e) a.ne
 |succ k ih=>
  intro l e a;have f:=List.dropLast_concat_getLast a.ne;generalize l.getLast a.ne=c at f;generalize t:l.dropLast=p at f;subst f;have w:=a.dig c (by simp);rw[rv]
  cases p with
  |nil=>
   rw[lM];have m:10 * 0+(c.toNat - 48)<10:=by omega
   rw[Lib.decDigits_one m,List.nil_append];congr 1;apply UInt8.toNat_inj.1;rw[kq (by omega)];omega
  |cons d q=>
   have g:oV (d::q):=⟨by simp,λh b=>a.dig h (by simp at b ⊢;rcases b with b|b<;>simp[b]),λr i o n=>by
    have:=a.lead r (i++ [c]) (by rw[o];rfl) n;simp at this⟩
   have j:=ih (d::q) (by simpa using e) g;have s:1<=dc 0 (d::q):=by
    have v:=g.dig d (by simp);have B:=qM q (10 * 0+(d.toNat - 48));have x:49<=d.toNat:=by
     apply Classical.byContradiction;intro u;have:=a.lead d (q++ [c]) rfl (by omega);simp at this
    have A:1 * 10 ^ q.length<=(10 * 0+(d.toNat - 48)) * 10 ^ q.length:=Nat.mul_le_mul_right _ (by omega);have z:1<=10 ^ q.length:=Nat.one_le_pow _ _ (by omega);have y:=dO d q 0;omega
   rw[Lib.decDigits,dif_neg (by omega),show(10 * dc 0 (d::q)+(c.toNat - 48)) / 10=dc 0 (d::q) by omega,j,show(10 * dc 0 (d::q)+(c.toNat - 48)) % 10=c.toNat - 48 by omega];congr 1;congr 1;apply UInt8.toNat_inj.1;rw[kq (by omega)];omega
theorem Md:∀(a b:List UInt8) (n:Nat),a.length=b.length->pU a->pU b->(Op.bytesLess a b||a==b)=decide (dc n a<=dc n b)
 | [],[],n,_,_,_=>by simp[Op.bytesLess,lM]
 |x::a,y::b,n,hl,ha,hb=>by
  have e:a.length=b.length:=by simpa using hl
  have g:=Md a b;have m:=ha x (by simp);have l:=hb y (by simp);rcases Nat.lt_trichotomy x.toNat y.toNat with c|c|c
  ·have d:x<y:=UInt8.lt_iff_toNat_lt.2 c;have j:=yP a (10 * n+(x.toNat - 48)) (lT ha);have f:=qM b (10 * n+(y.toNat - 48));have i:(10 * n+(x.toNat - 48)+1) * 10 ^ a.length<=(10 * n+(y.toNat - 48)) * 10 ^ b.length:=by rw[e];exact Nat.mul_le_mul_right _ (by omega)
   rw[dO,dO,ze (by omega)];simp[Op.bytesLess,d]
  ·obtain rfl:x=y:=UInt8.toNat_inj.1 c;have:=g (10 * n+(x.toNat - 48)) e (lT ha) (lT hb);rw[dO,dO,<-this];simp[Op.bytesLess]
  ·have d:¬x<y:=λf=>by have:=UInt8.lt_iff_toNat_lt.1 f;omega
   have h:¬x=y:=λk=>by subst k;omega
   have j:=yP b (10 * n+(y.toNat - 48)) (lT hb);have f:=qM a (10 * n+(x.toNat - 48));have i:(10 * n+(y.toNat - 48)+1) * 10 ^ b.length<=(10 * n+(x.toNat - 48)) * 10 ^ a.length:=by rw[e];exact Nat.mul_le_mul_right _ (by omega)
   rw[dO,dO,zg (by omega)];simp[Op.bytesLess,d,h]
def uV(s:ByteArray):ce s=true↔ ∃n:Int, -9223372036854775808<=n∧n<=9223372036854775807∧s.data.toList=Lib.itoa n:=by
 unfold ce;constructor
 ·intro e;obtain⟨n,d⟩:=Option.isSome_iff_exists.1 e;obtain⟨_,c,b,a⟩:=ku d;exact⟨n,b,a,c.symm⟩
 ·rintro⟨n,c,b,a⟩;have:s=⟨(Lib.itoa n).toArray⟩:=by
   apply ByteArray.ext;apply Array.ext';simpa using a
  rw[this,ni c b];rfl
def EO{s:ByteArray}(h:∀c r,s.data.toList=c::r->c.toNat≠45):ce s=true↔oV s.data.toList∧dc 0 s.data.toList<=9223372036854775807:=by
 rw[uV];constructor
 ·rintro⟨a,f,g,b⟩;by_cases e:a<0
  ·have d:Lib.itoa a=45::Lib.decDigits a.natAbs:=by unfold Lib.itoa;rw[zn e]
   rw[d]at b;exact absurd rfl (h _ _ b)
  ·have d:Lib.itoa a=Lib.decDigits a.toNat:=by unfold Lib.itoa;rw[zm e]
   rw[b,d,(qE a.toNat).2];exact⟨ud _,by omega⟩
 ·rintro⟨f,g⟩;refine⟨dc 0 s.data.toList,by omega,by omega,?_⟩;rw[Lib.itoa_nonneg,qm _ _ rfl f]
def EU{s:ByteArray}{t:List UInt8}(g:s.data.toList=45::t):ce s=true↔oV t∧(∀c r,t=c::r->c.toNat≠48)∧dc 0 t<=9223372036854775808:=by
 rw[uV];constructor
 ·rintro⟨b,d,e,a⟩;by_cases j:b<0
  ·have i:Lib.itoa b=45::Lib.decDigits b.natAbs:=by unfold Lib.itoa;rw[zn j]
   rw[g,i]at a;injection a with _ a;subst a;refine⟨ud _,λc r f=>?_,by rw[(qE _).2];omega⟩;obtain⟨u,m,h,n⟩:=qd b.natAbs (by omega);rw[h]at f;injection f with f _;subst f;omega
  ·have i:Lib.itoa b=Lib.decDigits b.toNat:=by unfold Lib.itoa;rw[zm j]
   obtain⟨c,r,h,k⟩:=qu b.toNat;rw[g,i,h]at a;injection a with a _;subst a;exact absurd k (by decide)
 ·rintro⟨d,e,a⟩;have l:1<=dc 0 t:=by
   match t,d,e with
   |c::r,d,e=>
    have k:=d.dig c (by simp);have:=e c r rfl;have q:=qM r (10 * 0+(c.toNat - 48));have p:1 * 10 ^ r.length<=(10 * 0+(c.toNat - 48)) * 10 ^ r.length:=Nat.mul_le_mul_right _ (by omega);have o:1<=10 ^ r.length:=Nat.one_le_pow _ _ (by omega);rw[dO];omega
   | [],d,_=>exact absurd rfl d.ne
  refine⟨-(dc 0 t:Nat),by omega,by omega,?_⟩;rw[Lib.itoa_neg _ l,qm _ _ rfl d,g]
end
section
open Go.RowKit Go.Proofs.PeepPlain
def mw{s:ByteArray}{n:Int}(a:bB s=some n):s.data.toList=Lib.itoa n:=by
 unfold bB at a;split at a
 ·split at a
  ·rename_i b;obtain rfl:=zj a;exact b.symm
  ·cases a
 ·cases a
def rK{s:ByteArray}{n:Int}(b:bB s=some n)(a:n<0):s.data.toList=45::Lib.decDigits n.natAbs:=by
 rw[mw b,Lib.itoa,zn a]
def rV{s:ByteArray}{n:Int}(b:bB s=some n)(a:¬n<0):s.data.toList=Lib.decDigits n.toNat:=by
 rw[mw b,Lib.itoa,zm a]
theorem FU:∀(l:List UInt8) (m:Nat),m<=dc m l
 | [],m=>by rw[lM];exact zb _
 |c::l,m=>by
  rw[dO];have:=FU l (10 * m+(c.toNat - 48));omega
def Kw(a b:List UInt8)(m:Nat):dc m (a++b)=dc (dc m a) b:=by
 unfold dc;rw[List.foldl_append]
def As(l:List UInt8)(k:Nat):dc 0 (l.take k)<=dc 0 l:=by
 have a:=FU (l.drop k) (dc 0 (l.take k));rw[<-Kw,List.take_append_drop]at a;exact a
def tD(l:List UInt8)(k:Nat)(a:k<l.length):dc 0 (l.take (k+1))=10 * dc 0 (l.take k)+(l[k].toNat - 48):=by
 rw[List.take_add_one,zo a,Option.toList_some,rv]
end
section
open Go.RowKit Go.Proofs.PeepPlain
def rL{s:ByteArray}(a:s.size=0):(s.toList==[])=true:=by
 rw[zH,zD (by simpa using a:s.data.toList.length=0)];rfl
def tw{s:ByteArray}(b:¬s.size=0):(s.toList==[])=false:=zh.2 (λa=>b (by
 rw[zH]at a;have:=zp List.length a;simpa using this))
def eJ(s t:ByteArray)(neg:Bool):Prop:=
 ce s=true↔oV t.data.toList∧(neg=true->∀a b,t.data.toList=a::b->a.toNat≠48)∧dc 0 t.data.toList<=if neg then 9223372036854775808 else 9223372036854775807
def wS{s:ByteArray}(d:∀c r,s.data.toList=c::r->c.toNat≠45):eJ s s false:=by
 unfold eJ;rw[EO d];exact⟨λ⟨a,b⟩=>⟨a,(λd=>by cases d),b⟩,λ⟨a,_,b⟩=>⟨a,b⟩⟩
def kG{s:ByteArray}(a:0<s.size){c:UInt8}{r:List UInt8}(e:s.data.toList=c::r):c=s[0]:=by
 have:=fS s 0 a;rw[e]at this;simpa using this
def BX{s:ByteArray}(b:0<s.size)(a:¬s[0].toNat=45):eJ s s false:=wS λe d c=>by rw[kG b c];exact a
def Jh{s:ByteArray}(d:0<s.size)(g:s[0].toNat=45):eJ s (s.extract 1 s.size) true:=by
 have h:s.data.toList=45::(s.extract 1 s.size).data.toList:=by
  rw[<-eO];have f:s.data.toList.drop 0=s.data.toList[0]'(by simpa using d)::s.data.toList.drop 1:=List.drop_eq_getElem_cons (by simpa using d);have e:=fS s 0 d;rw[zo (by simpa using d)]at e;rw[List.drop_zero,zj e]at f;rw[f];have:s[0]=45:=UInt8.toNat_inj.1 g;simp[this]
 unfold eJ;rw[EU h];exact⟨λ⟨a,b,c⟩=>⟨a,λ_=>b,c⟩,λ⟨a,b,c⟩=>⟨a,b rfl,c⟩⟩
section
variable{s t:ByteArray}{neg:Bool}
def BD(H:eJ s t neg)(b:¬oV t.data.toList):ce s=false:=by
 rw[Bool.eq_false_iff];exact λa=>b (H.1 a).1
def pL(H:eJ s t neg)(a:t.size=0):ce s=false:=
 BD H λb=>b.ne (zD (by simpa using a))
def NF{k:Nat}(a:19<=k):10000000000000000000<=10 ^ k:=zi (by decide) (Nat.pow_le_pow_right (by decide) a)
def tZ(H:eJ s t neg)(g:19<t.size):ce s=false:=by
 rw[Bool.eq_false_iff];intro b;obtain⟨c,_,a⟩:=H.1 b;have d:t.data.toList.length=t.size:=by simp
 have f:=MH c (by omega);have e:=NF (k:=t.data.toList.length - 1) (by omega);split at a<;>omega
def Jr(d:0<t.size):∃r,t.data.toList=t[0]::r:=by
 cases a:t.data.toList with
 |nil=>
  have b:t.data.toList.length=t.size:=by simp
  rw[a,List.length_nil]at b;omega
 |cons c r=>exact⟨r,by rw[kG d a]⟩
def tF(H:eJ s t neg)(f:0<t.size)(c:t[0].toNat=48)(a:1<t.size∨neg=true):ce s=false:=by
 obtain⟨h,b⟩:=Jr f;rw[Bool.eq_false_iff];intro e;obtain⟨g,d,_⟩:=H.1 e;rcases a with a|a
 ·have:=g.lead _ _ b c;subst this;have:=zp List.length b;simp at this;omega
 ·exact d a _ _ b c
def pE(H:eJ s t neg){k:Nat}(a:k<t.size)(b:¬(48<=t[k].toNat∧t[k].toNat<=57)):ce s=false:=
 BD H λc=>b (c.dig t[k] (zU (fS t k a)))
def oT(t:ByteArray)(k:Nat):Prop:=∀a (h:a<t.size),a<k->48<=t[a].toNat∧t[a].toNat<=57
def pk{k:Nat}(d:oT t k)(g:k<t.size)(c:48<=t[k].toNat∧t[k].toNat<=57):oT t (k+1):=λa b f=>by
 by_cases e:a=k
 ·subst e;exact c
 ·exact d a b (by omega)
def xI(e:oT t t.size):pU t.data.toList:=λg d=>by
 obtain⟨a,c,f⟩:=zQ d;have b:a<t.size:=by simpa using c
 have:=fS t a b;rw[zo c,f]at this;rw[zj this];exact e a b b
def FR(d:0<t.size)(e:oT t t.size)(a:t.size=1∨∀e:0<t.size,t[0].toNat≠48):oV t.data.toList where
 ne:=λb=>by
  have a:t.data.toList.length=t.size:=by simp
  rw[b,List.length_nil]at a
  omega
 dig:=xI e
 lead:=λg f b c=>by
  rcases a with a|a
  ·have:=zp List.length b
   simp at this
   exact zD (by omega)
  ·rw[kG d b]at c
   exact absurd c (a d)
def yj(H:eJ s t neg)(b:0<t.size)(k:t.size<19)(a:oT t t.size)(d:t.size=1∨∀a:0<t.size,t[0].toNat≠48)(c:neg=true->∀a:0<t.size,t[0].toNat≠48):ce s=true:=by
 refine H.2 ⟨FR b a d,λf m g e=>by rw[kG b e];exact c f b,?_⟩;have l:=yP t.data.toList 0 (xI a);have h:t.data.toList.length=t.size:=by simp
 have j:10 ^ t.data.toList.length<=10 ^ 18:=Nat.pow_le_pow_right (by decide) (by omega);have i:(10:Nat) ^ 18=1000000000000000000:=by decide
 split<;>omega
end
def nZ{s t:ByteArray}{neg:Bool}(H:eJ s t neg)(f:0<t.size)(e:t.size<19)(b:oT t t.size)(a:(neg=false∧t.size=1)∨∀b:0<t.size,t[0].toNat≠48):ce s=true:=
 yj H f e b (a.imp (λd=>d.2) id) (λc=>by
  rcases a with a|a
  ·rw[a.1]at c;cases c
  ·exact a)
def gj:List UInt8:=[57,50,50,51,51,55,50,48,51,54,56,53,52,55,55,53,56,48,55]
def jk:List UInt8:=[57,50,50,51,51,55,50,48,51,54,56,53,52,55,55,53,56,48,56]
def Nh(t:ByteArray)(m:List UInt8)(w:World):Sem.run prog (Go.binOp BinOp.leq 9 (Value.string t) (Value.string ⟨m.toArray⟩)) w= .ok (.bool (Op.bytesLess t.toList (⟨m.toArray⟩:ByteArray).toList||t.toList==(⟨m.toArray⟩:ByteArray).toList)) w:=by kernel_rfl
def yV(t:ByteArray)(m:List UInt8)(w:World):Sem.run prog (Go.binOp BinOp.leq 9 (Value.string t) (Value.string ⟨m.toArray⟩)) w= .ok (.bool (Op.bytesLess t.toList m||t.toList==m)) w:=by
 rw[Nh,show(⟨m.toArray⟩:ByteArray).toList=m by rw[zH]]
def uQ:dc 0 gj=9223372036854775807∧pU gj∧gj.length=19:=by refine⟨by decide+kernel,?_,by decide⟩;unfold pU gj;decide
def rG:dc 0 jk=9223372036854775808∧pU jk∧jk.length=19:=by refine⟨by decide+kernel,?_,by decide⟩;unfold pU jk;decide
def EL:oV jk:=⟨by decide,rG.2.1,λd c a b=>by unfold jk at a;injection a with a _;subst a;exact absurd b (by decide)⟩
def pt{s t:ByteArray}{neg:Bool}(H:eJ s t neg)(m:t.size=19)(c:oT t t.size)(i:(neg=false∧t.size=1)∨∀c:0<t.size,t[0].toNat≠48):
 ce s=((Op.bytesLess t.toList [57,50,50,51,51,55,50,48,51,54,56,53,52,55,55,53,56,48,55]||t.toList==[57,50,50,51,51,55,50,48,51,54,56,53,52,55,55,53,56,48,55])||(neg&&t.toList==[57,50,50,51,51,55,50,48,51,54,56,53,52,55,55,53,56,48,56])):=by
 have d:∀c:0<t.size,t[0].toNat≠48:=i.resolve_left (λn=>by omega);have b:=FR (by omega) c (.inr d);have h:t.data.toList.length=19:=by simpa using m
 show _=((Op.bytesLess t.toList gj||t.toList==gj)||(neg&&t.toList==jk));rw[zH,Md _ _ 0 (by rw[h,uQ.2.2]) b.dig uQ.2.1,uQ.1];have j:ce s=true↔dc 0 t.data.toList<=if neg then 9223372036854775808 else 9223372036854775807:=
  ⟨λl=>(H.1 l).2.2,λg=>H.2 ⟨b,λ_ p o a=>by rw[kG (by omega) a];exact d _,g⟩⟩
 have k:t.data.toList=jk↔dc 0 t.data.toList=9223372036854775808:=by
  constructor
  ·intro a;rw[a];exact rG.1
  ·intro a;have f:=qm _ _ rfl b;have e:=qm _ _ rfl EL;rw[a]at f;rw[rG.1]at e;exact f.symm.trans e
 rw[zA,j,Bool.or_eq_true,zy,decide_eq_true_eq,beq_iff_eq,k]
 cases neg
 ·simp
 ·simp only[if_true,true_and];omega
set_option maxRecDepth 20000 in
def Hx(s:ByteArray)(w:World):Calls prog 79 #[.string s] w λe w'=>e= .returned (.bool (ce s))∧w'=w:=by
 by_cases v:s.size=0
 ·have b:=za (pL (wS (s:=s) (λV U e=>by have:=zp List.length e;simp at this;omega)) v);have E:(s.toList==[])=true:=rL v;go_enter func79,ntmps79;go_wp2_with fail;go_ret;exact⟨ag b.out,rfl⟩
 have H:0<s.size:=by omega
 have L:(s.toList==[])=false:=tw v;by_cases F:s[0].toNat=45
 ·have M:((s[0].toNat:Int)==45)=true:=by rw[F];rfl
  have c:=za (Jh H F);go_enter func79,ntmps79;go_upto_region 5 with fail;generalize s.extract 1 s.size=t at c ⊢
  clear M L F H v;by_cases q:t.size=0
  ·have b:=za (pL c.out q);have E:(t.toList==[])=true:=rL q;go_wp2_with fail
   all_goals go_ret
   all_goals exact⟨ag b.out,rfl⟩
  have r:0<t.size:=by omega
  have E:(t.toList==[])=false:=tw q;by_cases J:19<t.size
  ·have b:=za (tZ c.out J);have I:(19:Int)<(t.size:Int):=by omega
   go_wp2_with fail
   all_goals go_ret
   all_goals exact⟨ag b.out,rfl⟩
  have I:¬(19:Int)<(t.size:Int):=by omega
  have R:(t.size:Int)<=19:=by omega
  by_cases p:t[0].toNat=48
  ·have G:((t[0].toNat:Int)==48)=true:=by rw[p];rfl
   have b:=za (tF c.out r p (.inr rfl));go_wp2_with fail
   all_goals go_ret
   all_goals exact⟨ag b.out,rfl⟩
  ·have G:((t[0].toNat:Int)==48)=false:=zh.2 (by omega);have n:Hid (∀A:0<t.size,t[0].toNat≠48):=za ((λ_=>p));go_wp2_with fail;go_loopw [2,5] (λu f wr=> ∃a:Nat,f= .int .i64 a∧a<=t.size∧Hid (oT t a)∧u= .bool false∧Hid (wr=w)) (λ_ f _=>t.size - (intOf f).toNat)
   case atStart=>exact⟨0,rfl,zu _,za (λK A Q=>by omega),rfl,za rfl⟩
   case round=>
    obtain⟨a,rfl,N,j,rfl,D⟩:=hrel;obtain rfl:=D.out;by_cases k:a<t.size
    ·by_cases g:48<=t[a].toNat∧t[a].toNat<=57
     ·have C:=za (pk j.out k g);obtain⟨y,O⟩:=g;have m:¬(t[a].toNat:Int)<48:=by omega
      have x:¬(57:Int)<(t[a].toNat:Int):=by omega
      go_wp2_with fail;go_roundw
      case rel=>exact⟨a+1,by go_num,by omega,C,rfl,za trivial⟩
      case measure=>simp[intOf];omega
     ·have b:=za (pE c.out k g);by_cases y:t[a].toNat<48
      ·have m:(t[a].toNat:Int)<48:=by omega
       go_wp2_with fail;go_ret;exact⟨ag b.out,rfl⟩
      ·have m:¬(t[a].toNat:Int)<48:=by omega
       have x:(57:Int)<(t[a].toNat:Int):=by omega
       go_wp2_with fail;go_ret;exact⟨ag b.out,rfl⟩
    ·obtain rfl:a=t.size:=by omega
     by_cases P:t.size<19
     ·have d:=za (nZ c.out r (by omega) j.out (.inr n.out));have z:(t.size:Int)<19:=by omega
      go_wp2_with fail;go_ret;exact⟨ag d.out,rfl⟩
     ·have d:=za (pt c.out (show t.size=19 by omega) j.out (.inr n.out));have z:¬(t.size:Int)<19:=by omega
      have l:=yV t gj;unfold gj at l;obtain⟨i,h⟩:∃i,(Op.bytesLess t.toList [57,50,50,51,51,55,50,48,51,54,56,53,52,55,55,53,56,48,55]||t.toList==[57,50,50,51,51,55,50,48,51,54,56,53,52,55,55,53,56,48,55])=i:=⟨_,rfl⟩
      have B:=za (by have:=d.out;rw[h]at this;exact this);rw[h]at l;clear h d
      cases i
      all_goals go_wp2_with fail
      all_goals go_ret
      all_goals refine⟨ag ?_,rfl⟩
      all_goals rw[B.out]
      all_goals simp
 ·have M:((s[0].toNat:Int)==45)=false:=zh.2 (by omega);have c:=za (BX H F);go_enter func79,ntmps79;go_upto_region 5 with fail;clear L v;by_cases q:s.size=0
  ·have b:=za (pL c.out q);have E:(s.toList==[])=true:=rL q;go_wp2_with fail
   all_goals go_ret
   all_goals exact⟨ag b.out,rfl⟩
  have r:0<s.size:=by omega
  have E:(s.toList==[])=false:=tw q;by_cases J:19<s.size
  ·have b:=za (tZ c.out J);have I:(19:Int)<(s.size:Int):=by omega
   go_wp2_with fail
   all_goals go_ret
   all_goals exact⟨ag b.out,rfl⟩
  have I:¬(19:Int)<(s.size:Int):=by omega
  have R:(s.size:Int)<=19:=by omega
  by_cases p:s[0].toNat=48
  ·have G:((s[0].toNat:Int)==48)=true:=by rw[p];rfl
   by_cases T:1<s.size
   ·have b:=za (tF c.out r p (.inl T));have S:(1:Int)<(s.size:Int):=by omega
    go_wp2_with fail
    all_goals go_ret
    all_goals exact⟨ag b.out,rfl⟩
   ·have S:¬(1:Int)<(s.size:Int):=by omega
    have n:Hid (s.size=1∨∀A:0<s.size,s[0].toNat≠48):=za (.inl (by omega));go_wp2_with fail;go_loopw [2,5] (λu f wr=> ∃a:Nat,f= .int .i64 a∧a<=s.size∧Hid (oT s a)∧u= .bool false∧Hid (wr=w)) (λ_ f _=>s.size - (intOf f).toNat)
    case atStart=>exact⟨0,rfl,zu _,za (λK A Q=>by omega),rfl,za rfl⟩
    case round=>
     obtain⟨a,rfl,N,j,rfl,D⟩:=hrel;obtain rfl:=D.out;by_cases k:a<s.size
     ·by_cases g:48<=s[a].toNat∧s[a].toNat<=57
      ·have C:=za (pk j.out k g);obtain⟨y,O⟩:=g;have m:¬(s[a].toNat:Int)<48:=by omega
       have x:¬(57:Int)<(s[a].toNat:Int):=by omega
       go_wp2_with fail;go_roundw
       case rel=>exact⟨a+1,by go_num,by omega,C,rfl,za trivial⟩
       case measure=>simp[intOf];omega
      ·have b:=za (pE c.out k g);by_cases y:s[a].toNat<48
       ·have m:(s[a].toNat:Int)<48:=by omega
        go_wp2_with fail;go_ret;exact⟨ag b.out,rfl⟩
       ·have m:¬(s[a].toNat:Int)<48:=by omega
        have x:(57:Int)<(s[a].toNat:Int):=by omega
        go_wp2_with fail;go_ret;exact⟨ag b.out,rfl⟩
     ·obtain rfl:a=s.size:=by omega
      by_cases P:s.size<19
      ·have d:=za (nZ c.out r (by omega) j.out (n.imp (λo=>⟨rfl,o⟩) id));have z:(s.size:Int)<19:=by omega
       go_wp2_with fail;go_ret;exact⟨ag d.out,rfl⟩
      ·have d:=za (pt c.out (show s.size=19 by omega) j.out (n.imp (λo=>⟨rfl,o⟩) id));have z:¬(s.size:Int)<19:=by omega
       have l:=yV s gj;unfold gj at l;obtain⟨i,h⟩:∃i,(Op.bytesLess s.toList [57,50,50,51,51,55,50,48,51,54,56,53,52,55,55,53,56,48,55]||s.toList==[57,50,50,51,51,55,50,48,51,54,56,53,52,55,55,53,56,48,55])=i:=⟨_,rfl⟩
       have B:=za (by have:=d.out;rw[h]at this;exact this);rw[h]at l;clear h d
       cases i
       all_goals go_wp2_with fail
       all_goals go_ret
       all_goals refine⟨ag ?_,rfl⟩
       all_goals rw[B.out]
       all_goals simp
  ·have G:((s[0].toNat:Int)==48)=false:=zh.2 (by omega);have n:Hid (s.size=1∨∀A:0<s.size,s[0].toNat≠48):=za (.inr (λ_=>p));go_wp2_with fail;go_loopw [2,5] (λu f wr=> ∃a:Nat,f= .int .i64 a∧a<=s.size∧Hid (oT s a)∧u= .bool false∧Hid (wr=w)) (λ_ f _=>s.size - (intOf f).toNat)
   case atStart=>exact⟨0,rfl,zu _,za (λK A Q=>by omega),rfl,za rfl⟩
   case round=>
    obtain⟨a,rfl,N,j,rfl,D⟩:=hrel;obtain rfl:=D.out;by_cases k:a<s.size
    ·by_cases g:48<=s[a].toNat∧s[a].toNat<=57
     ·have C:=za (pk j.out k g);obtain⟨y,O⟩:=g;have m:¬(s[a].toNat:Int)<48:=by omega
      have x:¬(57:Int)<(s[a].toNat:Int):=by omega
      go_wp2_with fail;go_roundw
      case rel=>exact⟨a+1,by go_num,by omega,C,rfl,za trivial⟩
      case measure=>simp[intOf];omega
     ·have b:=za (pE c.out k g);by_cases y:s[a].toNat<48
      ·have m:(s[a].toNat:Int)<48:=by omega
       go_wp2_with fail;go_ret;exact⟨ag b.out,rfl⟩
      ·have m:¬(s[a].toNat:Int)<48:=by omega
       have x:(57:Int)<(s[a].toNat:Int):=by omega
       go_wp2_with fail;go_ret;exact⟨ag b.out,rfl⟩
    ·obtain rfl:a=s.size:=by omega
     by_cases P:s.size<19
     ·have d:=za (nZ c.out r (by omega) j.out (n.imp (λo=>⟨rfl,o⟩) id));have z:(s.size:Int)<19:=by omega
      go_wp2_with fail;go_ret;exact⟨ag d.out,rfl⟩
     ·have d:=za (pt c.out (show s.size=19 by omega) j.out (n.imp (λo=>⟨rfl,o⟩) id));have z:¬(s.size:Int)<19:=by omega
      have l:=yV s gj;unfold gj at l;obtain⟨i,h⟩:∃i,(Op.bytesLess s.toList [57,50,50,51,51,55,50,48,51,54,56,53,52,55,55,53,56,48,55]||s.toList==[57,50,50,51,51,55,50,48,51,54,56,53,52,55,55,53,56,48,55])=i:=⟨_,rfl⟩
      have B:=za (by have:=d.out;rw[h]at this;exact this);rw[h]at l;clear h d
      cases i
      all_goals go_wp2_with fail
      all_goals go_ret
      all_goals refine⟨ag ?_,rfl⟩
      all_goals rw[B.out]
      all_goals simp
end
section
open Go.RowKit Go.Proofs.PeepPlain
def M0(n:Nat)(w:World):Calls prog 115 #[.int .u64 (n:Int)] w λe w'=>e= .returned (.bool (AT n))∧w'=w:=by
 obtain⟨b,a⟩:∃b,AT n=b:=⟨_,rfl⟩
 rw[a];unfold AT at a;have c:=za a;clear a;go_enter func115,ntmps115;go_wp2_with fail
 all_goals go_ret
 all_goals refine⟨ag ?_,rfl⟩
 all_goals rw[<-c.out]
 all_goals clear c
 all_goals grind
def jX(c:UInt8):Option Nat:=if 48<=c.toNat∧c.toNat<=57 then some (c.toNat - 48)else if 97<=c.toNat∧c.toNat<=102 then some (c.toNat - 87)else none
def jo:Nat->List UInt8->Option Nat
 |n,[]=>some n
 |n,c::r=>match jX c with
  |some d=>jo (16 * n+d) r
  |none=>none
def ui{c:UInt8}(b:¬(65<=c.toNat∧c.toNat<=90)):Lib.lowerB c=c:=by
 unfold Lib.lowerB;rw[zm];intro a;simp only[Lib.isUpperB,zy,decide_eq_true_eq]at a;exact b a
def Jv{c:UInt8}(b:65<=c.toNat∧c.toNat<=90):Lib.lowerB c≠c:=by
 unfold Lib.lowerB;rw[zn (by simp only[Lib.isUpperB,zy,decide_eq_true_eq];exact b)];intro d;have:=zp UInt8.toNat d;rw[UInt8.toNat_add]at this;have a:(32:UInt8).toNat=32:=rfl;rw[a]at this;omega
def qS{c:UInt8}{d:Nat}(a:jX c=some d):jm c=some d∧d<16∧Lib.toLowerA [c]=[c]:=by
 unfold jX at a;split at a
 ·rename_i b;injection a with a;refine⟨by unfold jm;rw[zn b,a],by omega,?_⟩;simp only[Lib.toLowerA,List.map_cons,List.map_nil,ui (c:=c) (by omega)]
 ·split at a
  ·rename_i e b;injection a with a;refine⟨by unfold jm;rw[zm e,zn b,a],by omega,?_⟩;simp only[Lib.toLowerA,List.map_cons,List.map_nil,ui (c:=c) (by omega)]
  ·cases a
def IR{c:UInt8}{d:Nat}(a:jm c=some d)(f:Lib.lowerB c=c):jX c=some d:=by
 unfold jm at a;unfold jX;split at a
 ·rename_i b;rw[zn b];exact a
 ·rename_i b;rw[zm b];split at a
  ·rename_i e;rw[zn e];exact a
  ·rename_i e;split at a
   ·exact absurd f (Jv (by omega))
   ·cases a
def Mc{a b:UInt8}{d:Nat}(e:jX a=some d)(c:jX b=some d):a=b:=by
 unfold jX at e c;apply UInt8.toNat_inj.1;split at e<;>split at c<;>simp_all<;>omega
def Ie{c:UInt8}{d:Nat}(g:jX c=some d)(l:List UInt8)(m n:Nat)(a:jo m l=some n):jo m (l++ [c])=some (16 * n+d):=by
 induction l generalizing m with
 |nil=>
  rw[jo]at a;injection a with a;subst a;rw[List.nil_append,jo,g];dsimp only;rw[jo]
 |cons b l ih=>
  rw[List.cons_append,jo];rw[jo]at a
  cases f:jX b with
  |none=>rw[f]at a;cases a
  |some e=>
   rw[f]at a;exact ih _ a
def Iu{c:UInt8}(a:jX c=none)(r l:List UInt8)(m:Nat):jo m (l++c::r)=none:=by
 induction l generalizing m with
 |nil=>rw[List.nil_append,jo,a]
 |cons b l ih=>
  rw[List.cons_append,jo]
  cases jX b with
  |none=>rfl
  |some e=>exact ih _
def Na:∀(l k:List UInt8) (m p n:Nat),l.length=k.length->jo m l=some n->jo p k=some n->m=p∧l=k:=by
 intro l
 induction l with
 |nil=>
  intro k m p n g f c;obtain rfl:k=[]:=zD (by simpa using g.symm);rw[jo]at f c;exact⟨by rw[zj f,zj c],rfl⟩
 |cons a l ih=>
  intro k m p n g f c
  match k,g with
  |b::k,g=>
   rw[jo]at f c
   cases i:jX a with
   |none=>rw[i]at f;cases f
   |some d=>
    cases h:jX b with
    |none=>rw[h]at c;cases c
    |some e=>
     rw[i]at f;rw[h]at c;obtain⟨r,j⟩:=ih k _ _ n (by simpa using g) f c;have q:=(qS i).2.1;have o:=(qS h).2.1;obtain rfl:d=e:=by omega
     exact⟨by omega,by rw[Mc i h,j]⟩
def NK(l:List UInt8)(m n:Nat)(a:jo m l=some n):eW m l=some n∧Lib.toLowerA l=l:=by
 induction l generalizing m with
 |nil=>
  rw[jo]at a;exact⟨by rw[eW];exact a,rfl⟩
 |cons c l ih=>
  rw[jo]at a
  cases b:jX c with
  |none=>rw[b]at a;cases a
  |some d=>
   rw[b]at a;obtain⟨h,i,e⟩:=qS b;obtain⟨g,f⟩:=ih _ a;refine⟨by rw[eW,h];exact g,?_⟩;unfold Lib.toLowerA at e f ⊢
   rw[List.map_cons,f];simp only[List.map_cons,List.map_nil,List.cons.injEq,and_true]at e;rw[e]
def Lk(l:List UInt8)(m n:Nat)(a:eW m l=some n)(b:Lib.toLowerA l=l):jo m l=some n:=by
 induction l generalizing m with
 |nil=>
  rw[eW]at a;rw[jo];exact a
 |cons c l ih=>
  rw[eW]at a;unfold Lib.toLowerA at b;rw[List.map_cons]at b;injection b with h1 h2
  cases e:jm c with
  |none=>rw[e]at a;cases a
  |some d=>
   rw[e]at a;rw[jo,IR e h1];exact ih _ a h2
def yN:List UInt8:=[55,102,102,56,48,48,48,48,48,48,48,48,48,48,48,49]
def FL:jo 0 yN=some 9221120237041090561:=by decide+kernel
def DX{s:ByteArray}{n:Nat}(b:s.size=16)(a:jo 0 s.data.toList=some n):eF s=(!AT n||s.toList==[55,102,102,56,48,48,48,48,48,48,48,48,48,48,48,49]):=by
 obtain⟨e,d⟩:=NK _ _ _ a;unfold eF;rw[ze b,e];dsimp only;rw[d];have g:((⟨s.data.toList.toArray⟩:ByteArray).toList==s.toList)=true:=by simp
 have f:decide ((n:Int)=9221120237041090561)=(s.toList==yN):=by
  rw[zH,zA,decide_eq_true_eq,beq_iff_eq];constructor
  ·intro c;exact(Na _ _ _ _ _ (by simpa[yN]using b) a ((FL).trans (by rw[show n=9221120237041090561 by omega]))).2
  ·intro c;rw[c,FL]at a;have:=zj a;omega
 rw[g,f,Bool.true_and,Bool.true_and];rfl
def Ee{s:ByteArray}(a:jo 0 s.data.toList=none):eF s=false:=by
 unfold eF
 cases b:eW 0 s.data.toList with
 |none=>simp
 |some n=>
  dsimp only;have:((⟨(Lib.toLowerA s.data.toList).toArray⟩:ByteArray).toList==s.toList)=false:=by
   rw[zh,zH,zH];intro c;rw[Lk _ _ _ b (by simpa using c)]at a
   cases a
  rw[this];simp
def Ey{s:ByteArray}(a:¬s.size=16):eF s=false:=by
 unfold eF;rw[zg a,zG]
def Gj(s:ByteArray)(k n:Nat):Prop:=jo 0 (s.data.toList.take k)=some n∧n<16 ^ k
def NP(s:ByteArray)(k:Nat)(a:k<s.size):s.data.toList.take (k+1)=s.data.toList.take k++ [s[k]]:=by
 rw[List.take_add_one,fS s k a];rfl
def ux{s:ByteArray}{k n d:Nat}(b:Gj s k n)(c:k<s.size)(a:jX s[k]=some d):Gj s (k+1) (16 * n+d):=by
 refine⟨?_,?_⟩
 ·rw[NP s k c];exact Ie a _ _ _ b.1
 ·have:=(qS a).2.1;have:=b.2;rw[Nat.pow_succ];omega
def Dz{s:ByteArray}{k:Nat}(a:k<s.size)(d:jX s[k]=none):eF s=false:=by
 apply Ee;have e:s.data.toList=s.data.toList.take k++s[k]::s.data.toList.drop (k+1):=by
  have b:=List.take_append_drop k s.data.toList;rw[List.drop_eq_getElem_cons (by simpa using a)]at b;have c:=fS s k a;rw[zo (by simpa using a)]at c;rw[zj c]at b;exact b.symm
 rw[e];exact Iu d _ _ _
def Hn{s:ByteArray}{n:Nat}(a:s.size=16)(c:Gj s 16 n):eF s=(!AT n||s.toList==[55,102,102,56,48,48,48,48,48,48,48,48,48,48,48,49]):=by
 refine DX a ?_;have b:=c.1;rwa [List.take_of_length_le (by simp[a])]at b
def LT{k n:Nat}(a:k<16)(d:n<16 ^ k):16 * n+15<18446744073709551616:=by
 have c:16 ^ k<=16 ^ 15:=Nat.pow_le_pow_right (by decide) (by omega);have b:(16:Nat) ^ 15=1152921504606846976:=by decide
 omega
set_option maxRecDepth 20000 in
def Ia(s:ByteArray)(w:World):Calls prog 80 #[.string s] w λe w'=>e= .returned (.bool (eF s))∧w'=w:=by
 have C:=za M0;by_cases k:s.size=16
 ·have q:(s.size:Int)=16:=by omega
  have t:=za k;clear k;go_enter func80,ntmps80;go_wp2_with fail;go_loopw [2,3,4] (λv u n wr=> ∃a c:Nat,n= .int .i64 a∧a<=16∧u= .int .u64 (c:Int)∧Hid (Gj s a c)∧v= .bool false∧Hid (wr=w)) (λ_ _ n _=>16 - (intOf n).toNat)
  case atStart=>exact⟨0,0,rfl,by omega,rfl,za ⟨by rw[List.take_zero,jo],by decide⟩,rfl,za rfl⟩
  case round=>
   obtain⟨a,c,rfl,K,rfl,l,rfl,D⟩:=hrel;obtain rfl:=D.out;by_cases B:a<16
   ·have o:a<s.size:=by have:=t.out;omega
    have J:(a:Int)<s.size:=by omega
    have I:(a:Int)<16:=by omega
    have i:=za (LT B l.2);obtain⟨d,m⟩:∃d,Hid (d=s[a].toNat):=⟨_,za rfl⟩
    have r:=m.out;by_cases g:48<=d∧d<=57
    ·have h:=za (ux l.out o (show jX s[a]=some (d - 48) by unfold jX;rw[<-m.out,zn g]));obtain⟨P,O⟩:=g;obtain⟨b,p⟩:∃b,d=b+48:=⟨d - 48,by omega⟩
     subst p;rw[Nat.add_sub_cancel]at h;have t1:(48:Int)<=(s[a].toNat:Int):=by omega
     have t2:(s[a].toNat:Int)<=57:=by omega
     have t3:(s[a].toNat:Int) - 48=(b:Int):=by omega
     have A:IntKind.u64.wrap (16 * (c:Int))=16 * (c:Int):=by rw[IntKind.wrap_u64];have:=i.out;omega
     have z:IntKind.u64.wrap (16 * (c:Int)+(b:Int))=((16 * c+b:Nat):Int):=by rw[IntKind.wrap_u64];have:=i.out;omega
     have y:IntKind.u8.wrap ((s[a].toNat:Int) - 48)=(b:Int):=by rw[IntKind.wrap_u8];omega
     have x:IntKind.u64.wrap (b:Int)=(b:Int):=by rw[IntKind.wrap_u64];omega
     go_wp2_with fail;go_roundw
     case rel=>exact⟨a+1,16 * c+b,by go_num,by omega,by simp,h,rfl,za trivial⟩
     case measure=>simp[intOf];omega
    by_cases j:97<=d∧d<=102
    ·have h:=za (ux l.out o (show jX s[a]=some (d - 87) by unfold jX;rw[<-m.out,zm g,zn j]));obtain⟨N,M⟩:=j;obtain⟨b,p⟩:∃b,d=b+97:=⟨d - 97,by omega⟩
     subst p;rw[show b+97 - 87=b+10 by omega]at h;have t1:(97:Int)<=(s[a].toNat:Int):=by omega
     have t2:(s[a].toNat:Int)<=102:=by omega
     have t0:(48:Int)<=(s[a].toNat:Int):=by omega
     have F:¬(s[a].toNat:Int)<=57:=by omega
     have t3:(s[a].toNat:Int) - 97=(b:Int):=by omega
     have A:IntKind.u64.wrap (16 * (c:Int))=16 * (c:Int):=by rw[IntKind.wrap_u64];have:=i.out;omega
     have z:IntKind.u64.wrap (16 * (c:Int)+(b:Int))=16 * (c:Int)+(b:Int):=by rw[IntKind.wrap_u64];have:=i.out;omega
     have G:IntKind.u64.wrap (16 * (c:Int)+(b:Int)+10)=16 * (c:Int)+(b:Int)+10:=by rw[IntKind.wrap_u64];have:=i.out;omega
     have y:IntKind.u8.wrap ((s[a].toNat:Int) - 97)=(b:Int):=by rw[IntKind.wrap_u8];omega
     have x:IntKind.u64.wrap (b:Int)=(b:Int):=by rw[IntKind.wrap_u64];omega
     go_wp2_with fail;go_roundw
     case rel=>exact⟨a+1,16 * c+(b+10),by go_num,by omega,by simp;omega,h,rfl,za trivial⟩
     case measure=>simp[intOf];omega
    ·have f:=za (Dz o (show jX s[a]=none by unfold jX;rw[<-m.out,zm g,zm j]));rw[r]at g j;clear r;by_cases S:48<=s[a].toNat
     ·have t0:(48:Int)<=(s[a].toNat:Int):=by omega
      have t1:¬(s[a].toNat:Int)<=57:=by omega
      by_cases R:97<=s[a].toNat
      ·have t2:(97:Int)<=(s[a].toNat:Int):=by omega
       have t3:¬(s[a].toNat:Int)<=102:=by omega
       go_wp2_with fail;go_ret;exact⟨ag f.out,rfl⟩
      ·have t2:¬(97:Int)<=(s[a].toNat:Int):=by omega
       go_wp2_with fail;go_ret;exact⟨ag f.out,rfl⟩
     ·have t0:¬(48:Int)<=(s[a].toNat:Int):=by omega
      have t2:¬(97:Int)<=(s[a].toNat:Int):=by omega
      go_wp2_with fail;go_ret;exact⟨ag f.out,rfl⟩
   ·obtain rfl:a=16:=by omega
    have f:=za (Hn t.out l.out);have L:((16:Nat):Int)=16:=rfl;go_wp2_with (go_at_call 115;refine(C.out c _).mono ?_;rintro Q E ⟨rfl,rfl⟩)
    all_goals go_ret
    all_goals refine⟨ag ?_,rfl⟩
    all_goals rw[f.out]
    all_goals grind
 ·have f:=za (Ey k);have q:¬(s.size:Int)=16:=by omega
  have H:((s.size:Int)==16)=false:=zh.2 q;clear k;go_enter func80,ntmps80;go_wp2_with fail;go_ret;exact⟨ag f.out,rfl⟩
end
section
set_option maxRecDepth 20000
open Go.RowKit Go.Proofs.PeepPlain
def qk{c:ByteArray}{l:List ByteArray}(a:aJ c=l)(d:¬(⟨#[]⟩:ByteArray)∈l)(x:ByteArray):Lib.containsS l x=dR c x:=by
 unfold dR;rw[a];by_cases b:x.size=0
 ·obtain rfl:x=⟨#[]⟩:=by
   apply lO;rw[zH,zH];exact zD (by simpa using b)
  rw[zg (λa=>a rfl),zG,Bool.eq_false_iff];exact λe=>d ((Lib.containsS_iff _ _).1 e)
 ·rw[ze b,Bool.true_and]
def qp{l:List ByteArray}(b:l.all (λt=>decide (0<t.size))=true):¬(⟨#[]⟩:ByteArray)∈l:=λa=>by
 have:=List.all_eq_true.1 b _ a;simp at this;exact absurd this (by decide)
def iM:List ByteArray:=[⟨#[45]⟩,⟨#[33]⟩,⟨#[94]⟩,⟨#[42]⟩,⟨#[43,43]⟩,⟨#[45,45]⟩]
def gP:List ByteArray:=[⟨#[43]⟩,⟨#[45]⟩,⟨#[42]⟩,⟨#[47]⟩,⟨#[37]⟩,⟨#[38]⟩,⟨#[124]⟩,⟨#[94]⟩,⟨#[60,60]⟩,⟨#[62,62]⟩,⟨#[61,61]⟩,⟨#[33,61]⟩,⟨#[60]⟩,⟨#[60,61]⟩,⟨#[62]⟩,⟨#[62,61]⟩]
def AD:aJ rJ=iM:=by decide+kernel
def xZ:aJ oF=gP:=by decide+kernel
def CZ:aJ vo=[⟨#[38,38]⟩,⟨#[124,124]⟩]:=by decide+kernel
def LX(x:ByteArray):Lib.containsS iM x=dR rJ x:=qk AD (qp rfl) x
def I5(x:ByteArray):Lib.containsS gP x=dR oF x:=qk xZ (qp rfl) x
def Hv(x:ByteArray):Lib.containsS eQ x=dR rS x:=qk rfl (by show ¬_∈eQ;rw[mh];exact qp rfl) x
def Ki(x:ByteArray):dR vo x=(x.toList==[38,38]||x.toList==[124,124]):=by
 rw[<-qk CZ (qp rfl),zA,Lib.containsS_iff];simp only[zC,List.not_mem_nil,or_false,Bool.or_eq_true,beq_iff_eq];constructor
 ·rintro(rfl|rfl)
  ·exact .inl (by rw[zH])
  ·exact .inr (by rw[zH])
 ·rintro(h|h)
  ·exact .inl (lO (by rw[h,zH]))
  ·exact .inr (lO (by rw[h,zH]))
def Rj(a b pos:Int)(s:ByteArray)(w:World)(f:s.size<=2000000):Calls prog 48 #[.agg #[.int .i64 3,.int .i64 a,.int .i64 b,.string s,.int .i64 pos]] w λe w'=>e= .returned (.bool (ce s))∧zz w w':=by
 have c:=za (Hx s);generalize ce s=v at c ⊢
 go_enter func48,ntmps48;go_wp2_with (go_at_call 79;refine(c.out _).mono ?_;rintro g d ⟨rfl,rfl⟩);go_ret;exact⟨rfl,below1 w _⟩
def Rs(a b pos:Int)(s:ByteArray)(w:World)(f:s.size<=2000000):Calls prog 48 #[.agg #[.int .i64 4,.int .i64 a,.int .i64 b,.string s,.int .i64 pos]] w λe w'=>e= .returned (.bool (eF s))∧zz w w':=by
 have c:=za (Ia s);generalize eF s=v at c ⊢
 go_enter func48,ntmps48;go_wp2_with (go_at_call 80;refine(c.out _).mono ?_;rintro g d ⟨rfl,rfl⟩);go_ret;exact⟨rfl,below1 w _⟩
def RN(a b pos:Int)(s:ByteArray)(w:World)(c:s.size<=2000000):Calls prog 48 #[.agg #[.int .i64 5,.int .i64 a,.int .i64 b,.string s,.int .i64 pos]] w λe w'=>e= .returned (.bool (decide ((s.size:Int)<=65536)))∧zz w w':=by
 go_enter func48,ntmps48;go_wp2_with fail
 all_goals go_ret
 all_goals exact⟨ag (by first|rfl|grind),below1 w _⟩
def Rv(a b pos:Int)(s:ByteArray)(w:World)(f:s.size<=2000000):Calls prog 48 #[.agg #[.int .i64 8,.int .i64 a,.int .i64 b,.string s,.int .i64 pos]] w λe w'=>e= .returned (.bool (dj s (a==1) false))∧zz w w':=by
 have d:=za (λw=>qK s a false w f);generalize dj s (a==1) false=v at d ⊢
 go_enter func48,ntmps48;go_wp2_with (go_at_call 81;refine(d.out _).mono ?_;rintro i h ⟨rfl,c⟩;have g:=za (ac (below1 w _) c (below1 w _).size);clear c);go_ret;exact⟨rfl,g⟩
def Qw(a b pos:Int)(s:ByteArray)(w:World)(f:s.size<=2000000):Calls prog 48 #[.agg #[.int .i64 21,.int .i64 a,.int .i64 b,.string s,.int .i64 pos]] w λe w'=>e= .returned (.bool (dj s false false))∧zz w w':=by
 have c:=za (λw=>qK s 0 false w f);rw[show((0:Int)==1)=false from rfl]at c;generalize dj s false false=v at c ⊢
 go_enter func48,ntmps48;go_wp2_with (go_at_call 81;refine(c.out _).mono ?_;rintro i h ⟨rfl,d⟩;have g:=za (ac (below1 w _) d (below1 w _).size);clear d);go_ret;exact⟨rfl,g⟩
def QM(a b pos:Int)(s:ByteArray)(w:World)(f:s.size<=2000000):Calls prog 48 #[.agg #[.int .i64 32,.int .i64 a,.int .i64 b,.string s,.int .i64 pos]] w λe w'=>e= .returned (.bool (dj s (a==1) true))∧zz w w':=by
 have d:=za (λw=>qK s a true w f);generalize dj s (a==1) true=v at d ⊢
 go_enter func48,ntmps48;go_wp2_with (go_at_call 81;refine(d.out _).mono ?_;rintro i h ⟨rfl,c⟩;have g:=za (ac (below1 w _) c (below1 w _).size);clear c);go_ret;exact⟨rfl,g⟩
def Q2(a b pos:Int)(s:ByteArray)(w:World)(k:s.size<=2000000):Calls prog 48 #[.agg #[.int .i64 18,.int .i64 a,.int .i64 b,.string s,.int .i64 pos]] w λe w'=>e= .returned (.bool (dR rJ s))∧zz w w':=by
 have c:=za (λ(d:World) (g:Nat) (hg:d.heap.size=g)=>Dp s iM (some ⟨g,0,none⟩) iM.length (d.alloc (.cells (iM.map Value.string).toArray 9)) (hg ▸ bd.row (ah.made _ 9 _) (λj i f=>f)) (by decide));rw[LX]at c;generalize dR rJ s=v at c ⊢
 unfold iM at c;simp only[List.map_cons,List.map_nil,List.length_cons,List.length_nil]at c;go_enter func48,ntmps48;go_wp2_with (go_at_call 82;refine(c.out _ (w.heap.size+1) (by simp)).mono ?_;rintro l h ⟨rfl,rfl⟩);go_ret;exact⟨rfl,(below1 w _).alloc (below1 w _).size _⟩
def QZ(a b pos:Int)(s:ByteArray)(w:World)(k:s.size<=2000000):Calls prog 48 #[.agg #[.int .i64 19,.int .i64 a,.int .i64 b,.string s,.int .i64 pos]] w λe w'=>e= .returned (.bool (dR oF s))∧zz w w':=by
 have c:=za (λ(d:World) (g:Nat) (hg:d.heap.size=g)=>Dp s gP (some ⟨g,0,none⟩) gP.length (d.alloc (.cells (gP.map Value.string).toArray 9)) (hg ▸ bd.row (ah.made _ 9 _) (λj i f=>f)) (by decide));rw[I5]at c;generalize dR oF s=v at c ⊢
 unfold gP at c;simp only[List.map_cons,List.map_nil,List.length_cons,List.length_nil]at c;go_enter func48,ntmps48;go_wp2_with (go_at_call 82;refine(c.out _ (w.heap.size+1) (by simp)).mono ?_;rintro l h ⟨rfl,rfl⟩);go_ret;exact⟨rfl,(below1 w _).alloc (below1 w _).size _⟩
def Qf(a b pos:Int)(s:ByteArray)(w:World)(c:s.size<=2000000):Calls prog 48 #[.agg #[.int .i64 20,.int .i64 a,.int .i64 b,.string s,.int .i64 pos]] w λe w'=>e= .returned (.bool (dR vo s))∧zz w w':=by
 go_enter func48,ntmps48;go_wp2_with fail
 all_goals go_ret
 all_goals refine⟨ag ?_,below1 w _⟩
 all_goals rw[Ki]
 all_goals first|rfl|grind
def FM(op a b pos:Int)(s:ByteArray)(w:World)(g:op=22∨op=43)(f:s.size<=2000000):Calls prog 48 #[.agg #[.int .i64 op,.int .i64 a,.int .i64 b,.string s,.int .i64 pos]] w λe w'=>e= .returned (.bool (bF s))∧zz w w':=by
 have d:=za (λw=>lP s w f);generalize bF s=v at d ⊢
 rcases g with rfl|rfl
 all_goals go_enter func48,ntmps48
 all_goals go_wp2_with (go_at_call 19;refine(d.out _).mono ?_;rintro j i ⟨rfl,c⟩;have h:=za (ac (below1 w _) c (below1 w _).size);clear c)
 all_goals go_ret
 all_goals exact⟨rfl,h⟩
def QV(a b pos:Int)(s:ByteArray)(w:World)(f:s.size<=2000000):Calls prog 48 #[.agg #[.int .i64 23,.int .i64 a,.int .i64 b,.string s,.int .i64 pos]] w λe w'=>e= .returned (.bool (dY s 2))∧zz w w':=by
 have c:=za (λw=>xN s 2 2 w f (by decide));rw[Id]at c;generalize dY s 2=v at c ⊢
 go_enter func48,ntmps48;go_wp2_with (go_at_call 83;refine(c.out _).mono ?_;rintro i h ⟨rfl,d⟩;have g:=za (ac (below1 w _) d (below1 w _).size);clear d);go_ret;exact⟨rfl,g⟩
def QA(a b pos:Int)(s:ByteArray)(w:World)(g:s.size<=2000000)(j:0<=a∧a<=30):Calls prog 48 #[.agg #[.int .i64 29,.int .i64 a,.int .i64 b,.string s,.int .i64 pos]] w λe w'=>e= .returned (.bool (dY s (wrap64 (a+1))))∧zz w w':=by
 have f:wrap64 (a+1)=a+1:=by unfold wrap64;omega
 have c:=za (λw=>xN s (a+1) 1 w g (by decide));rw[xV (by omega)]at c;rw[f];generalize dY s (a+1)=v at c ⊢
 go_enter func48,ntmps48;go_wp2_with (go_at_call 83;refine(c.out _).mono ?_;rintro k i ⟨rfl,d⟩;have h:=za (ac (below1 w _) d (below1 w _).size);clear d);go_ret;exact⟨rfl,h⟩
def OB(a b pos:Int)(s:ByteArray)(w:World)(d:s.size<=2000000)(c:a=2):Calls prog 48 #[.agg #[.int .i64 33,.int .i64 a,.int .i64 b,.string s,.int .i64 pos]] w λe w'=>e= .returned (.bool (decide (s.size=0)))∧zz w w':=by
 subst c;rw[gE];go_enter func48,ntmps48;go_wp2_with fail;go_ret;exact⟨rfl,below1 w _⟩
def Qh(a b pos:Int)(s:ByteArray)(w:World)(f:s.size<=2000000)(g:a≠2):Calls prog 48 #[.agg #[.int .i64 33,.int .i64 a,.int .i64 b,.string s,.int .i64 pos]] w λe w'=>e= .returned (.bool (dj s (a==1) true))∧zz w w':=by
 have d:=za (λw=>qK s a true w f);generalize dj s (a==1) true=v at d ⊢
 have j:(a==2)=false:=zh.2 g;go_enter func48,ntmps48;go_wp2_with (go_at_call 81;refine(d.out _).mono ?_;rintro k i ⟨rfl,c⟩;have h:=za (ac (below1 w _) c (below1 w _).size);clear c);go_ret;exact⟨rfl,h⟩
def Bu(op a b pos:Int)(s:ByteArray)(w:World)(o:op=47∨op=49)(C:s.size<=2000000):Calls prog 48 #[.agg #[.int .i64 op,.int .i64 a,.int .i64 b,.string s,.int .i64 pos]] w λe w'=>e= .returned (.bool (dR rS s))∧zz w w':=by
 have m:=za (λ(g:World)=>DI g);have f:=za (λ(z:Option Addr) (g:World) h=>Dp s eQ z eQ.length g h (by rw[mh];decide));rw[Hv]at f;generalize dR rS s=v at f ⊢
 generalize eQ=bl at f m;obtain⟨c,d⟩:∃c,c=w.alloc (.cells #[.int .i64 op,.int .i64 a,.int .i64 b,.string s,.int .i64 pos] 50):=⟨_,rfl⟩
 have j:ah c w.heap.size 50 [.int .i64 op,.int .i64 a,.int .i64 b,.string s,.int .i64 pos]:=d ▸ ah.made w 50 _;have n:=za (show zz w c from d ▸ below1 w _);have q:w.heap.size<c.heap.size:=j.lt;have l:c.cell? ⟨w.heap.size,3,none⟩=some (.string s):=j.cell 3;have u:=za d;clear d j;rcases o with rfl|rfl
 all_goals go_enter func48,ntmps48
 all_goals go_wp2_with fail
 all_goals rw[<-u.out]
 all_goals go_region_held3 (λw'=>w'.cell? ⟨w.heap.size,3,none⟩=some (.string s)) (first|exact l|exact t|go_keep) (first|(go_at_call 84;refine(m.out _).mono ?_;rintro r B ⟨rfl,k,i⟩;have t:=(i.cell (p:=⟨w.heap.size,3,none⟩) (show w.heap.size<c.drew.heap.size from q)).trans l;have x:=za k;have y:=za i;clear i k)|(go_at_call 82;refine(f.out _ _ x.out).mono ?_;rintro r A ⟨rfl,rfl⟩))
 all_goals go_wp2_with fail
 all_goals go_ret
 all_goals exact⟨rfl,(ae n.out 1).trans (az y.out n.size)⟩
def MG(op a b pos:Int)(s:ByteArray)(w:World)(c:(1<=op∧op<=53)∧op≠3∧op≠4∧op≠5∧op≠8∧op≠18∧op≠19∧op≠20∧op≠21∧op≠22∧op≠43∧op≠23∧op≠29∧op≠32∧op≠33∧op≠47∧op≠49)(u:s.size<=2000000):Calls prog 48 #[.agg #[.int .i64 op,.int .i64 a,.int .i64 b,.string s,.int .i64 pos]] w λe w'=>e= .returned (.bool (decide (s.size=0)))∧zz w w':=by
 have t3:(op==3)=false:=zh.2 (by omega);have j:(op==4)=false:=zh.2 (by omega);have f:(op==5)=false:=zh.2 (by omega);have d:(op==8)=false:=zh.2 (by omega);have t:(op==18)=false:=zh.2 (by omega);have r:(op==19)=false:=zh.2 (by omega);have q:(op==20)=false:=zh.2 (by omega);have p:(op==21)=false:=zh.2 (by omega);have o:(op==22)=false:=zh.2 (by omega);have i:(op==43)=false:=zh.2 (by omega);have n:(op==23)=false:=zh.2 (by omega);have m:(op==29)=false:=zh.2 (by omega);have l:(op==32)=false:=zh.2 (by omega);have k:(op==33)=false:=zh.2 (by omega);have h:(op==47)=false:=zh.2 (by omega);have g:(op==49)=false:=zh.2 (by omega);clear c;rw[gE];go_enter func48,ntmps48;go_wp2_with fail;go_ret;exact⟨rfl,below1 w _⟩
def Kb(x:au)(w:World)(d:x.text.size<=2000000)(y:1<=x.op∧x.op<=53)(B:x.op=29->0<=x.a∧x.a<=30)(A:x.op=32->x.a=0∨x.a=1)(z:x.op=33->0<=x.a∧x.a<3):
 Calls prog 48 #[.agg #[.int .i64 x.op,.int .i64 x.a,.int .i64 x.b,.string x.text,.int .i64 x.pos]] w λe w'=>e= .returned (.bool (de x))∧zz w w':=by
 obtain⟨op,a,b,c,pos⟩:=x;dsimp only at d y B A z ⊢
 by_cases o:op=3
 ·subst o;exact Rj a b pos c w d
 by_cases l:op=4
 ·subst l;exact Rs a b pos c w d
 by_cases h:op=5
 ·subst h;exact RN a b pos c w d
 by_cases g:op=8
 ·subst g;exact Rv a b pos c w d
 by_cases v:op=18
 ·subst v;exact Q2 a b pos c w d
 by_cases u:op=19
 ·subst u;exact QZ a b pos c w d
 by_cases t:op=20
 ·subst t;exact Qf a b pos c w d
 by_cases s:op=21
 ·subst s;exact Qw a b pos c w d
 by_cases r:op=22
 ·subst r;exact FM 22 a b pos c w (.inl rfl) d
 by_cases k:op=43
 ·subst k;exact FM 43 a b pos c w (.inr rfl) d
 by_cases q:op=23
 ·subst q;exact QV a b pos c w d
 by_cases p:op=29
 ·subst p;exact QA a b pos c w d (B rfl)
 by_cases n:op=32
 ·subst n;have e:de ⟨32,a,b,c,pos⟩=dj c (a==1) true:=by
   show(if a=2 then decide (c.size=0)else if a<2 then dj c (a==1) true else false)=_;have:=A rfl;rw[zm (by omega),zn (by omega)]
  rw[e];exact QM a b pos c w d
 by_cases m:op=33
 ·subst m;by_cases f:a=2
  ·have e:de ⟨33,a,b,c,pos⟩=decide (c.size=0):=by
    show(if a=2 then decide (c.size=0)else if a<2 then dj c (a==1) true else false)=_;rw[zn f]
   rw[e];exact OB a b pos c w d f
  ·have e:de ⟨33,a,b,c,pos⟩=dj c (a==1) true:=by
    show(if a=2 then decide (c.size=0)else if a<2 then dj c (a==1) true else false)=_;have:=z rfl;rw[zm f,zn (by omega)]
   rw[e];exact Qh a b pos c w d f
 by_cases j:op=47
 ·subst j;exact Bu 47 a b pos c w (.inl rfl) d
 by_cases i:op=49
 ·subst i;exact Bu 49 a b pos c w (.inr rfl) d
 have e:de ⟨op,a,b,c,pos⟩=decide (c.size=0):=by
  have C:op=1∨op=2∨op=6∨op=7∨op=9∨op=10∨op=11∨op=12∨op=13∨op=14∨op=15∨op=16∨op=17∨op=24∨op=25∨op=26∨op=27∨op=28∨op=30∨op=31∨op=34∨op=35∨op=36∨op=37∨op=38∨op=39∨op=40∨op=41∨op=42∨op=44∨op=45∨op=46∨op=48∨op=50∨op=51∨op=52∨op=53:=by omega
  rcases C with rfl|rfl|rfl|rfl|rfl|rfl|rfl|rfl|rfl|rfl|rfl|rfl|rfl|rfl|rfl|rfl|rfl|rfl|rfl|rfl|rfl|rfl|rfl|rfl|rfl|rfl|rfl|rfl|rfl|rfl|rfl|rfl|rfl|rfl|rfl|rfl|rfl<;>rfl
 rw[e];exact MG op a b pos c w ⟨y,o,l,h,g,v,u,t,s,r,k,q,p,n,m,j,i⟩ d
end
end Go.Proofs.YtmecmlpoallpcaaGreatDoor
namespace Go.Proofs.PeepPlain
section
theorem sC{S:List (List Int)}(O:mQ S):∀ {t:List Int},t∈S->∀x∈t,iA x
 | [],_,x,a=>by simp at a
 |y::t,h,x,a=>by
  have b:=O.closed y t h;rcases zC.1 a with rfl|a
  ·exact b.2
  ·exact sC O b.1 x a
def OZ{S S':List (List Int)}(b:S<+:S'){k:Nat}{s:List Int}(a:S[k]?=some s):S'[k]?=some s:=by
 obtain⟨c,rfl⟩:=b;rw[zS (zB.1 a).1];exact a
def KR(S:List (List Int))(o:Option (List Int))(x:Option Int):Prop:=match o with
 |none=>x=some (-1)
 |some t=> ∃a:Nat,x=some (a:Int)∧S[a]?=some t
structure sN(S:List (List Int))(g:List (Option (List Int)))(H:List Int)(n:Nat):Prop where
 len:H.length=n
 glen:g.length=n+1
 is:∀j,j<n->KR S (g.getD j none) H[j]?
 low:∀j t,g.getD j none=some t->t.length<=30000
section
variable{S S':List (List Int)}{g:List (Option (List Int))}{H:List Int}{n j:Nat}{u:List Int}
def JK(e:S<+:S'){o:Option (List Int)}{x:Option Int}(a:KR S o x):KR S' o x:=by
 cases o with
 |none=>exact a
 |some t=>
  obtain⟨b,d,c⟩:=a;exact⟨b,d,OZ e c⟩
def sN.ext(c:S<+:S')(a:sN S g H n):sN S' g H n:=⟨a.len,a.glen,λj b=>JK c (a.is j b),a.low⟩
def sN.hand(b:sN S g H n)(h:j<n){q:Nat}(f:S[q]?=some u)(e:u.length<=30000)(m:g.getD j none=none∨g.getD j none=some u):sN S (cr g j u) (H.set j q) n where
 len:=by rw[zN];exact b.len
 glen:=by rw[gX];exact b.glen
 is:=λa i=>by
  by_cases d:j=a
  ·subst d
   rw[nP (by rw[b.glen];omega) m,List.getElem?_set_self (by rw[b.len];exact h)]
   exact⟨q,rfl,f⟩
  ·rw[List.getElem?_set_ne d]
   have:(cr g j u).getD a none=g.getD a none:=by
    unfold cr
    split
    ·rw[fu,zm (λc=>d c.1)]
    ·rfl
   rw[this]
   exact b.is a i
 low:=λa t c=>by
  rcases uC c with c|⟨_,rfl,_⟩
  ·exact b.low a t c
  ·exact e
end
def mZ(g:List (Option (List Int)))(j:Nat)(o:Option (List Int)):Prop:=∀u,o=some u->g.getD j none=none∨g.getD j none=some u
def jy(g:List (Option (List Int)))(j:Nat)(o:Option (List Int)):List (Option (List Int)):=match o with
 |none=>g
 |some u=>cr g j u
section
variable{l:List au}{g:List (Option (List Int))}{s:List Bool}{R:Int}{k:Nat}{t:List Int}{on th:Option (List Int)}
def OJ(H:dV E0 l g s R)(N:my l g s k t)(b:bu (l.getD k default) t=none)(a:js (l.getD k default) t (bu (l.getD k default) t)):R=k:=by
 rw[b]at a;exact y7 H N a
def Oc(H:dV E0 l g s R)(N:my l g s k t)(b:bu (l.getD k default) t=some (on,th))(a:js (l.getD k default) t (bu (l.getD k default) t))(c:xK on∨xK th):R=k:=by
 rw[b]at a;exact y7 H N (a.1 c)
def OK(H:dV E0 l g s R)(N:my l g s k t)(x:bu (l.getD k default) t=some (on,th))(p:js (l.getD k default) t (bu (l.getD k default) t))(y:¬(xK on∨xK th))(A:mZ g (k+1) on)(w:mZ (jy g (k+1) on) (bE l k) th):
 dV E0 l (jy (jy g (k+1) on) (bE l k) th) (s.set k true) R:=by
 rw[x]at p;obtain⟨_,z,o,f⟩:=p;obtain⟨B,d,c,i⟩:=z y
 cases on with
 |none=>
  have q:=o.1 rfl
  cases th with
  |none=>
   have b:=f.1 rfl;have e:aq l k=50:=by
    rcases q with a|a
    ·exact absurd (Or.inl a) b
    ·exact a
   exact KT H N d e
  |some v=>
   have b:al (aq l k):=by
    apply Classical.byContradiction;intro m;have:=f.2 m
    cases this
   have h:aq l k=34:=by
    rcases q with a|a
    ·exact a
    ·exfalso;have a:aq l k=50:=a;rw[a]at b;revert b;decide
   have:=Lw H N d h (by rw[i v rfl];exact w v rfl);rw[i v rfl]at this;exact this
 |some u=>
  have e:aq l k≠50:=λa=>by have:=o.2 (.inr a);cases this
  have h:aq l k≠34:=λa=>by have:=o.2 (.inl a);cases this
  have r:=A u rfl
  cases th with
  |none=>
   have:=Cs H N d e h (by rw[c u rfl];exact r) (f.1 rfl);rw[c u rfl]at this;exact this
  |some v=>
   have b:al (aq l k):=by
    apply Classical.byContradiction;intro m;have:=f.2 m
    cases this
   have:=AW H N d e h (by rw[c u rfl];exact r) b (by rw[c u rfl,i v rfl];exact w v rfl);rw[c u rfl,i v rfl]at this;exact this
def Lh(H:dV E0 l g s R)(N:my l g s k t)(f:bu (l.getD k default) t=some (on,th))(c:js (l.getD k default) t (bu (l.getD k default) t))(o:¬(xK on∨xK th)){u b:List Int}(h:on=some u)(e:g.getD (k+1) none=some b)(i:b≠u):R=(k:Int)+1:=by
 rw[f]at c;obtain⟨_,r,d,x⟩:=c;obtain⟨w,m,v,y⟩:=r o;subst h;have p:aq l k≠50:=λa=>by have:=d.2 (.inr a);cases this
 have q:aq l k≠34:=λa=>by have:=d.2 (.inl a);cases this
 exact qn H N m p q e (by rw[v u rfl];exact i)
def Mn(H:dV E0 l g s R)(N:my l g s k t)(q:bu (l.getD k default) t=some (on,th))(h:js (l.getD k default) t (bu (l.getD k default) t))(y:¬(xK on∨xK th))(C:mZ g (k+1) on){u b:List Int}(v:th=some u)(f:(jy g (k+1) on).getD (bE l k) none=some b)(i:b≠u):R=bE l k:=by
 rw[q]at h;obtain⟨_,B,d,A⟩:=h;obtain⟨D,m,p,o⟩:=B y;subst v;have c:al (aq l k):=by
  apply Classical.byContradiction;intro x;have:=A.2 x
  cases this
 cases on with
 |none=>
  have r:=d.1 rfl;have e:aq l k=34:=by
   rcases r with a|a
   ·exact a
   ·exfalso;have a:aq l k=50:=a;rw[a]at c;revert c;decide
  exact vn H N m e f (by rw[o u rfl];exact i)
 |some w=>
  have z:aq l k≠50:=λa=>by have:=d.2 (.inr a);cases this
  have e:aq l k≠34:=λa=>by have:=d.2 (.inl a);cases this
  refine qe H N m z e (by rw[p w rfl];exact C w rfl) c (u:=b) (by rw[p w rfl];exact f) (by rw[o u rfl];exact i)
def Ju{j:Nat}(c:io g s j=true)(a:List Bool)(e:∀i,s.getD i false=true->a.getD i false=true){d:List (Option (List Int))}(f:g.getD j none=none->a.getD j false=false->d.getD j none=none):io d a j=true:=by
 unfold io at *
 cases b:a.getD j false with
 |true=>simp
 |false=>
  have:s.getD j false=false:=by
   cases h:s.getD j false with
   |false=>rfl
   |true=>rw[e j h]at b;cases b
  rw[this,Bool.or_false]at c;rw[f (by simpa using c) b];rfl
def rW{j i:Nat}{o:Option (List Int)}(a:o=none∨j≠i):(jy g j o).getD i none=g.getD i none:=by
 cases o with
 |none=>rfl
 |some u=>
  have b:j≠i:=by
   rcases a with a|a
   ·cases a
   ·exact a
  unfold jy cr;dsimp only;split
  ·rw[fu,zm (λa=>b a.1)]
  ·rfl
def LK(s:List Bool)(k i:Nat)(a:s.getD i false=true):(s.set k true).getD i false=true:=by
 rw[bf];split
 ·rfl
 ·exact a
def DE(f:k<s.length)(e:∀j,j<k->io g s j=true){a m:Nat}(q:m<=k+1)(o:th≠none->(s.set k true).getD a false=false->m<=a):∀j,j<m->io (jy (jy g (k+1) on) a th) (s.set k true) j=true:=by
 intro j r;by_cases p:j=k
 ·subst p;unfold io;have:(s.set j true).getD j false=true:=by rw[bf,zn ⟨rfl,f⟩]
  rw[this,Bool.or_true]
 ·refine Ju (e j (by omega)) (s.set k true) (λd h=>LK s k d h) (λc i=>?_);by_cases b:th=none
  ·subst b;show(jy g (k+1) on).getD j none=none;rw[rW (.inr (by omega)),c]
  ·have:a≠j:=by
    rintro rfl;have:=o b i;omega
   rw[rW (.inr this),rW (.inr (by omega)),c]
end
end
end Go.Proofs.PeepPlain

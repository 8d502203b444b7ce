/- Parts of the proof: StackC Says Progs Numbered -/
import Derived.Test.YtmecmlpoallpcaaGreatDoorM07
import Derived.Test.YtmecmlpoallpcaaGreatDoorM06
import Derived.IntWalk
import Derived.RegionTactic
import Derived.Deep.DeepMust
set_option linter.all false
set_option maxHeartbeats 8000000
namespace Go.Proofs.YtmecmlpoallpcaaGreatDoor
open Go.Proofs.Tryz
section
open Go.RowKit Go.Proofs.PeepPlain
def oi(op:Int):decide ((aj op).a=10)=decide (al op):=by
 by_cases c:0<=op∧op<=53
 ·obtain⟨b,rfl⟩:∃b:Nat,op=b:=⟨op.toNat,by omega⟩
  have d:b<54:=by omega
  have:∀b:Fin 54,decide ((aj (b.val:Int)).a=10)=decide (al (b.val:Int)):=by decide
  exact this ⟨b,d⟩
 ·have e:aj op=k7:=uj (by omega);rw[e];have:¬al op:=by rintro(c|c|c|c|c)<;>omega
  rw[zg this];rfl
def bU(op:Int)(b:PeepPlain.Pt)(c:aj op=b)(w:World):
 Calls prog 70 #[.int .i64 op] w λe w'=>e= .returned (.agg #[.string b.word,.int .i64 b.a,.int .i64 b.text,.string b.takes,.string b.lays])∧zz w w':=by
 subst c;exact I0 op w
def Ab(v0 v1 v2 v3 v4:Value)(w:World):(Instr.field 100 (.agg #[v0,v1,v2,v3,v4]) 1).run prog w= .ok v1 w:=by kernel_rfl
def iT(op:Int)(w:World):Calls prog 73 #[.int .i64 op] w λe w'=>e= .returned (.bool (decide (al op)))∧zz w w':=by
 rw[<-oi];obtain⟨b,f⟩:∃b,aj op=b:=⟨_,rfl⟩
 have g:=bU op b f;have k:=Ab (.string b.word) (.int .i64 b.a) (.int .i64 b.text) (.string b.takes) (.string b.lays);rw[f];clear f;by_cases c:b.a=10
 ·have i:(b.a==(10:Int))=true:=beq_iff_eq.2 c;rw[ze c];clear c;go_enter func73,ntmps73;go_wp2_with (first
   |(go_at_call 70;refine(g _).mono ?_;rintro j h ⟨rfl,d⟩))
  go_ret;exact⟨rfl,d⟩
 ·have i:(b.a==(10:Int))=false:=zh.2 c;rw[zg c];clear c;go_enter func73,ntmps73;go_wp2_with (first
   |(go_at_call 70;refine(g _).mono ?_;rintro j h ⟨rfl,d⟩))
  go_ret;exact⟨rfl,d⟩
set_option maxRecDepth 20000 in
def yH(i:au)(w:World)(v:0<=i.a∧i.a<=100000)(k:0<=i.b∧i.b<=3):Calls prog 111 #[.agg (aZ i).toArray] w λe w'=>e= .returned (.tuple #[.int .u8 (aF i).1,.int .i64 (aF i).2])∧zz w w':=by
 obtain⟨c,a,b,d,pos⟩:=i;dsimp only at v k;show Calls prog 111 #[.agg #[.int .i64 c,.int .i64 a,.int .i64 b,.string d,.int .i64 pos]] w _;have f:wrap64 (2 * a)=2 * a:=by unfold wrap64;omega
 have g:IntKind.i64.wrap (2 * a)=2 * a:=IntWalk.i64_in _ (by omega);have j:IntKind.i64.wrap (a+1)=a+1:=IntWalk.i64_in _ (by omega);have h:IntKind.i64.wrap (a - 1)=a - 1:=IntWalk.i64_in _ (by omega);by_cases s:c=27
 ·subst s;have e:aF ⟨27,a,b,d,pos⟩=(118,a):=by simp[aF]
  rw[e];clear e f g j h;go_enter func111,ntmps111;go_wp2_with fail;go_quiet (fail);go_wp2_with fail;go_ret2;exact⟨rfl,ae (below1 w _) nq⟩
 ·have E:True:=trivial;by_cases q:c=29
  ·subst q;have e:aF ⟨29,a,b,d,pos⟩=(118,a):=by simp[aF]
   rw[e];clear e f g j h;go_enter func111,ntmps111;go_wp2_with fail;go_quiet (fail);go_wp2_with fail;go_ret2;exact⟨rfl,ae (below1 w _) nq⟩
  ·have C:True:=trivial;by_cases p:c=46
   ·subst p;have e:aF ⟨46,a,b,d,pos⟩=(118,a):=by simp[aF]
    rw[e];clear e f g j h;go_enter func111,ntmps111;go_wp2_with fail;go_quiet (fail);go_wp2_with fail;go_ret2;exact⟨rfl,ae (below1 w _) nq⟩
   ·have B:True:=trivial;by_cases o:c=47
    ·subst o;have e:aF ⟨47,a,b,d,pos⟩=(118,a):=by simp[aF]
     rw[e];clear e f g j h;go_enter func111,ntmps111;go_wp2_with fail;go_quiet (fail);go_wp2_with fail;go_ret2;exact⟨rfl,ae (below1 w _) nq⟩
    ·have A:True:=trivial;by_cases n:c=48
     ·subst n;have e:aF ⟨48,a,b,d,pos⟩=(118,a):=by simp[aF]
      rw[e];clear e f g j h;go_enter func111,ntmps111;go_wp2_with fail;go_quiet (fail);go_wp2_with fail;go_ret2;exact⟨rfl,ae (below1 w _) nq⟩
     ·have z:True:=trivial;by_cases m:c=49
      ·subst m;have e:aF ⟨49,a,b,d,pos⟩=(118,a):=by simp[aF]
       rw[e];clear e f g j h;go_enter func111,ntmps111;go_wp2_with fail;go_quiet (fail);go_wp2_with fail;go_ret2;exact⟨rfl,ae (below1 w _) nq⟩
      ·have y:True:=trivial;by_cases r:c=28
       ·subst r;have e:aF ⟨28,a,b,d,pos⟩=(118,2 * a):=by simp[aF]
        rw[e];clear e f j h;go_enter func111,ntmps111;go_wp2_with fail;go_quiet (fail);go_wp2_with fail;go_ret2;exact⟨rfl,ae (below1 w _) nq⟩
       ·have D:True:=trivial;by_cases t:c=26
        ·subst t;have u:b=0∨b=1∨b=2∨b=3:=by omega
         rcases u with rfl|rfl|rfl|rfl
         ·have e:aF ⟨26,a,0,d,pos⟩=(118,a+1):=by simp[aF]
          rw[e];clear e f g k;go_enter func111,ntmps111;go_wp2_with fail;go_region
          all_goals(try go_wp2_with fail)
          all_goals go_ret2
          all_goals exact⟨rfl,(by go_grown)⟩
         ·have e:aF ⟨26,a,1,d,pos⟩=(118,a):=by simp[aF]
          rw[e];clear e f g k;go_enter func111,ntmps111;go_wp2_with fail;go_region
          all_goals(try go_wp2_with fail)
          all_goals go_ret2
          all_goals exact⟨rfl,(by go_grown)⟩
         ·have e:aF ⟨26,a,2,d,pos⟩=(118,a):=by simp[aF]
          rw[e];clear e f g k;go_enter func111,ntmps111;go_wp2_with fail;go_region
          all_goals(try go_wp2_with fail)
          all_goals go_ret2
          all_goals exact⟨rfl,(by go_grown)⟩
         ·have e:aF ⟨26,a,3,d,pos⟩=(118,a - 1):=by simp[aF]
          rw[e];clear e f g k;go_enter func111,ntmps111;go_wp2_with fail;go_region
          all_goals(try go_wp2_with fail)
          all_goals go_ret2
          all_goals exact⟨rfl,(by go_grown)⟩
        ·have F:True:=trivial;by_cases l:c=53
         ·subst l;have e:aF ⟨53,a,b,d,pos⟩=(116,a):=by simp[aF]
          rw[e];clear e f j h;go_enter func111,ntmps111;go_wp2_with fail;go_quiet (fail);go_wp2_with fail;go_ret2;exact⟨rfl,ae (below1 w _) nq⟩
         ·have x:True:=trivial;have e:aF ⟨c,a,b,d,pos⟩=(118,0):=by simp[aF, *]
          rw[e];have N:(c==(27:Int))=false:=zh.2 s;have L:(c==(29:Int))=false:=zh.2 q;have K:(c==(46:Int))=false:=zh.2 p;have J:(c==(47:Int))=false:=zh.2 o;have I:(c==(48:Int))=false:=zh.2 n;have H:(c==(49:Int))=false:=zh.2 m;have M:(c==(28:Int))=false:=zh.2 r;have O:(c==(26:Int))=false:=zh.2 t;have G:(c==(53:Int))=false:=zh.2 l;clear e f g j h s q p o n m r t l;go_enter func111,ntmps111;go_wp2_with fail;go_ret2;exact⟨rfl,below1 w _⟩
end
section
set_option maxRecDepth 20000
open Go.RowKit Go.Proofs.PeepPlain
def rJ:ByteArray:=⟨#[45,32,33,32,94,32,42,32,43,43,32,45,45]⟩
def oF:ByteArray:=⟨#[43,32,45,32,42,32,47,32,37,32,38,32,124,32,94,32,60,60,32,62,62,32,61,61,32,33,61,32,60,32,60,61,32,62,32,62,61]⟩
def vo:ByteArray:=⟨#[38,38,32,124,124]⟩
def rS:ByteArray:=⟨#[97,112,112,101,110,100,32,99,97,112,32,99,111,112,121,32,100,101,108,101,116,101,32,108,101,110,32,109,97,107,101,32,112,97,110,105,99,32,112,114,105,110,116,32,114,101,99,111,118,101,114,32,115,104,111,119,32,116,121,112,101,111,102]⟩
def de(x:au):Bool:=
 let t:=(aj x.op).text
 if t=12 then ce x.text
 else if t=13 then eF x.text
 else if t=14 then decide ((x.text.size:Int)<=65536)
 else if t=15 then dj x.text (x.a==1) false
 else if t=16 then dR rJ x.text
 else if t=17 then dR oF x.text
 else if t=18 then dR vo x.text
 else if t=19 then dj x.text false false
 else if t=20 then bF x.text
 else if t=21 then dY x.text 2
 else if t=22 then dY x.text (wrap64 (x.a+1))
 else if t=23 then(if x.a=2 then decide (x.text.size=0)else if x.a<2 then dj x.text (x.a==1) true else false)
 else if t=24 then dR rS x.text
 else decide (x.text.size=0)
def fq(v0 v1 v2 v3 v4:Value)(w:World):(Instr.field 100 (.agg #[v0,v1,v2,v3,v4]) 2).run prog w= .ok v2 w:=by kernel_rfl
def gE(s:ByteArray):decide (s.size=0)=s.toList.isEmpty:=by
 rw[zA,decide_eq_true_iff,List.isEmpty_iff,zH];constructor
 ·intro a;exact List.length_eq_zero_iff.1 (by simpa using a)
 ·intro a;simpa using zp List.length a
def da(x:au){w c:World}(e:Below (w.alloc (.cells #[.int .i64 x.op,.int .i64 x.a,.int .i64 x.b,.string x.text,.int .i64 x.pos] 50)).heap.size (w.alloc (.cells #[.int .i64 x.op,.int .i64 x.a,.int .i64 x.b,.string x.text,.int .i64 x.pos] 50)) c):zz w c∧ah c w.heap.size 50 (aZ x)∧c.cell? ⟨w.heap.size,1,none⟩=some (.int .i64 x.a)∧c.cell? ⟨w.heap.size,3,none⟩=some (.string x.text):=by
 have f:=ah.made w 50 (aZ x);have d:=ah.below f e f.lt;exact⟨ac (below1 w _) e (below1 w _).size,d,d.cell 1,d.cell 3⟩
def ME(x:au)(w:World)(h:x.text.size<=2000000)(m:aX w)(f:(aj x.op).text=12):
 Calls prog 72 #[.agg #[.int .i64 x.op,.int .i64 x.a,.int .i64 x.b,.string x.text,.int .i64 x.pos]] w λe w'=>e= .returned (.bool (ce x.text))∧zz w w':=by
 obtain⟨c,d⟩:∃c,aj x.op=c:=⟨_,rfl⟩
 rw[d]at f;have j:=bU x.op c d;have n:=fq (.string c.word) (.int .i64 c.a) (.int .i64 c.text) (.string c.takes) (.string c.lays);rw[f]at j n;clear d f;have r:=za m;have q:=za h;clear h m;go_enter func72,ntmps72;go_wp2_with (first
  |(go_at_call 70;refine(j _).mono ?_;rintro p t ⟨rfl,l⟩;obtain⟨k,i,v,u⟩:=da x l;have g:=za k;have y:=za i;clear l k i)
  |(go_at_call 106;refine(Bg x.text _ (by have:=q.out;omega) (r.below g.out)).mono ?_;rintro p s ⟨rfl,o⟩))
 go_ret;exact⟨rfl,g.trans (az o g.size)⟩
def Nt(x:au)(w:World)(h:x.text.size<=2000000)(m:aX w)(f:(aj x.op).text=13):
 Calls prog 72 #[.agg #[.int .i64 x.op,.int .i64 x.a,.int .i64 x.b,.string x.text,.int .i64 x.pos]] w λe w'=>e= .returned (.bool (eF x.text))∧zz w w':=by
 obtain⟨c,d⟩:∃c,aj x.op=c:=⟨_,rfl⟩
 rw[d]at f;have j:=bU x.op c d;have n:=fq (.string c.word) (.int .i64 c.a) (.int .i64 c.text) (.string c.takes) (.string c.lays);rw[f]at j n;clear d f;have r:=za m;have q:=za h;clear h m;go_enter func72,ntmps72;go_wp2_with (first
  |(go_at_call 70;refine(j _).mono ?_;rintro p t ⟨rfl,l⟩;obtain⟨k,i,v,u⟩:=da x l;have g:=za k;have y:=za i;clear l k i)
  |(go_at_call 107;refine(Ds x.text _ (by have:=q.out;omega) (r.below g.out)).mono ?_;rintro p s ⟨rfl,o⟩))
 go_ret;exact⟨rfl,g.trans (az o g.size)⟩
def Nu(x:au)(w:World)(g:x.text.size<=2000000)(l:aX w)(f:(aj x.op).text=14):
 Calls prog 72 #[.agg #[.int .i64 x.op,.int .i64 x.a,.int .i64 x.b,.string x.text,.int .i64 x.pos]] w λe w'=>e= .returned (.bool (decide ((x.text.size:Int)<=65536)))∧zz w w':=by
 obtain⟨c,d⟩:∃c,aj x.op=c:=⟨_,rfl⟩
 rw[d]at f;have i:=bU x.op c d;have m:=fq (.string c.word) (.int .i64 c.a) (.int .i64 c.text) (.string c.takes) (.string c.lays);rw[f]at i m;clear d f;have u:=za l;have s:=za g;clear g l;go_enter func72,ntmps72;go_wp2_with (first
  |(go_at_call 70;refine(i _).mono ?_;rintro r o ⟨rfl,k⟩;obtain⟨j,h,q,p⟩:=da x k;have n:=za j;have t:=za h;clear k j h))
 go_ret;exact⟨ag (by simp),n⟩
def Mx(x:au)(w:World)(h:x.text.size<=2000000)(m:aX w)(f:(aj x.op).text=15):
 Calls prog 72 #[.agg #[.int .i64 x.op,.int .i64 x.a,.int .i64 x.b,.string x.text,.int .i64 x.pos]] w λe w'=>e= .returned (.bool (dj x.text (x.a==1) false))∧zz w w':=by
 obtain⟨c,d⟩:∃c,aj x.op=c:=⟨_,rfl⟩
 rw[d]at f;have j:=bU x.op c d;have n:=fq (.string c.word) (.int .i64 c.a) (.int .i64 c.text) (.string c.takes) (.string c.lays);rw[f]at j n;clear d f;have r:=za m;have q:=za h;clear h m;go_enter func72,ntmps72;go_wp2_with (first
  |(go_at_call 70;refine(j _).mono ?_;rintro p t ⟨rfl,l⟩;obtain⟨k,i,v,u⟩:=da x l;have g:=za k;have y:=za i;clear l k i)
  |(go_at_call 108;refine(pP x.text _ _ _ (by have:=q.out;omega) (r.below g.out)).mono ?_;rintro p s ⟨rfl,o⟩))
 go_ret;exact⟨rfl,g.trans (az o g.size)⟩
def N6(x:au)(w:World)(h:x.text.size<=2000000)(m:aX w)(f:(aj x.op).text=16):
 Calls prog 72 #[.agg #[.int .i64 x.op,.int .i64 x.a,.int .i64 x.b,.string x.text,.int .i64 x.pos]] w λe w'=>e= .returned (.bool (dR rJ x.text))∧zz w w':=by
 obtain⟨c,d⟩:∃c,aj x.op=c:=⟨_,rfl⟩
 rw[d]at f;have j:=bU x.op c d;have n:=fq (.string c.word) (.int .i64 c.a) (.int .i64 c.text) (.string c.takes) (.string c.lays);rw[f]at j n;clear d f;have r:=za m;have y:=za h;clear h m;go_enter func72,ntmps72;go_wp2_with (first
  |(go_at_call 70;refine(j _).mono ?_;rintro p t ⟨rfl,l⟩;obtain⟨k,i,v,u⟩:=da x l;have g:=za k;have q:=za i;clear l k i)
  |(go_at_call 104;refine(mv _ x _ _ (by decide) q.out (r.below g.out)).mono ?_;rintro p s ⟨rfl,o⟩))
 go_ret;exact⟨rfl,g.trans (az o g.size)⟩
def MR(x:au)(w:World)(h:x.text.size<=2000000)(m:aX w)(f:(aj x.op).text=17):
 Calls prog 72 #[.agg #[.int .i64 x.op,.int .i64 x.a,.int .i64 x.b,.string x.text,.int .i64 x.pos]] w λe w'=>e= .returned (.bool (dR oF x.text))∧zz w w':=by
 obtain⟨c,d⟩:∃c,aj x.op=c:=⟨_,rfl⟩
 rw[d]at f;have j:=bU x.op c d;have n:=fq (.string c.word) (.int .i64 c.a) (.int .i64 c.text) (.string c.takes) (.string c.lays);rw[f]at j n;clear d f;have r:=za m;have y:=za h;clear h m;go_enter func72,ntmps72;go_wp2_with (first
  |(go_at_call 70;refine(j _).mono ?_;rintro p t ⟨rfl,l⟩;obtain⟨k,i,v,u⟩:=da x l;have g:=za k;have q:=za i;clear l k i)
  |(go_at_call 104;refine(mv _ x _ _ (by decide) q.out (r.below g.out)).mono ?_;rintro p s ⟨rfl,o⟩))
 go_ret;exact⟨rfl,g.trans (az o g.size)⟩
def MK(x:au)(w:World)(h:x.text.size<=2000000)(m:aX w)(f:(aj x.op).text=18):
 Calls prog 72 #[.agg #[.int .i64 x.op,.int .i64 x.a,.int .i64 x.b,.string x.text,.int .i64 x.pos]] w λe w'=>e= .returned (.bool (dR vo x.text))∧zz w w':=by
 obtain⟨c,d⟩:∃c,aj x.op=c:=⟨_,rfl⟩
 rw[d]at f;have j:=bU x.op c d;have n:=fq (.string c.word) (.int .i64 c.a) (.int .i64 c.text) (.string c.takes) (.string c.lays);rw[f]at j n;clear d f;have r:=za m;have y:=za h;clear h m;go_enter func72,ntmps72;go_wp2_with (first
  |(go_at_call 70;refine(j _).mono ?_;rintro p t ⟨rfl,l⟩;obtain⟨k,i,v,u⟩:=da x l;have g:=za k;have q:=za i;clear l k i)
  |(go_at_call 104;refine(mv _ x _ _ (by decide) q.out (r.below g.out)).mono ?_;rintro p s ⟨rfl,o⟩))
 go_ret;exact⟨rfl,g.trans (az o g.size)⟩
def N4(x:au)(w:World)(h:x.text.size<=2000000)(m:aX w)(f:(aj x.op).text=19):
 Calls prog 72 #[.agg #[.int .i64 x.op,.int .i64 x.a,.int .i64 x.b,.string x.text,.int .i64 x.pos]] w λe w'=>e= .returned (.bool (dj x.text false false))∧zz w w':=by
 obtain⟨c,d⟩:∃c,aj x.op=c:=⟨_,rfl⟩
 rw[d]at f;have j:=bU x.op c d;have n:=fq (.string c.word) (.int .i64 c.a) (.int .i64 c.text) (.string c.takes) (.string c.lays);rw[f]at j n;clear d f;have r:=za m;have q:=za h;clear h m;go_enter func72,ntmps72;go_wp2_with (first
  |(go_at_call 70;refine(j _).mono ?_;rintro p t ⟨rfl,l⟩;obtain⟨k,i,v,u⟩:=da x l;have g:=za k;have y:=za i;clear l k i)
  |(go_at_call 108;refine(pP x.text _ _ _ (by have:=q.out;omega) (r.below g.out)).mono ?_;rintro p s ⟨rfl,o⟩))
 go_ret;exact⟨rfl,g.trans (az o g.size)⟩
def NL(x:au)(w:World)(h:x.text.size<=2000000)(m:aX w)(f:(aj x.op).text=20):
 Calls prog 72 #[.agg #[.int .i64 x.op,.int .i64 x.a,.int .i64 x.b,.string x.text,.int .i64 x.pos]] w λe w'=>e= .returned (.bool (bF x.text))∧zz w w':=by
 obtain⟨c,d⟩:∃c,aj x.op=c:=⟨_,rfl⟩
 rw[d]at f;have j:=bU x.op c d;have n:=fq (.string c.word) (.int .i64 c.a) (.int .i64 c.text) (.string c.takes) (.string c.lays);rw[f]at j n;clear d f;have r:=za m;have q:=za h;clear h m;go_enter func72,ntmps72;go_wp2_with (first
  |(go_at_call 70;refine(j _).mono ?_;rintro p t ⟨rfl,l⟩;obtain⟨k,i,v,u⟩:=da x l;have g:=za k;have y:=za i;clear l k i)
  |(go_at_call 65;refine(dP x.text _ (by have:=q.out;omega) (r.below g.out)).mono ?_;rintro p s ⟨rfl,o⟩))
 go_ret;exact⟨rfl,g.trans (az o g.size)⟩
def MM(x:au)(w:World)(h:x.text.size<=2000000)(m:aX w)(f:(aj x.op).text=21):
 Calls prog 72 #[.agg #[.int .i64 x.op,.int .i64 x.a,.int .i64 x.b,.string x.text,.int .i64 x.pos]] w λe w'=>e= .returned (.bool (dY x.text 2))∧zz w w':=by
 obtain⟨c,d⟩:∃c,aj x.op=c:=⟨_,rfl⟩
 rw[d]at f;have j:=bU x.op c d;have n:=fq (.string c.word) (.int .i64 c.a) (.int .i64 c.text) (.string c.takes) (.string c.lays);rw[f]at j n;clear d f;have r:=za m;have q:=za h;clear h m;go_enter func72,ntmps72;go_wp2_with (first
  |(go_at_call 70;refine(j _).mono ?_;rintro p t ⟨rfl,l⟩;obtain⟨k,i,v,u⟩:=da x l;have g:=za k;have y:=za i;clear l k i)
  |(go_at_call 109;refine(tU x.text _ _ q.out (r.below g.out)).mono ?_;rintro p s ⟨rfl,o⟩))
 go_ret;exact⟨rfl,g.trans (az o g.size)⟩
def Mz(x:au)(w:World)(h:x.text.size<=2000000)(m:aX w)(f:(aj x.op).text=22):
 Calls prog 72 #[.agg #[.int .i64 x.op,.int .i64 x.a,.int .i64 x.b,.string x.text,.int .i64 x.pos]] w λe w'=>e= .returned (.bool (dY x.text (wrap64 (x.a+1))))∧zz w w':=by
 obtain⟨c,d⟩:∃c,aj x.op=c:=⟨_,rfl⟩
 rw[d]at f;have j:=bU x.op c d;have n:=fq (.string c.word) (.int .i64 c.a) (.int .i64 c.text) (.string c.takes) (.string c.lays);rw[f]at j n;clear d f;have r:=za m;have q:=za h;clear h m;go_enter func72,ntmps72;go_wp2_with (first
  |(go_at_call 70;refine(j _).mono ?_;rintro p t ⟨rfl,l⟩;obtain⟨k,i,v,u⟩:=da x l;have g:=za k;have y:=za i;clear l k i)
  |(go_at_call 109;refine(tU x.text _ _ q.out (r.below g.out)).mono ?_;rintro p s ⟨rfl,o⟩))
 go_ret;exact⟨rfl,g.trans (az o g.size)⟩
def M4(x:au)(w:World)(h:x.text.size<=2000000)(m:aX w)(f:(aj x.op).text=24):
 Calls prog 72 #[.agg #[.int .i64 x.op,.int .i64 x.a,.int .i64 x.b,.string x.text,.int .i64 x.pos]] w λe w'=>e= .returned (.bool (dR rS x.text))∧zz w w':=by
 obtain⟨c,d⟩:∃c,aj x.op=c:=⟨_,rfl⟩
 rw[d]at f;have j:=bU x.op c d;have n:=fq (.string c.word) (.int .i64 c.a) (.int .i64 c.text) (.string c.takes) (.string c.lays);rw[f]at j n;clear d f;have r:=za m;have y:=za h;clear h m;go_enter func72,ntmps72;go_wp2_with (first
  |(go_at_call 70;refine(j _).mono ?_;rintro p t ⟨rfl,l⟩;obtain⟨k,i,v,u⟩:=da x l;have g:=za k;have q:=za i;clear l k i)
  |(go_at_call 104;refine(mv _ x _ _ (by decide) q.out (r.below g.out)).mono ?_;rintro p s ⟨rfl,o⟩))
 go_ret;exact⟨rfl,g.trans (az o g.size)⟩
def Nz(x:au)(w:World)(p:x.text.size<=2000000)(t:aX w)(l:(aj x.op).text=23):
 Calls prog 72 #[.agg #[.int .i64 x.op,.int .i64 x.a,.int .i64 x.b,.string x.text,.int .i64 x.pos]] w λe w'=>e= .returned (.bool ((if x.a=2 then decide (x.text.size=0)else if x.a<2 then dj x.text (x.a==1) true else false)))∧zz w w':=by
 obtain⟨g,j⟩:∃g,aj x.op=g:=⟨_,rfl⟩
 rw[j]at l;have i:=bU x.op g j;have u:=fq (.string g.word) (.int .i64 g.a) (.int .i64 g.text) (.string g.takes) (.string g.lays);rw[l]at i u;clear j l;have A:=za t;have z:=za p;clear p t;by_cases k:x.a=2
 ·rw[zn k,k];go_enter func72,ntmps72;go_wp2_with (first
   |(go_at_call 70;refine(i _).mono ?_;rintro m n ⟨rfl,f⟩;obtain⟨d,c,q,o⟩:=da ⟨x.op,2,x.b,x.text,x.pos⟩ f;have h:=za d;have s:=za c;clear f d c))
  all_goals(go_ret;refine⟨ag ?_,h⟩;rw[gE])
  all_goals(rename_i v;rw[v];rfl)
 ·rw[zm k];by_cases r:x.a<2
  ·rw[zn r];go_enter func72,ntmps72;go_wp2_with (first
    |(go_at_call 70;refine(i _).mono ?_;rintro m n ⟨rfl,f⟩;obtain⟨d,c,q,o⟩:=da x f;have h:=za d;have s:=za c;clear f d c)
    |(go_at_call 108;refine(pP x.text _ _ _ (by have:=z.out;omega) (A.below h.out)).mono ?_;rintro m B ⟨rfl,y⟩))
   go_ret;exact⟨rfl,h.trans (az y h.size)⟩
  ·rw[zm r];go_enter func72,ntmps72;go_wp2_with (first
    |(go_at_call 70;refine(i _).mono ?_;rintro m n ⟨rfl,f⟩;obtain⟨d,c,q,o⟩:=da x f;have h:=za d;have s:=za c;clear f d c))
   go_ret;exact⟨rfl,h⟩
def Mu(x:au)(w:World)(f:x.text.size<=2000000)(j:aX w)(z:¬(aj x.op).text=12)(y:¬(aj x.op).text=13)(v:¬(aj x.op).text=14)(u:¬(aj x.op).text=15)(t:¬(aj x.op).text=16)(s:¬(aj x.op).text=17)(r:¬(aj x.op).text=18)(q:¬(aj x.op).text=19)(p:¬(aj x.op).text=20)(o:¬(aj x.op).text=21)(n:¬(aj x.op).text=22)(m:¬(aj x.op).text=23)(l:¬(aj x.op).text=24):
 Calls prog 72 #[.agg #[.int .i64 x.op,.int .i64 x.a,.int .i64 x.b,.string x.text,.int .i64 x.pos]] w λe w'=>e= .returned (.bool (decide (x.text.size=0)))∧zz w w':=by
 obtain⟨c,d⟩:∃c,aj x.op=c:=⟨_,rfl⟩
 rw[d]at z y v u t s r q p o n m l;have k:=bU x.op c d;have D:=fq (.string c.word) (.int .i64 c.a) (.int .i64 c.text) (.string c.takes) (.string c.lays);clear d;have I:=za j;have G:=za f;clear f j;go_enter func72,ntmps72;go_wp2_with (first
  |(go_at_call 70;refine(k _).mono ?_;rintro F B ⟨rfl,i⟩;obtain⟨h,g,E,C⟩:=da x i;have A:=za h;have H:=za g;clear i h g))
 go_ret;exact⟨ag (gE _),A⟩
def xi(x:au)(w:World)(f:x.text.size<=2000000)(h:aX w):
 Calls prog 72 #[.agg #[.int .i64 x.op,.int .i64 x.a,.int .i64 x.b,.string x.text,.int .i64 x.pos]] w λe w'=>e= .returned (.bool (de x))∧zz w w':=by
 unfold de;dsimp only;by_cases c:(aj x.op).text=12
 ·rw[zn c];exact ME x w f h c
 by_cases d:(aj x.op).text=13
 ·rw[zm c,zn d];exact Nt x w f h d
 by_cases g:(aj x.op).text=14
 ·rw[zm c,zm d,zn g];exact Nu x w f h g
 by_cases i:(aj x.op).text=15
 ·rw[zm c,zm d,zm g,zn i];exact Mx x w f h i
 by_cases j:(aj x.op).text=16
 ·rw[zm c,zm d,zm g,zm i,zn j];exact N6 x w f h j
 by_cases k:(aj x.op).text=17
 ·rw[zm c,zm d,zm g,zm i,zm j,zn k];exact MR x w f h k
 by_cases l:(aj x.op).text=18
 ·rw[zm c,zm d,zm g,zm i,zm j,zm k,zn l];exact MK x w f h l
 by_cases m:(aj x.op).text=19
 ·rw[zm c,zm d,zm g,zm i,zm j,zm k,zm l,zn m];exact N4 x w f h m
 by_cases n:(aj x.op).text=20
 ·rw[zm c,zm d,zm g,zm i,zm j,zm k,zm l,zm m,zn n];exact NL x w f h n
 by_cases o:(aj x.op).text=21
 ·rw[zm c,zm d,zm g,zm i,zm j,zm k,zm l,zm m,zm n,zn o];exact MM x w f h o
 by_cases p:(aj x.op).text=22
 ·rw[zm c,zm d,zm g,zm i,zm j,zm k,zm l,zm m,zm n,zm o,zn p];exact Mz x w f h p
 by_cases q:(aj x.op).text=23
 ·rw[zm c,zm d,zm g,zm i,zm j,zm k,zm l,zm m,zm n,zm o,zm p,zn q];exact Nz x w f h q
 by_cases r:(aj x.op).text=24
 ·rw[zm c,zm d,zm g,zm i,zm j,zm k,zm l,zm m,zm n,zm o,zm p,zm q,zn r];exact M4 x w f h r
 rw[zm c,zm d,zm g,zm i,zm j,zm k,zm l,zm m,zm n,zm o,zm p,zm q,zm r];exact Mu x w f h c d g i j k l m n o p q r
end
section
open Go.RowKit Go.Proofs.PeepPlain
structure Fn where
 name:ByteArray
 params:Int
 slots:Int
 TA:Option Addr
 taken:List Int
 tc:Nat
 around:Int
 CA:Option Addr
 code:List au
 cc:Nat
instance:Inhabited Fn:=⟨⟨⟨#[]⟩,0,0,none,[],0,0,none,[],0⟩⟩
def dy(f:Fn):List Value:=[.string f.name,.int .i64 f.params,.int .i64 f.slots,.slice f.TA f.taken.length f.tc,.int .i64 f.around,.slice f.CA f.code.length f.cc]
def cx(l:List Fn):List Value:=l.flatMap dy
def iY(l:List Fn):(cx l).length=l.length * 6:=by
 induction l with
 |nil=>rfl
 |cons e l ih=>simp only[cx,List.flatMap_cons,zw]at *;rw[ih];simp[dy];omega
def dQ(l:List Fn)(i:Nat)(a:i<l.length)(j:Nat)(b:j<6):(cx l)[i * 6+j]?=(dy l[i])[j]?:=by
 induction l generalizing i with
 |nil=>simp at a
 |cons e l ih=>
  have c:(dy e).length=6:=rfl
  cases i with
  |zero=>
   simp only[cx,List.flatMap_cons,Nat.zero_mul,zP,List.getElem_cons_zero];rw[zS (by omega)]
  |succ i=>
   have:=ih i (by simpa using a);simp only[cx,List.flatMap_cons,List.getElem_cons_succ]at *
   rw[zJ (by omega),show(i+1) * 6+j - (dy e).length=i * 6+j by omega];exact this
structure bD(w:World)(A:Option Addr)(fs:List Fn):Prop where
 rows:bd w A (cx fs)
 code:∀f∈fs,bX w f.CA f.code
 taken:∀f∈fs,bd w f.TA (f.taken.map (Value.int .i64))
def bD.below{w w':World}{e:Option Addr}{fs:List Fn}(c:bD w e fs)(b:zz w w'):bD w' e fs:=
 ⟨c.rows.below b rfl,λd a=>(c.code d a).below b,λd a=>(c.taken d a).below b rfl⟩
def bD.at_{w:World}{e:Option Addr}{fs:List Fn}(g:bD w e fs)(j:0<fs.length):
 ∃b a,e=some ⟨b,a,none⟩∧b<w.heap.size∧∀i,(c:i<fs.length)->w.cell? ⟨b,a+i * 6,none⟩=some (.string fs[i].name)∧w.cell? ⟨b,a+i * 6+1,none⟩=some (.int .i64 fs[i].params)∧w.cell? ⟨b,a+i * 6+2,none⟩=some (.int .i64 fs[i].slots)∧w.cell? ⟨b,a+i * 6+3,none⟩=some (.slice fs[i].TA fs[i].taken.length fs[i].tc)∧w.cell? ⟨b,a+i * 6+4,none⟩=some (.int .i64 fs[i].around)∧w.cell? ⟨b,a+i * 6+5,none⟩=some (.slice fs[i].CA fs[i].code.length fs[i].cc):=by
 obtain⟨b,a,h,f,d⟩:=g.rows (by rw[iY];omega);refine⟨b,a,h,f,λi c=>⟨d _ _ ?_,?_,?_,?_,?_,?_⟩⟩
 ·exact dQ fs i c 0 (by omega)
 ·rw[Nat.add_assoc];exact d _ _ (dQ fs i c 1 (by omega))
 ·rw[Nat.add_assoc];exact d _ _ (dQ fs i c 2 (by omega))
 ·rw[Nat.add_assoc];exact d _ _ (dQ fs i c 3 (by omega))
 ·rw[Nat.add_assoc];exact d _ _ (dQ fs i c 4 (by omega))
 ·rw[Nat.add_assoc];exact d _ _ (dQ fs i c 5 (by omega))
def ax(fs:List Fn)(gl:Nat)(f:Nat)(x:au):Bool:=
 let o:=fs.getD f default
 let t:=(aj x.op).a
 let within (n:Int):Bool:=decide (0<=x.a)&&decide (x.a<n)
 if t=0 then decide (x.a=0)
 else if t=1 then within 2
 else if t=2 then within 3
 else if t=3 then within o.slots
 else if t=4 then within gl
 else if t=5 then within o.taken.length
 else if t=6 then decide (1<=x.a)&&decide (x.a<=7)
 else if t=7 then within 20001
 else if t=8 then within 31
 else if t=9 then decide (0<x.a)&&decide (x.a<fs.length)&&(decide ((fs.getD x.a.toNat default).around= -1)||decide ((fs.getD x.a.toNat default).around=f))
 else if t=10 then within o.code.length
 else if t=11 then decide (x.a=2)||decide (x.a=3)
 else within 0
end
section
open Go.RowKit Go.Proofs.PeepPlain
def bP(a n:Int):Bool:=decide (0<=a)&&decide (a<n)
def xO{a n:Int}(b:0<=a):bP a n=decide (a<n):=by unfold bP;rw[ze b,Bool.true_and]
def tP{a n:Int}(b:¬0<=a):bP a n=false:=by unfold bP;rw[zg b,zG]
def Kj{w j:World}(b a v0 v1 v2 v3 v4 i h g e d c:Value)(k:Below (((w.alloc (.cells #[b,a] 25)).alloc (.cells #[v0,v1,v2,v3,v4] 50)).alloc (.cells #[i,h,g,e,d,c] 47)).heap.size (((w.alloc (.cells #[b,a] 25)).alloc (.cells #[v0,v1,v2,v3,v4] 50)).alloc (.cells #[i,h,g,e,d,c] 47)) j):
 zz w j∧ah j w.heap.size 25 [b,a]∧ah j (w.heap.size+1) 50 [v0,v1,v2,v3,v4]∧ah j (w.heap.size+1+1) 47 [i,h,g,e,d,c]:=by
 have m:(w.alloc (.cells #[b,a] 25)).heap.size=w.heap.size+1:=by show(w.heap.push _).size=_;rw[Array.size_push]
 have l:((w.alloc (.cells #[b,a] 25)).alloc (.cells #[v0,v1,v2,v3,v4] 50)).heap.size=w.heap.size+1+1:=by show((w.alloc (.cells #[b,a] 25)).heap.push _).size=_;rw[Array.size_push,m]
 have r:ah (w.alloc (.cells #[b,a] 25)) w.heap.size 25 [b,a]:=ah.made w 25 [b,a];have q:ah ((w.alloc (.cells #[b,a] 25)).alloc (.cells #[v0,v1,v2,v3,v4] 50)) (w.heap.size+1) 50 [v0,v1,v2,v3,v4]:=m ▸ ah.made (w.alloc (.cells #[b,a] 25)) 50 [v0,v1,v2,v3,v4];have n:ah (((w.alloc (.cells #[b,a] 25)).alloc (.cells #[v0,v1,v2,v3,v4] 50)).alloc (.cells #[i,h,g,e,d,c] 47)) (w.heap.size+1+1) 47 [i,h,g,e,d,c]:=l ▸ ah.made ((w.alloc (.cells #[b,a] 25)).alloc (.cells #[v0,v1,v2,v3,v4] 50)) 47 [i,h,g,e,d,c];have p:=(r.alloc (.cells #[v0,v1,v2,v3,v4] 50)).alloc (.cells #[i,h,g,e,d,c] 47);have o:=q.alloc (.cells #[i,h,g,e,d,c] 47);have s:w.heap.size<=(((w.alloc (.cells #[b,a] 25)).alloc (.cells #[v0,v1,v2,v3,v4] 50)).alloc (.cells #[i,h,g,e,d,c] 47)).heap.size:=by show w.heap.size<=(((w.alloc (.cells #[b,a] 25)).alloc (.cells #[v0,v1,v2,v3,v4] 50)).heap.push _).size;rw[Array.size_push,l];omega
 refine⟨ac (((below1 w _).alloc (by rw[m];omega) _).alloc (by rw[l];omega) _) k s,p.below k p.lt,o.below k o.lt,n.below k n.lt⟩
def sc{w:World}{args:Array Value}{k:Value}(p:∀w,Calls prog 70 args w λe w'=>e= .returned k∧zz w w'){g d v0 v1 v2 v3 v4 o n j i m h:Value}:
 Calls prog 70 args (((w.alloc (.cells #[g,d] 25)).alloc (.cells #[v0,v1,v2,v3,v4] 50)).alloc (.cells #[o,n,j,i,m,h] 47)) λe a=>e= .returned k∧Hid (zz w a)∧a.cell? ⟨w.heap.size,0,none⟩=some g∧a.cell? ⟨w.heap.size,1,none⟩=some d∧a.cell? ⟨w.heap.size+1,1,none⟩=some v1∧a.cell? ⟨w.heap.size+1+1,2,none⟩=some j∧a.cell? ⟨w.heap.size+1+1,3,none⟩=some i∧a.cell? ⟨w.heap.size+1+1,5,none⟩=some h:=by
 refine(p _).mono ?_;rintro e a ⟨rfl,r⟩;obtain⟨q,c,l,b⟩:=Kj _ _ _ _ _ _ _ _ _ _ _ _ _ r;exact⟨rfl,za q,c.cell 0,c.cell 1,l.cell 1,b.cell 2,b.cell 3,b.cell 5⟩
def At{x:au}{k:Int}(c:(aj x.op).a=k):∃b:PeepPlain.Pt,(∀w,Calls prog 70 #[.int .i64 x.op] w λe w'=>e= .returned (.agg #[.string b.word,.int .i64 k,.int .i64 b.text,.string b.takes,.string b.lays])∧zz w w')∧∀w,(Instr.field 100 (.agg #[.string b.word,.int .i64 k,.int .i64 b.text,.string b.takes,.string b.lays]) 1).run prog w= .ok (.int .i64 k) w:=
 ⟨aj x.op,c ▸ bU x.op _ rfl,Ab _ _ _ _ _⟩
section
variable(fs:List Fn)(A GA:Option Addr)(fc gl gc f:Nat)(x:au)(w:World)
def lN(d:Bool):Prop:=
 Calls prog 71 #[.agg #[.slice A fs.length fc,.slice GA gl gc],.int .i64 f,.agg #[.int .i64 x.op,.int .i64 x.a,.int .i64 x.b,.string x.text,.int .i64 x.pos]] w λe c=>e= .returned (.bool d)∧zz w c
set_option maxRecDepth 20000 in
def QN(c:bD w A fs)(g:f<fs.length)(r:fs.length<=100000):
 ((aj x.op).a=0->lN fs A GA fc gl gc f x w (decide (x.a=0)))∧
 ((aj x.op).a=6->lN fs A GA fc gl gc f x w (decide (1<=x.a)&&decide (x.a<=7)))∧
 ((aj x.op).a=11->lN fs A GA fc gl gc f x w (decide (x.a=2)||decide (x.a=3))):=by
 obtain⟨E,q,rfl,t,b⟩:=c.at_ (by omega);obtain⟨m,l,k,j,i,h⟩:=b f g;clear c;generalize fs[f]=o at m l k j i h;clear b;refine⟨?_,?_,?_⟩
 all_goals
  intro d;obtain⟨F,e,s⟩:=At d;clear d;unfold lN;go_enter func71,ntmps71;go_wp2_with (first
   |(go_at_call 70;go_must (refine(sc e).mono ?_);rintro u p ⟨rfl,n,D,C,B,z,y,v⟩))
  all_goals(go_ret;refine⟨ag ?_,n⟩)
  all_goals first|rfl|(rw[zA];simp;done)|(rw[zA];simp[*];done)|(rw[zA];simp;omega)
set_option maxRecDepth 20000 in
def Qm(e:bD w A fs)(c:f<fs.length)(s:fs.length<=100000):
 ((aj x.op).a=1->lN fs A GA fc gl gc f x w (bP x.a 2))∧
 ((aj x.op).a=2->lN fs A GA fc gl gc f x w (bP x.a 3))∧
 ((aj x.op).a=3->lN fs A GA fc gl gc f x w (bP x.a (fs.getD f default).slots))∧
 ((aj x.op).a=4->lN fs A GA fc gl gc f x w (bP x.a gl))∧
 ((aj x.op).a=5->lN fs A GA fc gl gc f x w (bP x.a (fs.getD f default).taken.length))∧
 ((aj x.op).a=7->lN fs A GA fc gl gc f x w (bP x.a 20001))∧
 ((aj x.op).a=8->lN fs A GA fc gl gc f x w (bP x.a 31))∧
 ((aj x.op).a=10->lN fs A GA fc gl gc f x w (bP x.a (fs.getD f default).code.length)):=by
 obtain⟨F,r,rfl,u,d⟩:=e.at_ (by omega);obtain⟨n,m,l,k,j,i⟩:=d f c;clear e;rw[zd,zo c,Option.getD_some];generalize fs[f]=o at n m l k j i ⊢
 clear d;refine⟨?_,?_,?_,?_,?_,?_,?_,?_⟩
 all_goals
  intro g;obtain⟨G,h,t⟩:=At g;clear g;by_cases b:0<=x.a
 all_goals
  first|rw[xO b]|rw[tP b]
  unfold lN;go_enter func71,ntmps71;go_wp2_with (first
   |(go_at_call 70;go_must (refine(sc h).mono ?_);rintro v q ⟨rfl,p,E,D,C,B,z,y⟩))
  go_ret;exact⟨ag (by first|rfl|simp),p⟩
set_option maxRecDepth 20000 in
def QD(m:bD w A fs)(J:f<fs.length)(P:fs.length<=100000)(v:(aj x.op).a=9):lN fs A GA fc gl gc f x w (decide (0<x.a)&&decide (x.a<fs.length)&&(decide ((fs.getD x.a.toNat default).around= -1)||decide ((fs.getD x.a.toNat default).around=f))):=by
 obtain⟨R,e,I⟩:=At v;clear v;obtain⟨L,H,rfl,K,d⟩:=m.at_ (by omega);obtain⟨u,t,s,r,q,n⟩:=d f J;clear m;generalize fs[f]=o at u t s r q n;by_cases h:0<x.a
 ·by_cases g:x.a<fs.length
  ·obtain⟨b,i⟩:∃b:Nat,x.a=(b:Int):=⟨x.a.toNat,by omega⟩
   have l:b<fs.length:=by omega
   have j:=(d b l).2.2.2.2.1;clear d;have O:(0:Int)<(b:Int):=by omega
   have N:(b:Int)<(fs.length:Int):=by omega
   have z:fs.getD x.a.toNat default=fs[b]:=by rw[i,zV,zd,zo l,Option.getD_some]
   rw[z,ze h,ze g];generalize fs[b]=ok at j;have M:=za i;clear z h g;unfold lN;go_enter func71,ntmps71;go_wp2_with (first
    |(go_at_call 70;go_must (refine(sc e).mono ?_);rintro y k ⟨rfl,c,G,F,E,D,C,B⟩;have Q:=(c.cell (p:=⟨L,H+b * 6+4,none⟩) K).trans j))
   all_goals(go_ret;refine⟨ag ?_,c⟩)
   all_goals(clear e I u t s r q n j i M;first|(exfalso;omega)|(simp[*];done)|(rw[zA];simp[*];done))
  ·rw[zg g,zF,zG];clear d;unfold lN;go_enter func71,ntmps71;go_wp2_with (first
    |(go_at_call 70;go_must (refine(sc e).mono ?_);rintro y k ⟨rfl,c,G,F,E,D,C,B⟩))
   go_ret;exact⟨ag (by first|rfl|simp),c⟩
 ·rw[zg h,zG,zG];clear d;unfold lN;go_enter func71,ntmps71;go_wp2_with (first
   |(go_at_call 70;go_must (refine(sc e).mono ?_);rintro y k ⟨rfl,c,G,F,E,D,C,B⟩))
  go_ret;exact⟨ag (by first|rfl|simp),c⟩
set_option maxRecDepth 20000 in
def PW(d:bD w A fs)(g:f<fs.length)(r:fs.length<=100000)(J:¬(aj x.op).a=0)(I:¬(aj x.op).a=1)(E:¬(aj x.op).a=2)(D:¬(aj x.op).a=3)(C:¬(aj x.op).a=4)(B:¬(aj x.op).a=5)(z:¬(aj x.op).a=6)(y:¬(aj x.op).a=7)(v:¬(aj x.op).a=8)(u:¬(aj x.op).a=9)(H:¬(aj x.op).a=10)(G:¬(aj x.op).a=11):lN fs A GA fc gl gc f x w (bP x.a 0):=by
 have e:=bU x.op _ rfl;have s:=Ab (.string (aj x.op).word) (.int .i64 (aj x.op).a) (.int .i64 (aj x.op).text) (.string (aj x.op).takes) (.string (aj x.op).lays);generalize aj x.op=F at *
 obtain⟨R,q,rfl,t,c⟩:=d.at_ (by omega);obtain⟨m,l,k,j,i,h⟩:=c f g;clear d;generalize fs[f]=o at m l k j i h;clear c;by_cases b:0<=x.a
 all_goals
  first|rw[xO b]|rw[tP b]
  unfold lN;go_enter func71,ntmps71;go_wp2_with (first
   |(go_at_call 70;go_must (refine(sc e).mono ?_);rintro K p ⟨rfl,n,Q,P,O,N,M,L⟩))
  go_ret;exact⟨ag (by first|rfl|simp),n⟩
end
def lv(fs:List Fn)(A GA:Option Addr)(fc gl gc f:Nat)(x:au)(w:World)(g:bD w A fs)(d:f<fs.length)(c:fs.length<=100000):
 Calls prog 71 #[.agg #[.slice A fs.length fc,.slice GA gl gc],.int .i64 f,.agg #[.int .i64 x.op,.int .i64 x.a,.int .i64 x.b,.string x.text,.int .i64 x.pos]] w λe w'=>e= .returned (.bool (ax fs gl f x))∧zz w w':=by
 show lN fs A GA fc gl gc f x w _;obtain⟨I,z,F⟩:=QN fs A GA fc gl gc f x w g d c;obtain⟨H,E,D,C,B,y,v,G⟩:=Qm fs A GA fc gl gc f x w g d c;have u:=QD fs A GA fc gl gc f x w g d c;have t:=PW fs A GA fc gl gc f x w g d c;unfold ax;dsimp only;by_cases s:(aj x.op).a=0
 ·rw[zn s];exact I s
 rw[zm s];by_cases r:(aj x.op).a=1
 ·rw[zn r];exact H r
 rw[zm r];by_cases o:(aj x.op).a=2
 ·rw[zn o];exact E o
 rw[zm o];by_cases n:(aj x.op).a=3
 ·rw[zn n];exact D n
 rw[zm n];by_cases m:(aj x.op).a=4
 ·rw[zn m];exact C m
 rw[zm m];by_cases l:(aj x.op).a=5
 ·rw[zn l];exact B l
 rw[zm l];by_cases k:(aj x.op).a=6
 ·rw[zn k];exact z k
 rw[zm k];by_cases j:(aj x.op).a=7
 ·rw[zn j];exact y j
 rw[zm j];by_cases i:(aj x.op).a=8
 ·rw[zn i];exact v i
 rw[zm i];by_cases h:(aj x.op).a=9
 ·rw[zn h];exact u h
 rw[zm h];by_cases q:(aj x.op).a=10
 ·rw[zn q];exact G q
 rw[zm q];by_cases p:(aj x.op).a=11
 ·rw[zn p];exact F p
 rw[zm p];exact t s r o n m l k j i h q p
end
end Go.Proofs.YtmecmlpoallpcaaGreatDoor

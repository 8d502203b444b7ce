/- Parts of the proof: Named WordsA WordsB WordsC Counts Names Hex CountsW -/
import Derived.Test.YtmecmlpoallpcaaGreatDoorM02
import Derived.Laws.RangeAny
import Derived.Shelf.Unicode.PredsPay
import Derived.Lib.AppendIntMem
import Derived.Deep.RegionHeld3
import Derived.Deep.QuietTactic
import Derived.BigQuiet
import Derived.Maps.OwnOps
import Derived.Maps.OwnSet
import Derived.Maps.Views
set_option linter.all false
set_option maxHeartbeats 8000000
namespace Go.Proofs.YtmecmlpoallpcaaGreatDoor
open Go.Proofs.Tryz
section
open Go.RowKit Go.Proofs.PeepPlain
def cE(c:UInt8):Bool:=(decide (97<=c.toNat)&&decide (c.toNat<=122))||(decide (65<=c.toNat)&&decide (c.toNat<=90))||decide (c.toNat=95)
def eg(c:UInt8):Bool:=decide (48<=c.toNat)&&decide (c.toNat<=57)
def cZ(s:ByteArray)(k:Nat)(a:k<s.size):Bool:=cE s[k]||(decide (k≠0)&&eg s[k])
def jl(s:ByteArray):Bool:=decide (∀a (h:a<s.size),cZ s a h=true)
def fC:ByteArray:=⟨#[97,110,121,32,98,114,101,97,107,32,99,97,115,101,32,99,111,110,116,105,110,117,101,32,100,101,102,97,117,108,116,32,100,101,102,101,114,32,101,108,115,101,32,102,97,108,108,116,104,114,111,117,103,104,32,102,97,108,115,101,32,102,111,114,32,102,117,110,99,32,105,102,32,105,110,32,109,97,112,32,110,105,108,32,112,114,111,116,111,99,111,108,32,114,101,116,117,114,110,32,115,116,114,117,99,116,32,115,119,105,116,99,104,32,116,114,117,101,32,116,121,112,101,32,118,97,114]⟩
def dv:List ByteArray:=(Lib.fields fC.data.toList).map λa=>⟨a.toArray⟩
def bF(s:ByteArray):Bool:=jl s&&(decide (s.size≠0)&&(decide (s.size<=40)&&!Lib.containsS dv s))
def Eo(s:ByteArray)(k:Nat):Prop:=∀a (h:a<s.size),a<k->cZ s a h=true
def ll{s:ByteArray}{k:Nat}(b:k<s.size)(e:Eo s k)(d:cZ s k b=true):Eo s (k+1):=λa c g=>by
 by_cases f:a=k
 ·subst f;exact d
 ·exact e a c (by omega)
def gp{s:ByteArray}{k:Nat}(a:k<s.size)(b:cZ s k a=false):jl s=false:=by
 unfold jl;rw[zg];intro c;rw[c k a]at b
 cases b
def kA{s:ByteArray}(a:jl s=false):bF s=false:=by
 unfold bF;rw[a,zG]
def kC{w:World}{g:Nat}{t:TypeId}{a:List ByteArray}(c:ah w g t (a.map Value.string)):∀j,j<a.length->w.cell? ⟨g,0+j,none⟩=some (.string (a.getD j ByteArray.empty)):=λj b=>by
 rw[zP,c.cell,zL,zo b,zd,zo b];rfl
def Bt(s:ByteArray)(a:World):Calls prog 99 #[.slice (some ⟨a.heap.size,0,none⟩) (Lib.fields fC.data.toList).length (Lib.fields fC.data.toList).length,.string s] (a.alloc (.cells ((Lib.fields fC.data.toList).map (λl=>Value.string ⟨l.toArray⟩)).toArray 9)) λe w'=>e= .returned (.bool (Lib.containsS dv s))∧w'=a.alloc (.cells ((Lib.fields fC.data.toList).map (λl=>Value.string ⟨l.toArray⟩)).toArray 9):=by
 have e:(Lib.fields fC.data.toList).map (λl=>Value.string ⟨l.toArray⟩)=dv.map Value.string:=by simp[dv]
 have b:(Lib.fields fC.data.toList).length=dv.length:=by simp[dv]
 rw[e,b];refine(dJ a.heap.size 0 dv.length dv.length dv s _ (zb _) (by rw[<-b];decide+kernel) (kC (ah.made a 9 (dv.map Value.string)))).mono ?_;rintro c w' ⟨rfl,rfl⟩;rw[List.take_length];exact⟨rfl,rfl⟩
def RV:prog.globalNamed "strings.asciiSpace" =some 0:=by kernel_rfl
def In:fC.size<4294967281:=by decide+kernel
def ag{a b:Bool}(c:b=a):Ending.returned (.bool a)= .returned (.bool b):=by rw[c]
def Es:∀(j:Nat) b,fC.data.toList[j]?=some b->b.toNat<128:=by
 intro j b c;have:=zU c;have a:fC.data.toList.all (λb=>decide (b.toNat<128))=true:=by decide+kernel
 simpa using List.all_eq_true.1 a b this
set_option maxRecDepth 20000 in
def DS(s:ByteArray)(w:World)(G:s.size<=2000000)(F:Lib.TabIs prog w "strings.asciiSpace" .u8 Lib.asciiSpaceTab):
 Calls prog 65 #[.string s] w λe w'=>e= .returned (.bool (bF s))∧zz w w':=by
 have T:=za F;have af:=za G;clear F G;go_enter func65,ntmps65;go_wp2_with fail;go_loopw [2,3,4,5] (λJ X W V A=> ∃b:Nat,A=w.iter s b∧Hid (b<=s.size)∧Hid (Eo s b)∧J= .bool false) (λ_ _ _ _ A=>s.size - A.iterPos w.heap.size)
 case atStart=>exact⟨0,rfl,za (zu _),za (λE _ g=>by omega),rfl⟩
 case round=>
  obtain⟨b,rfl,I,y,rfl⟩:=hrel;have C:Hid (Below w.heap.size w (w.iter s b)):=za (below1 w _);by_cases f:b<s.size
  ·by_cases j:(s[b]'f).toNat<128
   ·obtain⟨a,B⟩:∃a,a=(s[b]'f).toNat:=⟨_,rfl⟩
    have x:=run_next_ascii (P:=prog) w s b 0 f j;rw[<-B]at x j;have k:=za B;clear B;have N:(97<=a∧a<=122)∨(65<=a∧a<=90)∨(a=95)∨(48<=a∧a<=57)∨(a<48)∨(57<a∧a<65)∨(90<a∧a<95)∨(a=96)∨(122<a):=by omega
    rcases N with g|g|g|g|g|g|g|g|g
    ·have r:(97:Int)<=(a:Int):=by omega
     have p:(a:Int)<=122:=by omega
     have o:(65:Int)<=(a:Int):=by omega
     have n:¬(a:Int)<=90:=by omega
     have m:¬(a:Int)<48:=by omega
     have l:(57:Int)<(a:Int):=by omega
     have q:((a:Int)==95)=false:=by exact zh.2 (by omega)
     have c:cZ s b f=true:=by
      unfold cZ cE eg;rw[<-k.out];simp only[Bool.or_eq_true,zy,decide_eq_true_eq];omega
     have t:=za (ll f y.out c);clear c g j;go_wp2_with fail;go_roundw
     case rel=>exact⟨b+1,rfl,za (by omega),t,rfl⟩
     case measure=>simp;omega
    ·have r:¬(97:Int)<=(a:Int):=by omega
     have p:(a:Int)<=122:=by omega
     have o:(65:Int)<=(a:Int):=by omega
     have n:(a:Int)<=90:=by omega
     have m:¬(a:Int)<48:=by omega
     have l:(57:Int)<(a:Int):=by omega
     have q:((a:Int)==95)=false:=by exact zh.2 (by omega)
     have c:cZ s b f=true:=by
      unfold cZ cE eg;rw[<-k.out];simp only[Bool.or_eq_true,zy,decide_eq_true_eq];omega
     have t:=za (ll f y.out c);clear c g j;go_wp2_with fail;go_roundw
     case rel=>exact⟨b+1,rfl,za (by omega),t,rfl⟩
     case measure=>simp;omega
    ·have r:¬(97:Int)<=(a:Int):=by omega
     have p:(a:Int)<=122:=by omega
     have o:(65:Int)<=(a:Int):=by omega
     have n:¬(a:Int)<=90:=by omega
     have m:¬(a:Int)<48:=by omega
     have l:(57:Int)<(a:Int):=by omega
     have q:((a:Int)==95)=true:=by rw[beq_iff_eq];omega
     have c:cZ s b f=true:=by
      unfold cZ cE eg;rw[<-k.out];simp only[Bool.or_eq_true,zy,decide_eq_true_eq];omega
     have t:=za (ll f y.out c);clear c g j;go_wp2_with fail;go_roundw
     case rel=>exact⟨b+1,rfl,za (by omega),t,rfl⟩
     case measure=>simp;omega
    ·have r:¬(97:Int)<=(a:Int):=by omega
     have p:(a:Int)<=122:=by omega
     have o:¬(65:Int)<=(a:Int):=by omega
     have n:(a:Int)<=90:=by omega
     have m:¬(a:Int)<48:=by omega
     have l:¬(57:Int)<(a:Int):=by omega
     have q:((a:Int)==95)=false:=by exact zh.2 (by omega)
     by_cases h:b=0
     ·subst h;have c:cZ s 0 f=false:=by
       unfold cZ cE eg;rw[<-k.out];simp only[Bool.or_eq_false_iff,Bool.and_eq_false_iff,decide_eq_false_iff_not];omega
      have i:=za (kA (gp f c));clear c g j;go_wp2_with fail;go_ret;exact⟨ag i.out,below1 w _⟩
     ·have c:cZ s b f=true:=by
       unfold cZ cE eg;rw[<-k.out];simp only[Bool.or_eq_true,zy,decide_eq_true_eq];omega
      have u:((b:Int)==0)=false:=zh.2 (by omega);have t:=za (ll f y.out c);clear c g j h;go_wp2_with fail;go_roundw
      case rel=>exact⟨b+1,rfl,za (by omega),t,rfl⟩
      case measure=>simp;omega
    ·have r:¬(97:Int)<=(a:Int):=by omega
     have p:(a:Int)<=122:=by omega
     have o:¬(65:Int)<=(a:Int):=by omega
     have n:(a:Int)<=90:=by omega
     have m:(a:Int)<48:=by omega
     have l:¬(57:Int)<(a:Int):=by omega
     have q:((a:Int)==95)=false:=by exact zh.2 (by omega)
     have c:cZ s b f=false:=by
      unfold cZ cE eg;rw[<-k.out];simp only[Bool.or_eq_false_iff,Bool.and_eq_false_iff,decide_eq_false_iff_not];omega
     have i:=za (kA (gp f c));clear c g j;by_cases h:b=0
     ·subst h;go_wp2_with fail;go_ret;exact⟨ag i.out,below1 w _⟩
     ·have u:((b:Int)==0)=false:=zh.2 (by omega);clear h;go_wp2_with fail;go_ret;exact⟨ag i.out,below1 w _⟩
    ·have r:¬(97:Int)<=(a:Int):=by omega
     have p:(a:Int)<=122:=by omega
     have o:¬(65:Int)<=(a:Int):=by omega
     have n:(a:Int)<=90:=by omega
     have m:¬(a:Int)<48:=by omega
     have l:(57:Int)<(a:Int):=by omega
     have q:((a:Int)==95)=false:=by exact zh.2 (by omega)
     have c:cZ s b f=false:=by
      unfold cZ cE eg;rw[<-k.out];simp only[Bool.or_eq_false_iff,Bool.and_eq_false_iff,decide_eq_false_iff_not];omega
     have i:=za (kA (gp f c));clear c g j;by_cases h:b=0
     ·subst h;go_wp2_with fail;go_ret;exact⟨ag i.out,below1 w _⟩
     ·have u:((b:Int)==0)=false:=zh.2 (by omega);clear h;go_wp2_with fail;go_ret;exact⟨ag i.out,below1 w _⟩
    ·have r:¬(97:Int)<=(a:Int):=by omega
     have p:(a:Int)<=122:=by omega
     have o:(65:Int)<=(a:Int):=by omega
     have n:¬(a:Int)<=90:=by omega
     have m:¬(a:Int)<48:=by omega
     have l:(57:Int)<(a:Int):=by omega
     have q:((a:Int)==95)=false:=by exact zh.2 (by omega)
     have c:cZ s b f=false:=by
      unfold cZ cE eg;rw[<-k.out];simp only[Bool.or_eq_false_iff,Bool.and_eq_false_iff,decide_eq_false_iff_not];omega
     have i:=za (kA (gp f c));clear c g j;by_cases h:b=0
     ·subst h;go_wp2_with fail;go_ret;exact⟨ag i.out,below1 w _⟩
     ·have u:((b:Int)==0)=false:=zh.2 (by omega);clear h;go_wp2_with fail;go_ret;exact⟨ag i.out,below1 w _⟩
    ·have r:¬(97:Int)<=(a:Int):=by omega
     have p:(a:Int)<=122:=by omega
     have o:(65:Int)<=(a:Int):=by omega
     have n:¬(a:Int)<=90:=by omega
     have m:¬(a:Int)<48:=by omega
     have l:(57:Int)<(a:Int):=by omega
     have q:((a:Int)==95)=false:=by exact zh.2 (by omega)
     have c:cZ s b f=false:=by
      unfold cZ cE eg;rw[<-k.out];simp only[Bool.or_eq_false_iff,Bool.and_eq_false_iff,decide_eq_false_iff_not];omega
     have i:=za (kA (gp f c));clear c g j;by_cases h:b=0
     ·subst h;go_wp2_with fail;go_ret;exact⟨ag i.out,below1 w _⟩
     ·have u:((b:Int)==0)=false:=zh.2 (by omega);clear h;go_wp2_with fail;go_ret;exact⟨ag i.out,below1 w _⟩
    ·have r:(97:Int)<=(a:Int):=by omega
     have p:¬(a:Int)<=122:=by omega
     have o:(65:Int)<=(a:Int):=by omega
     have n:¬(a:Int)<=90:=by omega
     have m:¬(a:Int)<48:=by omega
     have l:(57:Int)<(a:Int):=by omega
     have q:((a:Int)==95)=false:=by exact zh.2 (by omega)
     have c:cZ s b f=false:=by
      unfold cZ cE eg;rw[<-k.out];simp only[Bool.or_eq_false_iff,Bool.and_eq_false_iff,decide_eq_false_iff_not];omega
     have i:=za (kA (gp f c));clear c g j;by_cases h:b=0
     ·subst h;go_wp2_with fail;go_ret;exact⟨ag i.out,below1 w _⟩
     ·have u:((b:Int)==0)=false:=zh.2 (by omega);clear h;go_wp2_with fail;go_ret;exact⟨ag i.out,below1 w _⟩
   ·have x:=run_next_any (P:=prog) w s b 0 f;obtain⟨H,M⟩:=decode_high s b f (by omega);have c:cZ s b f=false:=by
     unfold cZ cE eg;simp only[Bool.or_eq_false_iff,Bool.and_eq_false_iff,decide_eq_false_iff_not];omega
    have i:=za (kA (gp f c));generalize(Utf8.decode s b).1=a at x H;generalize b+(Utf8.decode s b).2=k2 at x;have p:(97:Int)<=(a:Int):=by omega
    have o:¬(a:Int)<=122:=by omega
    have n:(65:Int)<=(a:Int):=by omega
    have m:¬(a:Int)<=90:=by omega
    have l:((a:Int)==95)=false:=zh.2 (by omega);have ab:¬(a:Int)<48:=by omega
    have aa:(57:Int)<(a:Int):=by omega
    clear H M j c;by_cases h:b=0
    ·subst h;go_wp2_with fail;go_ret;exact⟨ag i.out,below1 w _⟩
    ·have u:((b:Int)==0)=false:=zh.2 (by omega);clear h;go_wp2_with fail;go_ret;exact⟨ag i.out,below1 w _⟩
  ·have x:=run_next_end (P:=prog) w s b 0 f;have U:Hid (jl s=true):=za (by
    unfold jl;rw[ze];exact λE L=>y.out E L (by have:=I.out;omega))
   have an:Hid (b=s.size):=za (by have:=I.out;omega);by_cases v:s.size=0
   ·obtain rfl:s=⟨#[]⟩:=by
     cases s with
     |mk d=>
      have:d= #[]:=Array.eq_empty_of_size_eq_zero v;rw[this]
    clear v;go_wp2_with fail;go_ret;exact⟨ag (by unfold bF;rw[show decide ((⟨#[]⟩:ByteArray).size≠0)=false from rfl];simp),below1 w _⟩
   ·have K:¬s.toList=[]:=λg=>v (by
     rw[zH]at g;have:=zp List.length g;simpa using this)
    have ad:(s.toList==[])=false:=zh.2 K;have R:=za v;clear v;by_cases z:s.size<=40
    ·have O:(s.size:Int)<=40:=by omega
     have S:=za (Go.Proofs.TabIs_below RV T.out C.out);have D:=za z;clear z;go_wp2_with (first
      |(go_at_call 100;refine(oR fC _ In Es S.out).mono ?_;rintro Q Z ⟨rfl,rfl⟩)
      |(go_at_call 99;refine(Bt s _).mono ?_;rintro Q Y ⟨rfl,rfl⟩))
     go_ret;exact⟨ag (by unfold bF;rw[U.out,ze R.out,ze D.out];simp),C.alloc (by show w.heap.size<=(w.alloc _).heap.size;simp) _⟩
    ·have O:¬(s.size:Int)<=40:=by omega
     have D:=za z;clear z;go_wp2_with fail;go_ret;exact⟨ag (by unfold bF;rw[zg D.out];simp),C.out⟩
end
section
open Go.RowKit Go.Proofs.PeepPlain
def FB(a:Value):Prop:=a= .nilIface∨∃b c,a= .iface b c
structure aX(w:World):Prop where
 ascii:Lib.TabIs prog w "strings.asciiSpace" .u8 Lib.asciiSpaceTab
 mlen:∃m,w.cell? ⟨4,0,none⟩=some (.int .i64 m)
 syn:∃v,w.cell? ⟨5,0,none⟩=some v∧FB v
 rng:∃v,w.cell? ⟨6,0,none⟩=some v∧FB v
 pow:Lib.TabIs prog w "internal/strconv.uint64pow10" .u64 Lib.pow10Tab
 size:14<=w.heap.size
def Sa:prog.globalNamed "internal/strconv.uint64pow10" =some 3:=by kernel_rfl
def aX.below{w w':World}(b:aX w)(a:zz w w'):aX w':=by
 have f:=b.size;obtain⟨e,g⟩:=b.mlen;obtain⟨c,k,j⟩:=b.syn;obtain⟨d,i,h⟩:=b.rng;exact⟨Go.Proofs.TabIs_below RV b.ascii a,⟨e,(a.cell (p:=⟨4,0,none⟩) (show 4<_ by omega)).trans g⟩,⟨c,(a.cell (p:=⟨5,0,none⟩) (show 5<_ by omega)).trans k,j⟩,⟨d,(a.cell (p:=⟨6,0,none⟩) (show 6<_ by omega)).trans i,h⟩,Go.Proofs.TabIs_below Sa b.pow a,zi f a.size⟩
def aX.drewN{w:World}(a:aX w)(n:Nat):aX (w.drewN n):=a.below (ae (zZ _ _) n)
def dP(s:ByteArray)(w:World)(a:s.size<=2000000)(b:aX w):Calls prog 65 #[.string s] w λe w'=>e= .returned (.bool (bF s))∧zz w w':=DS s w a b.ascii
def Oi(s:ByteArray)(l:List UInt8):Bool:=decide (s.toList=l)
def dj(s:ByteArray)(a b:Bool):Bool:=bF s||(!a&&((Oi s [109,97,112]||Oi s [102,117,110,99])||(b&&Oi s [97,110,121])))
def pP(s:ByteArray)(p a:Bool)(w:World)(m:s.size<=2000000)(n:aX w):
 Calls prog 108 #[.string s,.bool p,.bool a] w λe w'=>e= .returned (.bool (dj s p a))∧zz w w':=by
 have h:=za λw=>dP s w m;have i:=za n;clear m n;unfold dj Oi
 cases l:bF s with
 |true=>
  have g:=za l;clear l;go_enter func108,ntmps108;go_wp2_with (first
   |(go_at_call 65;refine(h.out _ i.out).mono ?_;rw[g.out];rintro k j ⟨rfl,d⟩))
  go_ret;exact⟨ag (by first|(simp;done)|(simp[c,b,f];done)|(simp[c,b];done)),d⟩
 |false=>
  have g:=za l;clear l
  cases p with
  |true=>
   go_enter func108,ntmps108;go_wp2_with (first
    |(go_at_call 65;refine(h.out _ i.out).mono ?_;rw[g.out];rintro k j ⟨rfl,d⟩))
   go_ret;exact⟨ag (by first|(simp;done)|(simp[c,b,f];done)|(simp[c,b];done)),d⟩
  |false=>
   cases a with
   |true=>
    by_cases c:s.toList=[109,97,112]
    ·rw[ze c];go_enter func108,ntmps108;go_wp2_with (first
      |(go_at_call 65;refine(h.out _ i.out).mono ?_;rw[g.out];rintro k j ⟨rfl,d⟩))
     go_ret;exact⟨ag (by first|(simp;done)|(simp[c,b,f];done)|(simp[c,b];done)),d⟩
    ·rw[zg c];by_cases b:s.toList=[102,117,110,99]
     ·rw[ze b];go_enter func108,ntmps108;go_wp2_with (first
       |(go_at_call 65;refine(h.out _ i.out).mono ?_;rw[g.out];rintro k j ⟨rfl,d⟩))
      go_ret;exact⟨ag (by first|(simp;done)|(simp[c,b,f];done)|(simp[c,b];done)),d⟩
     ·rw[zg b];by_cases f:s.toList=[97,110,121]
      ·rw[ze f];go_enter func108,ntmps108;go_wp2_with (first
        |(go_at_call 65;refine(h.out _ i.out).mono ?_;rw[g.out];rintro k j ⟨rfl,d⟩))
       go_ret;exact⟨ag (by first|(simp;done)|(simp[c,b,f];done)|(simp[c,b];done)),d⟩
      ·rw[zg f];go_enter func108,ntmps108;go_wp2_with (first
        |(go_at_call 65;refine(h.out _ i.out).mono ?_;rw[g.out];rintro k j ⟨rfl,d⟩))
       go_ret;exact⟨ag (by first|(simp;done)|(simp[c,b,f];done)|(simp[c,b];done)),d⟩
   |false=>
    by_cases c:s.toList=[109,97,112]
    ·rw[ze c];go_enter func108,ntmps108;go_wp2_with (first
      |(go_at_call 65;refine(h.out _ i.out).mono ?_;rw[g.out];rintro k j ⟨rfl,d⟩))
     go_ret;exact⟨ag (by first|(simp;done)|(simp[c,b,f];done)|(simp[c,b];done)),d⟩
    ·rw[zg c];by_cases b:s.toList=[102,117,110,99]
     ·rw[ze b];go_enter func108,ntmps108;go_wp2_with (first
       |(go_at_call 65;refine(h.out _ i.out).mono ?_;rw[g.out];rintro k j ⟨rfl,d⟩))
      go_ret;exact⟨ag (by first|(simp;done)|(simp[c,b,f];done)|(simp[c,b];done)),d⟩
     ·rw[zg b];go_enter func108,ntmps108;go_wp2_with (first
       |(go_at_call 65;refine(h.out _ i.out).mono ?_;rw[g.out];rintro k j ⟨rfl,d⟩))
      go_ret;exact⟨ag (by first|(simp;done)|(simp[c,b,f];done)|(simp[c,b];done)),d⟩
def f6(s:ByteArray):List UInt8 × List UInt8 × Bool:=Lib.cut s.data.toList [46]
def eH(s:ByteArray):Bool:=bF ⟨(f6 s).1.toArray⟩&&(!(f6 s).2.2||bF ⟨(f6 s).2.1.toArray⟩)
def Jp(s:ByteArray):(f6 s).1.length<=s.size∧(f6 s).2.1.length<=s.size:=by
 unfold f6 Lib.cut;have a:s.data.toList.length=s.size:=by simp
 split
 ·simp only[zR,List.length_drop];omega
 ·simp
def lx(s:ByteArray)(w:World)(y:s.size<=2000000)(k:aX w):
 Calls prog 67 #[.string s] w λe w'=>e= .returned (.bool (eH s))∧zz w w':=by
 obtain⟨x,o⟩:=k.mlen;have p:=sm s ⟨#[46]⟩ x w (by omega) o;have z:=Jp s;have g:=za λw=>dP ⟨(f6 s).1.toArray⟩ w (by simp[ByteArray.size];omega);have v:=za λw=>dP ⟨(f6 s).2.1.toArray⟩ w (by simp[ByteArray.size];omega);have i:=za k;have b:Calls prog 102 #[.string s,.string ⟨#[46]⟩] w λe w'=>e= .returned (.tuple #[.string ⟨(f6 s).1.toArray⟩,.string ⟨(f6 s).2.1.toArray⟩,.bool (f6 s).2.2])∧∃a,w'=w.drewN a:=p;clear p y k o z;unfold eH;obtain⟨j,r⟩:∃j,j=(⟨(f6 s).1.toArray⟩:ByteArray):=⟨_,rfl⟩
 obtain⟨t,q⟩:∃t,t=(⟨(f6 s).2.1.toArray⟩:ByteArray):=⟨_,rfl⟩
 rw[<-r]at g b ⊢
 rw[<-q]at v b ⊢
 generalize(f6 s).2.2=is at b ⊢
 clear r q
 cases h:bF j with
 |false=>
  have f:=za h;clear h;go_enter func67,ntmps67;go_wp2_with (first
   |(go_at_call 102;refine b.mono ?_;rintro d m ⟨rfl,a,rfl⟩)
   |(go_at_call 65;refine(g.out _ (i.drewN a)).mono ?_;rw[f.out];rintro d l ⟨rfl,c⟩))
  go_ret;exact⟨ag (by simp),(ae (zZ _ _) a).trans c⟩
 |true=>
  have f:=za h;clear h
  cases is with
  |false=>
   go_enter func67,ntmps67;go_wp2_with (first
    |(go_at_call 102;refine b.mono ?_;rintro d m ⟨rfl,a,rfl⟩)
    |(go_at_call 65;refine(g.out _ (i.drewN a)).mono ?_;rw[f.out];rintro d l ⟨rfl,c⟩))
   go_ret;exact⟨ag (by simp),(ae (zZ _ _) a).trans c⟩
  |true=>
   go_enter func67,ntmps67;go_wp2_with (first
    |(go_at_call 102;refine b.mono ?_;rintro d m ⟨rfl,a,rfl⟩)
    |(have n:=f.out;go_at_call 65;refine(g.out _ (i.drewN a)).mono ?_;rw[n];rintro d l ⟨rfl,c⟩
      have u:=za ((ae (zZ _ _) a).trans c);have B:=za ((i.drewN a).below c);clear f g n)
    |(go_at_call 65;refine(v.out _ B.out).mono ?_;rintro d C ⟨rfl,A⟩))
   go_ret;exact⟨ag (by simp),u.trans (az A u.size)⟩
end
section
open Go.RowKit Go.Proofs.PeepPlain
def Jz(s:ByteArray)(w:World)(g:aX w)(f:s.size<=281474976710656):
 Calls prog 138 #[.string s,.int .i64 10,.int .i64 64] w λe w'=> ∃n a,e= .returned (.tuple #[.int .i64 n,a])∧((a= .nilIface∧Lib.parseIntB 64 s.data.toList= .ok n)∨((∃N,a= .iface 236 (.pointer (some ⟨N,0,none⟩)))∧∀m,Lib.parseIntB 64 s.data.toList≠ .ok m))∧zz w w':=by
 obtain⟨p,j,l⟩:=g.syn;obtain⟨o,i,k⟩:=g.rng
 cases d:Lib.parseIntB 64 s.data.toList with
 |ok a=>
  refine(iC s (by omega) a d w).mono ?_;rintro e w' ⟨rfl,h⟩;refine⟨a,.nilIface,rfl,.inl ⟨rfl,rfl⟩,?_⟩;rcases h with rfl|⟨q,rfl⟩
  ·exact zZ _ _
  ·exact Lib.bytesWorld_below _ _ _
 |range=>
  refine(gi s f d o w i k).mono ?_;rintro e w' ⟨N,rfl,_,_,c⟩;exact⟨_,_,rfl,.inr ⟨⟨N,rfl⟩,λm b=>by cases b⟩,c⟩
 |_=>
  refine(Any.strconv_ParseInt_10_at64_syntax lA s f d p w j l).mono ?_;rintro e w' ⟨N,rfl,_,_,c⟩;exact⟨_,_,rfl,.inr ⟨⟨N,rfl⟩,λm b=>by cases b⟩,c⟩
def DJ(n:Int)(d: -9223372036854775808<=n)(c:n<=9223372036854775807)(w:World)(f:aX w):
 Calls prog 139 #[.int .i64 n,.int .i64 10] w λe w'=>e= .returned (.string ⟨(Lib.itoa n).toArray⟩)∧zz w w':=by
 refine(kP n d c w f.pow).mono ?_;rintro e w' ⟨rfl,b,a,rfl⟩;exact⟨rfl,Lib.below_grow _ _ (zb _) b a⟩
def bB(s:ByteArray):Option Int:=match Lib.parseIntB 64 s.data.toList with
 | .ok n=>if(Lib.itoa n)=s.data.toList then some n else none
 |_=>none
def ce(s:ByteArray):Bool:=(bB s).isSome
def Jt{s:ByteArray}{n:Int}(b:Lib.parseIntB 64 s.data.toList= .ok n):ce s=decide ((⟨(Lib.itoa n).toArray⟩:ByteArray).toList=s.toList):=by
 unfold ce bB;rw[b,zH,zH];simp only;by_cases a:Lib.itoa n=s.data.toList
 ·rw[zn a];simp[a]
 ·rw[zm a];simp[a]
def Fe{s:ByteArray}(b:∀n,Lib.parseIntB 64 s.data.toList≠ .ok n):ce s=false:=by
 unfold ce bB;split
 ·rename_i n a;exact absurd a (b n)
 ·rfl
def Bg(s:ByteArray)(w:World)(z:s.size<=2000000)(h:aX w):
 Calls prog 106 #[.string s] w λe w'=>e= .returned (.bool (ce s))∧zz w w':=by
 have j:=Jz s w h (by omega);have v:=za h;clear z h;by_cases m:∃c,Lib.parseIntB 64 s.data.toList= .ok c
 ·obtain⟨c,g⟩:=m;have i:Calls prog 138 #[.string s,.int .i64 10,.int .i64 64] w λe w'=>e= .returned (.tuple #[.int .i64 c,.nilIface])∧zz w w':=j.mono (by
   rintro e w' ⟨f,y,rfl,b|⟨_,b⟩,r⟩
   ·obtain⟨rfl,b⟩:=b;rw[g]at b;injection b with b;subst b;exact⟨rfl,r⟩
   ·exact absurd g (b c))
  have p:=Lib.parseIntB_bounds g;have o:=λ(w:World) (h:aX w)=>DJ c (by have:=p.1;simp at this;omega) (by have:=p.2;simp at this;omega) w h;rw[Jt g];generalize(⟨(Lib.itoa c).toArray⟩:ByteArray)=a at o ⊢
  clear j g p;by_cases e:a.toList=s.toList
  ·rw[ze e];have A:(a.toList==s.toList)=true:=beq_iff_eq.2 e;clear e;go_enter func106,ntmps106;go_wp2_with (first
    |(go_at_call 138;refine i.mono ?_;rintro k u ⟨rfl,d⟩
      have t:=za (v.below d))
    |(go_at_call 139;refine(o _ t.out).mono ?_;rintro k x ⟨rfl,q⟩))
   go_ret;exact⟨ag (by simp),d.trans (az q d.size)⟩
  ·rw[zg e];have A:(a.toList==s.toList)=false:=zh.2 e;clear e;go_enter func106,ntmps106;go_wp2_with (first
    |(go_at_call 138;refine i.mono ?_;rintro k u ⟨rfl,d⟩
      have t:=za (v.below d))
    |(go_at_call 139;refine(o _ t.out).mono ?_;rintro k x ⟨rfl,q⟩))
   go_ret;exact⟨ag (by simp),d.trans (az q d.size)⟩
 ·have n:∀c,Lib.parseIntB 64 s.data.toList≠ .ok c:=λc b=>m ⟨c,b⟩;have i:Calls prog 138 #[.string s,.int .i64 10,.int .i64 64] w λe w'=>(∃f l,e= .returned (.tuple #[.int .i64 f,.iface 236 (.pointer (some ⟨l,0,none⟩))]))∧zz w w':=j.mono (by
   rintro e w' ⟨f,y,rfl,b|⟨⟨l,rfl⟩,b⟩,r⟩
   ·exact absurd b.2 (n f)
   ·exact⟨⟨f,l,rfl⟩,r⟩)
  rw[Fe n];clear j m n;go_enter func106,ntmps106;go_wp2_with (first
   |(go_at_call 138;refine i.mono ?_;rintro k u ⟨⟨f,l,rfl⟩,d⟩))
  go_ret;exact⟨ag (by simp),d⟩
end
section
open Go.RowKit Go.Proofs.PeepPlain
def kF:ByteArray:=⟨#[32]⟩
def aJ(s:ByteArray):List ByteArray:=Lib.splitB kF 0 (Lib.countB s kF) s
def fO(s:ByteArray):(aJ s).length=Lib.countB s kF+1:=Lib.splitB_all kF (by decide) 0 _ s rfl
def kU(s:ByteArray):Lib.countB s kF<=s.size:=Lib.countB_le kF (by decide) _ s (zb _)
def xC(s:ByteArray)(w:World)(d:s.size<=2000000)(c:aX w):
 Calls prog 105 #[.string s,.string ⟨#[32]⟩] w λe w'=>e= .returned (.slice (some ⟨w.heap.size,0,none⟩) (aJ s).length (aJ s).length)∧ah w' w.heap.size 9 ((aJ s).map Value.string)∧zz w w':=by
 obtain⟨a,b⟩:=c.mlen;refine(pV s kF a w (by omega) b (by decide)).mono ?_;rintro e w' ⟨rfl,rfl⟩;rw[fO];exact⟨rfl,ah.made w 9 ((aJ s).map Value.string),below1 w _⟩
def yw(a:List ByteArray)(x:ByteArray)(g:Nat)(w:World)(b:ah w g 9 (a.map Value.string))(c:a.length<=9223372036854775807):
 Calls prog 99 #[.slice (some ⟨g,0,none⟩) a.length a.length,.string x] w λe w'=>e= .returned (.bool (Lib.containsS a x))∧w'=w:=by
 refine(dJ g 0 a.length a.length a x w (zb _) c (kC b)).mono ?_;rintro d w' ⟨rfl,rfl⟩;rw[List.take_length];exact⟨rfl,rfl⟩
def dR(l x:ByteArray):Bool:=decide (x.size≠0)&&Lib.containsS (aJ l) x
def qJ{s:ByteArray}(b:s.size≠0):¬s.toList=[]:=λa=>b (by
 rw[zH]at a;have:=zp List.length a;simpa using this)
def mv(l:ByteArray)(x:au)(g:Nat)(w:World)(i:l.size<=2000000)(b:ah w g 50 (aZ x))(j:aX w):
 Calls prog 104 #[.string l,.pointer (some ⟨g,0,none⟩)] w λe w'=>e= .returned (.bool (dR l x.text))∧zz w w':=by
 have c:w.cell? ⟨g,3,none⟩=some (.string x.text):=b.cell 3;have n:=b.lt;have D:=za b;have y:=za j;have v:=za i;have k:=kU l;have u:Hid ((aJ l).length<=9223372036854775807):=za (by rw[fO];omega);clear b j i k;unfold dR;generalize x.text=t at c ⊢
 by_cases a:t.size=0
 ·obtain rfl:t=⟨#[]⟩:=by
   cases t with
   |mk d=>
    have:d= #[]:=Array.eq_empty_of_size_eq_zero a;rw[this]
  clear a;go_enter func104,ntmps104;go_wp2_with fail;go_quiet (fail);go_wp2_with fail;go_ret;exact⟨ag (by rw[show decide ((⟨#[]⟩:ByteArray).size≠0)=false from rfl];simp),ae (zZ _ _) nq⟩
 ·have m:=qJ a;have C:(t.toList==[])=false:=zh.2 m;have r:=za a;clear a;go_enter func104,ntmps104;go_wp2_with fail;go_region_held3 (λw'=>w'.cell? ⟨g,3,none⟩=some (.string t)) (first|exact c|exact o|go_keep) (first|(go_at_call 105;refine(xC l _ v.out (y.drewN 1)).mono ?_;rintro q B ⟨rfl,h,f⟩;have o:=(f.cell (p:=⟨g,3,none⟩) (show g<w.drew.heap.size from n)).trans c;have s:=za h;have z:=za f;clear h f)|(go_at_call 99;refine(yw _ t _ _ s.out u.out).mono ?_;rintro q A ⟨rfl,rfl⟩));go_wp2_with fail;go_ret;exact⟨ag (by rw[ze r.out];simp),(ae (zZ _ _) 1).trans z.out⟩
end
section
open Go.RowKit Go.Proofs.PeepPlain
def pY(s:ByteArray)(l:List ByteArray):Nat:=l.countP λa=>decide (a=s)
def uw(s:ByteArray)(l:List ByteArray):pY s l<=l.length:=List.countP_le_length
def nk(s t:ByteArray)(l:List ByteArray):pY s (l++ [t])=pY s l+if t=s then 1 else 0:=by
 unfold pY;rw[List.countP_append,List.countP_singleton];simp
def dm(w:World)(b:Nat)(l:List ByteArray):Prop:=
 ∃d a,w.ownsMap prog 9 (plainElem (H:=Unit) prog 3) b d a∧d<=l.length∧Maps.IsMap a∧∀c:ByteArray,a.atKey (.string c.data.toList) (.lit (.int .i64 0))= .lit (.int .i64 (pY c l:Nat))
def ub(w:World):(Instr.makeMap 51 none).run prog w= .ok (.map (some w.heap.size)) (w.alloc (.map #[] 0)):=by kernel_rfl
def Qi(w:World):(zeroValue 3).run prog w= .ok (.int .i64 0) w:=by kernel_rfl
def Ox{s:ByteArray}(a:s.size<=2000000):keyOf prog 9 (.string s)=some (.string s.data.toList):=WideMaps.keyOf_string_mk underlying9 (by unfold maxLen;omega)
def Fv:Maps.Keyed prog 9:=Maps.string_keyed underlying9
def ke(w:World):dm (w.alloc (.map #[] 0)) w.heap.size []:=
 ⟨0,.map [],World.ownsMap_made w _ _ _,zb _,⟨[],rfl⟩,λa=>by simp[DataW.atKey,pY]⟩
def dm.lt{w:World}{b:Nat}{l:List ByteArray}(a:dm w b l):b<w.heap.size:=by
 obtain⟨c,d,a,_⟩:=a;exact a.lt
def dm.below{w w':World}{B b:Nat}{l:List ByteArray}(a:dm w b l)(d:Below B w w')(e:b<B):dm w' b l:=by
 have o:=a.lt;obtain⟨c,n,⟨k,m,j,i,h,g⟩,f⟩:=a;exact⟨c,n,⟨k,m,(d.block b e).trans j,i,h,g⟩,f⟩
def dm.alloc{w:World}{b:Nat}{l:List ByteArray}(a:dm w b l)(o:Obj):dm (w.alloc o) b l:=a.below (below1 w o) a.lt
def bJ{w:World}{b:Nat}{l:List ByteArray}(c:dm w b l){s:ByteArray}(d:s.size<=2000000):
 (Instr.lookup 51 (.map (some b)) (.string s) false).run prog w= .ok (.int .i64 (pY s l:Nat)) w:=by
 obtain⟨g,k,c,h,i,f⟩:=c;obtain⟨j,e,a,_⟩:=c.lookup_int Fv underlying51 underlying3 (Qi w) (Ox d);rw[f s]at a;simp only[DataW.lit.injEq,Lit.int.injEq,true_and]at a;rw[e,<-a]
def rE{w:World}{b:Nat}{l:List ByteArray}(a:dm w b l)(p:l.length<=2000000){s:ByteArray}(f:s.size<=2000000):
 ∃w',(Instr.mapUpdate 51 (.map (some b)) (.string s) (.int .i64 ((pY s l:Nat)+1))).run prog w= .ok () w'∧dm w' b (l++ [s])∧w.grownBy w' (some b):=by
 obtain⟨e,r,a,o,k,n⟩:=a;have q:pY s l<=l.length:=uw s l;have h:(Lit.int .i64 (((pY s l:Nat):Int)+1)).wf=true:=by
  simp[Lit.wf,IntKind.min,IntKind.max,IntKind.bits,IntKind.signed];omega
 obtain⟨w',i,g,m⟩:=a.update Fv underlying51 (show e<maxLen by unfold maxLen;omega) (Ox f) (plainElem_int (H:=Unit) underlying3 h);refine⟨w',i,⟨e+1,_,g,by simp;omega,?_,λc=>?_⟩,m⟩
 ·exact g.isMap
 ·by_cases d:c=s
  ·subst d;rw[Maps.atKey_put_same k (Fv.key (Ox f)),nk,zn rfl];rfl
  ·have j:(Lit.string c.data.toList)≠ .string s.data.toList:=by
    intro a;injection a with a;apply d
    cases c;cases s
    simp at a;rw[a]
   rw[Maps.atKey_put_other j,n c,nk,zm (λa=>d a.symm)];rfl
end
section
open Go.RowKit Go.Proofs.PeepPlain
def fz(l:List ByteArray)(k:Nat):Bool:=bF (l.getD k ByteArray.empty)&&decide (¬1<pY (l.getD k ByteArray.empty) ((l.take (k+1)).drop 1))
def dY(s:ByteArray)(n:Int):Bool:=decide (∀a,a<(aJ s).length->fz (aJ s) a=true)&&decide (((aJ s).length:Int)=n)
def rb{s:ByteArray}{n:Int}{k:Nat}(b:k<(aJ s).length)(a:fz (aJ s) k=false):dY s n=false:=by
 unfold dY;rw[zg,zG];intro c;rw[c k b]at a
 cases a
def nA{l:List ByteArray}{k:Nat}(a:k<l.length)(b:0<k):(l.take (k+1)).drop 1=(l.take k).drop 1++ [l.getD k ByteArray.empty]:=by
 rw[List.take_add_one,zo a,List.drop_append_of_le_length (by rw[zR];omega),zd,zo a];rfl
theorem sH(b:ByteArray)(c:Nat):∀(k:Nat) (s:ByteArray),∀x∈Lib.splitB b c k s,x.size<=s.size
 |0,s,x,a=>by
  rw[Lib.splitB_zero]at a;obtain rfl:=List.mem_singleton.1 a;exact zb _
 |k+1,s,x,a=>by
  unfold Lib.splitB at a;split at a
  ·obtain rfl:=List.mem_singleton.1 a;exact zb _
  ·rcases zC.1 a with rfl|a
   ·simp[ByteArray.size_extract];omega
   ·have:=sH b c k _ x a;simp[ByteArray.size_extract]at this;omega
def sz{s:ByteArray}{k:Nat}:((aJ s).getD k ByteArray.empty).size<=s.size:=by
 rw[zd];by_cases a:k<(aJ s).length
 ·rw[zo a];exact sH _ _ _ _ _ (zk a)
 ·rw[zM (by omega)];exact zu _
def Ld{w w':World}(b:aX w)(a:zz w w'):aX w':=b.below a
set_option maxRecDepth 20000 in
def tU(s:ByteArray)(n:Int)(w:World)(an:s.size<=2000000)(S:aX w):
 Calls prog 109 #[.string s,.int .i64 n] w λe w'=>e= .returned (.bool (dY s n))∧zz w w':=by
 have t:=za S;have bi:=za S;have be:=za an;have ao:(aJ s).length<=2000001:=by have:=fO s;have:=kU s;omega
 have a4:=za ao;have W:=xC s w (by omega) S;obtain⟨x,aa⟩:∃x,x=(aJ s).length:=⟨_,rfl⟩
 rw[<-aa]at W;have m:=za aa;have a9:=ub;clear an S ao aa;go_enter func109,ntmps109;go_wp2_with (first
  |(go_at_call 105;refine W.mono ?_;rintro E L ⟨rfl,X,a1⟩
    have av:=X.lt;have bj:=za av;have a3:=za X;have R:=za a1;clear X a1))
 go_loopw [4,7,8,14] (λa6 bl bk V N=> ∃b:Nat,V= .int .i64 b∧b<=x∧Hid (dm N L.heap.size (((aJ s).take b).drop 1))∧Hid (∀f,f<b->fz (aJ s) f=true)∧Hid (ah N w.heap.size 9 ((aJ s).map Value.string))∧Hid (zz w N)∧Hid (aX N)∧a6= .bool false) (λ_ _ _ V _=>x - (intOf V).toNat)
 case atStart=>exact⟨0,rfl,zu _,za (by simpa using ke L),za (λf O=>by omega),za (a3.alloc _),za (R.alloc R.size _),za ((t.below R.out).below (below1 L _)),rfl⟩
 case round=>
  clear a3 W a9 t;rename World=>w3;obtain⟨b,rfl,bb,Q,af,r,o,t,rfl⟩:=hrel;by_cases l:b<x
  ·have bp:(0:Int)<=(b:Int)∧(b:Int)<(x:Int):=by omega
   obtain⟨c,P⟩:∃c,(aJ s).getD b ByteArray.empty=c:=⟨_,rfl⟩
   have bc:=kC r.out b (by rw[<-m.out];exact l);rw[P,zP]at bc;have y:=za P;have q:Hid (c.size<=2000000):=za (by rw[<-P];have:= @sz s b;have:=be.out;omega);have F:=q;have av:=r.lt;have bo:=Q.lt;clear P;by_cases ar:b=0
   ·subst ar;obtain⟨j,M⟩:∃j,pY c []=j:=⟨_,rfl⟩
    have i:=za M;have A:Hid (((aJ s).take (0+1)).drop 1=[]):=za (by apply zD;rw[List.length_drop,zR];omega);have J:Hid (dm w3 L.heap.size []):=za (by have:=Q.out;simpa using this);clear M
    cases p:bF c with
    |false=>
     have d:=za p;have z:Hid (dY s n=false):=za (rb (k:=0) (by rw[<-m.out];exact l) (by unfold fz;rw[y.out,d.out,zG]));clear p;go_wp2_with (first
      |(go_at_call 65;refine(dP c _ q.out t.out).mono ?_;rw[d.out];rintro E K ⟨rfl,a⟩
        have C:=za (t.below a);have g:=za (J.below a J.lt);have k:=za (o.trans (az a o.size));have v:=za (r.below a r.lt);have h:=bJ g.out F.out;rw[i.out]at h;clear a))
     go_ret;exact⟨ag z.out,k⟩
    |true=>
     have d:=za p;clear p;by_cases u:1<j
     ·have Z:(1:Int)<(j:Int):=by omega
      have z:Hid (dY s n=false):=za (rb (k:=0) (by rw[<-m.out];exact l) (by unfold fz;rw[y.out,d.out,A.out,i.out,zg (by omega)];rfl));clear u;go_wp2_with (first
       |(go_at_call 65;refine(dP c _ q.out t.out).mono ?_;rw[d.out];rintro E K ⟨rfl,a⟩
         have C:=za (t.below a);have g:=za (J.below a J.lt);have k:=za (o.trans (az a o.size));have v:=za (r.below a r.lt);have h:=bJ g.out F.out;rw[i.out]at h;clear a))
      go_ret;exact⟨ag z.out,k⟩
     ·have Z:¬(1:Int)<(j:Int):=by omega
      have ad:Hid (fz (aJ s) 0=true):=za (by unfold fz;rw[y.out,d.out,A.out,i.out,ze u];rfl);clear u;go_wp2_with (first
       |(go_at_call 65;refine(dP c _ q.out t.out).mono ?_;rw[d.out];rintro E K ⟨rfl,a⟩
         have C:=za (t.below a);have g:=za (J.below a J.lt);have k:=za (o.trans (az a o.size));have v:=za (r.below a r.lt);have h:=bJ g.out F.out;rw[i.out]at h;clear a))
      go_roundw
      case rel=>exact⟨1,rfl,by omega,za (by rw[A.out];exact g),za (λf O=>by
       by_cases e:f=0
       ·subst e;exact ad
       ·exact af.out f (by omega)),v,k,C,rfl⟩
      case measure=>simp[intOf];omega
   ·have bq:(b:Int)<=2000001:=by have:=a4.out;have:=m.out;omega
    have bt:(0:Int)<(b:Int):=by omega
    obtain⟨T,a2⟩:∃T,pY c (((aJ s).take b).drop 1)=T:=⟨_,rfl⟩
    obtain⟨j,M⟩:∃j,pY c (((aJ s).take b).drop 1++ [c])=j:=⟨_,rfl⟩
    have ap:(((aJ s).take b).drop 1).length<=2000000:=by have:=a4.out;rw[List.length_drop,zR];omega
    have ba:=bJ Q.out q.out;obtain⟨U,a7,a0,Y⟩:=rE Q.out ap q.out;rw[a2]at ba a7;have b1:(0:Int)<=(T:Int)∧(T:Int)<=2000000:=by have:=uw c (((aJ s).take b).drop 1);omega
    have i:=za M;have A:Hid (((aJ s).take (b+1)).drop 1=((aJ s).take b).drop 1++ [c]):=za (by rw[nA (by rw[<-m.out];exact l) (by omega),y.out]);have I:=za a0;have b0:w.heap.size<=L.heap.size:=R.size;have B:Hid (zz w U):=za (o.grown Y o.size (λb l=>by injection l with l;omega));have G:Hid (ah U w.heap.size 9 ((aJ s).map Value.string)):=za (r.grown Y (λe=>by injection e with e;have:=bj.out;omega));have H:Hid (aX U):=za (Ld bi.out B.out);clear M a2 ap a0 Y ar
    cases p:bF c with
    |false=>
     have d:=za p;have z:Hid (dY s n=false):=za (rb (k:=b) (by rw[<-m.out];exact l) (by unfold fz;rw[y.out,d.out,zG]));clear p;go_wp2_with (first
      |(go_at_call 65;refine(dP c _ q.out H.out).mono ?_;rw[d.out];rintro E K ⟨rfl,a⟩
        have C:=za (H.below a);have g:=za (I.below a I.lt);have k:=za (B.trans (az a B.size));have v:=za (G.below a G.lt);have h:=bJ g.out F.out;rw[i.out]at h;clear a))
     go_ret;exact⟨ag z.out,k⟩
    |true=>
     have d:=za p;clear p;by_cases u:1<j
     ·have Z:(1:Int)<(j:Int):=by omega
      have z:Hid (dY s n=false):=za (rb (k:=b) (by rw[<-m.out];exact l) (by unfold fz;rw[y.out,d.out,A.out,i.out,zg (by omega)];rfl));clear u;go_wp2_with (first
       |(go_at_call 65;refine(dP c _ q.out H.out).mono ?_;rw[d.out];rintro E K ⟨rfl,a⟩
         have C:=za (H.below a);have g:=za (I.below a I.lt);have k:=za (B.trans (az a B.size));have v:=za (G.below a G.lt);have h:=bJ g.out F.out;rw[i.out]at h;clear a))
      go_ret;exact⟨ag z.out,k⟩
     ·have Z:¬(1:Int)<(j:Int):=by omega
      have ad:Hid (fz (aJ s) b=true):=za (by unfold fz;rw[y.out,d.out,A.out,i.out,ze u];rfl);clear u;go_wp2_with (first
       |(go_at_call 65;refine(dP c _ q.out H.out).mono ?_;rw[d.out];rintro E K ⟨rfl,a⟩
         have C:=za (H.below a);have g:=za (I.below a I.lt);have k:=za (B.trans (az a B.size));have v:=za (G.below a G.lt);have h:=bJ g.out F.out;rw[i.out]at h;clear a))
      go_roundw
      case rel=>exact⟨b+1,by go_num,by omega,za (by rw[A.out];exact g),za (λf O=>by
       by_cases e:f=b
       ·subst e;exact ad
       ·exact af.out f (by omega)),v,k,C,rfl⟩
      case measure=>simp[intOf];omega
  ·obtain rfl:b=x:=by omega
   have a5:Hid (∀f,f<(aJ s).length->fz (aJ s) f=true):=za (λf O=>af.out f (by rw[m.out];exact O));clear l bb;by_cases D:(b:Int)=n
   ·have a8:((b:Int)==n)=true:=beq_iff_eq.2 D;have ab:Hid (dY s n=true):=za (by unfold dY;rw[ze a5.out,ze (by rw[<-m.out];exact D)];rfl);clear D;go_wp2_with fail;go_ret;exact⟨ag (by rw[ab.out]),o⟩
   ·have a8:((b:Int)==n)=false:=zh.2 D;have ab:Hid (dY s n=false):=za (by unfold dY;rw[ze a5.out,zg (by rw[<-m.out];exact D)];rfl);clear D;go_wp2_with fail;go_ret;exact⟨ag (by rw[ab.out]),o⟩
end
section
open Go.RowKit Go.Proofs.PeepPlain
def jm(c:UInt8):Option Nat:=if 48<=c.toNat∧c.toNat<=57 then some (c.toNat - 48)else if 97<=c.toNat∧c.toNat<=102 then some (c.toNat - 87)else if 65<=c.toNat∧c.toNat<=70 then some (c.toNat - 55)else none
def eW:Nat->List UInt8->Option Nat
 |n,[]=>some n
 |n,c::r=>match jm c with
  |some d=>eW (16 * n+d) r
  |none=>none
theorem nI:∀(l m:List UInt8) (n:Nat),eW n (l++m)=(eW n l).bind λk=>eW k m
 | [],m,n=>rfl
 |c::l,m,n=>by
  simp only[List.cons_append,eW]
  cases jm c with
  |none=>rfl
  |some d=>exact nI l m _
def Nb{c:UInt8}{d:Nat}(a:jm c=some d):d<16:=by
 unfold jm at a;split at a
 ·injection a with a;omega
 ·split at a
  ·injection a with a;omega
  ·split at a
   ·injection a with a;omega
   ·cases a
theorem sX:∀(l:List UInt8) (n m:Nat),eW n l=some m->m<16 ^ l.length * (n+1)
 | [],n,m,h=>by injection h with h;simp;omega
 |c::l,n,m,h=>by
  simp only[eW]at h
  cases a:jm c with
  |none=>rw[a]at h;cases h
  |some d=>
   rw[a]at h;have b:=sX l _ m h;have e:=Nb a;rw[List.length_cons,Nat.pow_succ,Nat.mul_assoc];refine zv b (Nat.mul_le_mul_left _ ?_);omega
def LQ:∀c:Fin 256,(48<=c.val∧c.val<=57)∨((97<=bits .or .u8 c.val 32∧bits .or .u8 c.val 32<=122)∧(jm (UInt8.ofNat c.val)=some (bits .or .u8 c.val 32 - 97+10).toNat∧bits .or .u8 c.val 32 - 97+10<16∨jm (UInt8.ofNat c.val)=none∧16<=bits .or .u8 c.val 32 - 97+10))∨(¬(97<=bits .or .u8 c.val 32∧bits .or .u8 c.val 32<=122)∧jm (UInt8.ofNat c.val)=none∧0<=bits .or .u8 c.val 32∧bits .or .u8 c.val 32<=255):=by decide+kernel
def LL(c:Int)(j:0<=c)(i:c<=255)(b:UInt8)(g:c=(b.toNat:Int)):∃m:Int,bits .or .u8 c 32=m∧0<=m∧m<=255∧((48<=c∧c<=57)∨((97<=m∧m<=122)∧(jm b=some (m - 97+10).toNat∧m - 97+10<16∨jm b=none∧16<=m - 97+10))∨(¬(97<=m∧m<=122)∧jm b=none)):=by
 have f:b.toNat<256:=b.toNat_lt;have h:UInt8.ofNat b.toNat=b:=by simp
 have d:∀e:Fin 256,0<=bits .or .u8 (e.val:Int) 32∧bits .or .u8 (e.val:Int) 32<=255:=by decide+kernel
 have a:=LQ ⟨b.toNat,f⟩;have d:=d ⟨b.toNat,f⟩;simp only[h]at a d;rw[g];refine⟨_,rfl,d.1,d.2,?_⟩;rcases a with a|a|a
 ·exact .inl (by omega)
 ·exact .inr (.inl a)
 ·exact .inr (.inr ⟨a.1,a.2.1⟩)
def Ir{b:UInt8}(a:48<=b.toNat∧b.toNat<=57):jm b=some (b.toNat - 48):=by unfold jm;rw[zn a]
def rD{l:List UInt8}{k:Nat}(a:k<l.length){n:Nat}(b:eW 0 (l.take k)=some n):eW 0 (l.take (k+1))=(jm l[k]).map λd=>16 * n+d:=by
 rw[List.take_add_one,zo a,nI,b];simp only[Option.bind_some,Option.toList_some,eW]
 cases jm l[k]<;>rfl
def CJ{l:List UInt8}{k:Nat}(a:k<l.length)(b:jm l[k]=none):eW 0 l=none:=by
 have c:l=l.take k++(l[k]::l.drop (k+1)):=by rw[<-List.drop_eq_getElem_cons a,List.take_append_drop]
 rw[c,nI]
 cases eW 0 (l.take k)with
 |none=>rfl
 |some n=>
  simp only[Option.bind_some,eW,b]
def Gn(s:ByteArray)(w:World)(e:Ending)(w':World):Prop:=(∃(a:Nat) (v:Value),e= .returned (.tuple #[.int .u64 a,v])∧a<18446744073709551616∧((v= .nilIface∧s.size≠0∧eW 0 s.data.toList=some a)∨(v= .iface 235 (.int .i64 2)∧(s.size=0∨eW 0 s.data.toList=none))∨(v= .iface 235 (.int .i64 1)∧s.size≠16)))∧zz w w'
def iU{s:ByteArray}{w w':World}(n:Nat)(a:Value)(b:n<18446744073709551616)(d:(a= .nilIface∧s.size≠0∧eW 0 s.data.toList=some n)∨(a= .iface 235 (.int .i64 2)∧(s.size=0∨eW 0 s.data.toList=none))∨(a= .iface 235 (.int .i64 1)∧s.size≠16))(c:zz w w'):Gn s w (.returned (.tuple #[.int .u64 n,a])) w':=⟨⟨n,a,rfl,b,d⟩,c⟩
def rA{k:Nat}(a:k<=15):16 ^ k<=1152921504606846976:=by
 have:=Nat.pow_le_pow_right (show 0<16 by omega) a;simpa using this
set_option maxRecDepth 20000 in
def LF(s:ByteArray)(w:World)(ap:s.size<=2000000):
 Calls prog 170 #[.string s,.int .i64 16,.int .i64 64] w (Gn s w):=by
 by_cases R:s.size=0
 ·obtain rfl:s=⟨#[]⟩:=by
   cases s with
   |mk d=>
    have:d= #[]:=Array.eq_empty_of_size_eq_zero R;rw[this]
  go_enter func170,ntmps170;go_wp2_with fail;go_ret2;exact iU 0 _ (by omega) (.inr (.inl ⟨rfl,.inl rfl⟩)) (zZ _ _)
 ·have bk:=qJ R;have b8:(s.toList==[])=false:=zh.2 bk;have b1:=za R;have b3:=za ap;have bl:IntKind.u64.wrap (IntKind.u64.wrap 18446744073709551616 - 1)=18446744073709551615:=by decide
  obtain⟨z,Y⟩:∃z:Int,z=18446744073709551615:=⟨_,rfl⟩
  rw[<-Y]at bl;have H:=za Y;have V:=Lib.run_convert_string_bytes (P:=prog) w 9 113 5 s underlying9 underlying113 underlying5;have a0:s.data.toList.length=s.size:=by simp
  have a7:=za a0;generalize bp:grownCap w s.size 0 5=cap at V;have i:=za (Lib.bytesWorld_below w 5 s);have a8:=za (Lib.bytesWorld_cell w 5 s);clear R ap Y bp a0;generalize Lib.bytesWorld w 5 s=W at V i a8;go_enter func170,ntmps170;go_wp2_with fail;generalize a5:(1152921504606846976:Int)=CT;have I:=za a5;clear a5;go_loopw [6,7,12,13,15,16,17,101] (λba a9 bb be b7 b6 b5 U bc=> ∃f b:Nat,U= .int .i64 f∧f<=s.size∧be= .int .u64 b∧Hid (eW 0 (s.data.toList.take f)=some b)∧Hid (b<18446744073709551616)∧bb= .bool false∧ba= .int .u64 0∧a9= .nilIface∧bc=W) (λ_ _ _ _ _ _ _ U _=>s.size - (intOf U).toNat)
  case atStart=>exact⟨0,0,rfl,zu _,rfl,za rfl,za (by omega),rfl,rfl,rfl,rfl⟩
  case round=>
   clear V;obtain⟨f,b,rfl,cf,rfl,C,b4,rfl,rfl,rfl,rfl⟩:=hrel;by_cases a1:f<s.size
   ·have cc:(0:Int)<=(f:Int)∧(f:Int)<(s.size:Int):=by omega
    have t:f<s.data.toList.length:=by rw[a7.out];exact a1
    have X:=a8.out f a1;have r:s.data.toList.getD f 0=s.data.toList[f]:=by rw[zd,zo t];rfl
    rw[r]at X;obtain⟨F,p⟩:∃F,F=s.data.toList[f]'t:=⟨_,rfl⟩
    rw[<-p]at X;obtain⟨a,o⟩:∃a:Int,a=(F.toNat:Int):=⟨_,rfl⟩
    rw[<-o]at X;have cb:F.toNat<256:=F.toNat_lt;have a4:(0:Int)<=a∧a<=255:=by omega
    obtain⟨l,n,ca,b9,a3⟩:=LL a a4.1 a4.2 F o;have j:=za n;have T:=za p;have cd:(f:Int)<=2000000:=by have:=b3.out;omega
    by_cases h:48<=a∧a<=57
    ·obtain⟨g,bt⟩:∃g:Nat,a - 48=(g:Int):=⟨(a - 48).toNat,by omega⟩
     have bq:g<=9:=by omega
     have a2:¬(16:Int)<=(g:Int):=by omega
     have bj:(48:Int)<=a:=h.1;have bi:a<=57:=h.2;have S:Hid (jm (s.data.toList[f]'t)=some g):=za (by rw[<-T.out,Ir (by omega)];congr 1;omega);clear a3 h n p o r;by_cases v:(b:Int)<CT
     ·have L:¬CT<=(b:Int):=by omega
      have K:b<1152921504606846976:=by have:=I.out;omega
      obtain⟨e,y⟩:∃e:Nat,(b:Int) * 16=(e:Int):=⟨b * 16,by omega⟩
      have M:e<=18446744073709551600:=by omega
      obtain⟨c,x⟩:∃c:Nat,(e:Int)+(g:Int)=(c:Int):=⟨e+g,by omega⟩
      have ao:IntKind.u64.wrap ((b:Int) * 16)=(e:Int):=by rw[y,IntKind.wrap_u64];omega
      have an:IntKind.u64.wrap ((e:Int)+(g:Int))=(c:Int):=by rw[x,IntKind.wrap_u64];omega
      have av:¬(c:Int)<(e:Int):=by omega
      have ar:¬z<(c:Int):=by have:=H.out;omega
      have A:Hid (eW 0 (s.data.toList.take (f+1))=some c∧c<18446744073709551616):=za ⟨by rw[rD t C.out,S.out];simp only[Option.map_some,Option.some.injEq];omega,by omega⟩;clear y x K M v;go_wp2_with (first
       |fail)
      go_roundw
      case rel=>exact⟨f+1,c,by go_num,by omega,rfl,za A.1,za A.2,rfl,rfl,rfl,trivial⟩
      case measure=>simp[intOf];omega
     ·have L:CT<=(b:Int):=by omega
      have P:Hid (s.size≠16):=za (λE=>by
       have O:=sX _ _ _ C.out;rw[zR]at O;have N:min f s.data.toList.length<=15:=by omega
       have a6:=rA N;have:=I.out;omega)
      have Q:Hid (z=((18446744073709551615:Nat):Int)):=za (by have:=H.out;omega);clear v;go_wp2_with (first
       |fail)
      go_ret2;rw[Q.out];exact iU 18446744073709551615 _ (by omega) (.inr (.inr ⟨rfl,P⟩)) i.out
    ·rcases a3 with Z|⟨m,Z⟩|⟨m,B⟩
     ·exact absurd Z h
     ·obtain⟨G,ch⟩:∃G:Nat,l - 97=(G:Int):=⟨(l - 97).toNat,by omega⟩
      obtain⟨g,bt⟩:∃g:Nat,(G:Int)+10=(g:Int):=⟨G+10,by omega⟩
      have cg:G<=25:=by omega
      have bj:(97:Int)<=l:=m.1;have bi:l<=122:=m.2;have D:¬a=95:=by
       rintro rfl;have:l=127:=by rw[<-n];decide
       omega
      have b0:(a==(95:Int))=false:=zh.2 D;clear D;rcases Z with⟨J,E⟩|⟨J,E⟩
      ·have a2:¬(16:Int)<=(g:Int):=by omega
       have bq:g<=35:=by omega
       have S:Hid (jm (s.data.toList[f]'t)=some g):=za (by rw[<-T.out,J];congr 1;omega);clear m J E n p o r;by_cases af:48<=a
       ·have ad:¬a<=57:=by omega
        clear h;by_cases v:(b:Int)<CT
        ·have L:¬CT<=(b:Int):=by omega
         have K:b<1152921504606846976:=by have:=I.out;omega
         obtain⟨e,y⟩:∃e:Nat,(b:Int) * 16=(e:Int):=⟨b * 16,by omega⟩
         have M:e<=18446744073709551600:=by omega
         obtain⟨c,x⟩:∃c:Nat,(e:Int)+(g:Int)=(c:Int):=⟨e+g,by omega⟩
         have ao:IntKind.u64.wrap ((b:Int) * 16)=(e:Int):=by rw[y,IntKind.wrap_u64];omega
         have an:IntKind.u64.wrap ((e:Int)+(g:Int))=(c:Int):=by rw[x,IntKind.wrap_u64];omega
         have av:¬(c:Int)<(e:Int):=by omega
         have ar:¬z<(c:Int):=by have:=H.out;omega
         have A:Hid (eW 0 (s.data.toList.take (f+1))=some c∧c<18446744073709551616):=za ⟨by rw[rD t C.out,S.out];simp only[Option.map_some,Option.some.injEq];omega,by omega⟩;clear y x K M v;go_wp2_with (first
          |(go_at_call 205;refine(aD a _).mono ?_;rw[j.out];rintro q k ⟨rfl,rfl⟩))
         go_roundw
         case rel=>exact⟨f+1,c,by go_num,by omega,rfl,za A.1,za A.2,rfl,rfl,rfl,trivial⟩
         case measure=>simp[intOf];omega
        ·have L:CT<=(b:Int):=by omega
         have P:Hid (s.size≠16):=za (λE=>by
          have O:=sX _ _ _ C.out;rw[zR]at O;have N:min f s.data.toList.length<=15:=by omega
          have a6:=rA N;have:=I.out;omega)
         have Q:Hid (z=((18446744073709551615:Nat):Int)):=za (by have:=H.out;omega);clear v;go_wp2_with (first
          |(go_at_call 205;refine(aD a _).mono ?_;rw[j.out];rintro q k ⟨rfl,rfl⟩))
         go_ret2;rw[Q.out];exact iU 18446744073709551615 _ (by omega) (.inr (.inr ⟨rfl,P⟩)) i.out
       ·clear h;by_cases v:(b:Int)<CT
        ·have L:¬CT<=(b:Int):=by omega
         have K:b<1152921504606846976:=by have:=I.out;omega
         obtain⟨e,y⟩:∃e:Nat,(b:Int) * 16=(e:Int):=⟨b * 16,by omega⟩
         have M:e<=18446744073709551600:=by omega
         obtain⟨c,x⟩:∃c:Nat,(e:Int)+(g:Int)=(c:Int):=⟨e+g,by omega⟩
         have ao:IntKind.u64.wrap ((b:Int) * 16)=(e:Int):=by rw[y,IntKind.wrap_u64];omega
         have an:IntKind.u64.wrap ((e:Int)+(g:Int))=(c:Int):=by rw[x,IntKind.wrap_u64];omega
         have av:¬(c:Int)<(e:Int):=by omega
         have ar:¬z<(c:Int):=by have:=H.out;omega
         have A:Hid (eW 0 (s.data.toList.take (f+1))=some c∧c<18446744073709551616):=za ⟨by rw[rD t C.out,S.out];simp only[Option.map_some,Option.some.injEq];omega,by omega⟩;clear y x K M v;go_wp2_with (first
          |(go_at_call 205;refine(aD a _).mono ?_;rw[j.out];rintro q k ⟨rfl,rfl⟩))
         go_roundw
         case rel=>exact⟨f+1,c,by go_num,by omega,rfl,za A.1,za A.2,rfl,rfl,rfl,trivial⟩
         case measure=>simp[intOf];omega
        ·have L:CT<=(b:Int):=by omega
         have P:Hid (s.size≠16):=za (λE=>by
          have O:=sX _ _ _ C.out;rw[zR]at O;have N:min f s.data.toList.length<=15:=by omega
          have a6:=rA N;have:=I.out;omega)
         have Q:Hid (z=((18446744073709551615:Nat):Int)):=za (by have:=H.out;omega);clear v;go_wp2_with (first
          |(go_at_call 205;refine(aD a _).mono ?_;rw[j.out];rintro q k ⟨rfl,rfl⟩))
         go_ret2;rw[Q.out];exact iU 18446744073709551615 _ (by omega) (.inr (.inr ⟨rfl,P⟩)) i.out
      ·have a2:(16:Int)<=(g:Int):=by omega
       have u:Hid (eW 0 s.data.toList=none):=za (CJ t (by rw[<-T.out];exact J));clear m J E n p o r;by_cases af:48<=a
       ·have ad:¬a<=57:=by omega
        clear h;go_wp2_with (first
         |(go_at_call 205;refine(aD a _).mono ?_;rw[j.out];rintro q k ⟨rfl,rfl⟩))
        go_ret2;exact iU 0 _ (by omega) (.inr (.inl ⟨rfl,.inr u.out⟩)) i.out
       ·clear h;go_wp2_with (first
         |(go_at_call 205;refine(aD a _).mono ?_;rw[j.out];rintro q k ⟨rfl,rfl⟩))
        go_ret2;exact iU 0 _ (by omega) (.inr (.inl ⟨rfl,.inr u.out⟩)) i.out
     ·have u:Hid (eW 0 s.data.toList=none):=za (CJ t (by rw[<-T.out];exact B));by_cases D:a=95
      ·subst D;by_cases ab:97<=l
       ·have aa:¬l<=122:=by omega
        clear m B n p o r h;go_wp2_with (first
         |(go_at_call 205;refine(aD 95 _).mono ?_;rw[j.out];rintro q k ⟨rfl,rfl⟩))
        go_ret2;exact iU 0 _ (by omega) (.inr (.inl ⟨rfl,.inr u.out⟩)) i.out
       ·clear m B n p o r h;go_wp2_with (first
         |(go_at_call 205;refine(aD 95 _).mono ?_;rw[j.out];rintro q k ⟨rfl,rfl⟩))
        go_ret2;exact iU 0 _ (by omega) (.inr (.inl ⟨rfl,.inr u.out⟩)) i.out
      ·have b0:(a==(95:Int))=false:=zh.2 D;clear D;by_cases af:48<=a
       ·have ad:¬a<=57:=by omega
        by_cases ab:97<=l
        ·have aa:¬l<=122:=by omega
         clear m B n p o r h;go_wp2_with (first
          |(go_at_call 205;refine(aD a _).mono ?_;rw[j.out];rintro q k ⟨rfl,rfl⟩))
         go_ret2;exact iU 0 _ (by omega) (.inr (.inl ⟨rfl,.inr u.out⟩)) i.out
        ·clear m B n p o r h;go_wp2_with (first
          |(go_at_call 205;refine(aD a _).mono ?_;rw[j.out];rintro q k ⟨rfl,rfl⟩))
         go_ret2;exact iU 0 _ (by omega) (.inr (.inl ⟨rfl,.inr u.out⟩)) i.out
       ·by_cases ab:97<=l
        ·have aa:¬l<=122:=by omega
         clear m B n p o r h;go_wp2_with (first
          |(go_at_call 205;refine(aD a _).mono ?_;rw[j.out];rintro q k ⟨rfl,rfl⟩))
         go_ret2;exact iU 0 _ (by omega) (.inr (.inl ⟨rfl,.inr u.out⟩)) i.out
        ·clear m B n p o r h;go_wp2_with (first
          |(go_at_call 205;refine(aD a _).mono ?_;rw[j.out];rintro q k ⟨rfl,rfl⟩))
         go_ret2;exact iU 0 _ (by omega) (.inr (.inl ⟨rfl,.inr u.out⟩)) i.out
   ·have bo:f=s.size:=by omega
    have b2:Hid (eW 0 s.data.toList=some b):=za (by have:=C.out;rwa [List.take_of_length_le (by rw[a7.out];omega)]at this);clear bo;go_wp2_with fail;go_ret2;exact iU b _ b4.out (.inl ⟨rfl,b1.out,b2⟩) i.out
end
section
open Go.RowKit Go.Proofs.PeepPlain
def yq{d:Array Oper}{c:List Oper}{o:Oper}{a:Act}{e:Exit->Act->World->Prop}(m k:Operand)(b:Nat)(s:ByteArray)(l:List ByteArray)(w:World)
 (n:o.guard=none)(h:o.op= .lookup 51 m k false)(i:a.eval m= .map (some b))(j:a.eval k= .string s)(p:dm w b l)(f:s.size<=2000000)
 (r:wpList prog d e c (a.put o.dst (.int .i64 (pY s l:Nat))) w):wpList prog d e (o::c) a w:=by
 refine wpList_plain n λt q=>?_;have g:=bJ p f;unfold Oper.wp;simp[execOp,h,i,j,g,Result.andThen];exact q _ _ r
def wF{e:Array Oper}{d:List Oper}{o:Oper}{a:Act}{f:Exit->Act->World->Prop}(m k c:Operand)(b:Nat)(s:ByteArray)(l:List ByteArray)(w:World)
 (r:o.guard=none)(j:o.op= .mapUpdate 51 m k c)(n:a.eval m= .map (some b))(q:a.eval k= .string s)(g:a.eval c= .int .i64 ((pY s l:Nat)+1))(t:dm w b l)(p:l.length<=2000000)(h:s.size<=2000000)
 (y:∀w',dm w' b (l++ [s])->w.grownBy w' (some b)->wpList prog e f d (a.put o.dst undef) w'):wpList prog e f (o::d) a w:=by
 refine wpList_plain r λz u=>?_;obtain⟨w',i,x,v⟩:=rE t p h;unfold Oper.wp;simp[execOp,j,n,q,g,i,Result.andThen];exact u _ _ (y w' x v)
end
end Go.Proofs.YtmecmlpoallpcaaGreatDoor

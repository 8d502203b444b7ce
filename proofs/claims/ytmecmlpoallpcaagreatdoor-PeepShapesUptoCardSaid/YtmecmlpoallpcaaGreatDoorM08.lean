/- Parts of the proof: NumB NumC -/
import Derived.Test.YtmecmlpoallpcaaGreatDoorM07
import Derived.Deep.RegionHeld3
set_option linter.all false
set_option maxHeartbeats 8000000
namespace Go.Proofs.YtmecmlpoallpcaaGreatDoor
open Go.Proofs.Tryz
section
open Go.RowKit
def QW(t s:ByteArray)(n f d j h l:Int)(r y:Option Addr)(o pc A v:Nat)(b:ByteArray)(a B c i g k:Int)(q x:Option Addr)(m p z u:Nat)(w:World):Calls prog 188 #[.string ⟨#[43]⟩,(aH.mk 2 t n f s d j h l r o pc y A v).val,(aH.mk 2 t a B b c i g k q m p x z u).val] w λe w'=>e= .returned (.tuple #[(mk 2 t (wrap64 (n+a)) 0 ⟨#[]⟩).val,.bool true,.nilIface])∧zz w w':=by
 unfold mk aH.val;go_enter func188,ntmps188;go_wp2;go_quiet (fail);go_wp2;go_returns;refine And.intro rfl ?_;go_grown
 all_goals(with_reducible refine ae ?_ _)
 go_grown
def Qc(t s:ByteArray)(n f d j h l:Int)(r y:Option Addr)(o pc A v:Nat)(b:ByteArray)(a B c i g k:Int)(q x:Option Addr)(m p z u:Nat)(w:World):Calls prog 188 #[.string ⟨#[45]⟩,(aH.mk 2 t n f s d j h l r o pc y A v).val,(aH.mk 2 t a B b c i g k q m p x z u).val] w λe w'=>e= .returned (.tuple #[(mk 2 t (wrap64 (n - a)) 0 ⟨#[]⟩).val,.bool true,.nilIface])∧zz w w':=by
 unfold mk aH.val;go_enter func188,ntmps188;go_wp2;go_quiet (fail);go_wp2;go_returns;refine And.intro rfl ?_;go_grown
 all_goals(with_reducible refine ae ?_ _)
 go_grown
def P7(t s:ByteArray)(n f d j h l:Int)(r y:Option Addr)(o pc A v:Nat)(b:ByteArray)(a B c i g k:Int)(q x:Option Addr)(m p z u:Nat)(w:World):Calls prog 188 #[.string ⟨#[42]⟩,(aH.mk 2 t n f s d j h l r o pc y A v).val,(aH.mk 2 t a B b c i g k q m p x z u).val] w λe w'=>e= .returned (.tuple #[(mk 2 t (wrap64 (n * a)) 0 ⟨#[]⟩).val,.bool true,.nilIface])∧zz w w':=by
 unfold mk aH.val;go_enter func188,ntmps188;go_wp2;go_quiet (fail);go_wp2;go_returns;refine And.intro rfl ?_;go_grown
 all_goals(with_reducible refine ae ?_ _)
 go_grown
def Ql(t s:ByteArray)(n f d j h l:Int)(r y:Option Addr)(o pc A v:Nat)(b:ByteArray)(a B c i g k:Int)(q x:Option Addr)(m p z u:Nat)(w:World):Calls prog 188 #[.string ⟨#[38]⟩,(aH.mk 2 t n f s d j h l r o pc y A v).val,(aH.mk 2 t a B b c i g k q m p x z u).val] w λe w'=>e= .returned (.tuple #[(mk 2 t (bits BinOp.and .i64 n a) 0 ⟨#[]⟩).val,.bool true,.nilIface])∧zz w w':=by
 unfold mk aH.val;go_enter func188,ntmps188;go_wp2;go_quiet (fail);go_wp2;go_returns;refine And.intro rfl ?_;go_grown
 all_goals(with_reducible refine ae ?_ _)
 go_grown
def Rw(t s:ByteArray)(n f d j h l:Int)(r y:Option Addr)(o pc A v:Nat)(b:ByteArray)(a B c i g k:Int)(q x:Option Addr)(m p z u:Nat)(w:World):Calls prog 188 #[.string ⟨#[124]⟩,(aH.mk 2 t n f s d j h l r o pc y A v).val,(aH.mk 2 t a B b c i g k q m p x z u).val] w λe w'=>e= .returned (.tuple #[(mk 2 t (bits BinOp.or .i64 n a) 0 ⟨#[]⟩).val,.bool true,.nilIface])∧zz w w':=by
 unfold mk aH.val;go_enter func188,ntmps188;go_wp2;go_quiet (fail);go_wp2;go_returns;refine And.intro rfl ?_;go_grown
 all_goals(with_reducible refine ae ?_ _)
 go_grown
def QK(t s:ByteArray)(n f d j h l:Int)(r y:Option Addr)(o pc A v:Nat)(b:ByteArray)(a B c i g k:Int)(q x:Option Addr)(m p z u:Nat)(w:World):Calls prog 188 #[.string ⟨#[94]⟩,(aH.mk 2 t n f s d j h l r o pc y A v).val,(aH.mk 2 t a B b c i g k q m p x z u).val] w λe w'=>e= .returned (.tuple #[(mk 2 t (bits BinOp.xor .i64 n a) 0 ⟨#[]⟩).val,.bool true,.nilIface])∧zz w w':=by
 unfold mk aH.val;go_enter func188,ntmps188;go_wp2;go_quiet (fail);go_wp2;go_returns;refine And.intro rfl ?_;go_grown
 all_goals(with_reducible refine ae ?_ _)
 go_grown
def QB(t s:ByteArray)(n f d j h l:Int)(r y:Option Addr)(o pc A v:Nat)(b:ByteArray)(a D c i g k:Int)(q x:Option Addr)(m p z u:Nat)(C:a≠0)(B:a≠ -1)(w:World):Calls prog 188 #[.string ⟨#[47]⟩,(aH.mk 2 t n f s d j h l r o pc y A v).val,(aH.mk 2 t a D b c i g k q m p x z u).val] w λe w'=>e= .returned (.tuple #[(mk 2 t (wrap64 (n.tdiv a)) 0 ⟨#[]⟩).val,.bool true,.nilIface])∧zz w w':=by
 have F:(a==0)=false:=by simp[C]
 have E:(a != -1)=true:=by simp[B]
 unfold mk aH.val;go_enter func188,ntmps188;go_wp2;go_quiet (fail);go_wp2;go_returns;refine And.intro rfl ?_;go_grown
 all_goals(with_reducible refine ae ?_ _)
 go_grown
def QC(t s:ByteArray)(n f d j h l:Int)(r y:Option Addr)(o pc A v:Nat)(b:ByteArray)(a D c i g k:Int)(q x:Option Addr)(m p z u:Nat)(C:a≠0)(B:a≠ -1)(w:World):Calls prog 188 #[.string ⟨#[37]⟩,(aH.mk 2 t n f s d j h l r o pc y A v).val,(aH.mk 2 t a D b c i g k q m p x z u).val] w λe w'=>e= .returned (.tuple #[(mk 2 t (wrap64 (n - wrap64 (wrap64 (n.tdiv a) * a))) 0 ⟨#[]⟩).val,.bool true,.nilIface])∧zz w w':=by
 have F:(a==0)=false:=by simp[C]
 have E:(a != -1)=true:=by simp[B]
 unfold mk aH.val;go_enter func188,ntmps188;go_wp2;go_quiet (fail);go_wp2;go_returns;refine And.intro rfl ?_;go_grown
 all_goals(with_reducible refine ae ?_ _)
 go_grown
def PR(t s:ByteArray)(n f c i g k:Int)(q x:Option Addr)(m pc z u:Nat)(a:ByteArray)(B A b h d j:Int)(p v:Option Addr)(l o y r:Nat)(w:World):Calls prog 188 #[.string ⟨#[47]⟩,(aH.mk 2 t n f s c i g k q m pc x z u).val,(aH.mk 2 t (-1) A a b h d j p l o v y r).val] w λe w'=>e= .returned (.tuple #[(mk 2 t (wrap64 (-n)) 0 ⟨#[]⟩).val,.bool true,.nilIface])∧zz w w':=by
 unfold mk aH.val;go_enter func188,ntmps188;go_wp2;go_quiet (fail);go_wp2;go_returns;refine And.intro rfl ?_;go_grown
 all_goals(with_reducible refine ae ?_ _)
 go_grown
def PM(t s:ByteArray)(n f c i g k:Int)(q x:Option Addr)(m pc z u:Nat)(a:ByteArray)(B A b h d j:Int)(p v:Option Addr)(l o y r:Nat)(w:World):Calls prog 188 #[.string ⟨#[37]⟩,(aH.mk 2 t n f s c i g k q m pc x z u).val,(aH.mk 2 t (-1) A a b h d j p l o v y r).val] w λe w'=>e= .returned (.tuple #[(mk 2 t (wrap64 (n - wrap64 (-wrap64 (-n)))) 0 ⟨#[]⟩).val,.bool true,.nilIface])∧zz w w':=by
 unfold mk aH.val;go_enter func188,ntmps188;go_wp2;go_quiet (fail);go_wp2;go_returns;refine And.intro rfl ?_;go_grown
 all_goals(with_reducible refine ae ?_ _)
 go_grown
def QE(t s:ByteArray)(n f d j h l:Int)(r y:Option Addr)(o pc A v:Nat)(b:ByteArray)(a B c i g k:Int)(q x:Option Addr)(m p z u:Nat)(C:0<=a)(w:World):Calls prog 188 #[.string ⟨#[60,60]⟩,(aH.mk 2 t n f s d j h l r o pc y A v).val,(aH.mk 2 t a B b c i g k q m p x z u).val] w λe w'=>e= .returned (.tuple #[(mk 2 t (wrap64 (n * 2 ^ (min a 64).toNat)) 0 ⟨#[]⟩).val,.bool true,.nilIface])∧zz w w':=by
 unfold mk aH.val;go_enter func188,ntmps188;go_wp2;go_quiet (fail);go_wp2
 all_goals
  go_returns;refine And.intro rfl ?_;go_grown
  all_goals(with_reducible refine ae ?_ _)
  go_grown
def Qr(t s:ByteArray)(n f d j h l:Int)(r y:Option Addr)(o pc A v:Nat)(b:ByteArray)(a B c i g k:Int)(q x:Option Addr)(m p z u:Nat)(C:0<=a)(w:World):Calls prog 188 #[.string ⟨#[62,62]⟩,(aH.mk 2 t n f s d j h l r o pc y A v).val,(aH.mk 2 t a B b c i g k q m p x z u).val] w λe w'=>e= .returned (.tuple #[(mk 2 t (n / 2 ^ (min a 63).toNat) 0 ⟨#[]⟩).val,.bool true,.nilIface])∧zz w w':=by
 unfold mk aH.val;go_enter func188,ntmps188;go_wp2;go_quiet (fail);go_wp2
 all_goals
  go_returns;refine And.intro rfl ?_;go_grown
  all_goals(with_reducible refine ae ?_ _)
  go_grown
def PF(t s:ByteArray)(n f g k i m:Int)(u z:Option Addr)(p pc B x:Nat)(c:ByteArray)(a C d j h l:Int)(r y:Option Addr)(o q A v:Nat)(b:n<a)(w:World):Calls prog 188 #[.string ⟨#[60]⟩,(aH.mk 2 t n f s g k i m u p pc z B x).val,(aH.mk 2 t a C c d j h l r o q y A v).val] w λe w'=>e= .returned (.tuple #[(mk 1 ⟨#[98,111,111,108]⟩ 1 0 ⟨#[]⟩).val,.bool true,.nilIface])∧zz w w':=by
 have D:decide (n<a)=true:=ze b;clear b;unfold mk aH.val;go_enter func188,ntmps188;go_wp2;go_quiet (fail);go_wp2;go_returns;refine And.intro rfl ?_;go_grown
 all_goals(with_reducible refine ae ?_ _)
 go_grown
def OQ(t s:ByteArray)(n f d j h l:Int)(r y:Option Addr)(o pc A v:Nat)(b:ByteArray)(a C c i g k:Int)(q x:Option Addr)(m p z u:Nat)(B:n=a)(w:World):Calls prog 188 #[.string ⟨#[60]⟩,(aH.mk 2 t n f s d j h l r o pc y A v).val,(aH.mk 2 t a C b c i g k q m p x z u).val] w λe w'=>e= .returned (.tuple #[(mk 1 ⟨#[98,111,111,108]⟩ 0 0 ⟨#[]⟩).val,.bool true,.nilIface])∧zz w w':=by
 subst B;unfold mk aH.val;go_enter func188,ntmps188;go_wp2;go_quiet (fail);go_wp2;go_returns;refine And.intro rfl ?_;go_grown
 all_goals(with_reducible refine ae ?_ _)
 go_grown
def PE(t s:ByteArray)(n f g k i m:Int)(u z:Option Addr)(p pc B x:Nat)(c:ByteArray)(a C d j h l:Int)(r y:Option Addr)(o q A v:Nat)(b:a<n)(w:World):Calls prog 188 #[.string ⟨#[60]⟩,(aH.mk 2 t n f s g k i m u p pc z B x).val,(aH.mk 2 t a C c d j h l r o q y A v).val] w λe w'=>e= .returned (.tuple #[(mk 1 ⟨#[98,111,111,108]⟩ 0 0 ⟨#[]⟩).val,.bool true,.nilIface])∧zz w w':=by
 have F:decide (n<a)=false:=zg (by omega);have E:decide (a<n)=true:=ze b;have D:¬n<a:=by omega
 clear b;unfold mk aH.val;go_enter func188,ntmps188;go_wp2;go_quiet (fail);go_wp2;go_returns;refine And.intro rfl ?_;go_grown
 all_goals(with_reducible refine ae ?_ _)
 go_grown
def OU(t s:ByteArray)(n f g k i m:Int)(u z:Option Addr)(p pc B x:Nat)(c:ByteArray)(a C d j h l:Int)(r y:Option Addr)(o q A v:Nat)(b:n<a)(w:World):Calls prog 188 #[.string ⟨#[60,61]⟩,(aH.mk 2 t n f s g k i m u p pc z B x).val,(aH.mk 2 t a C c d j h l r o q y A v).val] w λe w'=>e= .returned (.tuple #[(mk 1 ⟨#[98,111,111,108]⟩ 1 0 ⟨#[]⟩).val,.bool true,.nilIface])∧zz w w':=by
 have D:decide (n<a)=true:=ze b;clear b;unfold mk aH.val;go_enter func188,ntmps188;go_wp2;go_quiet (fail);go_wp2;go_returns;refine And.intro rfl ?_;go_grown
 all_goals(with_reducible refine ae ?_ _)
 go_grown
def OY(t s:ByteArray)(n f d j h l:Int)(r y:Option Addr)(o pc A v:Nat)(b:ByteArray)(a C c i g k:Int)(q x:Option Addr)(m p z u:Nat)(B:n=a)(w:World):Calls prog 188 #[.string ⟨#[60,61]⟩,(aH.mk 2 t n f s d j h l r o pc y A v).val,(aH.mk 2 t a C b c i g k q m p x z u).val] w λe w'=>e= .returned (.tuple #[(mk 1 ⟨#[98,111,111,108]⟩ 1 0 ⟨#[]⟩).val,.bool true,.nilIface])∧zz w w':=by
 subst B;unfold mk aH.val;go_enter func188,ntmps188;go_wp2;go_quiet (fail);go_wp2;go_returns;refine And.intro rfl ?_;go_grown
 all_goals(with_reducible refine ae ?_ _)
 go_grown
def PA(t s:ByteArray)(n f g k i m:Int)(u z:Option Addr)(p pc B x:Nat)(c:ByteArray)(a C d j h l:Int)(r y:Option Addr)(o q A v:Nat)(b:a<n)(w:World):Calls prog 188 #[.string ⟨#[60,61]⟩,(aH.mk 2 t n f s g k i m u p pc z B x).val,(aH.mk 2 t a C c d j h l r o q y A v).val] w λe w'=>e= .returned (.tuple #[(mk 1 ⟨#[98,111,111,108]⟩ 0 0 ⟨#[]⟩).val,.bool true,.nilIface])∧zz w w':=by
 have F:decide (n<a)=false:=zg (by omega);have E:decide (a<n)=true:=ze b;have D:¬n<a:=by omega
 clear b;unfold mk aH.val;go_enter func188,ntmps188;go_wp2;go_quiet (fail);go_wp2;go_returns;refine And.intro rfl ?_;go_grown
 all_goals(with_reducible refine ae ?_ _)
 go_grown
def OE(t s:ByteArray)(n f g k i m:Int)(u z:Option Addr)(p pc B x:Nat)(c:ByteArray)(a C d j h l:Int)(r y:Option Addr)(o q A v:Nat)(b:n<a)(w:World):Calls prog 188 #[.string ⟨#[62]⟩,(aH.mk 2 t n f s g k i m u p pc z B x).val,(aH.mk 2 t a C c d j h l r o q y A v).val] w λe w'=>e= .returned (.tuple #[(mk 1 ⟨#[98,111,111,108]⟩ 0 0 ⟨#[]⟩).val,.bool true,.nilIface])∧zz w w':=by
 have D:decide (n<a)=true:=ze b;clear b;unfold mk aH.val;go_enter func188,ntmps188;go_wp2;go_quiet (fail);go_wp2;go_returns;refine And.intro rfl ?_;go_grown
 all_goals(with_reducible refine ae ?_ _)
 go_grown
def Pw(t s:ByteArray)(n f d j h l:Int)(r y:Option Addr)(o pc A v:Nat)(b:ByteArray)(a C c i g k:Int)(q x:Option Addr)(m p z u:Nat)(B:n=a)(w:World):Calls prog 188 #[.string ⟨#[62]⟩,(aH.mk 2 t n f s d j h l r o pc y A v).val,(aH.mk 2 t a C b c i g k q m p x z u).val] w λe w'=>e= .returned (.tuple #[(mk 1 ⟨#[98,111,111,108]⟩ 0 0 ⟨#[]⟩).val,.bool true,.nilIface])∧zz w w':=by
 subst B;unfold mk aH.val;go_enter func188,ntmps188;go_wp2;go_quiet (fail);go_wp2;go_returns;refine And.intro rfl ?_;go_grown
 all_goals(with_reducible refine ae ?_ _)
 go_grown
def OI(t s:ByteArray)(n f g k i m:Int)(u z:Option Addr)(p pc B x:Nat)(c:ByteArray)(a C d j h l:Int)(r y:Option Addr)(o q A v:Nat)(b:a<n)(w:World):Calls prog 188 #[.string ⟨#[62]⟩,(aH.mk 2 t n f s g k i m u p pc z B x).val,(aH.mk 2 t a C c d j h l r o q y A v).val] w λe w'=>e= .returned (.tuple #[(mk 1 ⟨#[98,111,111,108]⟩ 1 0 ⟨#[]⟩).val,.bool true,.nilIface])∧zz w w':=by
 have F:decide (n<a)=false:=zg (by omega);have E:decide (a<n)=true:=ze b;have D:¬n<a:=by omega
 clear b;unfold mk aH.val;go_enter func188,ntmps188;go_wp2;go_quiet (fail);go_wp2;go_returns;refine And.intro rfl ?_;go_grown
 all_goals(with_reducible refine ae ?_ _)
 go_grown
def Ow(t s:ByteArray)(n f g k i m:Int)(u z:Option Addr)(p pc B x:Nat)(c:ByteArray)(a C d j h l:Int)(r y:Option Addr)(o q A v:Nat)(b:n<a)(w:World):Calls prog 188 #[.string ⟨#[62,61]⟩,(aH.mk 2 t n f s g k i m u p pc z B x).val,(aH.mk 2 t a C c d j h l r o q y A v).val] w λe w'=>e= .returned (.tuple #[(mk 1 ⟨#[98,111,111,108]⟩ 0 0 ⟨#[]⟩).val,.bool true,.nilIface])∧zz w w':=by
 have D:decide (n<a)=true:=ze b;clear b;unfold mk aH.val;go_enter func188,ntmps188;go_wp2;go_quiet (fail);go_wp2;go_returns;refine And.intro rfl ?_;go_grown
 all_goals(with_reducible refine ae ?_ _)
 go_grown
def PS(t s:ByteArray)(n f d j h l:Int)(r y:Option Addr)(o pc A v:Nat)(b:ByteArray)(a C c i g k:Int)(q x:Option Addr)(m p z u:Nat)(B:n=a)(w:World):Calls prog 188 #[.string ⟨#[62,61]⟩,(aH.mk 2 t n f s d j h l r o pc y A v).val,(aH.mk 2 t a C b c i g k q m p x z u).val] w λe w'=>e= .returned (.tuple #[(mk 1 ⟨#[98,111,111,108]⟩ 1 0 ⟨#[]⟩).val,.bool true,.nilIface])∧zz w w':=by
 subst B;unfold mk aH.val;go_enter func188,ntmps188;go_wp2;go_quiet (fail);go_wp2;go_returns;refine And.intro rfl ?_;go_grown
 all_goals(with_reducible refine ae ?_ _)
 go_grown
def PJ(t s:ByteArray)(n f g k i m:Int)(u z:Option Addr)(p pc B x:Nat)(c:ByteArray)(a C d j h l:Int)(r y:Option Addr)(o q A v:Nat)(b:a<n)(w:World):Calls prog 188 #[.string ⟨#[62,61]⟩,(aH.mk 2 t n f s g k i m u p pc z B x).val,(aH.mk 2 t a C c d j h l r o q y A v).val] w λe w'=>e= .returned (.tuple #[(mk 1 ⟨#[98,111,111,108]⟩ 1 0 ⟨#[]⟩).val,.bool true,.nilIface])∧zz w w':=by
 have F:decide (n<a)=false:=zg (by omega);have E:decide (a<n)=true:=ze b;have D:¬n<a:=by omega
 clear b;unfold mk aH.val;go_enter func188,ntmps188;go_wp2;go_quiet (fail);go_wp2;go_returns;refine And.intro rfl ?_;go_grown
 all_goals(with_reducible refine ae ?_ _)
 go_grown
def OG(op:ByteArray)(t s:ByteArray)(n f g k i m:Int)(u z:Option Addr)(p pc B x:Nat)(c:ByteArray)(a C d j h l:Int)(r y:Option Addr)(o q A v:Nat)(Q:(op.toList==[43])=false)(P:(op.toList==[45])=false)(K:(op.toList==[42])=false)(J:(op.toList==[47])=false)(I:(op.toList==[37])=false)(H:(op.toList==[38])=false)(G:(op.toList==[124])=false)(F:(op.toList==[94])=false)(E:(op.toList==[60,60])=false)(D:(op.toList==[62,62])=false)(O:(op.toList==[60,61])=false)(N:(op.toList==[60])=false)(M:(op.toList==[62,61])=false)(L:(op.toList==[62])=false)(b:n<a)(w:World):Calls prog 188 #[.string op,(aH.mk 2 t n f s g k i m u p pc z B x).val,(aH.mk 2 t a C c d j h l r o q y A v).val] w λe w'=>e= .returned (.tuple #[(mk 1 ⟨#[98,111,111,108]⟩ 0 0 ⟨#[]⟩).val,.bool false,.nilIface])∧zz w w':=by
 have R:decide (n<a)=true:=ze b;clear b;unfold mk aH.val;go_enter func188,ntmps188;go_wp2;go_quiet (fail);go_wp2;go_returns;refine And.intro rfl ?_;go_grown
 all_goals(with_reducible refine ae ?_ _)
 go_grown
def P0(op:ByteArray)(t s:ByteArray)(n f g k i m:Int)(u z:Option Addr)(p pc B x:Nat)(c:ByteArray)(a C d j h l:Int)(r y:Option Addr)(o q A v:Nat)(Q:(op.toList==[43])=false)(P:(op.toList==[45])=false)(K:(op.toList==[42])=false)(J:(op.toList==[47])=false)(I:(op.toList==[37])=false)(H:(op.toList==[38])=false)(G:(op.toList==[124])=false)(F:(op.toList==[94])=false)(E:(op.toList==[60,60])=false)(D:(op.toList==[62,62])=false)(O:(op.toList==[60,61])=false)(N:(op.toList==[60])=false)(M:(op.toList==[62,61])=false)(L:(op.toList==[62])=false)(b:a<n)(w:World):Calls prog 188 #[.string op,(aH.mk 2 t n f s g k i m u p pc z B x).val,(aH.mk 2 t a C c d j h l r o q y A v).val] w λe w'=>e= .returned (.tuple #[(mk 1 ⟨#[98,111,111,108]⟩ 0 0 ⟨#[]⟩).val,.bool false,.nilIface])∧zz w w':=by
 have T:decide (n<a)=false:=zg (by omega);have S:decide (a<n)=true:=ze b;have R:¬n<a:=by omega
 clear b;unfold mk aH.val;go_enter func188,ntmps188;go_wp2;go_quiet (fail);go_wp2;go_returns;refine And.intro rfl ?_;go_grown
 all_goals(with_reducible refine ae ?_ _)
 go_grown
def OR(op:ByteArray)(t s:ByteArray)(n f d j h l:Int)(r y:Option Addr)(o pc A v:Nat)(b:ByteArray)(a C c i g k:Int)(q x:Option Addr)(m p z u:Nat)(Q:(op.toList==[43])=false)(P:(op.toList==[45])=false)(K:(op.toList==[42])=false)(J:(op.toList==[47])=false)(I:(op.toList==[37])=false)(H:(op.toList==[38])=false)(G:(op.toList==[124])=false)(F:(op.toList==[94])=false)(E:(op.toList==[60,60])=false)(D:(op.toList==[62,62])=false)(O:(op.toList==[60,61])=false)(N:(op.toList==[60])=false)(M:(op.toList==[62,61])=false)(L:(op.toList==[62])=false)(B:n=a)(w:World):Calls prog 188 #[.string op,(aH.mk 2 t n f s d j h l r o pc y A v).val,(aH.mk 2 t a C b c i g k q m p x z u).val] w λe w'=>e= .returned (.tuple #[(mk 1 ⟨#[98,111,111,108]⟩ 0 0 ⟨#[]⟩).val,.bool false,.nilIface])∧zz w w':=by
 subst B;unfold mk aH.val;go_enter func188,ntmps188;go_wp2;go_quiet (fail);go_wp2;go_returns;refine And.intro rfl ?_;go_grown
 all_goals(with_reducible refine ae ?_ _)
 go_grown
end
section
open Go.RowKit
def ay{B:Nat}{a w:World}(b:Below B a w):Below B a w.drew:=⟨b.os,b.tape,b.output,b.size,b.block⟩
def oU{b a:World}{k:Nat}{os:Array Obj}(c:a=Go.Sort.grow (b.drewN k) os):zz b a:=by
 subst c;exact Lib.below_grow _ _ (zb _) k os
def lj{w:World}{g:Nat}{l k i h f e d c b a j v0 v1 v2 v3 v4 v5 v6 v7 v8 v9 v10:Value}(m:ah w g 131 [l,k,i,h,f,e,d,c,b,a,j]):
 ah (((((((((((w.setCell ⟨g,0,none⟩ v0).setCell ⟨g,1,none⟩ v1).setCell ⟨g,2,none⟩ v2).setCell ⟨g,3,none⟩ v3).setCell ⟨g,4,none⟩ v4).setCell ⟨g,5,none⟩ v5).setCell ⟨g,6,none⟩ v6).setCell ⟨g,7,none⟩ v7).setCell ⟨g,8,none⟩ v8).setCell ⟨g,9,none⟩ v9).setCell ⟨g,10,none⟩ v10) g 131 [v0,v1,v2,v3,v4,v5,v6,v7,v8,v9,v10]:=by
 have:=((((((((((m.set 0 v0).set 1 v1).set 2 v2).set 3 v3).set 4 v4).set 5 v5).set 6 v6).set 7 v7).set 8 v8).set 9 v9).set 10 v10;simpa using this
def KN{w:World}{g k:Nat}{t:TypeId}{b:List Value}{v0 v1 v2 v3 v4 v5 v6 v7 v8 v9 v10:Value}(c:ah w k t b)(a:k≠g):ah (((((((((((w.setCell ⟨g,0,none⟩ v0).setCell ⟨g,1,none⟩ v1).setCell ⟨g,2,none⟩ v2).setCell ⟨g,3,none⟩ v3).setCell ⟨g,4,none⟩ v4).setCell ⟨g,5,none⟩ v5).setCell ⟨g,6,none⟩ v6).setCell ⟨g,7,none⟩ v7).setCell ⟨g,8,none⟩ v8).setCell ⟨g,9,none⟩ v9).setCell ⟨g,10,none⟩ v10) k t b:=
 (((((((((((c.setFar a _).setFar a _).setFar a _).setFar a _).setFar a _).setFar a _).setFar a _).setFar a _).setFar a _).setFar a _).setFar a _)
def fg{a w:World}{g B:Nat}{v0 v1 v2 v3 v4 v5 v6 v7 v8 v9 v10:Value}(c:Below B a w)(b:B<=g):Below B a (((((((((((w.setCell ⟨g,0,none⟩ v0).setCell ⟨g,1,none⟩ v1).setCell ⟨g,2,none⟩ v2).setCell ⟨g,3,none⟩ v3).setCell ⟨g,4,none⟩ v4).setCell ⟨g,5,none⟩ v5).setCell ⟨g,6,none⟩ v6).setCell ⟨g,7,none⟩ v7).setCell ⟨g,8,none⟩ v8).setCell ⟨g,9,none⟩ v9).setCell ⟨g,10,none⟩ v10):=
 (((((((((((c.setCell b _).setCell b _).setCell b _).setCell b _).setCell b _).setCell b _).setCell b _).setCell b _).setCell b _).setCell b _).setCell b _)
def jY:ByteArray:=⟨#[99,111,117,110,116]⟩
def lk:ByteArray:=⟨#[100,105,118,105,100,101]⟩
def Ou(t s:ByteArray)(n f u z x B:Int)(G L:Option Addr)(D pc N J:Nat)(q:ByteArray)(S R r y v A:Int)(F K:Option Addr)(C E M I:Nat)(w:World):Calls prog 188 #[.string ⟨#[47]⟩,(aH.mk 2 t n f s u z x B G D pc L N J).val,(aH.mk 2 t 0 R q r y v A F C E K M I).val] w λe w'=> ∃g,e= .returned (.tuple #[aS.val,.bool false,g])∧eu w w' g lk ⟨#[]⟩∧zz w w':=by
 unfold aS mk aH.val;go_enter func188,ntmps188;go_wp2_with fail;go_quiet (fail);go_wp2_with (first
  |(go_at_call 184;refine(jP _ _ _).mono ?_;rintro U b ⟨a,rfl,j,i,c⟩
    have m:Hid (ah b (w.heap.size+1+1) 131 aG):=(ah.drewN (bh w _ _ 131 aG) _).below c (by simp);have d:Hid (zz w b):=ac (ae (bG w _ _ _) _) c (by simp;omega);have o:=za i;have T:w.heap.size+1+1<a:=by simp at j;omega
    clear i c j)
  |(have H:=d.size;refine bL (.tmp 6) (.tmp 55) (w.heap.size+1+1) aG aS.cells b rfl rfl rfl rfl m.out rfl rfl rfl ?_;intro p h l k
    have Q:=za (d.trans (l _ (by omega)));have O:=za h;have P:Hid (ah p a 139 [.string lk,.string ⟨#[]⟩]):=(k a (by omega)).trans o.out;clear H d m l h k o))
 refine bodyPost_ret (oE rfl _ _ (w.heap.size+1+1) _ rfl O.out rfl) rfl ⟨_,rfl,⟨a,rfl,by omega,P.out⟩,Q.out⟩
def OT(t s:ByteArray)(n f u z x B:Int)(G L:Option Addr)(D pc N J:Nat)(q:ByteArray)(S R r y v A:Int)(F K:Option Addr)(C E M I:Nat)(w:World):Calls prog 188 #[.string ⟨#[37]⟩,(aH.mk 2 t n f s u z x B G D pc L N J).val,(aH.mk 2 t 0 R q r y v A F C E K M I).val] w λe w'=> ∃g,e= .returned (.tuple #[aS.val,.bool false,g])∧eu w w' g lk ⟨#[]⟩∧zz w w':=by
 unfold aS mk aH.val;go_enter func188,ntmps188;go_wp2_with fail;go_quiet (fail);go_wp2_with (first
  |(go_at_call 184;refine(jP _ _ _).mono ?_;rintro U b ⟨a,rfl,j,i,c⟩
    have m:Hid (ah b (w.heap.size+1+1) 131 aG):=(ah.drewN (bh w _ _ 131 aG) _).below c (by simp);have d:Hid (zz w b):=ac (ae (bG w _ _ _) _) c (by simp;omega);have o:=za i;have T:w.heap.size+1+1<a:=by simp at j;omega
    clear i c j)
  |(have H:=d.size;refine bL (.tmp 6) (.tmp 55) (w.heap.size+1+1) aG aS.cells b rfl rfl rfl rfl m.out rfl rfl rfl ?_;intro p h l k
    have Q:=za (d.trans (l _ (by omega)));have O:=za h;have P:Hid (ah p a 139 [.string lk,.string ⟨#[]⟩]):=(k a (by omega)).trans o.out;clear H d m l h k o))
 refine bodyPost_ret (oE rfl _ _ (w.heap.size+1+1) _ rfl O.out rfl) rfl ⟨_,rfl,⟨a,rfl,by omega,P.out⟩,Q.out⟩
def Py(t s:ByteArray)(n f H L J N:Int)(S X:Option Addr)(P pc Z V:Nat)(F:ByteArray)(a ad G K I M:Int)(R W:Option Addr)(O Q Y U:Nat)(w:World)(A: -9223372036854775808<=a∧a<=9223372036854775807)(ab:a<0)(r:Lib.TabIs prog w "internal/strconv.uint64pow10" .u64 Lib.pow10Tab):Calls prog 188 #[.string ⟨#[60,60]⟩,(aH.mk 2 t n f s H L J N S P pc X Z V).val,(aH.mk 2 t a ad F G K I M R O Q W Y U).val] w λe w'=> ∃p,e= .returned (.tuple #[aS.val,.bool false,p])∧eu w w' p jY ⟨(Lib.itoa a).toArray⟩∧zz w w':=by
 have C:=za (Lib.tabBelow_of_tabIs r);have D:=za λh (hW:zz w h)=>fB a A.1 (by omega) h (C.out h hW);have a0:decide (a<0)=true:=ze ab;generalize(⟨(Lib.itoa a).toArray⟩:ByteArray)=m at *
 clear A r C;unfold aS mk aH.val;go_enter func188,ntmps188;go_wp2_with fail;go_quiet (fail);go_wp2_with (first
  |(go_at_call 66;refine(D.out _ ?hW).mono ?_
    case hW=>exact ae (bG w _ _ _) _
    rintro af o ⟨rfl,av,ar,q⟩;have g:=oU q;have c:Hid (ah o (w.heap.size+1+1) 131 aG):=(ah.drewN (bh w _ _ 131 aG) _).below g (by simp);have j:Hid (zz w o):=ac (ae (bG w _ _ _) _) g (by simp<;>omega);clear q g D)
  |(go_at_call 184;refine(jP _ _ _).mono ?_;rintro af l ⟨b,rfl,aa,v,d⟩
    have B:Hid (ah l (w.heap.size+1+1) 131 aG):=c.below d c.lt;have i:Hid (zz w l):=ac j.out d j.size;have E:=za v;have x:Hid (w.heap.size+1+1<b):=za (by have:=c.lt;omega);clear v d aa c j)
  |(have T:=i.size;refine bL (.tmp 6) (.tmp 92) (w.heap.size+1+1) aG aS.cells _ rfl rfl rfl rfl B.out rfl rfl rfl ?_;intro k u z y
    have ap:Hid (zz w k):=i.trans (z _ (by omega));have an:=za u;have ao:Hid (ah k b 139 _):=(y b (by have:=x.out;omega)).trans E.out;clear T i B z u y E))
 exact bodyPost_ret (oE rfl _ _ (w.heap.size+1+1) _ rfl an.out rfl) rfl ⟨_,rfl,⟨b,rfl,by have:=x.out;omega,ao⟩,ap⟩
def OF(t s:ByteArray)(n f H L J N:Int)(S X:Option Addr)(P pc Z V:Nat)(F:ByteArray)(a ad G K I M:Int)(R W:Option Addr)(O Q Y U:Nat)(w:World)(A: -9223372036854775808<=a∧a<=9223372036854775807)(ab:a<0)(r:Lib.TabIs prog w "internal/strconv.uint64pow10" .u64 Lib.pow10Tab):Calls prog 188 #[.string ⟨#[62,62]⟩,(aH.mk 2 t n f s H L J N S P pc X Z V).val,(aH.mk 2 t a ad F G K I M R O Q W Y U).val] w λe w'=> ∃p,e= .returned (.tuple #[aS.val,.bool false,p])∧eu w w' p jY ⟨(Lib.itoa a).toArray⟩∧zz w w':=by
 have C:=za (Lib.tabBelow_of_tabIs r);have D:=za λh (hW:zz w h)=>fB a A.1 (by omega) h (C.out h hW);have a0:decide (a<0)=true:=ze ab;generalize(⟨(Lib.itoa a).toArray⟩:ByteArray)=m at *
 clear A r C;unfold aS mk aH.val;go_enter func188,ntmps188;go_wp2_with fail;go_quiet (fail);go_wp2_with (first
  |(go_at_call 66;refine(D.out _ ?hW).mono ?_
    case hW=>exact ae (bG w _ _ _) _
    rintro af o ⟨rfl,av,ar,q⟩;have g:=oU q;have c:Hid (ah o (w.heap.size+1+1) 131 aG):=(ah.drewN (bh w _ _ 131 aG) _).below g (by simp);have j:Hid (zz w o):=ac (ae (bG w _ _ _) _) g (by simp<;>omega);clear q g D)
  |(go_at_call 184;refine(jP _ _ _).mono ?_;rintro af l ⟨b,rfl,aa,v,d⟩
    have B:Hid (ah l (w.heap.size+1+1) 131 aG):=c.below d c.lt;have i:Hid (zz w l):=ac j.out d j.size;have E:=za v;have x:Hid (w.heap.size+1+1<b):=za (by have:=c.lt;omega);clear v d aa c j)
  |(have T:=i.size;refine bL (.tmp 6) (.tmp 92) (w.heap.size+1+1) aG aS.cells _ rfl rfl rfl rfl B.out rfl rfl rfl ?_;intro k u z y
    have ap:Hid (zz w k):=i.trans (z _ (by omega));have an:=za u;have ao:Hid (ah k b 139 _):=(y b (by have:=x.out;omega)).trans E.out;clear T i B z u y E))
 exact bodyPost_ret (oE rfl _ _ (w.heap.size+1+1) _ rfl an.out rfl) rfl ⟨_,rfl,⟨b,rfl,by have:=x.out;omega,ao⟩,ap⟩
def dk(op:ByteArray)(t s:ByteArray)(n f h l j o:Int)(v B:Option Addr)(q pc D z:Nat)(c:ByteArray)(x H g k i m:Int)(u A:Option Addr)(p r C y:Nat)(d:aH)(is:Bool)(w:World)
 (F:∀w,Calls prog 188 #[.string op,(aH.mk 2 t n f s h l j o v q pc B D z).val,(aH.mk 2 t x H c g k i m u p r A C y).val] w λe w'=>e= .returned (.tuple #[d.val,.bool is,.nilIface])∧zz w w'):
 Calls prog 156 #[.string op,(aH.mk 2 t n f s h l j o v q pc B D z).val,(aH.mk 2 t x H c g k i m u p r A C y).val] w λe w'=>e= .returned (.tuple #[d.val,.bool is,.nilIface])∧zz w w':=by
 have J:=za F;clear F;unfold aH.val at *
 go_enter func156,ntmps156;go_wp2_with (first
  |(go_at_call 188;refine(J.out _).mono ?_;rintro P b ⟨rfl,a⟩
    have I:Hid (ah b (w.heap.size+1+1) 131 aG):=(bh w _ _ 131 aG).below a (by simp);have K:Hid (zz w b):=ac (bG w _ _ _) a (by simp<;>omega);clear a J)
  |(refine bL (.tmp 6) (.tmp 22) (w.heap.size+1+1) aG d.cells _ rfl rfl rfl rfl I.out rfl rfl rfl ?_;intro L E G M
    have O:Hid (zz w L):=K.trans (G _ (by omega));have N:=za E;clear K I G E M))
 exact bodyPost_ret (oE rfl _ _ (w.heap.size+1+1) _ rfl N.out rfl) rfl ⟨rfl,O⟩
def tr(op x d:ByteArray)(t s:ByteArray)(n f l q o u:Int)(B G:Option Addr)(y pc I E:Nat)(j:ByteArray)(C Q k p m r:Int)(A F:Option Addr)(v z H D:Nat)(w:World)
 (O:∀c,zz w c->Calls prog 188 #[.string op,(aH.mk 2 t n f s l q o u B y pc G I E).val,(aH.mk 2 t C Q j k p m r A v z F H D).val] c λe w'=> ∃a,e= .returned (.tuple #[aS.val,.bool false,a])∧eu c w' a x d∧zz c w'):
 Calls prog 156 #[.string op,(aH.mk 2 t n f s l q o u B y pc G I E).val,(aH.mk 2 t C Q j k p m r A v z F H D).val] w λe w'=> ∃a,e= .returned (.tuple #[aS.val,.bool false,a])∧eu w w' a x d∧zz w w':=by
 have S:=za O;clear O;unfold aS mk aH.val at *
 go_enter func156,ntmps156;go_wp2_with (first
  |(go_at_call 188;refine(S.out _ ?hW).mono ?_
    case hW=>exact bG w _ _ _
    rintro Y i ⟨a,rfl,⟨b,rfl,M,K⟩,g⟩;have R:Hid (ah i (w.heap.size+1+1) 131 aG):=(bh w _ _ 131 aG).below g (by simp);have U:Hid (zz w i):=ac (bG w _ _ _) g (by simp<;>omega);have T:=za K;have L:Hid (w.heap.size+1+1<b):=za (by simp at M;omega);clear g S K M)
  |(refine bL (.tmp 6) (.tmp 22) (w.heap.size+1+1) aG aS.cells _ rfl rfl rfl rfl R.out rfl rfl rfl ?_;intro h J P N
    have X:Hid (zz w h):=U.trans (P _ (by omega));have V:=za J;have W:Hid (ah h b 139 [.string x,.string d]):=(N b (by have:=L.out;omega)).trans T.out;clear U R P J N T))
 exact bodyPost_ret (oE rfl _ _ (w.heap.size+1+1) _ rfl V.out rfl) rfl ⟨_,rfl,⟨b,rfl,by have:=L.out;omega,W⟩,X⟩
def KV(op:ByteArray)(k:Int)(t s:ByteArray)(n f c i g l:Int)(r z:Option Addr)(o pc B x:Nat)(a:ByteArray)(u C b h d j:Int)(q y:Option Addr)(m p A v:Nat)(w:World)(F:(k==2)=false)(E:(k==3)=false)(D:(k==4)=false):
 Calls prog 156 #[.string op,(aH.mk k t n f s c i g l r o pc z B x).val,(aH.mk k t u C a b h d j q m p y A v).val] w λe w'=>e= .returned (.tuple #[aS.val,.bool false,.nilIface])∧zz w w':=by
 unfold aS mk aH.val;go_enter func156,ntmps156;go_wp2;go_returns;exact⟨rfl,by go_grown⟩
def bT(op:ByteArray)(C E d:aH)(c:E.k=C.k)(b:E.t=C.t)(w:World)
 (j:∀w,Calls prog 156 #[.string op,C.val,E.val] w λe w'=>e= .returned (.tuple #[d.val,.bool true,.nilIface])∧zz w w'):
 Calls prog 121 #[.string op,C.val,E.val] w λe w'=>e= .returned (.tuple #[d.val,.nilIface])∧zz w w':=by
 have a:=za j;clear j;unfold aH.val at a;rw[c,b]at a;unfold aH.val;rw[c,b];clear c b;go_enter func121,ntmps121;go_wp2_with (first
  |(go_at_call 156;refine(a.out _).mono ?_
    rintro r h ⟨rfl,f⟩;have m:Hid (ah h (w.heap.size+1+1) 131 aG):=(bh w _ _ 131 aG).below f (by simp);have g:Hid (zz w h):=ac (bG w _ _ _) f (by simp<;>omega);clear f a)
  |(refine bL (.tmp 6) (.tmp 36) (w.heap.size+1+1) aG d.cells _ rfl rfl rfl rfl (m.alloc _) rfl rfl rfl ?_;intro n i l q
    have p:Hid (zz w n):=(ac g.out (below1 _ _) g.size).trans (l _ (by omega));have o:=za i;clear g m l i))
 exact bodyPost_ret (eT rfl _ _ (w.heap.size+1+1) _ rfl o.out rfl) rfl ⟨rfl,p.out⟩
def wG(op t t2 s o:ByteArray)(k m n f q x u z F M p v r y:Int)(E J D I:Option Addr)(B pc L H A C K G:Nat)(w:World)(bp:op.size+t.size+t2.size<=3000000)(bt:(k==m)=false):
 Calls prog 121 #[.string op,(aH.mk k t n f s q x u z E B pc J L H).val,(aH.mk m t2 F M o p v r y D A C I K G).val] w λe w'=> ∃a8,e= .returned (.tuple #[aS.val,a8])∧eu w w' a8 cA (op++⟨#[32]⟩++cu (aH.mk k t n f s q x u z E B pc J L H)++⟨#[32]⟩++cu (aH.mk m t2 F M o p v r y D A C I K G))∧zz w w':=by
 have be:=λw=>ji (aH.mk k t n f s q x u z E B pc J L H) w (by simp only;omega);have bc:=λw=>ji (aH.mk m t2 F M o p v r y D A C I K G) w (by simp only;omega);have ba:=dx (aH.mk k t n f s q x u z E B pc J L H);have a9:=dx (aH.mk m t2 F M o p v r y D A C I K G);generalize cu (aH.mk k t n f s q x u z E B pc J L H)=nm at *
 generalize cu (aH.mk m t2 F M o p v r y D A C I K G)=nm2 at *
 have bo:Hid (op.size+nm.size+nm2.size<=4000000):=za (by simp only at ba a9;omega);clear ba a9 bp;unfold aH.val at *
 go_enter func121,ntmps121;go_wp2_with fail;obtain⟨N,c,b,d,g,e⟩:∃N,ah N w.heap.size 131 [.int .i64 k,.string t,.int .i64 n,.int .u64 f,.string s,.int .i64 q,.int .i64 x,.int .i64 u,.int .i64 z,.slice E B pc,.slice J L H]∧ah N (w.heap.size+1) 131 [.int .i64 m,.string t2,.int .i64 F,.int .u64 M,.string o,.int .i64 p,.int .i64 v,.int .i64 r,.int .i64 y,.slice D A C,.slice I K G]∧ah N (w.heap.size+1+1) 131 [.int .i64 0,.string ⟨#[]⟩,.int .i64 0,.int .u64 0,.string ⟨#[]⟩,.int .i64 0,.int .i64 0,.int .i64 0,.int .i64 0,.slice none 0 0,.slice none 0 0]∧zz w N∧(((w.alloc (.cells [.int .i64 k,.string t,.int .i64 n,.int .u64 f,.string s,.int .i64 q,.int .i64 x,.int .i64 u,.int .i64 z,.slice E B pc,.slice J L H].toArray 131)).alloc (.cells [.int .i64 m,.string t2,.int .i64 F,.int .u64 M,.string o,.int .i64 p,.int .i64 v,.int .i64 r,.int .i64 y,.slice D A C,.slice I K G].toArray 131)).alloc (.cells [.int .i64 0,.string ⟨#[]⟩,.int .i64 0,.int .u64 0,.string ⟨#[]⟩,.int .i64 0,.int .i64 0,.int .i64 0,.int .i64 0,.slice none 0 0,.slice none 0 0].toArray 131))=N:=
  ⟨_,((ah.made w 131 _).alloc _).alloc _,(am w _ 131 _).alloc _,bh w _ _ 131 _,bG w _ _ _,rfl⟩
 rw[e];clear e;have a6:=za be;have a5:=za bc;clear be bc;obtain⟨a0,av,ap,ao,an,af,ad,ab,aa,Z,ar,a3⟩:=aA c;obtain⟨Y,X,V,U,T,S,R,Q,P,O,W,a2⟩:=aA b;replace c:=za c;replace b:=za b;replace d:=za d;replace g:=za g;have b3:w.heap.size+1+1≠w.heap.size:=by omega
 have b2:w.heap.size+1+1≠w.heap.size+1:=by omega
 have b1:w.heap.size≠w.heap.size+1+1:=by omega
 have b0:w.heap.size+1≠w.heap.size+1+1:=by omega
 go_region_held3 (λw'=>w'.cell? ⟨w.heap.size,0,none⟩=some (.int .i64 k)∧w'.cell? ⟨w.heap.size,1,none⟩=some (.string t)∧w'.cell? ⟨w.heap.size,2,none⟩=some (.int .i64 n)∧w'.cell? ⟨w.heap.size,3,none⟩=some (.int .u64 f)∧w'.cell? ⟨w.heap.size,4,none⟩=some (.string s)∧w'.cell? ⟨w.heap.size,5,none⟩=some (.int .i64 q)∧w'.cell? ⟨w.heap.size,6,none⟩=some (.int .i64 x)∧w'.cell? ⟨w.heap.size,7,none⟩=some (.int .i64 u)∧w'.cell? ⟨w.heap.size,8,none⟩=some (.int .i64 z)∧w'.cell? ⟨w.heap.size,9,none⟩=some (.slice E B pc)∧w'.cell? ⟨w.heap.size,10,none⟩=some (.slice J L H)∧w'.cell? ⟨w.heap.size+1,0,none⟩=some (.int .i64 m)∧w'.cell? ⟨w.heap.size+1,1,none⟩=some (.string t2)∧w'.cell? ⟨w.heap.size+1,2,none⟩=some (.int .i64 F)∧w'.cell? ⟨w.heap.size+1,3,none⟩=some (.int .u64 M)∧w'.cell? ⟨w.heap.size+1,4,none⟩=some (.string o)∧w'.cell? ⟨w.heap.size+1,5,none⟩=some (.int .i64 p)∧w'.cell? ⟨w.heap.size+1,6,none⟩=some (.int .i64 v)∧w'.cell? ⟨w.heap.size+1,7,none⟩=some (.int .i64 r)∧w'.cell? ⟨w.heap.size+1,8,none⟩=some (.int .i64 y)∧w'.cell? ⟨w.heap.size+1,9,none⟩=some (.slice D A C)∧w'.cell? ⟨w.heap.size+1,10,none⟩=some (.slice I K G)) (first|go_keep|exact⟨a0,av,ap,ao,an,af,ad,ab,aa,Z,ar,Y,X,V,U,T,S,R,Q,P,O,W⟩) (first|(go_at_call 152;(with_reducible refine(a6.out _).mono ?_);rintro a4 a7 ⟨rfl,a⟩;have j:=c.drew.below a c.drew.lt;have i:=b.drew.below a b.drew.lt;have h:=d.drew.below a d.drew.lt;have l:zz w a7:=ac (ay g.out) a g.size;clear c b d g a6 a;have c:=za j;have b:=za i;have d:=za h;have g:=za l;clear j i h l;obtain⟨a0,av,ap,ao,an,af,ad,ab,aa,Z,ar,a3⟩:=aA c.out;obtain⟨Y,X,V,U,T,S,R,Q,P,O,W,a2⟩:=aA b.out)|(go_at_call 152;(with_reducible refine(a5.out _).mono ?_);rintro a4 a7 ⟨rfl,a⟩;have j:=c.drew.below a c.drew.lt;have i:=b.drew.below a b.drew.lt;have h:=d.drew.below a d.drew.lt;have l:zz w a7:=ac (ay g.out) a g.size;clear c b d g a5 a;have c:=za j;have b:=za i;have d:=za h;have g:=za l;clear j i h l;obtain⟨a0,av,ap,ao,an,af,ad,ab,aa,Z,ar,a3⟩:=aA c.out;obtain⟨Y,X,V,U,T,S,R,Q,P,O,W,a2⟩:=aA b.out)|(go_at_call 152;(with_reducible refine(a6.out _).mono ?_);rintro a4 a1 ⟨rfl,a⟩;have j:=c.below a c.lt;have i:=b.below a b.lt;have h:=d.below a d.lt;have l:zz w a1:=ac (g.out) a g.size;clear c b d g a6 a;have c:=za j;have b:=za i;have d:=za h;have g:=za l;clear j i h l;obtain⟨a0,av,ap,ao,an,af,ad,ab,aa,Z,ar,a3⟩:=aA c.out;obtain⟨Y,X,V,U,T,S,R,Q,P,O,W,a2⟩:=aA b.out)|(go_at_call 152;(with_reducible refine(a5.out _).mono ?_);rintro a4 a1 ⟨rfl,a⟩;have j:=c.below a c.lt;have i:=b.below a b.lt;have h:=d.below a d.lt;have l:zz w a1:=ac (g.out) a g.size;clear c b d g a5 a;have c:=za j;have b:=za i;have d:=za h;have g:=za l;clear j i h l;obtain⟨a0,av,ap,ao,an,af,ad,ab,aa,Z,ar,a3⟩:=aA c.out;obtain⟨Y,X,V,U,T,S,R,Q,P,O,W,a2⟩:=aA b.out)|(go_at_call 151;refine(CC a1.heap.size _ op nm nm2 _ (ah.made a1 _ [.string op,.string nm,.string nm2]) bo.out).mono ?_;rintro a4 bl ⟨a8,rfl,⟨bj,rfl,bi,bb⟩,a⟩;have j:=(c.alloc _).below a (c.alloc _).lt;have i:=(b.alloc _).below a (b.alloc _).lt;have h:=(d.alloc _).below a (d.alloc _).lt;have l:zz w bl:=ac (g.alloc g.size _) a (by have:=g.size;simp<;>omega);have bk:Hid (w.heap.size+1+1<bj):=za (by have:=d.lt;simp at bi;omega);have bq:=za bb;clear c b d g a bb bi;have d:=za h;have g:=za l;obtain⟨a0,av,ap,ao,an,af,ad,ab,aa,Z,ar,a3⟩:=aA j;obtain⟨Y,X,V,U,T,S,R,Q,P,O,W,a2⟩:=aA i;obtain⟨cg,cf,cc,cb,ca,b9,b8,b7,b6,b5,cd,b4⟩:=aA d.out;clear j i h l))
 all_goals
  go_wp2;exact bodyPost_ret (eT rfl _ _ (w.heap.size+1+1) _ rfl (lj d.out) rfl) rfl ⟨_,rfl,⟨bj,rfl,by have:=bk.out;omega,KN bq.out (by have:=bk.out;omega)⟩,fg g.out (by omega)⟩
def oN(op x d:ByteArray)(k:Int)(t s:ByteArray)(n f o u q y:Int)(D I:Option Addr)(A pc K G:Nat)(l:ByteArray)(E T m r p v:Int)(C H:Option Addr)(z B J F:Nat)(w:World)
 (P:∀c,zz w c->Calls prog 156 #[.string op,(aH.mk k t n f s o u q y D A pc I K G).val,(aH.mk k t E T l m r p v C z B H J F).val] c λe w'=> ∃a,e= .returned (.tuple #[aS.val,.bool false,a])∧eu c w' a x d∧zz c w'):
 Calls prog 121 #[.string op,(aH.mk k t n f s o u q y D A pc I K G).val,(aH.mk k t E T l m r p v C z B H J F).val] w λe w'=> ∃a,e= .returned (.tuple #[aS.val,a])∧eu w w' a x d∧zz w w':=by
 have U:=za P;clear P;unfold aS mk aH.val at *
 go_enter func121,ntmps121;go_wp2_with (first
  |(go_at_call 156;refine(U.out _ ?hW).mono ?_
    case hW=>exact bG w _ _ _
    rintro Z j ⟨a,rfl,⟨b,rfl,N,M⟩,g⟩;have R:Hid (ah j (w.heap.size+1+1) 131 aG):=(bh w _ _ 131 aG).below g (by simp);have h:Hid (zz w j):=ac (bG w _ _ _) g (by simp<;>omega);have S:=za M;have Y:w.heap.size+1+1<b:=by simp at N;omega
    clear M g N U)
  |(refine bL (.tmp 6) (.tmp 36) (w.heap.size+1+1) aG aS.cells _ rfl rfl rfl rfl (R.alloc _) rfl rfl rfl ?_;intro i L Q O
    have X:Hid (zz w i):=(ac h.out (below1 _ _) h.size).trans (Q _ (by omega));have V:=za L;have W:Hid (ah i b 139 [.string x,.string d]):=(O b (by omega)).trans (S.alloc _);clear h R Q L O S))
 refine bodyPost_ret (eT rfl _ _ (w.heap.size+1+1) _ rfl V.out rfl) rfl ⟨_,rfl,⟨b,rfl,by omega,W.out⟩,X.out⟩
def qO(op:ByteArray)(k:Int)(t s:ByteArray)(n f r y v A:Int)(F K:Option Addr)(C pc M I:Nat)(p:ByteArray)(G N q x u z:Int)(E J:Option Addr)(B D L H:Nat)(d:aH)(w:World)(b3:op.size+t.size+t.size<=3000000)
 (bk:∀w,Calls prog 156 #[.string op,(aH.mk k t n f s r y v A F C pc K M I).val,(aH.mk k t G N p q x u z E B D J L H).val] w λe w'=>e= .returned (.tuple #[d.val,.bool false,.nilIface])∧zz w w'):
 Calls prog 121 #[.string op,(aH.mk k t n f s r y v A F C pc K M I).val,(aH.mk k t G N p q x u z E B D J L H).val] w λe w'=> ∃a8,e= .returned (.tuple #[aS.val,a8])∧eu w w' a8 cA (op++⟨#[32]⟩++cu (aH.mk k t n f s r y v A F C pc K M I)++⟨#[32]⟩++cu (aH.mk k t G N p q x u z E B D J L H))∧zz w w':=by
 have b0:=za bk;clear bk;have bi:=λw=>ji (aH.mk k t n f s r y v A F C pc K M I) w (by simp only;omega);have be:=λw=>ji (aH.mk k t G N p q x u z E B D J L H) w (by simp only;omega);have bb:=dx (aH.mk k t n f s r y v A F C pc K M I);have ba:=dx (aH.mk k t G N p q x u z E B D J L H);generalize cu (aH.mk k t n f s r y v A F C pc K M I)=nm at *
 generalize cu (aH.mk k t G N p q x u z E B D J L H)=nm2 at *
 have b2:Hid (op.size+nm.size+nm2.size<=4000000):=za (by simp only at bb ba;omega);clear bb ba b3;unfold aH.val at *
 go_enter func121,ntmps121;go_wp2_with (first
  |(go_at_call 156;refine(b0.out _).mono ?_
    rintro a5 o ⟨rfl,a⟩;have bq:Hid (ah o w.heap.size 131 [.int .i64 k,.string t,.int .i64 n,.int .u64 f,.string s,.int .i64 r,.int .i64 y,.int .i64 v,.int .i64 A,.slice F C pc,.slice K M I]):=(((ah.made w 131 _).alloc _).alloc _).below a (by simp<;>omega);have bp:Hid (ah o (w.heap.size+1) 131 [.int .i64 k,.string t,.int .i64 G,.int .u64 N,.string p,.int .i64 q,.int .i64 x,.int .i64 u,.int .i64 z,.slice E B D,.slice J L H]):=((am w _ 131 _).alloc _).below a (by simp);have bo:Hid (ah o (w.heap.size+1+1) 131 [.int .i64 0,.string ⟨#[]⟩,.int .i64 0,.int .u64 0,.string ⟨#[]⟩,.int .i64 0,.int .i64 0,.int .i64 0,.int .i64 0,.slice none 0 0,.slice none 0 0]):=(bh w _ _ 131 _).below a (by simp);have a9:Hid (zz w o):=ac (bG w _ _ _) a (by simp<;>omega);clear a b0))
 obtain⟨O,c,b,g,h,e⟩:∃O,ah O w.heap.size 131 [.int .i64 k,.string t,.int .i64 n,.int .u64 f,.string s,.int .i64 r,.int .i64 y,.int .i64 v,.int .i64 A,.slice F C pc,.slice K M I]∧ah O (w.heap.size+1) 131 [.int .i64 k,.string t,.int .i64 G,.int .u64 N,.string p,.int .i64 q,.int .i64 x,.int .i64 u,.int .i64 z,.slice E B D,.slice J L H]∧ah O (w.heap.size+1+1) 131 [.int .i64 0,.string ⟨#[]⟩,.int .i64 0,.int .u64 0,.string ⟨#[]⟩,.int .i64 0,.int .i64 0,.int .i64 0,.int .i64 0,.slice none 0 0,.slice none 0 0]∧zz w O∧o.alloc (.cells ([.int .i64 d.k,.string d.t,.int .i64 d.n,.int .u64 d.f,.string d.s,.int .i64 d.ro,.int .i64 d.rf,.int .i64 d.rl,.int .i64 d.rc,.slice d.pa d.pn d.pc,.slice d.ia d.iN d.ic]:List Value).toArray 131)=O:=
  ⟨_,bq.alloc _,bp.alloc _,bo.alloc _,a9.alloc a9.size _,rfl⟩
 rw[e];clear e bq bp bo a9;have a7:=za bi;have a6:=za be;clear bi be;obtain⟨a1,a0,ar,ap,ao,an,af,ad,ab,aa,av,a4⟩:=aA c;obtain⟨Z,Y,W,V,U,T,S,R,Q,P,X,a3⟩:=aA b;replace c:=za c;replace b:=za b;replace g:=za g;replace h:=za h;have b8:w.heap.size+1+1≠w.heap.size:=by omega
 have b7:w.heap.size+1+1≠w.heap.size+1:=by omega
 have b6:w.heap.size≠w.heap.size+1+1:=by omega
 have b5:w.heap.size+1≠w.heap.size+1+1:=by omega
 go_region_held3 (λw'=>w'.cell? ⟨w.heap.size,0,none⟩=some (.int .i64 k)∧w'.cell? ⟨w.heap.size,1,none⟩=some (.string t)∧w'.cell? ⟨w.heap.size,2,none⟩=some (.int .i64 n)∧w'.cell? ⟨w.heap.size,3,none⟩=some (.int .u64 f)∧w'.cell? ⟨w.heap.size,4,none⟩=some (.string s)∧w'.cell? ⟨w.heap.size,5,none⟩=some (.int .i64 r)∧w'.cell? ⟨w.heap.size,6,none⟩=some (.int .i64 y)∧w'.cell? ⟨w.heap.size,7,none⟩=some (.int .i64 v)∧w'.cell? ⟨w.heap.size,8,none⟩=some (.int .i64 A)∧w'.cell? ⟨w.heap.size,9,none⟩=some (.slice F C pc)∧w'.cell? ⟨w.heap.size,10,none⟩=some (.slice K M I)∧w'.cell? ⟨w.heap.size+1,0,none⟩=some (.int .i64 k)∧w'.cell? ⟨w.heap.size+1,1,none⟩=some (.string t)∧w'.cell? ⟨w.heap.size+1,2,none⟩=some (.int .i64 G)∧w'.cell? ⟨w.heap.size+1,3,none⟩=some (.int .u64 N)∧w'.cell? ⟨w.heap.size+1,4,none⟩=some (.string p)∧w'.cell? ⟨w.heap.size+1,5,none⟩=some (.int .i64 q)∧w'.cell? ⟨w.heap.size+1,6,none⟩=some (.int .i64 x)∧w'.cell? ⟨w.heap.size+1,7,none⟩=some (.int .i64 u)∧w'.cell? ⟨w.heap.size+1,8,none⟩=some (.int .i64 z)∧w'.cell? ⟨w.heap.size+1,9,none⟩=some (.slice E B D)∧w'.cell? ⟨w.heap.size+1,10,none⟩=some (.slice J L H)) (first|go_keep|exact⟨a1,a0,ar,ap,ao,an,af,ad,ab,aa,av,Z,Y,W,V,U,T,S,R,Q,P,X⟩) (first|(go_at_call 152;(with_reducible refine(a7.out _).mono ?_);rintro a5 o ⟨rfl,a⟩;have l:=c.drew.below a c.drew.lt;have j:=b.drew.below a b.drew.lt;have i:=g.drew.below a g.drew.lt;have m:zz w o:=ac (ay h.out) a h.size;clear c b g h a7 a;have c:=za l;have b:=za j;have g:=za i;have h:=za m;clear l j i m;obtain⟨a1,a0,ar,ap,ao,an,af,ad,ab,aa,av,a4⟩:=aA c.out;obtain⟨Z,Y,W,V,U,T,S,R,Q,P,X,a3⟩:=aA b.out)|(go_at_call 152;(with_reducible refine(a6.out _).mono ?_);rintro a5 o ⟨rfl,a⟩;have l:=c.drew.below a c.drew.lt;have j:=b.drew.below a b.drew.lt;have i:=g.drew.below a g.drew.lt;have m:zz w o:=ac (ay h.out) a h.size;clear c b g h a6 a;have c:=za l;have b:=za j;have g:=za i;have h:=za m;clear l j i m;obtain⟨a1,a0,ar,ap,ao,an,af,ad,ab,aa,av,a4⟩:=aA c.out;obtain⟨Z,Y,W,V,U,T,S,R,Q,P,X,a3⟩:=aA b.out)|(go_at_call 152;(with_reducible refine(a7.out _).mono ?_);rintro a5 a2 ⟨rfl,a⟩;have l:=c.below a c.lt;have j:=b.below a b.lt;have i:=g.below a g.lt;have m:zz w a2:=ac (h.out) a h.size;clear c b g h a7 a;have c:=za l;have b:=za j;have g:=za i;have h:=za m;clear l j i m;obtain⟨a1,a0,ar,ap,ao,an,af,ad,ab,aa,av,a4⟩:=aA c.out;obtain⟨Z,Y,W,V,U,T,S,R,Q,P,X,a3⟩:=aA b.out)|(go_at_call 152;(with_reducible refine(a6.out _).mono ?_);rintro a5 a2 ⟨rfl,a⟩;have l:=c.below a c.lt;have j:=b.below a b.lt;have i:=g.below a g.lt;have m:zz w a2:=ac (h.out) a h.size;clear c b g h a6 a;have c:=za l;have b:=za j;have g:=za i;have h:=za m;clear l j i m;obtain⟨a1,a0,ar,ap,ao,an,af,ad,ab,aa,av,a4⟩:=aA c.out;obtain⟨Z,Y,W,V,U,T,S,R,Q,P,X,a3⟩:=aA b.out)|(go_at_call 151;refine(CC a2.heap.size _ op nm nm2 _ (ah.made a2 _ [.string op,.string nm,.string nm2]) b2.out).mono ?_;rintro a5 b1 ⟨a8,rfl,⟨bl,rfl,bj,bc⟩,a⟩;have l:=(c.alloc _).below a (c.alloc _).lt;have j:=(b.alloc _).below a (b.alloc _).lt;have i:=(g.alloc _).below a (g.alloc _).lt;have m:zz w b1:=ac (h.alloc h.size _) a (by have:=h.size;simp<;>omega);have bt:Hid (w.heap.size+1+1<bl):=za (by have:=g.lt;simp at bj;omega);have b4:=za bc;clear c b g h a bc bj;have g:=za i;have h:=za m;obtain⟨a1,a0,ar,ap,ao,an,af,ad,ab,aa,av,a4⟩:=aA l;obtain⟨Z,Y,W,V,U,T,S,R,Q,P,X,a3⟩:=aA j;obtain⟨cl,ck,ci,ch,cg,cf,cd,cc,cb,ca,cj,b9⟩:=aA g.out;clear l j i m))
 all_goals
  go_wp2;exact bodyPost_ret (eT rfl _ _ (w.heap.size+1+1) _ rfl (lj g.out) rfl) rfl ⟨_,rfl,⟨bl,rfl,by have:=bt.out;omega,KN b4.out (by have:=bt.out;omega)⟩,fg h.out (by omega)⟩
end
end Go.Proofs.YtmecmlpoallpcaaGreatDoor

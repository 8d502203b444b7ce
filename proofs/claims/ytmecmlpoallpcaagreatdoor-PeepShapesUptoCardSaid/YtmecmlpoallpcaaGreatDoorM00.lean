/- Short names for what the texts of this proof use most. -/
import Derived.Below
import Derived.Laws.OwnMore
import Derived.Deep.AppendLies
import Derived.Deep.Draws
import Derived.Laws.Rows
import Derived.OwnWalk
import Derived.Laws.AppendOwn
import Derived.Laws.MakeOwn
import Derived.Laws.Entries
import Derived.Laws.CopyOwn
import Derived.Lib.Hide
import Derived.Handy
import Derived.WalkKit
set_option linter.all false
namespace Go.Proofs
open Go.RowKit
abbrev zz (w v : World) : Prop := Below w.heap.size w v
abbrev za := @Lib.hid
abbrev zb := @Nat.le_refl
abbrev zd := @List.getD_eq_getElem?_getD
abbrev ze := @decide_eq_true
abbrev zg := @decide_eq_false
abbrev zh := @beq_eq_false_iff_ne
abbrev zi := @Nat.le_trans
abbrev zj := @Option.some.inj
abbrev zk := @List.getElem_mem
abbrev zm := @if_neg
abbrev zn := @if_pos
abbrev zo := @List.getElem?_eq_getElem
abbrev zp := @congrArg
abbrev zu := @Nat.zero_le
abbrev zv := @Nat.lt_of_lt_of_le
abbrev zw := @List.length_append
abbrev zx := @of_decide_eq_true
abbrev zy := @Bool.and_eq_true
abbrev zA := @Bool.eq_iff_iff
abbrev zB := @List.getElem?_eq_some_iff
abbrev zC := @List.mem_cons
abbrev zD := @List.eq_nil_of_length_eq_zero
abbrev zE := @Nat.le_succ
abbrev zF := @Bool.and_false
abbrev zG := @Bool.false_and
abbrev zH := @ByteArray.toList_eq
abbrev zI := @World.cell?_of_block
abbrev zJ := @List.getElem?_append_right
abbrev zK := @List.length_singleton
abbrev zL := @List.getElem?_map
abbrev zM := @List.getElem?_eq_none
abbrev zN := @List.length_set
abbrev zO := @bne_iff_ne
abbrev zP := @Nat.zero_add
abbrev zQ := @List.getElem_of_mem
abbrev zR := @List.length_take
abbrev zS := @List.getElem?_append_left
abbrev zT := @List.mem_cons_of_mem
abbrev zU := @List.mem_of_getElem?
abbrev zV := @Int.toNat_natCast
abbrev zW := @World.ownsRow.lt
abbrev zX := @World.ownsRow.alloc
abbrev zY := @heap_setCell_other
abbrev zZ := @Below.refl
end Go.Proofs

/- The card: every argument; conditions: none but those of the given statement. -/
import Derived.Test.YtmecmlpoallpcaaGreatDoorCards
import Derived.Test.YtmecmlpoallpcaaGreatDoorTie
import Derived.Test.YtmecmlpoallpcaaGreatDoorM26
import Derived.Test.YtmecmlpoallpcaaGreatDoorM18
import Derived.Test.YtmecmlpoallpcaaGreatDoorM31
import Derived.Carry
import Derived.Lay
import Derived.Deep.DeepHandedRow
import Derived.SevenTiedAt
set_option linter.all false
set_option maxHeartbeats 8000000
namespace Go.Proofs.YtmecmlpoallpcaaGreatDoor
open Go.Proofs.Tryz
section
open Go.ChangeShapes Go.WideShapes Go.ChangeAt Go.RowKit Go.Deep Go.Proofs.PeepPlain
open Go.ChangeMaps (open_string shut_string)
def uz:ownKnob prog.godebug=none:=by kernel_rfl
def pm:laidOutB prog=true:=by kernel_rfl
set_option maxRecDepth 100000 in
def oQ(H:Type)(l:TypeId × Value->H)(a:World)(base:Nat)(args:Array Value)(f gs:List (DataW H))(V:List MemPlace)
 (o:∀(j:Nat) t c,Tryz.f3.params[j]?=some t->args[j]?=some c->Value.okWide prog a .any base t c)
 (r:DataW.Whole l prog Tryz.f3.params.toList Rows.peepShapesSpec.vars false a args.toList f gs V)
 (ap:(DataW.weightsEach prog (Tryz.f3.params.toList++(Rows.OpenSpec.upto Rows.peepShapesSpec).bare.plain.varTypes prog) (f++gs)).all (· <=reachBytes)=true)
 (u:Rows.uptoSmall H (f++gs)=true)
 (s:laidMetH prog Rows.peepShapesUptoRow.laid a)(N:a.ShapedOpen prog):
 Calls prog 3 args a λe x=> ∃c,e= .returned c∧Rows.peepShapesSpec.post l prog Tryz.f3 false true false false a args c x:=by
 obtain⟨Q,O⟩:aX a∧fT a:=by
  rw[MakeChecks.laidMetH_plain _ _ _ (by kernel_rfl)]at s;exact LH N s
 have q:=r;obtain⟨C,aa,v,L,rfl,ad,ab⟩:=r;have w:DataW.TrodAll l prog a 0 (λ_=>true) true Tryz.f3.params.toList args.toList f C:=v;obtain⟨rfl,rfl⟩:=trodVars_none L;simp only[List.append_nil]at q u;rw[params3]at w o;obtain⟨n,Y,m,av,B,Z,ao,rfl,rfl,i,A⟩:=trodAll_cons w;obtain⟨rfl,rfl,rfl⟩:=trodAll_nil A;obtain rfl:args= #[n]:=by cases args;simp_all
 have E:∀y∈B,y.block<a.heap.size:=by obtain⟨D,G⟩:=i;exact DataW.trod_lt D _ _ _ G
 have an:Rows.uptoBulk m<=1048576:=by
  have I:Rows.uptoBulkAll [m]<=1048576:=by simpa[Rows.uptoSmall]using u
  simp only[Rows.uptoBulkAll]at I;omega
 have K:Rows.uptoBulk m<=2000000:=by omega
 obtain⟨k,gs,X,W,U,T,rfl,R,P,M,h,af,g⟩:=GL i (o 0 25 n rfl rfl) K;have p:k.length<=1999000∧∀b∈k,b.taken.length<=1999000∧b.code.length<=1999000:=Fi (by have:=g.2;omega);have J:gs.length<=1999000:=by
  have ar:=gu (λz:ByteArray=>z.size+1) gs (λ_ _=>by omega);have:=g.2;omega
 clear v;refine(DV k gs X W U T a ⟨R,P,M,λb d t F=>(h b d).tints t F,λb d=>⟨(h b d).codeCap.2.2,(h b d).takenCap.2.2⟩,g.1.2.2,p.2,p.1,J⟩ Q O).mono λe x ⟨he,bel⟩=>?_;subst he;exact⟨_,rfl,_,_,_,[],_,[],q,trodAll_mk1 (shut_bool underlying4 _),trodAll_cons_mk (Below.trod pm (by kernel_rfl) (zx (by kernel_rfl)) i bel E) trodAll_mk0,rfl,bel.frame _,λS=>by cases S⟩
def sU(os:Os):laidMet prog Rows.peepShapesUptoRow.laid ((World.laidAll prog os Rows.peepShapesUptoRow.laid).forCall (λ_ _=>0) ⟨#[], #[.agg #[.slice none 0 0,.slice none 0 0]],[]⟩).memory:=
 laidMet_laidAll _ (by kernel_rfl) (by kernel_rfl)
def rQ(os:Os){H:Type}(b:TypeId × Value->H):∃a,DataW.whole b prog ((World.laidAll prog os Rows.peepShapesUptoRow.laid).forCall (λ_ _=>0) ⟨#[], #[.agg #[.slice none 0 0,.slice none 0 0]],[]⟩).memory Tryz.f3.params.toList Rows.peepShapesSpec.vars false (#[.agg #[.slice none 0 0,.slice none 0 0]]:Array Value).toList 8=some ([.agg [.nil,.nil]],[],a):=
 ⟨[],by kernel_rfl⟩
def qs(os:Os):((World.laidAll prog os Rows.peepShapesUptoRow.laid).forCall (λ_ _=>0) ⟨#[], #[.agg #[.slice none 0 0,.slice none 0 0]],[]⟩).Shaped prog:=
 World.shaped_of_ZipB (by kernel_rfl) (by kernel_rfl)
set_option maxRecDepth 100000 in
def qV(os:Os)(b:os.Started)(H:Type)(a:TypeId × Value->H)(q:Stop.Interp):
 ReturnsInHanded {} checked os 3 .any ((Rows.OpenSpec.upto Rows.peepShapesSpec).preRow a prog Tryz.f3 Rows.peepShapesUptoRow.domain false Rows.peepShapesUptoRow.laid) (((Rows.OpenSpec.upto Rows.peepShapesSpec).at q).post a prog Tryz.f3 false true false false):=by
 obtain⟨r,c⟩:=rQ os a;refine returnsInHanded_of_row (C:=checked) (s:=Rows.OpenSpec.upto Rows.peepShapesSpec) uz b (by kernel_rfl) func3 ?_ ?_
 ·refine⟨World.laidAll prog os Rows.peepShapesUptoRow.laid,λ_ _=>0,⟨#[], #[.agg #[.slice none 0 0,.slice none 0 0]],[]⟩,World.laidAll_os _ _ _,qs os,rfl,?_,?_,?_⟩
  ·exact(Input.okWide_of_okWideB (by kernel_rfl)).2
  ·exact OpenSpec.preRow_of_cond 8 c (by kernel_rfl) (λt e=>by cases e;kernel_rfl) (by kernel_rfl) (sU os)
  ·simp only[Assume.holds];exact⟨by simp,by simp,λ_=>Modest.zero,by simp,by simp⟩
 intro p n o l k m d g _ f i j h _;exact oQ H a p n o l k m d g i (f _ rfl) j h
def sV:Rows.PeepShapesUptoSaid:=
 OpenClaim.holds_of_cond 3 Tryz.f3 rfl rfl rfl rfl rfl rfl rfl ⟨rfl,rfl,rfl,rfl,rfl⟩ rfl rfl rfl rfl rfl (by kernel_rfl) func3 (by kernel_rfl)
  (zx (by kernel_rfl)) (by unfold Func.isWrapper;first|(rw[zn (by decide+kernel)];kernel_rfl)|(rw[zm (by decide+kernel)];exact⟨rfl,rfl⟩))
  (λb a d c _ e=>by rw[OpenClaim.pre_eq_preRow];exact qV b a d c e)
def se(f:FuncId)(a:Func)(e:Tryz.pinned.checked.prog.funcNamed "guise/guiselaw15.PeepShapes" =some f)(d:Tryz.pinned.checked.prog.funcs[f]?=some a):
 true=Tryz.pinned.checked.prog.looks []∧∀(j:Nat) t,a.params[j]?=some t->Tryz.pinned.checked.prog.wantsStandIn t=false:=by
 obtain rfl:f=3:=zj ((show prog.funcNamed "guise/guiselaw15.PeepShapes" =some 3 by kernel_rfl).symm.trans e)|>.symm;obtain rfl:a=Tryz.f3:=(zj (func3.symm.trans d)).symm;refine⟨by kernel_rfl,λj t b=>?_⟩;rw[params3]at b;have c:=Array.mem_of_getElem? b;simp only[List.mem_toArray,zC,List.not_mem_nil,or_false]at c;rcases c with rfl
 ·exact(show prog.wantsStandIn 25=false by kernel_rfl)
theorem peepShapes_card:Rows.PeepShapesUptoCardSaid:=
 Claim7.holds_tied_plain_at .later [] _ _ _ _ sV (λ_ a=>by cases a) (by kernel_rfl) (λ_ a=>by cases a) peepShapesUpto_row_tie rfl ⟨rfl,rfl⟩ (by kernel_rfl) rfl se (by kernel_rfl)
end
end Go.Proofs.YtmecmlpoallpcaaGreatDoor

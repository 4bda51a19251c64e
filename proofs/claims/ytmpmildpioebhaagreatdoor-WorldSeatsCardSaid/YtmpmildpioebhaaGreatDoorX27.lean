/-
  The statement WorldSeats (law 23): a seat whose power goes off is gone, and comes back with nothing lost. Part 27 of 27. No condition stands ahead of the statement. Parts of this text were printed by a program of ours.
-/
import Derived.Test.YtmpmildpioebhaaGreatDoorX03
import Derived.Test.YtmpmildpioebhaaGreatDoorX26
import Derived.Laws.BytesString
set_option linter.all false
set_option maxRecDepth 100000
set_option maxHeartbeats 4000000
noncomputable section
namespace Go.Proofs.YtmpmildpioebhaaGreatDoor
open Go Go.Sh Go.ChangeShapes Go.WideShapes Go.ChangeAt Go.RowKit
open Go.Sh.Ty (reg)
theorem worldSeats_contract (HT:Type) (en:TypeId×Value→HT) (W:World) (base:Nat) (args:Array Value) (ds gs:List (DataW HT)) (before:List MemPlace)
  (hval:∀ (j:Nat) t v,Tryz.f4.params[j]? = some t→args[j]? = some v→Value.okWide Tryz.prog W .any base t v)
  (hW:DataW.Whole en Tryz.prog Tryz.f4.params.toList Rows.worldSeatsSpec.vars false W args.toList ds gs before) (hwt:(DataW.weightsEach Tryz.prog (Tryz.f4.params.toList ++ (OpenSpec.ofChange Rows.worldSeatsSpec).bare.plain.varTypes Tryz.prog) (ds ++ gs)).all (·≤reachBytes) = true) (hL:laidMetH Tryz.prog Rows.worldSeatsRow.laid W):
  Calls Tryz.prog 4 args W fun e W'=>∃ v,e = .returned v∧Rows.worldSeatsSpec.post en Tryz.prog Tryz.f4 false true false false W args v W':=by
 have hW':=hW
 obtain ⟨p,q,hA0,hV,rfl,hfz,hnd⟩:=hW
 have hA:DataW.TrodAll en Tryz.prog W 0 (fun _=>true) true Tryz.f4.params.toList args.toList ds p:=hA0
 rw [Tryz.params4] at hA hval hwt
 obtain ⟨v0,vs0,d0,ds0,p0,q0,hargs,rfl,rfl,h0,r0⟩:=trodAll_cons hA
 obtain ⟨v1,vs1,d1,ds1,p1,q1,rfl,rfl,rfl,h1,r1⟩:=trodAll_cons r0
 obtain ⟨v2,vs2,d2,ds2,p2,q2,rfl,rfl,rfl,h2,r2⟩:=trodAll_cons r1
 obtain ⟨v3,vs3,d3,ds3,p3,q3,rfl,rfl,rfl,h3,r3⟩:=trodAll_cons r2
 obtain ⟨rfl,rfl,rfl⟩:=trodAll_nil r3
 obtain rfl:args = #[v0,v1,v2,v3]:=by cases args; simp_all
 obtain ⟨rfl,_⟩:=trodVars_none hV
 obtain ⟨n0,rfl,i0⟩:=arg_config (hval 0 27 v0 rfl rfl) h0
 obtain ⟨n1,rfl,i1⟩:=arg_slice Tryz.underlying48 dec_ints (hval 1 48 v1 rfl rfl) h1
 obtain ⟨n2,rfl,i2⟩:=arg_int Tryz.underlying3 (hval 2 3 v2 rfl rfl) h2
 obtain ⟨n3,rfl,i3⟩:=arg_int Tryz.underlying3 (hval 3 3 v3 rfl rfl) h3
 obtain ⟨ms,hm,_⟩:=i0
 obtain ⟨xs,hsv,_⟩:=i1
 have ht:Tb W.heap:=by
  have:=tb_of_laid hL
  unfold Tb; rw [table_val]; exact this
 refine (WorldSeats_spec aliveOk seedsOk n0 ms n1 xs n2 n3 (k:=fun r h'=>r = true∧Ext W.heap h') ht hm hsv (fun h' hx=>⟨rfl,hx⟩) W rfl).mono ?_
 rintro e W' ⟨v,rfl,_,ho,hu,r,rfl,rfl,hx⟩
 exact ⟨_,rfl,post_ext rfl rfl (by decide +kernel) hW' rfl rfl rfl hx ho hu⟩
noncomputable def setG (k:IntKind) (l:List Int):Obj→Obj
 | .cells _ t frozen=>.cells (l.map (Value.int k)).toArray t frozen
 | o=>o
noncomputable def worldSeats_world (os:Os):World:=
 { World.holding Tryz.prog os ⟨#[],#[],[]⟩ with heap:=((((World.holding Tryz.prog os ⟨#[],#[],[]⟩).heap.modify 0 (setG .u32 tabZ)).modify 1 (setG .u64 powZ)).modify 2 (setG .u8 db32Z)).modify 3 (setG .u8 db64Z) }
noncomputable def worldSeats_wit:Array Value:=#[.agg #[.int .i64 0,.slice none 0 0],.slice none 0 0,.int .i64 0,.int .i64 0]
theorem worldSeats_met (os:Os):laidMet Tryz.prog Rows.worldSeatsRow.laid ((worldSeats_world os).forCall (fun _ _=>0) ⟨#[],worldSeats_wit,[]⟩).memory:=
 laidMet_of_run' 8 (by kernel_rfl) (by kernel_rfl)
theorem worldSeats_reads (os:Os) {HT:Type} (en:TypeId×Value→HT):∃ places,DataW.whole en Tryz.prog ((worldSeats_world os).forCall (fun _ _=>0) ⟨#[],worldSeats_wit,[]⟩).memory Tryz.f4.params.toList Rows.worldSeatsSpec.vars false worldSeats_wit.toList 8 = some ([.agg [.lit (.int .i64 0),.nil],.nil,.lit (.int .i64 0),.lit (.int .i64 0)],[],places):=
 ⟨[],by kernel_rfl⟩
theorem worldSeats_lifted (os:Os) (started:os.Started) (HT:Type) (en:TypeId×Value→HT) (F:Stop.Interp):
  ReturnsInHanded {} Tryz.checked os 4 .any ((OpenSpec.ofChange Rows.worldSeatsSpec).preRow en Tryz.prog Tryz.f4 Rows.worldSeatsRow.domain false Rows.worldSeatsRow.laid) (((OpenSpec.ofChange Rows.worldSeatsSpec).at F).post en Tryz.prog Tryz.f4 false true false false):=by
 obtain ⟨places,hx⟩:=worldSeats_reads os en
 refine returnsInHanded_of_row (C:=Tryz.checked) (s:=OpenSpec.ofChange Rows.worldSeatsSpec) ownKnob0 started (by kernel_rfl) Tryz.func4
  (witness_row_at (enc:=en) (C:=Tryz.checked) false (worldSeats_world os) worldSeats_wit rfl (by kernel_rfl) (by kernel_rfl) (by kernel_rfl)
   (OpenSpec.preRow_of_cond 8 hx (by kernel_rfl) (fun k hk=>by cases hk) (by kernel_rfl) (worldSeats_met os))) ?_
 intro W base args ds gs before hval hW _ _ hwt hL _ _
 exact worldSeats_contract HT en W base args ds gs before hval hW hwt hL
theorem worldSeats_said:Rows.WorldSeatsSaid:=
 OpenClaim.holds_of_cond 4 Tryz.f4 rfl rfl rfl rfl rfl rfl rfl ⟨rfl,rfl,rfl,rfl,rfl⟩ rfl rfl rfl rfl rfl (by kernel_rfl) Tryz.func4 jsAll
  (of_decide_eq_true (by kernel_rfl)) (by unfold Func.isWrapper; first | (rw [if_pos (by decide +kernel)]; kernel_rfl) | (rw [if_neg (by decide +kernel)]; exact ⟨rfl,rfl⟩))
  (fun os started H enc _ F=>by rw [OpenClaim.pre_eq_preRow]; exact worldSeats_lifted os started H enc F)
theorem worldSeats_plain (f : FuncId) (fn : Func) (hf : Tryz.pinned.checked.prog.funcNamed "wapentake/wapentakelaw23.WorldSeats" = some f) (hfn : Tryz.pinned.checked.prog.funcs[f]? = some fn) :
    false = Tryz.pinned.checked.prog.looks [] ∧ ∀ (j : Nat) t, fn.params[j]? = some t → Tryz.pinned.checked.prog.wantsStandIn t = false := by
  obtain rfl : f = 4 := Option.some.inj ((show Tryz.prog.funcNamed "wapentake/wapentakelaw23.WorldSeats" = some 4 by kernel_rfl).symm.trans hf) |>.symm
  obtain rfl : fn = Tryz.f4 := (Option.some.inj (Tryz.func4.symm.trans hfn)).symm
  refine ⟨by kernel_rfl, fun j t ht => ?_⟩
  rw [Tryz.params4] at ht
  have hm := Array.mem_of_getElem? ht
  simp only [List.mem_toArray, List.mem_cons, List.not_mem_nil, or_false] at hm
  rcases hm with rfl | rfl | rfl | rfl
  · exact (show Tryz.prog.wantsStandIn 27 = false by kernel_rfl)
  · exact (show Tryz.prog.wantsStandIn 48 = false by kernel_rfl)
  · exact (show Tryz.prog.wantsStandIn 3 = false by kernel_rfl)
  · exact (show Tryz.prog.wantsStandIn 3 = false by kernel_rfl)
theorem worldSeats_card:Rows.WorldSeatsCardSaid:=
 Claim7.holds_tied_plain_at .later [] _ _ _ _ worldSeats_said (fun _ h=>by cases h) (by kernel_rfl) (fun _ h=>by cases h) worldSeats_row_tie rfl ⟨rfl,rfl⟩ (by kernel_rfl) rfl worldSeats_plain (by kernel_rfl)
end Go.Proofs.YtmpmildpioebhaaGreatDoor

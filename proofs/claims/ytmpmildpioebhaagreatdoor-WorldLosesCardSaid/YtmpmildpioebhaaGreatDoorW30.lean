/-
  The statement WorldLoses (law 23): where all letters are lost nobody decides anything. Part 30 of 30. No condition stands ahead of the statement. Parts of this text were printed by a program of ours.
-/
import Derived.Test.YtmpmildpioebhaaGreatDoorW03
import Derived.Test.YtmpmildpioebhaaGreatDoorW29
set_option linter.all false
set_option maxRecDepth 100000
set_option maxHeartbeats 4000000
noncomputable section
namespace Go.Proofs.YtmpmildpioebhaaGreatDoor
open Go Go.Sh Go.ChangeShapes Go.WideShapes Go.ChangeAt Go.RowKit
open Go.Sh.Ty (reg)
theorem allFacts:∀ N,2≤N→N≤4→∃ cur,WFacts N cur:=by
 intro N h1 h2
 match N,h1,h2 with
 | 2,_,_=>exact facts2
 | 3,_,_=>exact facts3
 | 4,_,_=>exact facts4
 | 0,h,_=>omega
 | 1,h,_=>omega
 | _ + 5,_,h=>omega
theorem worldLoses_contract (HT:Type) (en:TypeId×Value→HT) (W:World) (base:Nat) (args:Array Value) (ds gs:List (DataW HT)) (before:List MemPlace)
  (hval:∀ (j:Nat) t v,Tryz.f3.params[j]? = some t→args[j]? = some v→Value.okWide Tryz.prog W .any base t v)
  (hW:DataW.Whole en Tryz.prog Tryz.f3.params.toList Rows.worldLosesSpec.vars false W args.toList ds gs before) (hwt:(DataW.weightsEach Tryz.prog (Tryz.f3.params.toList ++ (OpenSpec.ofChange Rows.worldLosesSpec).bare.plain.varTypes Tryz.prog) (ds ++ gs)).all (·≤reachBytes) = true) (hL:laidMetH Tryz.prog Rows.worldLosesRow.laid W):
  Calls Tryz.prog 3 args W fun e W'=>∃ v,e = .returned v∧Rows.worldLosesSpec.post en Tryz.prog Tryz.f3 false true false false W args v W':=by
 have hW':=hW
 obtain ⟨p,q,hA0,hV,rfl,hfz,hnd⟩:=hW
 have hA:DataW.TrodAll en Tryz.prog W 0 (fun _=>true) true Tryz.f3.params.toList args.toList ds p:=hA0
 rw [Tryz.params3] at hA hval hwt
 obtain ⟨v0,vs0,d0,ds0,p0,q0,hargs,rfl,rfl,h0,r0⟩:=trodAll_cons hA
 obtain ⟨v1,vs1,d1,ds1,p1,q1,rfl,rfl,rfl,h1,r1⟩:=trodAll_cons r0
 obtain ⟨rfl,rfl,rfl⟩:=trodAll_nil r1
 obtain rfl:args = #[v0,v1]:=by cases args; simp_all
 obtain ⟨rfl,_⟩:=trodVars_none hV
 obtain ⟨n0,rfl,i0⟩:=arg_slice Tryz.underlying22 dec_ops (fun n hn=>of_decide_eq_true (List.all_eq_true.1 hwt _ (DataW.weights_mem_each (j:=0) rfl rfl n hn))) (hval 0 22 v0 rfl rfl) h0
 obtain ⟨n1,rfl,i1⟩:=arg_int Tryz.underlying3 (hval 1 3 v1 rfl rfl) h1
 obtain ⟨xs,hsv,hxs⟩:=i0
 have ht:=tb_of_laid hL
 have hsz:0 < W.heap.size:=by
  obtain ⟨_,arr,T,fr,hb,_⟩:=ht
  rw [Array.getElem?_eq_some_iff] at hb; exact hb.1
 refine (wl_go allFacts n0 n1 xs W.heap hsz ht hsv (fun x hx=>opOk_of (hxs x hx)) W rfl).mono ?_
 rintro e W' ⟨v,rfl,_,ho,hu,rfl,hx⟩
 exact ⟨_,rfl,post_ext rfl rfl (by decide +kernel) hW' rfl rfl rfl hx ho hu⟩
noncomputable def setG (k:IntKind) (l:List Int):Obj→Obj
 | .cells _ t frozen=>.cells (l.map (Value.int k)).toArray t frozen
 | o=>o
noncomputable def worldLoses_world (os:Os):World:=
 { World.holding Tryz.prog os ⟨#[],#[],[]⟩ with heap:=((((World.holding Tryz.prog os ⟨#[],#[],[]⟩).heap.modify 0 (setG .u32 tabZ)).modify 1 (setG .u64 powZ)).modify 2 (setG .u8 db32Z)).modify 3 (setG .u8 db64Z) }
noncomputable def worldLoses_wit:Array Value:=#[.slice none 0 0,.int .i64 0]
theorem worldLoses_met (os:Os):laidMet Tryz.prog Rows.worldLosesRow.laid ((worldLoses_world os).forCall (fun _ _=>0) ⟨#[],worldLoses_wit,[]⟩).memory:=
 laidMet_of_run' 8 (by kernel_rfl) (by kernel_rfl)
theorem worldLoses_reads (os:Os) {HT:Type} (en:TypeId×Value→HT):∃ places,DataW.whole en Tryz.prog ((worldLoses_world os).forCall (fun _ _=>0) ⟨#[],worldLoses_wit,[]⟩).memory Tryz.f3.params.toList Rows.worldLosesSpec.vars false worldLoses_wit.toList 8 = some ([.nil,.lit (.int .i64 0)],[],places):=
 ⟨[],by kernel_rfl⟩
theorem worldLoses_lifted (os:Os) (started:os.Started) (HT:Type) (en:TypeId×Value→HT) (F:Stop.Interp):
  ReturnsInHanded {} Tryz.checked os 3 .any ((OpenSpec.ofChange Rows.worldLosesSpec).preRow en Tryz.prog Tryz.f3 Rows.worldLosesRow.domain false Rows.worldLosesRow.laid) (((OpenSpec.ofChange Rows.worldLosesSpec).at F).post en Tryz.prog Tryz.f3 false true false false):=by
 obtain ⟨places,hx⟩:=worldLoses_reads os en
 refine returnsInHanded_of_row (C:=Tryz.checked) (s:=OpenSpec.ofChange Rows.worldLosesSpec) ownKnob0 started (by kernel_rfl) Tryz.func3
  (witness_row_at (enc:=en) (C:=Tryz.checked) false (worldLoses_world os) worldLoses_wit rfl (by kernel_rfl) (by kernel_rfl) (by kernel_rfl)
   (OpenSpec.preRow_of_cond 8 hx (by kernel_rfl) (fun k hk=>by cases hk) (by kernel_rfl) (worldLoses_met os))) ?_
 intro W base args ds gs before hval hW _ _ hwt hL _ _
 exact worldLoses_contract HT en W base args ds gs before hval hW hwt hL
theorem worldLoses_said:Rows.WorldLosesSaid:=
 OpenClaim.holds_of_cond 3 Tryz.f3 rfl rfl rfl rfl rfl rfl rfl ⟨rfl,rfl,rfl,rfl,rfl⟩ rfl rfl rfl rfl rfl (by kernel_rfl) Tryz.func3 jfAll
  (of_decide_eq_true (by kernel_rfl)) (by unfold Func.isWrapper; first | (rw [if_pos (by decide +kernel)]; kernel_rfl) | (rw [if_neg (by decide +kernel)]; exact ⟨rfl,rfl⟩))
  (fun os started H enc _ F=>by rw [OpenClaim.pre_eq_preRow]; exact worldLoses_lifted os started H enc F)
theorem worldLoses_plain (f : FuncId) (fn : Func) (hf : Tryz.pinned.checked.prog.funcNamed "wapentake/wapentakelaw23.WorldLoses" = some f) (hfn : Tryz.pinned.checked.prog.funcs[f]? = some fn) :
    false = Tryz.pinned.checked.prog.looks [] ∧ ∀ (j : Nat) t, fn.params[j]? = some t → Tryz.pinned.checked.prog.wantsStandIn t = false := by
  obtain rfl : f = 3 := Option.some.inj ((show Tryz.prog.funcNamed "wapentake/wapentakelaw23.WorldLoses" = some 3 by kernel_rfl).symm.trans hf) |>.symm
  obtain rfl : fn = Tryz.f3 := (Option.some.inj (Tryz.func3.symm.trans hfn)).symm
  refine ⟨by kernel_rfl, fun j t ht => ?_⟩
  rw [Tryz.params3] at ht
  have hm := Array.mem_of_getElem? ht
  simp only [List.mem_toArray, List.mem_cons, List.not_mem_nil, or_false] at hm
  rcases hm with rfl | rfl
  · exact (show Tryz.prog.wantsStandIn 22 = false by kernel_rfl)
  · exact (show Tryz.prog.wantsStandIn 3 = false by kernel_rfl)
theorem worldLoses_card:Rows.WorldLosesCardSaid:=
 Claim7.holds_tied_plain_at .later [] _ _ _ _ worldLoses_said (fun _ h=>by cases h) (by kernel_rfl) (fun _ h=>by cases h) worldLoses_row_tie rfl ⟨rfl,rfl⟩ (by kernel_rfl) rfl worldLoses_plain (by kernel_rfl)
end Go.Proofs.YtmpmildpioebhaaGreatDoor

/-
  THE CARD OF wapentakelaw19.RoundQuick: for every input that the row lets in, RoundQuick returns true and its arguments read as they did. Part 14 of 14. No condition stands ahead of the statement. Parts of this text were printed by a program of ours.
-/
import Derived.Test.YtimmoekliphobaaDoorQ13
set_option linter.all false
set_option maxRecDepth 100000
set_option maxHeartbeats 4000000
namespace Go.Proofs.YtimmoekliphobaaDoor
open Go Go.Sh Go.ChangeShapes Go.WideShapes Go.ChangeAt Go.RowKit
open Go.Sh.Ty (reg)
theorem roundQuick_go {n ht : Int} {s : Sl} {h : H} (hT : Tb h) (hs : SlOk 1 IntOk h s) : law19_RoundQuick.b n ht s (fun r h' => r = true ∧ Ext h h') h := by
  obtain ⟨l, hl, _⟩ := hs
  exact RoundQuick_spec n ht s l hT hl (fun h' hx => ⟨rfl, hx⟩)
theorem roundQuick_contract (HT : Type) (en : TypeId × Value → HT) (W : World) (base : Nat) (args : Array Value) (ds gs : List (DataW HT)) (before : List MemPlace)
    (hval : ∀ (j : Nat) t v, Tryd.f4.params[j]? = some t → args[j]? = some v → Value.okWide Tryd.prog W .any base t v)
    (hW : DataW.Whole en Tryd.prog Tryd.f4.params.toList Rows.roundQuickSpec.vars false W args.toList ds gs before) (hL : laidMetH Tryd.prog Rows.roundQuickRow.laid W) :
    Calls Tryd.prog 4 args W fun e W' => ∃ v, e = .returned v ∧ Rows.roundQuickSpec.post en Tryd.prog Tryd.f4 false true false false W args v W' := by
  have hW' := hW
  obtain ⟨p, q, hA0, hV, rfl, hfz, hnd⟩ := hW
  have hA : DataW.TrodAll en Tryd.prog W 0 (fun _ => true) true Tryd.f4.params.toList args.toList ds p := hA0
  rw [Tryd.params4] at hA hval
  obtain ⟨v0, vs0, d0, ds0, p0, q0, hargs, rfl, rfl, h0, r0⟩ := trodAll_cons hA
  obtain ⟨v1, vs1, d1, ds1, p1, q1, rfl, rfl, rfl, h1, r1⟩ := trodAll_cons r0
  obtain ⟨v2, vs2, d2, ds2, p2, q2, rfl, rfl, rfl, h2, r2⟩ := trodAll_cons r1
  obtain ⟨rfl, rfl, rfl⟩ := trodAll_nil r2
  obtain rfl : args = #[v0, v1, v2] := by cases args; simp_all
  obtain ⟨rfl, _⟩ := trodVars_none hV
  obtain ⟨n0, rfl, i0⟩ := arg_int Tryd.underlying3 (hval 0 3 v0 rfl rfl) h0
  obtain ⟨n1, rfl, i1⟩ := arg_int Tryd.underlying3 (hval 1 3 v1 rfl rfl) h1
  obtain ⟨n2, rfl, i2⟩ := arg_slice Tryd.underlying49 dec_ints (hval 2 49 v2 rfl rfl) h2
  refine (law19_RoundQuick.ok n0 n1 n2 (fun r h' => r = true ∧ Ext W.heap h') W.heap (roundQuick_go (tb_of_laid hL) i2) W rfl).mono ?_
  rintro e W' ⟨v, rfl, _, ho, hu, r, rfl, rfl, hx⟩
  exact ⟨_, rfl, post_ext rfl rfl (by decide +kernel) hW' rfl rfl rfl hx ho hu⟩
noncomputable def roundQuick_world (os : Os) : World :=
  { World.holding Tryd.prog os ⟨#[], #[], []⟩ with heap := (World.holding Tryd.prog os ⟨#[], #[], []⟩).heap.modify 0 fun
      | .cells _ t frozen => .cells (tabZ.map (Value.int .u32)).toArray t frozen
      | o => o }
noncomputable def roundQuick_wit : Array Value := #[.int .i64 0, .int .i64 0, .slice none 0 0]
theorem roundQuick_met (os : Os) : laidMet Tryd.prog Rows.roundQuickRow.laid ((roundQuick_world os).forCall (fun _ _ => 0) ⟨#[], roundQuick_wit, []⟩).memory :=
  laidMet_of_run' 8 (by kernel_rfl) (by kernel_rfl)
theorem roundQuick_reads (os : Os) {HT : Type} (en : TypeId × Value → HT) : ∃ places, DataW.whole en Tryd.prog ((roundQuick_world os).forCall (fun _ _ => 0) ⟨#[], roundQuick_wit, []⟩).memory Tryd.f4.params.toList Rows.roundQuickSpec.vars false roundQuick_wit.toList 8 = some ([.lit (.int .i64 0), .lit (.int .i64 0), .nil], [], places) :=
  ⟨[], by kernel_rfl⟩
theorem roundQuick_lifted (os : Os) (started : os.Started) (HT : Type) (en : TypeId × Value → HT) (F : Stop.Interp) :
    ReturnsInHanded {} Tryd.checked os 4 .any ((OpenSpec.ofChange Rows.roundQuickSpec).preRow en Tryd.prog Tryd.f4 Rows.roundQuickRow.domain false Rows.roundQuickRow.laid) (((OpenSpec.ofChange Rows.roundQuickSpec).at F).post en Tryd.prog Tryd.f4 false true false false) := by
  obtain ⟨places, hx⟩ := roundQuick_reads os en
  refine returnsInHanded_of_row (C := Tryd.checked) (s := OpenSpec.ofChange Rows.roundQuickSpec) ownKnob0 started (by kernel_rfl) Tryd.func4
    (witness_row_at (enc := en) (C := Tryd.checked) false (roundQuick_world os) roundQuick_wit rfl (by kernel_rfl) (by kernel_rfl) (by kernel_rfl)
      (OpenSpec.preRow_of_cond 8 hx (by kernel_rfl) (fun k hk => by cases hk) (by kernel_rfl) (roundQuick_met os))) ?_
  intro W base args ds gs before hval hW _ _ _ hL _ _
  exact roundQuick_contract HT en W base args ds gs before hval hW hL
theorem roundQuick_said : Rows.RoundQuickSaid :=
  OpenClaim.holds_of_cond 4 Tryd.f4 rfl rfl rfl rfl rfl rfl rfl ⟨rfl, rfl, rfl, rfl, rfl⟩ rfl rfl rfl rfl rfl (by kernel_rfl) Tryd.func4 (by kernel_rfl)
    (of_decide_eq_true (by kernel_rfl)) (by unfold Func.isWrapper; first | (rw [if_pos (by decide +kernel)]; kernel_rfl) | (rw [if_neg (by decide +kernel)]; exact ⟨rfl, rfl⟩))
    (fun os started H enc _ F => by rw [OpenClaim.pre_eq_preRow]; exact roundQuick_lifted os started H enc F)
theorem roundQuick_plain (f : FuncId) (fn : Func) (hf : Tryd.pinned.checked.prog.funcNamed "wapentake/wapentakelaw19.RoundQuick" = some f) (hfn : Tryd.pinned.checked.prog.funcs[f]? = some fn) :
    false = Tryd.pinned.checked.prog.looks [] ∧ ∀ (j : Nat) t, fn.params[j]? = some t → Tryd.pinned.checked.prog.wantsStandIn t = false := by
  obtain rfl : f = 4 := Option.some.inj ((show Tryd.prog.funcNamed "wapentake/wapentakelaw19.RoundQuick" = some 4 by kernel_rfl).symm.trans hf) |>.symm
  obtain rfl : fn = Tryd.f4 := (Option.some.inj (Tryd.func4.symm.trans hfn)).symm
  refine ⟨by kernel_rfl, fun j t ht => ?_⟩
  rw [Tryd.params4] at ht
  have hm := Array.mem_of_getElem? ht
  simp only [List.mem_toArray, List.mem_cons, List.not_mem_nil, or_false] at hm
  rcases hm with rfl | rfl | rfl
  · exact (show Tryd.prog.wantsStandIn 3 = false by kernel_rfl)
  · exact (show Tryd.prog.wantsStandIn 3 = false by kernel_rfl)
  · exact (show Tryd.prog.wantsStandIn 49 = false by kernel_rfl)
theorem roundQuick_card : Rows.RoundQuickCardSaid :=
  Claim7.holds_tied_plain_at .later [] _ _ _ _ roundQuick_said (fun _ h => by cases h) (by kernel_rfl) (fun _ h => by cases h) roundQuick_row_tie rfl ⟨rfl, rfl⟩ (by kernel_rfl) rfl roundQuick_plain (by kernel_rfl)
end Go.Proofs.YtimmoekliphobaaDoor

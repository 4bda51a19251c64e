/-
  THE CARD OF wapentakelaw19.RoundOnce: for every input that the row lets in, RoundOnce returns true and its arguments read as they did. Part 14 of 14. No condition stands ahead of the statement. Parts of this text were printed by a program of ours.
-/
import Derived.Test.YtimmoekliphobaaDoorO13
set_option linter.all false
namespace Go.Proofs.YtimmoekliphobaaDoor
open Go Go.Sh Go.ChangeShapes Go.WideShapes Go.ChangeAt Go.RowKit
open Go.Sh.Ty (reg)
set_option linter.unusedVariables false
set_option maxRecDepth 100000

theorem roundOnce_go {cfg : api_Config} {me ht base : Int} {s : Sl} {h : H} (hT : Tb h) (hht : IntOk h ht) (hc : ConfigDec h cfg) (hs : SlOk 151 CallDec h s) : law19_RoundOnce.b cfg me ht base s (fun r h' => r = true ∧ Ext h h') h := by
  obtain ⟨ms, hm, _⟩ := hc
  obtain ⟨l, hl, hd⟩ := hs
  refine RoundOnce_spec cfg ms me ht base s l hT hht hm hl (fun x hx => ?_) (fun h' hx => ⟨rfl, hx⟩)
  obtain ⟨⟨⟨qs, hq, _⟩, _⟩, _⟩ := hd x hx
  exact ⟨qs, hq⟩
theorem roundOnce_contract (HT : Type) (en : TypeId × Value → HT) (W : World) (base : Nat) (args : Array Value) (ds gs : List (DataW HT)) (before : List MemPlace)
    (hval : ∀ (j : Nat) t v, Tryd.f6.params[j]? = some t → args[j]? = some v → Value.okWide Tryd.prog W .any base t v)
    (hW : DataW.Whole en Tryd.prog Tryd.f6.params.toList Rows.roundOnceSpec.vars false W args.toList ds gs before) (hL : laidMetH Tryd.prog Rows.roundOnceRow.laid W) :
    Calls Tryd.prog 6 args W fun e W' => ∃ v, e = .returned v ∧ Rows.roundOnceSpec.post en Tryd.prog Tryd.f6 false true false false W args v W' := by
  have hW' := hW
  obtain ⟨p, q, hA0, hV, rfl, hfz, hnd⟩ := hW
  have hA : DataW.TrodAll en Tryd.prog W 0 (fun _ => true) true Tryd.f6.params.toList args.toList ds p := hA0
  rw [Tryd.params6] at hA hval
  obtain ⟨v0, vs0, d0, ds0, p0, q0, hargs, rfl, rfl, h0, r0⟩ := trodAll_cons hA
  obtain ⟨v1, vs1, d1, ds1, p1, q1, rfl, rfl, rfl, h1, r1⟩ := trodAll_cons r0
  obtain ⟨v2, vs2, d2, ds2, p2, q2, rfl, rfl, rfl, h2, r2⟩ := trodAll_cons r1
  obtain ⟨v3, vs3, d3, ds3, p3, q3, rfl, rfl, rfl, h3, r3⟩ := trodAll_cons r2
  obtain ⟨v4, vs4, d4, ds4, p4, q4, rfl, rfl, rfl, h4, r4⟩ := trodAll_cons r3
  obtain ⟨rfl, rfl, rfl⟩ := trodAll_nil r4
  obtain rfl : args = #[v0, v1, v2, v3, v4] := by cases args; simp_all
  obtain ⟨rfl, _⟩ := trodVars_none hV
  obtain ⟨n0, rfl, i0⟩ := arg_config (hval 0 54 v0 rfl rfl) h0
  obtain ⟨n1, rfl, i1⟩ := arg_int Tryd.underlying3 (hval 1 3 v1 rfl rfl) h1
  obtain ⟨n2, rfl, i2⟩ := arg_int Tryd.underlying3 (hval 2 3 v2 rfl rfl) h2
  obtain ⟨n3, rfl, i3⟩ := arg_int Tryd.underlying3 (hval 3 3 v3 rfl rfl) h3
  obtain ⟨n4, rfl, i4⟩ := arg_slice Tryd.underlying85 dec_calls (hval 4 85 v4 rfl rfl) h4
  refine (law19_RoundOnce.ok n0 n1 n2 n3 n4 (fun r h' => r = true ∧ Ext W.heap h') W.heap (roundOnce_go (tb_of_laid hL) i2 i0 i4) W rfl).mono ?_
  rintro e W' ⟨v, rfl, _, ho, hu, r, rfl, rfl, hx⟩
  exact ⟨_, rfl, post_ext rfl rfl (by decide +kernel) hW' rfl rfl rfl hx ho hu⟩
noncomputable def roundOnce_world (os : Os) : World :=
  { World.holding Tryd.prog os ⟨#[], #[], []⟩ with heap := (World.holding Tryd.prog os ⟨#[], #[], []⟩).heap.modify 0 fun
      | .cells _ t frozen => .cells (tabZ.map (Value.int .u32)).toArray t frozen
      | o => o }
noncomputable def roundOnce_wit : Array Value := #[.agg #[.int .i64 0, .slice none 0 0], .int .i64 0, .int .i64 0, .int .i64 0, .slice none 0 0]
theorem roundOnce_met (os : Os) : laidMet Tryd.prog Rows.roundOnceRow.laid ((roundOnce_world os).forCall (fun _ _ => 0) ⟨#[], roundOnce_wit, []⟩).memory :=
  laidMet_of_run' 8 (by kernel_rfl) (by kernel_rfl)
theorem roundOnce_reads (os : Os) {HT : Type} (en : TypeId × Value → HT) : ∃ places, DataW.whole en Tryd.prog ((roundOnce_world os).forCall (fun _ _ => 0) ⟨#[], roundOnce_wit, []⟩).memory Tryd.f6.params.toList Rows.roundOnceSpec.vars false roundOnce_wit.toList 8 = some ([.agg [.lit (.int .i64 0), .nil], .lit (.int .i64 0), .lit (.int .i64 0), .lit (.int .i64 0), .nil], [], places) :=
  ⟨[], by kernel_rfl⟩
theorem roundOnce_lifted (os : Os) (started : os.Started) (HT : Type) (en : TypeId × Value → HT) (F : Stop.Interp) :
    ReturnsInHanded {} Tryd.checked os 6 .any ((OpenSpec.ofChange Rows.roundOnceSpec).preRow en Tryd.prog Tryd.f6 Rows.roundOnceRow.domain false Rows.roundOnceRow.laid) (((OpenSpec.ofChange Rows.roundOnceSpec).at F).post en Tryd.prog Tryd.f6 false true false false) := by
  obtain ⟨places, hx⟩ := roundOnce_reads os en
  refine returnsInHanded_of_row (C := Tryd.checked) (s := OpenSpec.ofChange Rows.roundOnceSpec) ownKnob0 started (by kernel_rfl) Tryd.func6
    (witness_row_at (enc := en) (C := Tryd.checked) false (roundOnce_world os) roundOnce_wit rfl (by kernel_rfl) (by kernel_rfl) (by kernel_rfl)
      (OpenSpec.preRow_of_cond 8 hx (by kernel_rfl) (fun k hk => by cases hk) (by kernel_rfl) (roundOnce_met os))) ?_
  intro W base args ds gs before hval hW _ _ _ hL _ _
  exact roundOnce_contract HT en W base args ds gs before hval hW hL
theorem roundOnce_said : Rows.RoundOnceSaid :=
  OpenClaim.holds_of_cond 6 Tryd.f6 rfl rfl rfl rfl rfl rfl rfl ⟨rfl, rfl, rfl, rfl, rfl⟩ rfl rfl rfl rfl rfl (by kernel_rfl) Tryd.func6 (by kernel_rfl)
    (of_decide_eq_true (by kernel_rfl)) (by unfold Func.isWrapper; first | (rw [if_pos (by decide +kernel)]; kernel_rfl) | (rw [if_neg (by decide +kernel)]; exact ⟨rfl, rfl⟩))
    (fun os started H enc _ F => by rw [OpenClaim.pre_eq_preRow]; exact roundOnce_lifted os started H enc F)
theorem roundOnce_plain (f : FuncId) (fn : Func) (hf : Tryd.pinned.checked.prog.funcNamed "wapentake/wapentakelaw19.RoundOnce" = some f) (hfn : Tryd.pinned.checked.prog.funcs[f]? = some fn) :
    false = Tryd.pinned.checked.prog.looks [] ∧ ∀ (j : Nat) t, fn.params[j]? = some t → Tryd.pinned.checked.prog.wantsStandIn t = false := by
  obtain rfl : f = 6 := Option.some.inj ((show Tryd.prog.funcNamed "wapentake/wapentakelaw19.RoundOnce" = some 6 by kernel_rfl).symm.trans hf) |>.symm
  obtain rfl : fn = Tryd.f6 := (Option.some.inj (Tryd.func6.symm.trans hfn)).symm
  refine ⟨by kernel_rfl, fun j t ht => ?_⟩
  rw [Tryd.params6] at ht
  have hm := Array.mem_of_getElem? ht
  simp only [List.mem_toArray, List.mem_cons, List.not_mem_nil, or_false] at hm
  rcases hm with rfl | rfl | rfl | rfl | rfl
  · exact (show Tryd.prog.wantsStandIn 54 = false by kernel_rfl)
  · exact (show Tryd.prog.wantsStandIn 3 = false by kernel_rfl)
  · exact (show Tryd.prog.wantsStandIn 3 = false by kernel_rfl)
  · exact (show Tryd.prog.wantsStandIn 3 = false by kernel_rfl)
  · exact (show Tryd.prog.wantsStandIn 85 = false by kernel_rfl)
theorem roundOnce_card : Rows.RoundOnceCardSaid :=
  Claim7.holds_tied_plain_at .later [] _ _ _ _ roundOnce_said (fun _ h => by cases h) (by kernel_rfl) (fun _ h => by cases h) roundOnce_row_tie rfl ⟨rfl, rfl⟩ (by kernel_rfl) rfl roundOnce_plain (by kernel_rfl)
end Go.Proofs.YtimmoekliphobaaDoor

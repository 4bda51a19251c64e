/-
  THE CARD OF wapentakelaw19.RoundAgrees: for every input that the row lets in, RoundAgrees returns true and its arguments read as they did. Part 15 of 15. No condition stands ahead of the statement. Parts of this text were printed by a program of ours.
-/
import Derived.Test.YtimmoekliphobaaDoorG14
set_option linter.all false
set_option maxRecDepth 100000
set_option maxHeartbeats 4000000
namespace Go.Proofs.YtimmoekliphobaaDoor
open Go Go.Sh Go.ChangeShapes Go.WideShapes Go.ChangeAt Go.RowKit
open Go.Sh.Ty (reg)
theorem roundAgrees_go {n ht : Int} {s : Sl} {h : H} (hT : Tb h) (hs : SlOk 152 MoveDec h s) : law19_RoundAgrees.b n ht s (fun r h' => r = true ∧ Ext h h') h := by
  obtain ⟨l, hl, hd⟩ := hs
  refine RoundAgrees_spec n ht s l hT hl (fun x hx => ?_) (fun h' hx => ⟨rfl, hx⟩)
  obtain ⟨_, _, ⟨⟨qs, hq, _⟩, _⟩⟩ := hd x hx
  exact ⟨qs, hq⟩
theorem roundAgrees_contract (HT : Type) (en : TypeId × Value → HT) (W : World) (base : Nat) (args : Array Value) (ds gs : List (DataW HT)) (before : List MemPlace)
    (hval : ∀ (j : Nat) t v, Tryd.f7.params[j]? = some t → args[j]? = some v → Value.okWide Tryd.prog W .any base t v)
    (hW : DataW.Whole en Tryd.prog Tryd.f7.params.toList Rows.roundAgreesSpec.vars false W args.toList ds gs before) (hL : laidMetH Tryd.prog Rows.roundAgreesRow.laid W) :
    Calls Tryd.prog 7 args W fun e W' => ∃ v, e = .returned v ∧ Rows.roundAgreesSpec.post en Tryd.prog Tryd.f7 false true false false W args v W' := by
  have hW' := hW
  obtain ⟨p, q, hA0, hV, rfl, hfz, hnd⟩ := hW
  have hA : DataW.TrodAll en Tryd.prog W 0 (fun _ => true) true Tryd.f7.params.toList args.toList ds p := hA0
  rw [Tryd.params7] at hA hval
  obtain ⟨v0, vs0, d0, ds0, p0, q0, hargs, rfl, rfl, h0, r0⟩ := trodAll_cons hA
  obtain ⟨v1, vs1, d1, ds1, p1, q1, rfl, rfl, rfl, h1, r1⟩ := trodAll_cons r0
  obtain ⟨v2, vs2, d2, ds2, p2, q2, rfl, rfl, rfl, h2, r2⟩ := trodAll_cons r1
  obtain ⟨rfl, rfl, rfl⟩ := trodAll_nil r2
  obtain rfl : args = #[v0, v1, v2] := by cases args; simp_all
  obtain ⟨rfl, _⟩ := trodVars_none hV
  obtain ⟨n0, rfl, i0⟩ := arg_int Tryd.underlying3 (hval 0 3 v0 rfl rfl) h0
  obtain ⟨n1, rfl, i1⟩ := arg_int Tryd.underlying3 (hval 1 3 v1 rfl rfl) h1
  obtain ⟨n2, rfl, i2⟩ := arg_slice Tryd.underlying93 dec_movs (hval 2 93 v2 rfl rfl) h2
  refine (law19_RoundAgrees.ok n0 n1 n2 (fun r h' => r = true ∧ Ext W.heap h') W.heap (roundAgrees_go (tb_of_laid hL) i2) W rfl).mono ?_
  rintro e W' ⟨v, rfl, _, ho, hu, r, rfl, rfl, hx⟩
  exact ⟨_, rfl, post_ext rfl rfl (by decide +kernel) hW' rfl rfl rfl hx ho hu⟩
noncomputable def roundAgrees_world (os : Os) : World :=
  { World.holding Tryd.prog os ⟨#[], #[], []⟩ with heap := (World.holding Tryd.prog os ⟨#[], #[], []⟩).heap.modify 0 fun
      | .cells _ t frozen => .cells (tabZ.map (Value.int .u32)).toArray t frozen
      | o => o }
noncomputable def roundAgrees_wit : Array Value := #[.int .i64 0, .int .i64 0, .slice none 0 0]
theorem roundAgrees_met (os : Os) : laidMet Tryd.prog Rows.roundAgreesRow.laid ((roundAgrees_world os).forCall (fun _ _ => 0) ⟨#[], roundAgrees_wit, []⟩).memory :=
  laidMet_of_run' 8 (by kernel_rfl) (by kernel_rfl)
theorem roundAgrees_reads (os : Os) {HT : Type} (en : TypeId × Value → HT) : ∃ places, DataW.whole en Tryd.prog ((roundAgrees_world os).forCall (fun _ _ => 0) ⟨#[], roundAgrees_wit, []⟩).memory Tryd.f7.params.toList Rows.roundAgreesSpec.vars false roundAgrees_wit.toList 8 = some ([.lit (.int .i64 0), .lit (.int .i64 0), .nil], [], places) :=
  ⟨[], by kernel_rfl⟩
theorem roundAgrees_lifted (os : Os) (started : os.Started) (HT : Type) (en : TypeId × Value → HT) (F : Stop.Interp) :
    ReturnsInHanded {} Tryd.checked os 7 .any ((OpenSpec.ofChange Rows.roundAgreesSpec).preRow en Tryd.prog Tryd.f7 Rows.roundAgreesRow.domain false Rows.roundAgreesRow.laid) (((OpenSpec.ofChange Rows.roundAgreesSpec).at F).post en Tryd.prog Tryd.f7 false true false false) := by
  obtain ⟨places, hx⟩ := roundAgrees_reads os en
  refine returnsInHanded_of_row (C := Tryd.checked) (s := OpenSpec.ofChange Rows.roundAgreesSpec) ownKnob0 started (by kernel_rfl) Tryd.func7
    (witness_row_at (enc := en) (C := Tryd.checked) false (roundAgrees_world os) roundAgrees_wit rfl (by kernel_rfl) (by kernel_rfl) (by kernel_rfl)
      (OpenSpec.preRow_of_cond 8 hx (by kernel_rfl) (fun k hk => by cases hk) (by kernel_rfl) (roundAgrees_met os))) ?_
  intro W base args ds gs before hval hW _ _ _ hL _ _
  exact roundAgrees_contract HT en W base args ds gs before hval hW hL
theorem roundAgrees_said : Rows.RoundAgreesSaid :=
  OpenClaim.holds_of_cond 7 Tryd.f7 rfl rfl rfl rfl rfl rfl rfl ⟨rfl, rfl, rfl, rfl, rfl⟩ rfl rfl rfl rfl rfl (by kernel_rfl) Tryd.func7 (by kernel_rfl)
    (of_decide_eq_true (by kernel_rfl)) (by unfold Func.isWrapper; first | (rw [if_pos (by decide +kernel)]; kernel_rfl) | (rw [if_neg (by decide +kernel)]; exact ⟨rfl, rfl⟩))
    (fun os started H enc _ F => by rw [OpenClaim.pre_eq_preRow]; exact roundAgrees_lifted os started H enc F)
theorem roundAgrees_plain (f : FuncId) (fn : Func) (hf : Tryd.pinned.checked.prog.funcNamed "wapentake/wapentakelaw19.RoundAgrees" = some f) (hfn : Tryd.pinned.checked.prog.funcs[f]? = some fn) :
    false = Tryd.pinned.checked.prog.looks [] ∧ ∀ (j : Nat) t, fn.params[j]? = some t → Tryd.pinned.checked.prog.wantsStandIn t = false := by
  obtain rfl : f = 7 := Option.some.inj ((show Tryd.prog.funcNamed "wapentake/wapentakelaw19.RoundAgrees" = some 7 by kernel_rfl).symm.trans hf) |>.symm
  obtain rfl : fn = Tryd.f7 := (Option.some.inj (Tryd.func7.symm.trans hfn)).symm
  refine ⟨by kernel_rfl, fun j t ht => ?_⟩
  rw [Tryd.params7] at ht
  have hm := Array.mem_of_getElem? ht
  simp only [List.mem_toArray, List.mem_cons, List.not_mem_nil, or_false] at hm
  rcases hm with rfl | rfl | rfl
  · exact (show Tryd.prog.wantsStandIn 3 = false by kernel_rfl)
  · exact (show Tryd.prog.wantsStandIn 3 = false by kernel_rfl)
  · exact (show Tryd.prog.wantsStandIn 93 = false by kernel_rfl)
theorem roundAgrees_card : Rows.RoundAgreesCardSaid :=
  Claim7.holds_tied_plain_at .later [] _ _ _ _ roundAgrees_said (fun _ h => by cases h) (by kernel_rfl) (fun _ h => by cases h) roundAgrees_row_tie rfl ⟨rfl, rfl⟩ (by kernel_rfl) rfl roundAgrees_plain (by kernel_rfl)
end Go.Proofs.YtimmoekliphobaaDoor

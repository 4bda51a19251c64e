/-
  THE CARD OF wapentakelaw13.VoteBoxes: for every input that the row lets in, VoteBoxes returns true and its arguments read as they did. Part 3 of 6. No condition stands ahead of the statement. Parts of this text were printed by a program of ours.
-/
import Derived.Test.YtimmoekliphobaaDoorV02
set_option linter.all false
namespace Go.Proofs.YtimmoekliphobaaDoor
open Go Go.Sh
open Go.Sh.Ty (reg)
set_option linter.unusedVariables false
set_option maxRecDepth 100000
set_option maxHeartbeats 4000000
theorem sha_state_block.ok (hv : Pt) (b : Sl) (k : Unit → H → Prop) (h : H) (hh : sha_state_block.b hv b k h) : CallsH Prog 95 [reg hv, reg b].toArray h fun v h' => ∃ r : Unit, v = reg r ∧ k r h' := by
  unfold sha_state_block.b at hh
  refine CallsH.of 200 Tryd.func95 rfl Tryd.ntmps95 rfl (fun w0 => ?_)
  refine CW.seq ?_
  refine CW.region ?_
  refine box_elim hh (fun w hw hh => ?_)
  refine .e (e_allocP hw zo_215 rfl ?_)
  refine .nil ?_
  refine QN.then_ ?_
  refine CW.join (fun ρ h => ∃ (ρ' : Env), ρ = setl ρ' [(0, reg (hv : Pt)), (4, .pointer (some w))] ∧ (sha_state_block.j1 k) hv w h) ?_ ?_
  · refine CW.seq ?_
    refine CW.region ?_
    refine .val (v_move (v := reg ((0 : Int) : Int)) rfl) rfl ?_
    refine .nil ?_
    refine QN.then_ ?_
    refine CW.block ?_
    unfold sha_state_block.l1 at hh
    refine CW.loop (fun (σ0 : Int) ρ => match σ0 with | t26 => ∃ ρ' : Env, ρ = setl ρ' [(0, reg (hv : Pt)), (1, reg (b : Sl)), (4, .pointer (some w)), (26, reg (t26 : Int))]) hh ⟨_, setl_eq ⟨rfl, ⟨rfl, ⟨rfl, ⟨rfl, trivial⟩⟩⟩⟩⟩ ?_
    clear hh
    rintro s1 t26 ρ h ⟨ρ', rfl⟩ hh
    refine CW.seq ?_
    refine CW.region ?_
    refine .val (v_ilss rfl rfl) rfl ?_
    refine .nil ?_
    refine QN.then_ ?_
    refine CW.seq ?_
    refine CW.cond (decide (t26 < (16 : Int))) rfl (fun hb => ?_) (fun hb => ?_)
    · have hh := hh.1 hb
      refine CW.skip ?_
      refine QN.then_ ?_
      refine CW.seq ?_
      refine CW.block ?_
      refine CW.seq ?_
      refine CW.region ?_
      refine .val (v_move (v := reg (t26 : Int)) rfl) rfl ?_
      refine .val (v_assign (v := reg (t26 : Int)) rfl) rfl ?_
      refine .nil ?_
      refine QN.then_ ?_
      refine CW.region ?_
      refine .val (v_move (v := reg (t26 : Int)) rfl) rfl ?_
      refine .val (v_move (v := reg (b : Sl)) rfl) rfl ?_
      refine .val (v_move (v := reg (t26 : Int)) rfl) rfl ?_
      refine .val (v_imul rfl rfl) rfl ?_
      obtain ⟨hm, hh⟩ := hh
      refine .val (v_slice_ll sl_130 rfl rfl hm.1 hm.2) rfl ?_
      refine .e (e_callP fn_119 rfl rfl hh ?_)
      intro h t34 hh
      obtain ⟨i35, hi35, hh⟩ := hh
      refine .val (v_idx_arrP ar_215 rfl rfl hi35) rfl ?_
      obtain ⟨xw_2, hxw_2, hwxw_2, hh⟩ := hh
      refine .e (e_store (p := w) (nv := enc (t34 : UInt32)) i35.val rfl rfl rfl sz_185 rfl hxw_2 hwxw_2 (arr_ble i35 xw_2 _ rfl) (arr_set i35 xw_2 (t34 : UInt32) rfl) ?_)
      refine .nil ?_
      refine QN.blockN ?_
      refine QN.then_ ?_
      refine CW.region ?_
      refine .val (v_iadd rfl rfl) rfl ?_
      refine .val (v_move (v := reg ((iadd t26 (1 : Int)) : Int)) rfl) rfl ?_
      refine .nil ?_
      exact QN.thenJ ⟨(iadd t26 (1 : Int)), ⟨_, setl_eq ⟨rfl, ⟨rfl, ⟨rfl, ⟨rfl, trivial⟩⟩⟩⟩⟩, hh⟩
    · have hh := hh.2 hb
      refine CW.exit ?_
      refine QN.thenExit ?_
      refine QN.thenExit ?_
      refine QN.blockExit ?_
      exact QN.thenJ ⟨_, setl_eq ⟨rfl, ⟨rfl, trivial⟩⟩, hh⟩
  · rintro ρ h ⟨ρ', rfl, hh⟩
    unfold sha_state_block.j1 at hh
    refine CW.join (fun ρ h => ∃ (ρ' : Env), ρ = setl ρ' [(0, reg (hv : Pt)), (4, .pointer (some w))] ∧ (sha_state_block.j2 k) hv w h) ?_ ?_
    · refine CW.seq ?_
      refine CW.region ?_
      refine .val (v_assign (v := reg ((16 : Int) : Int)) rfl) rfl ?_
      refine .nil ?_
      refine QN.then_ ?_
      refine CW.block ?_
      unfold sha_state_block.l2 at hh
      refine CW.loop (fun (σ0 : Int) ρ => match σ0 with | i => ∃ ρ' : Env, ρ = setl ρ' [(0, reg (hv : Pt)), (4, .pointer (some w)), (6, reg (i : Int))]) hh ⟨_, setl_eq ⟨rfl, ⟨rfl, ⟨rfl, trivial⟩⟩⟩⟩ ?_
      clear hh
      rintro s2 i ρ h ⟨ρ', rfl⟩ hh
      refine CW.seq ?_
      refine CW.seq ?_
      refine CW.region ?_
      refine .val (v_move (v := reg (i : Int)) rfl) rfl ?_
      refine .val (v_ilss rfl rfl) rfl ?_
      refine .nil ?_
      refine QN.then_ ?_
      refine CW.cond (decide (i < (64 : Int))) rfl (fun hb_1 => ?_) (fun hb_1 => ?_)
      · have hh := hh.1 hb_1
        refine CW.skip ?_
        refine QN.then_ ?_
        refine CW.seq ?_
        refine CW.block ?_
        refine CW.seq ?_
        refine CW.drawN 10 rfl follows_mixed [0, 1, 2, 3, 4, 5, 6, 7, 8, 9] ?_
        refine .p 0 rfl (by kernel_rfl) (NoPanic.then_ (NoPanic.block (NoPanic.then_ (NoPanic.then_ (NoPanic.block (NoPanic.then_ (NoPanic.body))))))) (fun _ => v_move (v := reg (i : Int)) rfl) ?_
        refine .p 1 rfl (by kernel_rfl) (NoPanic.then_ (NoPanic.block (NoPanic.then_ (NoPanic.then_ (NoPanic.block (NoPanic.then_ (NoPanic.body))))))) (fun _ => v_isub rfl rfl) ?_
        obtain ⟨i43, hi43, hh⟩ := hh
        refine .p 2 rfl (by kernel_rfl) (NoPanic.then_ (NoPanic.block (NoPanic.then_ (NoPanic.then_ (NoPanic.block (NoPanic.then_ (NoPanic.body))))))) (fun _ => v_idx_arrP ar_215 rfl rfl hi43) ?_
        obtain ⟨t44, ⟨xt44, hxt44, hgt44⟩, hh⟩ := hh
        refine .r 3 (fun h' => ∃ x : Arr 64 UInt32, AtH h' w (enc x) ∧ ((fun (x : Arr 64 UInt32) => x i43) : Arr 64 UInt32 → UInt32) x = t44) rfl (by kernel_rfl) (NoPanic.then_ (NoPanic.block (NoPanic.then_ (NoPanic.then_ (NoPanic.block (NoPanic.then_ (NoPanic.body))))))) ⟨xt44, hxt44, hgt44⟩ (fun h' hS => hS.elim fun _ hS => v_ld1 (p := w) i43.val na_185 rfl hS.1 hS.2 (arr_get i43)) ?_
        refine .p 4 rfl (by kernel_rfl) (NoPanic.then_ (NoPanic.block (NoPanic.then_ (NoPanic.then_ (NoPanic.block (NoPanic.then_ (NoPanic.body))))))) (fun _ => v_move (v := reg (i : Int)) rfl) ?_
        refine .p 5 rfl (by kernel_rfl) (NoPanic.then_ (NoPanic.block (NoPanic.then_ (NoPanic.then_ (NoPanic.block (NoPanic.then_ (NoPanic.body))))))) (fun _ => v_isub rfl rfl) ?_
        obtain ⟨i47, hi47, hh⟩ := hh
        refine .p 6 rfl (by kernel_rfl) (NoPanic.then_ (NoPanic.block (NoPanic.then_ (NoPanic.then_ (NoPanic.block (NoPanic.then_ (NoPanic.body))))))) (fun _ => v_idx_arrP ar_215 rfl rfl hi47) ?_
        obtain ⟨t48, ⟨xt48, hxt48, hgt48⟩, hh⟩ := hh
        refine .r 7 (fun h' => ∃ x : Arr 64 UInt32, AtH h' w (enc x) ∧ ((fun (x : Arr 64 UInt32) => x i47) : Arr 64 UInt32 → UInt32) x = t48) rfl (by kernel_rfl) (NoPanic.then_ (NoPanic.block (NoPanic.then_ (NoPanic.then_ (NoPanic.block (NoPanic.then_ (NoPanic.body))))))) ⟨xt48, hxt48, hgt48⟩ (fun h' hS => hS.elim fun _ hS => v_ld1 (p := w) i47.val na_185 rfl hS.1 hS.2 (arr_get i47)) ?_
        refine .p 8 rfl (by kernel_rfl) (NoPanic.then_ (NoPanic.block (NoPanic.then_ (NoPanic.then_ (NoPanic.block (NoPanic.then_ (NoPanic.body))))))) (fun _ => v_assign (v := reg (t44 : UInt32)) rfl) ?_
        refine .p 9 rfl (by kernel_rfl) (NoPanic.then_ (NoPanic.block (NoPanic.then_ (NoPanic.then_ (NoPanic.block (NoPanic.then_ (NoPanic.body))))))) (fun _ => v_assign (v := reg (t48 : UInt32)) rfl) ?_
        refine .done (by kernel_rfl) ?_
        refine QN.then_ ?_
        refine CW.seq ?_
        refine CW.region ?_
        refine .val (v_move (v := reg (t44 : UInt32)) rfl) rfl ?_
        refine .e (e_callP fn_120 rfl rfl hh ?_)
        intro h t50 hh
        refine .val (v_move (v := reg (t44 : UInt32)) rfl) rfl ?_
        refine .e (e_callP fn_120 rfl rfl hh ?_)
        intro h t52 hh
        refine .val (v_xor32 (a := t50) (b := t52) rfl rfl) rfl ?_
        refine .val (v_move (v := reg (t44 : UInt32)) rfl) rfl ?_
        refine .val (v_shr32 (a := t44) (b := 3) rfl rfl (by decide)) rfl ?_
        refine .val (v_xor32 (a := (t50 ^^^ t52)) (b := (shr32 t44 3)) rfl rfl) rfl ?_
        refine .val (v_assign (v := reg (((t50 ^^^ t52) ^^^ (shr32 t44 3)) : UInt32)) rfl) rfl ?_
        refine .nil ?_
        refine QN.then_ ?_
        refine CW.seq ?_
        refine CW.region ?_
        refine .val (v_move (v := reg (t48 : UInt32)) rfl) rfl ?_
        refine .e (e_callP fn_120 rfl rfl hh ?_)
        intro h t58 hh
        refine .val (v_move (v := reg (t48 : UInt32)) rfl) rfl ?_
        refine .e (e_callP fn_120 rfl rfl hh ?_)
        intro h t60 hh
        refine .val (v_xor32 (a := t58) (b := t60) rfl rfl) rfl ?_
        refine .val (v_move (v := reg (t48 : UInt32)) rfl) rfl ?_
        refine .val (v_shr32 (a := t48) (b := 10) rfl rfl (by decide)) rfl ?_
        refine .val (v_xor32 (a := (t58 ^^^ t60)) (b := (shr32 t48 10)) rfl rfl) rfl ?_
        refine .val (v_assign (v := reg (((t58 ^^^ t60) ^^^ (shr32 t48 10)) : UInt32)) rfl) rfl ?_
        refine .nil ?_
        refine QN.then_ ?_
        refine CW.drawN 16 rfl follows_mixed [0, 1, 2, 3, 4, 5, 6, 7, 8, 9, 10, 11, 12, 13, 14] ?_
        refine .p 0 rfl (by kernel_rfl) (NoPanic.block (NoPanic.then_ (NoPanic.then_ (NoPanic.block (NoPanic.then_ (NoPanic.body)))))) (fun _ => v_move (v := reg (i : Int)) rfl) ?_
        refine .p 1 rfl (by kernel_rfl) (NoPanic.block (NoPanic.then_ (NoPanic.then_ (NoPanic.block (NoPanic.then_ (NoPanic.body)))))) (fun _ => v_move (v := reg (i : Int)) rfl) ?_
        refine .p 2 rfl (by kernel_rfl) (NoPanic.block (NoPanic.then_ (NoPanic.then_ (NoPanic.block (NoPanic.then_ (NoPanic.body)))))) (fun _ => v_isub rfl rfl) ?_
        obtain ⟨i68, hi68, hh⟩ := hh
        refine .p 3 rfl (by kernel_rfl) (NoPanic.block (NoPanic.then_ (NoPanic.then_ (NoPanic.block (NoPanic.then_ (NoPanic.body)))))) (fun _ => v_idx_arrP ar_215 rfl rfl hi68) ?_
        obtain ⟨t69, ⟨xt69, hxt69, hgt69⟩, hh⟩ := hh
        refine .r 4 (fun h' => ∃ x : Arr 64 UInt32, AtH h' w (enc x) ∧ ((fun (x : Arr 64 UInt32) => x i68) : Arr 64 UInt32 → UInt32) x = t69) rfl (by kernel_rfl) (NoPanic.block (NoPanic.then_ (NoPanic.then_ (NoPanic.block (NoPanic.then_ (NoPanic.body)))))) ⟨xt69, hxt69, hgt69⟩ (fun h' hS => hS.elim fun _ hS => v_ld1 (p := w) i68.val na_185 rfl hS.1 hS.2 (arr_get i68)) ?_
        refine .p 5 rfl (by kernel_rfl) (NoPanic.block (NoPanic.then_ (NoPanic.then_ (NoPanic.block (NoPanic.then_ (NoPanic.body)))))) (fun _ => v_move (v := reg (((t50 ^^^ t52) ^^^ (shr32 t44 3)) : UInt32)) rfl) ?_
        refine .p 6 rfl (by kernel_rfl) (NoPanic.block (NoPanic.then_ (NoPanic.then_ (NoPanic.block (NoPanic.then_ (NoPanic.body)))))) (fun _ => v_add32 (a := t69) (b := ((t50 ^^^ t52) ^^^ (shr32 t44 3))) rfl rfl) ?_
        refine .p 7 rfl (by kernel_rfl) (NoPanic.block (NoPanic.then_ (NoPanic.then_ (NoPanic.block (NoPanic.then_ (NoPanic.body)))))) (fun _ => v_move (v := reg (i : Int)) rfl) ?_
        refine .p 8 rfl (by kernel_rfl) (NoPanic.block (NoPanic.then_ (NoPanic.then_ (NoPanic.block (NoPanic.then_ (NoPanic.body)))))) (fun _ => v_isub rfl rfl) ?_
        obtain ⟨i74, hi74, hh⟩ := hh
        refine .p 9 rfl (by kernel_rfl) (NoPanic.block (NoPanic.then_ (NoPanic.then_ (NoPanic.block (NoPanic.then_ (NoPanic.body)))))) (fun _ => v_idx_arrP ar_215 rfl rfl hi74) ?_
        obtain ⟨t75, ⟨xt75, hxt75, hgt75⟩, hh⟩ := hh
        refine .r 10 (fun h' => ∃ x : Arr 64 UInt32, AtH h' w (enc x) ∧ ((fun (x : Arr 64 UInt32) => x i74) : Arr 64 UInt32 → UInt32) x = t75) rfl (by kernel_rfl) (NoPanic.block (NoPanic.then_ (NoPanic.then_ (NoPanic.block (NoPanic.then_ (NoPanic.body)))))) ⟨xt75, hxt75, hgt75⟩ (fun h' hS => hS.elim fun _ hS => v_ld1 (p := w) i74.val na_185 rfl hS.1 hS.2 (arr_get i74)) ?_
        refine .p 11 rfl (by kernel_rfl) (NoPanic.block (NoPanic.then_ (NoPanic.then_ (NoPanic.block (NoPanic.then_ (NoPanic.body)))))) (fun _ => v_add32 (a := (t69 + ((t50 ^^^ t52) ^^^ (shr32 t44 3)))) (b := t75) rfl rfl) ?_
        refine .p 12 rfl (by kernel_rfl) (NoPanic.block (NoPanic.then_ (NoPanic.then_ (NoPanic.block (NoPanic.then_ (NoPanic.body)))))) (fun _ => v_move (v := reg (((t58 ^^^ t60) ^^^ (shr32 t48 10)) : UInt32)) rfl) ?_
        refine .p 13 rfl (by kernel_rfl) (NoPanic.block (NoPanic.then_ (NoPanic.then_ (NoPanic.block (NoPanic.then_ (NoPanic.body)))))) (fun _ => v_add32 (a := ((t69 + ((t50 ^^^ t52) ^^^ (shr32 t44 3))) + t75)) (b := ((t58 ^^^ t60) ^^^ (shr32 t48 10))) rfl rfl) ?_
        obtain ⟨i79, hi79, hh⟩ := hh
        refine .p 14 rfl (by kernel_rfl) (NoPanic.block (NoPanic.then_ (NoPanic.then_ (NoPanic.block (NoPanic.then_ (NoPanic.body)))))) (fun _ => v_idx_arrP ar_215 rfl rfl hi79) ?_
        obtain ⟨xw_5, hxw_5, hwxw_5, hh⟩ := hh
        refine .w 15 (by kernel_rfl) rfl (by kernel_rfl) (.e (e_store (p := w) (nv := enc ((((t69 + ((t50 ^^^ t52) ^^^ (shr32 t44 3))) + t75) + ((t58 ^^^ t60) ^^^ (shr32 t48 10))) : UInt32)) i79.val rfl rfl rfl sz_185 rfl hxw_5 hwxw_5 (arr_ble i79 xw_5 _ rfl) (arr_set i79 xw_5 ((((t69 + ((t50 ^^^ t52) ^^^ (shr32 t44 3))) + t75) + ((t58 ^^^ t60) ^^^ (shr32 t48 10))) : UInt32) rfl) ?_))
        refine ⟨⟨⟨trivial, .inl (by kernel_rfl)⟩, .inl (by kernel_rfl)⟩, ?_⟩
        refine .done (by kernel_rfl) ?_
        refine QN.blockN ?_
        refine QN.then_ ?_
        refine CW.region ?_
        refine .val (v_move (v := reg (i : Int)) rfl) rfl ?_
        refine .val (v_iadd rfl rfl) rfl ?_
        refine .val (v_assign (v := reg ((iadd i (1 : Int)) : Int)) rfl) rfl ?_
        refine .nil ?_
        exact QN.thenJ ⟨(iadd i (1 : Int)), ⟨_, setl_eq ⟨rfl, ⟨rfl, ⟨rfl, trivial⟩⟩⟩⟩, hh⟩
      · have hh := hh.2 hb_1
        refine CW.exit ?_
        refine QN.thenExit ?_
        refine QN.thenExit ?_
        refine QN.blockExit ?_
        exact QN.thenJ ⟨_, setl_eq ⟨rfl, ⟨rfl, trivial⟩⟩, hh⟩
    · rintro ρ h ⟨ρ', rfl, hh⟩
      unfold sha_state_block.j2 at hh
      refine CW.seq ?_
      refine CW.drawN 40 rfl follows_mixed [0, 1, 2, 3, 4, 5, 6, 7, 8, 9, 10, 11, 12, 13, 14, 15, 16, 17, 18, 19, 20, 21, 22, 23, 24, 25, 26, 27, 28, 29, 30, 31, 32, 33, 34, 35, 36, 37, 38, 39] ?_
      refine .p 0 rfl (by kernel_rfl) (NoPanic.then_ (NoPanic.body)) (fun _ => v_move (v := reg (hv : Pt)) rfl) ?_
      obtain ⟨p, hp, hh⟩ := hh
      refine .p 1 rfl (by kernel_rfl) (NoPanic.then_ (NoPanic.body)) (fun _ => v_nilCheck (congrArg Value.pointer hp)) ?_
      obtain ⟨i82, hi82, hh⟩ := hh
      refine .p 2 rfl (by kernel_rfl) (NoPanic.then_ (NoPanic.body)) (fun _ => v_idx_arrP ar_187 rfl rfl hi82) ?_
      obtain ⟨t83, ⟨xt83, hxt83, hgt83⟩, hh⟩ := hh
      refine .r 3 (fun h' => ∃ x : Arr 8 UInt32, AtH h' p (enc x) ∧ ((fun (x : Arr 8 UInt32) => x i82) : Arr 8 UInt32 → UInt32) x = t83) rfl (by kernel_rfl) (NoPanic.then_ (NoPanic.body)) ⟨xt83, hxt83, hgt83⟩ (fun h' hS => hS.elim fun _ hS => v_ld1 (p := p) i82.val na_185 rfl hS.1 hS.2 (arr_get i82)) ?_
      refine .p 4 rfl (by kernel_rfl) (NoPanic.then_ (NoPanic.body)) (fun _ => v_move (v := reg (hv : Pt)) rfl) ?_
      refine .p 5 rfl (by kernel_rfl) (NoPanic.then_ (NoPanic.body)) (fun _ => v_nilCheck (congrArg Value.pointer hp)) ?_
      obtain ⟨i86, hi86, hh⟩ := hh
      refine .p 6 rfl (by kernel_rfl) (NoPanic.then_ (NoPanic.body)) (fun _ => v_idx_arrP ar_187 rfl rfl hi86) ?_
      obtain ⟨t87, ⟨xt87, hxt87, hgt87⟩, hh⟩ := hh
      refine .r 7 (fun h' => ∃ x : Arr 8 UInt32, AtH h' p (enc x) ∧ ((fun (x : Arr 8 UInt32) => x i86) : Arr 8 UInt32 → UInt32) x = t87) rfl (by kernel_rfl) (NoPanic.then_ (NoPanic.body)) ⟨xt87, hxt87, hgt87⟩ (fun h' hS => hS.elim fun _ hS => v_ld1 (p := p) i86.val na_185 rfl hS.1 hS.2 (arr_get i86)) ?_
      refine .p 8 rfl (by kernel_rfl) (NoPanic.then_ (NoPanic.body)) (fun _ => v_move (v := reg (hv : Pt)) rfl) ?_
      refine .p 9 rfl (by kernel_rfl) (NoPanic.then_ (NoPanic.body)) (fun _ => v_nilCheck (congrArg Value.pointer hp)) ?_
      obtain ⟨i90, hi90, hh⟩ := hh
      refine .p 10 rfl (by kernel_rfl) (NoPanic.then_ (NoPanic.body)) (fun _ => v_idx_arrP ar_187 rfl rfl hi90) ?_
      obtain ⟨t91, ⟨xt91, hxt91, hgt91⟩, hh⟩ := hh
      refine .r 11 (fun h' => ∃ x : Arr 8 UInt32, AtH h' p (enc x) ∧ ((fun (x : Arr 8 UInt32) => x i90) : Arr 8 UInt32 → UInt32) x = t91) rfl (by kernel_rfl) (NoPanic.then_ (NoPanic.body)) ⟨xt91, hxt91, hgt91⟩ (fun h' hS => hS.elim fun _ hS => v_ld1 (p := p) i90.val na_185 rfl hS.1 hS.2 (arr_get i90)) ?_
      refine .p 12 rfl (by kernel_rfl) (NoPanic.then_ (NoPanic.body)) (fun _ => v_move (v := reg (hv : Pt)) rfl) ?_
      refine .p 13 rfl (by kernel_rfl) (NoPanic.then_ (NoPanic.body)) (fun _ => v_nilCheck (congrArg Value.pointer hp)) ?_
      obtain ⟨i94, hi94, hh⟩ := hh
      refine .p 14 rfl (by kernel_rfl) (NoPanic.then_ (NoPanic.body)) (fun _ => v_idx_arrP ar_187 rfl rfl hi94) ?_
      obtain ⟨t95, ⟨xt95, hxt95, hgt95⟩, hh⟩ := hh
      refine .r 15 (fun h' => ∃ x : Arr 8 UInt32, AtH h' p (enc x) ∧ ((fun (x : Arr 8 UInt32) => x i94) : Arr 8 UInt32 → UInt32) x = t95) rfl (by kernel_rfl) (NoPanic.then_ (NoPanic.body)) ⟨xt95, hxt95, hgt95⟩ (fun h' hS => hS.elim fun _ hS => v_ld1 (p := p) i94.val na_185 rfl hS.1 hS.2 (arr_get i94)) ?_
      refine .p 16 rfl (by kernel_rfl) (NoPanic.then_ (NoPanic.body)) (fun _ => v_move (v := reg (hv : Pt)) rfl) ?_
      refine .p 17 rfl (by kernel_rfl) (NoPanic.then_ (NoPanic.body)) (fun _ => v_nilCheck (congrArg Value.pointer hp)) ?_
      obtain ⟨i98, hi98, hh⟩ := hh
      refine .p 18 rfl (by kernel_rfl) (NoPanic.then_ (NoPanic.body)) (fun _ => v_idx_arrP ar_187 rfl rfl hi98) ?_
      obtain ⟨t99, ⟨xt99, hxt99, hgt99⟩, hh⟩ := hh
      refine .r 19 (fun h' => ∃ x : Arr 8 UInt32, AtH h' p (enc x) ∧ ((fun (x : Arr 8 UInt32) => x i98) : Arr 8 UInt32 → UInt32) x = t99) rfl (by kernel_rfl) (NoPanic.then_ (NoPanic.body)) ⟨xt99, hxt99, hgt99⟩ (fun h' hS => hS.elim fun _ hS => v_ld1 (p := p) i98.val na_185 rfl hS.1 hS.2 (arr_get i98)) ?_
      refine .p 20 rfl (by kernel_rfl) (NoPanic.then_ (NoPanic.body)) (fun _ => v_move (v := reg (hv : Pt)) rfl) ?_
      refine .p 21 rfl (by kernel_rfl) (NoPanic.then_ (NoPanic.body)) (fun _ => v_nilCheck (congrArg Value.pointer hp)) ?_
      obtain ⟨i102, hi102, hh⟩ := hh
      refine .p 22 rfl (by kernel_rfl) (NoPanic.then_ (NoPanic.body)) (fun _ => v_idx_arrP ar_187 rfl rfl hi102) ?_
      obtain ⟨t103, ⟨xt103, hxt103, hgt103⟩, hh⟩ := hh
      refine .r 23 (fun h' => ∃ x : Arr 8 UInt32, AtH h' p (enc x) ∧ ((fun (x : Arr 8 UInt32) => x i102) : Arr 8 UInt32 → UInt32) x = t103) rfl (by kernel_rfl) (NoPanic.then_ (NoPanic.body)) ⟨xt103, hxt103, hgt103⟩ (fun h' hS => hS.elim fun _ hS => v_ld1 (p := p) i102.val na_185 rfl hS.1 hS.2 (arr_get i102)) ?_
      refine .p 24 rfl (by kernel_rfl) (NoPanic.then_ (NoPanic.body)) (fun _ => v_move (v := reg (hv : Pt)) rfl) ?_
      refine .p 25 rfl (by kernel_rfl) (NoPanic.then_ (NoPanic.body)) (fun _ => v_nilCheck (congrArg Value.pointer hp)) ?_
      obtain ⟨i106, hi106, hh⟩ := hh
      refine .p 26 rfl (by kernel_rfl) (NoPanic.then_ (NoPanic.body)) (fun _ => v_idx_arrP ar_187 rfl rfl hi106) ?_
      obtain ⟨t107, ⟨xt107, hxt107, hgt107⟩, hh⟩ := hh
      refine .r 27 (fun h' => ∃ x : Arr 8 UInt32, AtH h' p (enc x) ∧ ((fun (x : Arr 8 UInt32) => x i106) : Arr 8 UInt32 → UInt32) x = t107) rfl (by kernel_rfl) (NoPanic.then_ (NoPanic.body)) ⟨xt107, hxt107, hgt107⟩ (fun h' hS => hS.elim fun _ hS => v_ld1 (p := p) i106.val na_185 rfl hS.1 hS.2 (arr_get i106)) ?_
      refine .p 28 rfl (by kernel_rfl) (NoPanic.then_ (NoPanic.body)) (fun _ => v_move (v := reg (hv : Pt)) rfl) ?_
      refine .p 29 rfl (by kernel_rfl) (NoPanic.then_ (NoPanic.body)) (fun _ => v_nilCheck (congrArg Value.pointer hp)) ?_
      obtain ⟨i110, hi110, hh⟩ := hh
      refine .p 30 rfl (by kernel_rfl) (NoPanic.then_ (NoPanic.body)) (fun _ => v_idx_arrP ar_187 rfl rfl hi110) ?_
      obtain ⟨t111, ⟨xt111, hxt111, hgt111⟩, hh⟩ := hh
      refine .r 31 (fun h' => ∃ x : Arr 8 UInt32, AtH h' p (enc x) ∧ ((fun (x : Arr 8 UInt32) => x i110) : Arr 8 UInt32 → UInt32) x = t111) rfl (by kernel_rfl) (NoPanic.then_ (NoPanic.body)) ⟨xt111, hxt111, hgt111⟩ (fun h' hS => hS.elim fun _ hS => v_ld1 (p := p) i110.val na_185 rfl hS.1 hS.2 (arr_get i110)) ?_
      refine .p 32 rfl (by kernel_rfl) (NoPanic.then_ (NoPanic.body)) (fun _ => v_assign (v := reg (t83 : UInt32)) rfl) ?_
      refine .p 33 rfl (by kernel_rfl) (NoPanic.then_ (NoPanic.body)) (fun _ => v_assign (v := reg (t87 : UInt32)) rfl) ?_
      refine .p 34 rfl (by kernel_rfl) (NoPanic.then_ (NoPanic.body)) (fun _ => v_assign (v := reg (t91 : UInt32)) rfl) ?_
      refine .p 35 rfl (by kernel_rfl) (NoPanic.then_ (NoPanic.body)) (fun _ => v_assign (v := reg (t95 : UInt32)) rfl) ?_
      refine .p 36 rfl (by kernel_rfl) (NoPanic.then_ (NoPanic.body)) (fun _ => v_assign (v := reg (t99 : UInt32)) rfl) ?_
      refine .p 37 rfl (by kernel_rfl) (NoPanic.then_ (NoPanic.body)) (fun _ => v_assign (v := reg (t103 : UInt32)) rfl) ?_
      refine .p 38 rfl (by kernel_rfl) (NoPanic.then_ (NoPanic.body)) (fun _ => v_assign (v := reg (t107 : UInt32)) rfl) ?_
      refine .p 39 rfl (by kernel_rfl) (NoPanic.then_ (NoPanic.body)) (fun _ => v_assign (v := reg (t111 : UInt32)) rfl) ?_
      refine .done (by kernel_rfl) ?_
      refine QN.then_ ?_
      refine CW.join (fun ρ h => ∃ (ρ' : Env) (a_1 : UInt32) (c_1 : UInt32) (d_1 : UInt32) (e_1 : UInt32) (f_1 : UInt32) (g_1 : UInt32) (kv_1 : UInt32) (l_1 : UInt32), ρ = setl ρ' [(0, reg (hv : Pt)), (11, reg (a_1 : UInt32)), (12, reg (c_1 : UInt32)), (13, reg (d_1 : UInt32)), (14, reg (e_1 : UInt32)), (15, reg (f_1 : UInt32)), (16, reg (g_1 : UInt32)), (17, reg (kv_1 : UInt32)), (18, reg (l_1 : UInt32))] ∧ (sha_state_block.j3 k) hv a_1 c_1 d_1 e_1 f_1 g_1 kv_1 l_1 h) ?_ ?_
      · refine CW.seq ?_
        refine CW.region ?_
        obtain ⟨t112, ⟨xt112, hxt112, hgt112⟩, hh⟩ := hh
        refine .val (v_ldA (p := w) 0 ag_215 rfl hxt112 hgt112 get_215_all (fun _ => (arr_len (n := 64) _)) (fun _ => rfl)) rfl ?_
        refine .val (v_move (v := reg ((0 : Int) : Int)) rfl) rfl ?_
        refine .nil ?_
        refine QN.then_ ?_
        refine CW.block ?_
        unfold sha_state_block.l3 at hh
        refine CW.loop (fun (σ0 : UInt32 × UInt32 × UInt32 × UInt32 × UInt32 × UInt32 × UInt32 × UInt32 × Int) ρ => match σ0 with | (a, c, d, e, f, g, kv, l, t113) => ∃ ρ' : Env, ρ = setl ρ' [(0, reg (hv : Pt)), (112, reg (t112 : Arr 64 UInt32)), (11, reg (a : UInt32)), (12, reg (c : UInt32)), (13, reg (d : UInt32)), (14, reg (e : UInt32)), (15, reg (f : UInt32)), (16, reg (g : UInt32)), (17, reg (kv : UInt32)), (18, reg (l : UInt32)), (113, reg (t113 : Int))]) hh ⟨_, setl_eq ⟨rfl, ⟨rfl, ⟨rfl, ⟨rfl, ⟨rfl, ⟨rfl, ⟨rfl, ⟨rfl, ⟨rfl, ⟨rfl, ⟨rfl, trivial⟩⟩⟩⟩⟩⟩⟩⟩⟩⟩⟩⟩ ?_
        clear hh
        rintro s3 ⟨a, c, d, e, f, g, kv, l, t113⟩ ρ h ⟨ρ', rfl⟩ hh
        refine CW.seq ?_
        refine CW.region ?_
        refine .val (v_ilss rfl rfl) rfl ?_
        refine .nil ?_
        refine QN.then_ ?_
        refine CW.seq ?_
        refine CW.cond (decide (t113 < (64 : Int))) rfl (fun hb_2 => ?_) (fun hb_2 => ?_)
        · have hh := hh.1 hb_2
          refine CW.skip ?_
          refine QN.then_ ?_
          refine CW.seq ?_
          refine CW.block ?_
          refine CW.seq ?_
          refine CW.region ?_
          refine .val (v_move (v := reg (t113 : Int)) rfl) rfl ?_
          obtain ⟨i116, hi116, hh⟩ := hh
          refine .val (v_index1P ar_215 na_185 rfl rfl hi116) rfl ?_
          refine .val (v_assign (v := reg (t113 : Int)) rfl) rfl ?_
          refine .val (v_assign (v := reg ((t112 i116) : UInt32)) rfl) rfl ?_
          refine .nil ?_
          refine QN.then_ ?_
          refine CW.seq ?_
          refine CW.region ?_
          refine .val (v_move (v := reg (f : UInt32)) rfl) rfl ?_
          refine .e (e_callP fn_120 rfl rfl hh ?_)
          intro h t118 hh
          refine .val (v_move (v := reg (f : UInt32)) rfl) rfl ?_
          refine .e (e_callP fn_120 rfl rfl hh ?_)
          intro h t120 hh
          refine .val (v_xor32 (a := t118) (b := t120) rfl rfl) rfl ?_
          refine .val (v_move (v := reg (f : UInt32)) rfl) rfl ?_
          refine .e (e_callP fn_120 rfl rfl hh ?_)
          intro h t123 hh
          refine .val (v_xor32 (a := (t118 ^^^ t120)) (b := t123) rfl rfl) rfl ?_
          refine .val (v_assign (v := reg (((t118 ^^^ t120) ^^^ t123) : UInt32)) rfl) rfl ?_
          refine .nil ?_
          refine QN.then_ ?_
          refine CW.seq ?_
          refine CW.region ?_
          refine .val (v_move (v := reg (l : UInt32)) rfl) rfl ?_
          refine .val (v_move (v := reg (((t118 ^^^ t120) ^^^ t123) : UInt32)) rfl) rfl ?_
          refine .val (v_add32 (a := l) (b := ((t118 ^^^ t120) ^^^ t123)) rfl rfl) rfl ?_
          refine .val (v_move (v := reg (f : UInt32)) rfl) rfl ?_
          refine .val (v_move (v := reg (g : UInt32)) rfl) rfl ?_
          refine .val (v_and32 (a := f) (b := g) rfl rfl) rfl ?_
          refine .val (v_move (v := reg (f : UInt32)) rfl) rfl ?_
          refine .val (v_not32 rfl) rfl ?_
          refine .val (v_move (v := reg (kv : UInt32)) rfl) rfl ?_
          refine .val (v_and32 (a := (~~~f)) (b := kv) rfl rfl) rfl ?_
          refine .val (v_xor32 (a := (f &&& g)) (b := ((~~~f) &&& kv)) rfl rfl) rfl ?_
          refine .val (v_add32 (a := (l + ((t118 ^^^ t120) ^^^ t123))) (b := ((f &&& g) ^^^ ((~~~f) &&& kv))) rfl rfl) rfl ?_
          refine .val (v_move (v := reg (t113 : Int)) rfl) rfl ?_
          obtain ⟨i138, hi138, hh⟩ := hh
          refine .val (v_idx_arrP ar_215 rfl rfl hi138) rfl ?_
          obtain ⟨t139, ⟨xt139, hxt139, hgt139⟩, hh⟩ := hh
          refine .val (v_ld1 (p := (⟨0, 0, none⟩ : Addr)) i138.val na_185 rfl hxt139 hgt139 (arr_get i138)) rfl ?_
          refine .val (v_add32 (a := ((l + ((t118 ^^^ t120) ^^^ t123)) + ((f &&& g) ^^^ ((~~~f) &&& kv)))) (b := t139) rfl rfl) rfl ?_
          refine .val (v_move (v := reg ((t112 i116) : UInt32)) rfl) rfl ?_
          refine .val (v_add32 (a := (((l + ((t118 ^^^ t120) ^^^ t123)) + ((f &&& g) ^^^ ((~~~f) &&& kv))) + t139)) (b := (t112 i116)) rfl rfl) rfl ?_
          refine .val (v_assign (v := reg (((((l + ((t118 ^^^ t120) ^^^ t123)) + ((f &&& g) ^^^ ((~~~f) &&& kv))) + t139) + (t112 i116)) : UInt32)) rfl) rfl ?_
          refine .nil ?_
          refine QN.then_ ?_
          refine CW.seq ?_
          refine CW.region ?_
          refine .val (v_move (v := reg (a : UInt32)) rfl) rfl ?_
          refine .e (e_callP fn_120 rfl rfl hh ?_)
          intro h t144 hh
          refine .val (v_move (v := reg (a : UInt32)) rfl) rfl ?_
          refine .e (e_callP fn_120 rfl rfl hh ?_)
          intro h t146 hh
          refine .val (v_xor32 (a := t144) (b := t146) rfl rfl) rfl ?_
          refine .val (v_move (v := reg (a : UInt32)) rfl) rfl ?_
          refine .e (e_callP fn_120 rfl rfl hh ?_)
          intro h t149 hh
          refine .val (v_xor32 (a := (t144 ^^^ t146)) (b := t149) rfl rfl) rfl ?_
          refine .val (v_assign (v := reg (((t144 ^^^ t146) ^^^ t149) : UInt32)) rfl) rfl ?_
          refine .nil ?_
          refine QN.then_ ?_
          refine CW.seq ?_
          refine CW.region ?_
          refine .val (v_move (v := reg (((t144 ^^^ t146) ^^^ t149) : UInt32)) rfl) rfl ?_
          refine .val (v_move (v := reg (a : UInt32)) rfl) rfl ?_
          refine .val (v_move (v := reg (c : UInt32)) rfl) rfl ?_
          refine .val (v_and32 (a := a) (b := c) rfl rfl) rfl ?_
          refine .val (v_move (v := reg (a : UInt32)) rfl) rfl ?_
          refine .val (v_move (v := reg (d : UInt32)) rfl) rfl ?_
          refine .val (v_and32 (a := a) (b := d) rfl rfl) rfl ?_
          refine .val (v_xor32 (a := (a &&& c)) (b := (a &&& d)) rfl rfl) rfl ?_
          refine .val (v_move (v := reg (c : UInt32)) rfl) rfl ?_
          refine .val (v_move (v := reg (d : UInt32)) rfl) rfl ?_
          refine .val (v_and32 (a := c) (b := d) rfl rfl) rfl ?_
          refine .val (v_xor32 (a := ((a &&& c) ^^^ (a &&& d))) (b := (c &&& d)) rfl rfl) rfl ?_
          refine .val (v_add32 (a := ((t144 ^^^ t146) ^^^ t149)) (b := (((a &&& c) ^^^ (a &&& d)) ^^^ (c &&& d))) rfl rfl) rfl ?_
          refine .val (v_assign (v := reg ((((t144 ^^^ t146) ^^^ t149) + (((a &&& c) ^^^ (a &&& d)) ^^^ (c &&& d))) : UInt32)) rfl) rfl ?_
          refine .nil ?_
          refine QN.then_ ?_
          refine CW.region ?_
          refine .val (v_move (v := reg (((((l + ((t118 ^^^ t120) ^^^ t123)) + ((f &&& g) ^^^ ((~~~f) &&& kv))) + t139) + (t112 i116)) : UInt32)) rfl) rfl ?_
          refine .val (v_move (v := reg ((((t144 ^^^ t146) ^^^ t149) + (((a &&& c) ^^^ (a &&& d)) ^^^ (c &&& d))) : UInt32)) rfl) rfl ?_
          refine .val (v_add32 (a := ((((l + ((t118 ^^^ t120) ^^^ t123)) + ((f &&& g) ^^^ ((~~~f) &&& kv))) + t139) + (t112 i116))) (b := (((t144 ^^^ t146) ^^^ t149) + (((a &&& c) ^^^ (a &&& d)) ^^^ (c &&& d)))) rfl rfl) rfl ?_
          refine .val (v_move (v := reg (a : UInt32)) rfl) rfl ?_
          refine .val (v_move (v := reg (c : UInt32)) rfl) rfl ?_
          refine .val (v_move (v := reg (d : UInt32)) rfl) rfl ?_
          refine .val (v_move (v := reg (e : UInt32)) rfl) rfl ?_
          refine .val (v_move (v := reg (((((l + ((t118 ^^^ t120) ^^^ t123)) + ((f &&& g) ^^^ ((~~~f) &&& kv))) + t139) + (t112 i116)) : UInt32)) rfl) rfl ?_
          refine .val (v_add32 (a := e) (b := ((((l + ((t118 ^^^ t120) ^^^ t123)) + ((f &&& g) ^^^ ((~~~f) &&& kv))) + t139) + (t112 i116))) rfl rfl) rfl ?_
          refine .val (v_move (v := reg (f : UInt32)) rfl) rfl ?_
          refine .val (v_move (v := reg (g : UInt32)) rfl) rfl ?_
          refine .val (v_move (v := reg (kv : UInt32)) rfl) rfl ?_
          refine .val (v_assign (v := reg ((((((l + ((t118 ^^^ t120) ^^^ t123)) + ((f &&& g) ^^^ ((~~~f) &&& kv))) + t139) + (t112 i116)) + (((t144 ^^^ t146) ^^^ t149) + (((a &&& c) ^^^ (a &&& d)) ^^^ (c &&& d)))) : UInt32)) rfl) rfl ?_
          refine .val (v_assign (v := reg (a : UInt32)) rfl) rfl ?_
          refine .val (v_assign (v := reg (c : UInt32)) rfl) rfl ?_
          refine .val (v_assign (v := reg (d : UInt32)) rfl) rfl ?_
          refine .val (v_assign (v := reg ((e + ((((l + ((t118 ^^^ t120) ^^^ t123)) + ((f &&& g) ^^^ ((~~~f) &&& kv))) + t139) + (t112 i116))) : UInt32)) rfl) rfl ?_
          refine .val (v_assign (v := reg (f : UInt32)) rfl) rfl ?_
          refine .val (v_assign (v := reg (g : UInt32)) rfl) rfl ?_
          refine .val (v_assign (v := reg (kv : UInt32)) rfl) rfl ?_
          refine .nil ?_
          refine QN.blockN ?_
          refine QN.then_ ?_
          refine CW.region ?_
          refine .val (v_iadd rfl rfl) rfl ?_
          refine .val (v_move (v := reg ((iadd t113 (1 : Int)) : Int)) rfl) rfl ?_
          refine .nil ?_
          exact QN.thenJ ⟨((((((l + ((t118 ^^^ t120) ^^^ t123)) + ((f &&& g) ^^^ ((~~~f) &&& kv))) + t139) + (t112 i116)) + (((t144 ^^^ t146) ^^^ t149) + (((a &&& c) ^^^ (a &&& d)) ^^^ (c &&& d)))), a, c, d, (e + ((((l + ((t118 ^^^ t120) ^^^ t123)) + ((f &&& g) ^^^ ((~~~f) &&& kv))) + t139) + (t112 i116))), f, g, kv, (iadd t113 (1 : Int))), ⟨_, setl_eq ⟨rfl, ⟨rfl, ⟨rfl, ⟨rfl, ⟨rfl, ⟨rfl, ⟨rfl, ⟨rfl, ⟨rfl, ⟨rfl, ⟨rfl, trivial⟩⟩⟩⟩⟩⟩⟩⟩⟩⟩⟩⟩, hh⟩
        · have hh := hh.2 hb_2
          refine CW.exit ?_
          refine QN.thenExit ?_
          refine QN.thenExit ?_
          refine QN.blockExit ?_
          exact QN.thenJ ⟨_, a, c, d, e, f, g, kv, l, setl_eq ⟨rfl, ⟨rfl, ⟨rfl, ⟨rfl, ⟨rfl, ⟨rfl, ⟨rfl, ⟨rfl, ⟨rfl, trivial⟩⟩⟩⟩⟩⟩⟩⟩⟩, hh⟩
      · rintro ρ h ⟨ρ', a_1, c_1, d_1, e_1, f_1, g_1, kv_1, l_1, rfl, hh⟩
        unfold sha_state_block.j3 at hh
        refine CW.seq ?_
        refine CW.region ?_
        refine .val (v_move (v := reg (a_1 : UInt32)) rfl) rfl ?_
        refine .val (v_move (v := reg (c_1 : UInt32)) rfl) rfl ?_
        refine .val (v_move (v := reg (d_1 : UInt32)) rfl) rfl ?_
        refine .val (v_move (v := reg (e_1 : UInt32)) rfl) rfl ?_
        refine .val (v_move (v := reg (f_1 : UInt32)) rfl) rfl ?_
        refine .val (v_move (v := reg (g_1 : UInt32)) rfl) rfl ?_
        refine .val (v_move (v := reg (kv_1 : UInt32)) rfl) rfl ?_
        refine .val (v_move (v := reg (l_1 : UInt32)) rfl) rfl ?_
        refine .val (v_buildAT (arrOf [a_1, c_1, d_1, e_1, f_1, g_1, kv_1, l_1] : Arr 8 UInt32) zo_186 ar_186 rfl rfl rfl) rfl ?_
        refine .val (v_move (v := reg ((0 : Int) : Int)) rfl) rfl ?_
        refine .nil ?_
        refine QN.then_ ?_
        refine CW.block ?_
        unfold sha_state_block.l4 at hh
        refine CW.loop (fun (σ0 : Int) ρ => match σ0 with | t186 => ∃ ρ' : Env, ρ = setl ρ' [(0, reg (hv : Pt)), (185, reg ((arrOf [a_1, c_1, d_1, e_1, f_1, g_1, kv_1, l_1] : Arr 8 UInt32) : Arr 8 UInt32)), (186, reg (t186 : Int))]) hh ⟨_, setl_eq ⟨rfl, ⟨rfl, ⟨rfl, trivial⟩⟩⟩⟩ ?_
        clear hh
        rintro s4 t186 ρ h ⟨ρ', rfl⟩ hh
        refine CW.seq ?_
        refine CW.region ?_
        refine .val (v_ilss rfl rfl) rfl ?_
        refine .nil ?_
        refine QN.then_ ?_
        refine CW.seq ?_
        refine CW.cond (decide (t186 < (8 : Int))) rfl (fun hb_3 => ?_) (fun hb_3 => ?_)
        · have hh := hh.1 hb_3
          refine CW.skip ?_
          refine QN.then_ ?_
          refine CW.seq ?_
          refine CW.block ?_
          refine CW.seq ?_
          refine CW.region ?_
          refine .val (v_move (v := reg (t186 : Int)) rfl) rfl ?_
          obtain ⟨i189, hi189, hh⟩ := hh
          refine .val (v_index1P ar_186 na_185 rfl rfl hi189) rfl ?_
          refine .val (v_assign (v := reg (t186 : Int)) rfl) rfl ?_
          refine .val (v_assign (v := reg (((arrOf [a_1, c_1, d_1, e_1, f_1, g_1, kv_1, l_1] : Arr 8 UInt32) i189) : UInt32)) rfl) rfl ?_
          refine .nil ?_
          refine QN.then_ ?_
          refine CW.drawN 10 rfl follows_mixed [0, 1, 2, 3, 4, 5, 6, 7, 8] ?_
          refine .p 0 rfl (by kernel_rfl) (NoPanic.block (NoPanic.then_ (NoPanic.then_ (NoPanic.block (NoPanic.body))))) (fun _ => v_move (v := reg (hv : Pt)) rfl) ?_
          refine .p 1 rfl (by kernel_rfl) (NoPanic.block (NoPanic.then_ (NoPanic.then_ (NoPanic.block (NoPanic.body))))) (fun _ => v_move (v := reg (t186 : Int)) rfl) ?_
          obtain ⟨p_1, hp_1, hh⟩ := hh
          refine .p 2 rfl (by kernel_rfl) (NoPanic.block (NoPanic.then_ (NoPanic.then_ (NoPanic.block (NoPanic.body))))) (fun _ => v_nilCheck (congrArg Value.pointer hp_1)) ?_
          obtain ⟨i193, hi193, hh⟩ := hh
          refine .p 3 rfl (by kernel_rfl) (NoPanic.block (NoPanic.then_ (NoPanic.then_ (NoPanic.block (NoPanic.body))))) (fun _ => v_idx_arrP ar_187 rfl rfl hi193) ?_
          obtain ⟨t194, ⟨xt194, hxt194, hgt194⟩, hh⟩ := hh
          refine .r 4 (fun h' => ∃ x : Arr 8 UInt32, AtH h' p_1 (enc x) ∧ ((fun (x : Arr 8 UInt32) => x i193) : Arr 8 UInt32 → UInt32) x = t194) rfl (by kernel_rfl) (NoPanic.block (NoPanic.then_ (NoPanic.then_ (NoPanic.block (NoPanic.body))))) ⟨xt194, hxt194, hgt194⟩ (fun h' hS => hS.elim fun _ hS => v_ld1 (p := p_1) i193.val na_185 rfl hS.1 hS.2 (arr_get i193)) ?_
          refine .p 5 rfl (by kernel_rfl) (NoPanic.block (NoPanic.then_ (NoPanic.then_ (NoPanic.block (NoPanic.body))))) (fun _ => v_move (v := reg (((arrOf [a_1, c_1, d_1, e_1, f_1, g_1, kv_1, l_1] : Arr 8 UInt32) i189) : UInt32)) rfl) ?_
          refine .p 6 rfl (by kernel_rfl) (NoPanic.block (NoPanic.then_ (NoPanic.then_ (NoPanic.block (NoPanic.body))))) (fun _ => v_add32 (a := t194) (b := ((arrOf [a_1, c_1, d_1, e_1, f_1, g_1, kv_1, l_1] : Arr 8 UInt32) i189)) rfl rfl) ?_
          refine .p 7 rfl (by kernel_rfl) (NoPanic.block (NoPanic.then_ (NoPanic.then_ (NoPanic.block (NoPanic.body))))) (fun _ => v_nilCheck (congrArg Value.pointer hp_1)) ?_
          obtain ⟨i198, hi198, hh⟩ := hh
          refine .p 8 rfl (by kernel_rfl) (NoPanic.block (NoPanic.then_ (NoPanic.then_ (NoPanic.block (NoPanic.body))))) (fun _ => v_idx_arrP ar_187 rfl rfl hi198) ?_
          obtain ⟨xw_7, hxw_7, hwxw_7, hh⟩ := hh
          refine .w 9 (by kernel_rfl) rfl (by kernel_rfl) (.e (e_store (p := p_1) (nv := enc ((t194 + ((arrOf [a_1, c_1, d_1, e_1, f_1, g_1, kv_1, l_1] : Arr 8 UInt32) i189)) : UInt32)) i198.val rfl rfl rfl sz_185 rfl hxw_7 hwxw_7 (arr_ble i198 xw_7 _ rfl) (arr_set i198 xw_7 ((t194 + ((arrOf [a_1, c_1, d_1, e_1, f_1, g_1, kv_1, l_1] : Arr 8 UInt32) i189)) : UInt32) rfl) ?_))
          refine ⟨⟨trivial, .inl (by kernel_rfl)⟩, ?_⟩
          refine .done (by kernel_rfl) ?_
          refine QN.blockN ?_
          refine QN.then_ ?_
          refine CW.region ?_
          refine .val (v_iadd rfl rfl) rfl ?_
          refine .val (v_move (v := reg ((iadd t186 (1 : Int)) : Int)) rfl) rfl ?_
          refine .nil ?_
          exact QN.thenJ ⟨(iadd t186 (1 : Int)), ⟨_, setl_eq ⟨rfl, ⟨rfl, ⟨rfl, trivial⟩⟩⟩⟩, hh⟩
        · have hh := hh.2 hb_3
          refine CW.exit ?_
          refine QN.thenExit ?_
          refine QN.thenExit ?_
          refine QN.blockExit ?_
          exact ret0n rfl ⟨(), rfl, hh⟩
end Go.Proofs.YtimmoekliphobaaDoor
namespace Go.Proofs.YtimmoekliphobaaDoor
open Go Go.Sh
open Go.Sh.Ty (reg)
set_option linter.unusedVariables false
set_option maxRecDepth 100000
set_option maxHeartbeats 4000000
theorem sha_word.ok (b : Sl) (k : UInt32 → H → Prop) (h : H) (hh : sha_word.b b k h) : CallsH Prog 119 [reg b].toArray h fun v h' => ∃ r : UInt32, v = reg r ∧ k r h' := by
  unfold sha_word.b at hh
  refine CallsH.of 25 Tryd.func119 rfl Tryd.ntmps119 rfl (fun w0 => ?_)
  refine CW.seq ?_
  refine CW.region ?_
  refine .val (v_assign (v := reg ((0 : UInt32) : UInt32)) rfl) rfl ?_
  refine .nil ?_
  refine QN.then_ ?_
  refine CW.seq ?_
  refine CW.drawN 23 rfl follows_mixed [0, 1, 2, 3, 4, 5, 6, 7, 8, 9, 10, 11, 12, 13, 14, 15, 16, 17, 18, 19, 20, 21, 22] ?_
  refine .p 0 rfl (by kernel_rfl) (NoPanic.then_ (NoPanic.body)) (fun _ => v_move (v := reg (b : Sl)) rfl) ?_
  obtain ⟨t4, ht4, hh⟩ := hh
  refine .p 1 rfl (by kernel_rfl) (NoPanic.then_ (NoPanic.body)) (fun _ => v_idx_slP sl_130 rfl rfl ht4.1 ht4.2.1 ht4.2.2) ?_
  obtain ⟨t5, ⟨xt5, hxt5, hgt5⟩, hh⟩ := hh
  refine .r 2 (fun h' => ∃ x : UInt8, AtH h' t4 (enc x) ∧ ((fun (x : UInt8) => x) : UInt8 → UInt8) x = t5) rfl (by kernel_rfl) (NoPanic.then_ (NoPanic.body)) ⟨xt5, hxt5, hgt5⟩ (fun h' hS => hS.elim fun _ hS => v_ld1 (p := t4) 0 na_5 rfl hS.1 hS.2 get_5_all) ?_
  refine .p 3 rfl (by kernel_rfl) (NoPanic.then_ (NoPanic.body)) (fun _ => v_conv_u32 un_5 un_185 rfl) ?_
  refine .p 4 rfl (by kernel_rfl) (NoPanic.then_ (NoPanic.body)) (fun _ => v_shl32 (a := (toU32 (t5.toNat : Int))) (b := 24) rfl rfl (by decide)) ?_
  refine .p 5 rfl (by kernel_rfl) (NoPanic.then_ (NoPanic.body)) (fun _ => v_move (v := reg (b : Sl)) rfl) ?_
  obtain ⟨t9, ht9, hh⟩ := hh
  refine .p 6 rfl (by kernel_rfl) (NoPanic.then_ (NoPanic.body)) (fun _ => v_idx_slP sl_130 rfl rfl ht9.1 ht9.2.1 ht9.2.2) ?_
  obtain ⟨t10, ⟨xt10, hxt10, hgt10⟩, hh⟩ := hh
  refine .r 7 (fun h' => ∃ x : UInt8, AtH h' t9 (enc x) ∧ ((fun (x : UInt8) => x) : UInt8 → UInt8) x = t10) rfl (by kernel_rfl) (NoPanic.then_ (NoPanic.body)) ⟨xt10, hxt10, hgt10⟩ (fun h' hS => hS.elim fun _ hS => v_ld1 (p := t9) 0 na_5 rfl hS.1 hS.2 get_5_all) ?_
  refine .p 8 rfl (by kernel_rfl) (NoPanic.then_ (NoPanic.body)) (fun _ => v_conv_u32 un_5 un_185 rfl) ?_
  refine .p 9 rfl (by kernel_rfl) (NoPanic.then_ (NoPanic.body)) (fun _ => v_shl32 (a := (toU32 (t10.toNat : Int))) (b := 16) rfl rfl (by decide)) ?_
  refine .p 10 rfl (by kernel_rfl) (NoPanic.then_ (NoPanic.body)) (fun _ => v_or32 (a := (shl32 (toU32 (t5.toNat : Int)) 24)) (b := (shl32 (toU32 (t10.toNat : Int)) 16)) rfl rfl) ?_
  refine .p 11 rfl (by kernel_rfl) (NoPanic.then_ (NoPanic.body)) (fun _ => v_move (v := reg (b : Sl)) rfl) ?_
  obtain ⟨t15, ht15, hh⟩ := hh
  refine .p 12 rfl (by kernel_rfl) (NoPanic.then_ (NoPanic.body)) (fun _ => v_idx_slP sl_130 rfl rfl ht15.1 ht15.2.1 ht15.2.2) ?_
  obtain ⟨t16, ⟨xt16, hxt16, hgt16⟩, hh⟩ := hh
  refine .r 13 (fun h' => ∃ x : UInt8, AtH h' t15 (enc x) ∧ ((fun (x : UInt8) => x) : UInt8 → UInt8) x = t16) rfl (by kernel_rfl) (NoPanic.then_ (NoPanic.body)) ⟨xt16, hxt16, hgt16⟩ (fun h' hS => hS.elim fun _ hS => v_ld1 (p := t15) 0 na_5 rfl hS.1 hS.2 get_5_all) ?_
  refine .p 14 rfl (by kernel_rfl) (NoPanic.then_ (NoPanic.body)) (fun _ => v_conv_u32 un_5 un_185 rfl) ?_
  refine .p 15 rfl (by kernel_rfl) (NoPanic.then_ (NoPanic.body)) (fun _ => v_shl32 (a := (toU32 (t16.toNat : Int))) (b := 8) rfl rfl (by decide)) ?_
  refine .p 16 rfl (by kernel_rfl) (NoPanic.then_ (NoPanic.body)) (fun _ => v_or32 (a := ((shl32 (toU32 (t5.toNat : Int)) 24) ||| (shl32 (toU32 (t10.toNat : Int)) 16))) (b := (shl32 (toU32 (t16.toNat : Int)) 8)) rfl rfl) ?_
  refine .p 17 rfl (by kernel_rfl) (NoPanic.then_ (NoPanic.body)) (fun _ => v_move (v := reg (b : Sl)) rfl) ?_
  obtain ⟨t21, ht21, hh⟩ := hh
  refine .p 18 rfl (by kernel_rfl) (NoPanic.then_ (NoPanic.body)) (fun _ => v_idx_slP sl_130 rfl rfl ht21.1 ht21.2.1 ht21.2.2) ?_
  obtain ⟨t22, ⟨xt22, hxt22, hgt22⟩, hh⟩ := hh
  refine .r 19 (fun h' => ∃ x : UInt8, AtH h' t21 (enc x) ∧ ((fun (x : UInt8) => x) : UInt8 → UInt8) x = t22) rfl (by kernel_rfl) (NoPanic.then_ (NoPanic.body)) ⟨xt22, hxt22, hgt22⟩ (fun h' hS => hS.elim fun _ hS => v_ld1 (p := t21) 0 na_5 rfl hS.1 hS.2 get_5_all) ?_
  refine .p 20 rfl (by kernel_rfl) (NoPanic.then_ (NoPanic.body)) (fun _ => v_conv_u32 un_5 un_185 rfl) ?_
  refine .p 21 rfl (by kernel_rfl) (NoPanic.then_ (NoPanic.body)) (fun _ => v_or32 (a := (((shl32 (toU32 (t5.toNat : Int)) 24) ||| (shl32 (toU32 (t10.toNat : Int)) 16)) ||| (shl32 (toU32 (t16.toNat : Int)) 8))) (b := (toU32 (t22.toNat : Int))) rfl rfl) ?_
  refine .p 22 rfl (by kernel_rfl) (NoPanic.then_ (NoPanic.body)) (fun _ => v_assign (v := reg (((((shl32 (toU32 (t5.toNat : Int)) 24) ||| (shl32 (toU32 (t10.toNat : Int)) 16)) ||| (shl32 (toU32 (t16.toNat : Int)) 8)) ||| (toU32 (t22.toNat : Int))) : UInt32)) rfl) ?_
  refine .done (by kernel_rfl) ?_
  refine QN.then_ ?_
  refine CW.ret ?_
  exact ret1 rfl rfl ⟨(((((shl32 (toU32 (t5.toNat : Int)) 24) ||| (shl32 (toU32 (t10.toNat : Int)) 16)) ||| (shl32 (toU32 (t16.toNat : Int)) 8)) ||| (toU32 (t22.toNat : Int))) : UInt32), rfl, hh⟩
end Go.Proofs.YtimmoekliphobaaDoor
namespace Go.Proofs.YtimmoekliphobaaDoor
open Go Go.Sh
open Go.Sh.Ty (reg)
set_option linter.unusedVariables false
set_option maxRecDepth 100000
set_option maxHeartbeats 4000000
theorem math_bits_RotateLeft32.ok (x : UInt32) (kv : Int) (k : UInt32 → H → Prop) (h : H) (hh : math_bits_RotateLeft32.b x kv k h) : CallsH Prog 120 [reg x, reg kv].toArray h fun v h' => ∃ r : UInt32, v = reg r ∧ k r h' := by
  unfold math_bits_RotateLeft32.b at hh
  refine CallsH.of 17 Tryd.func120 rfl Tryd.ntmps120 rfl (fun w0 => ?_)
  refine CW.seq ?_
  refine CW.region ?_
  refine .val (v_assign (v := reg ((0 : UInt32) : UInt32)) rfl) rfl ?_
  refine .nil ?_
  refine QN.then_ ?_
  refine CW.seq ?_
  refine CW.region ?_
  refine .val (v_move (v := reg (kv : Int)) rfl) rfl ?_
  refine .val (v_conv_u64 un_3 un_71 rfl) rfl ?_
  refine .val (v_and64 (a := (toU64 kv)) (b := (31 : UInt64)) rfl rfl) rfl ?_
  refine .val (v_assign (v := reg (((toU64 kv) &&& (31 : UInt64)) : UInt64)) rfl) rfl ?_
  refine .nil ?_
  refine QN.then_ ?_
  refine CW.seq ?_
  refine CW.region ?_
  refine .val (v_move (v := reg (x : UInt32)) rfl) rfl ?_
  refine .val (v_move (v := reg (((toU64 kv) &&& (31 : UInt64)) : UInt64)) rfl) rfl ?_
  refine .val (v_shl32 (a := x) (b := (((toU64 kv) &&& (31 : UInt64)).toNat : Int)) rfl rfl (Int.natCast_nonneg _)) rfl ?_
  refine .val (v_move (v := reg (x : UInt32)) rfl) rfl ?_
  refine .val (v_move (v := reg (((toU64 kv) &&& (31 : UInt64)) : UInt64)) rfl) rfl ?_
  refine .val (v_sub64 (a := (32 : UInt64)) (b := ((toU64 kv) &&& (31 : UInt64))) rfl rfl) rfl ?_
  refine .val (v_shr32 (a := x) (b := (((32 : UInt64) - ((toU64 kv) &&& (31 : UInt64))).toNat : Int)) rfl rfl (Int.natCast_nonneg _)) rfl ?_
  refine .val (v_or32 (a := (shl32 x ((toU64 kv) &&& (31 : UInt64)).toNat)) (b := (shr32 x ((32 : UInt64) - ((toU64 kv) &&& (31 : UInt64))).toNat)) rfl rfl) rfl ?_
  refine .val (v_assign (v := reg (((shl32 x ((toU64 kv) &&& (31 : UInt64)).toNat) ||| (shr32 x ((32 : UInt64) - ((toU64 kv) &&& (31 : UInt64))).toNat)) : UInt32)) rfl) rfl ?_
  refine .nil ?_
  refine QN.then_ ?_
  refine CW.ret ?_
  exact ret1 rfl rfl ⟨(((shl32 x ((toU64 kv) &&& (31 : UInt64)).toNat) ||| (shr32 x ((32 : UInt64) - ((toU64 kv) &&& (31 : UInt64))).toNat)) : UInt32), rfl, hh⟩
end Go.Proofs.YtimmoekliphobaaDoor
namespace Go.Proofs.YtimmoekliphobaaDoor
open Go Go.Sh
open Go.Sh.Ty (reg)
set_option linter.unusedVariables false
set_option maxRecDepth 100000

def tableA : Arr 64 UInt32 := arrOf [0x428a2f98, 0x71374491, 0xb5c0fbcf, 0xe9b5dba5, 0x3956c25b, 0x59f111f1, 0x923f82a4, 0xab1c5ed5,
  0xd807aa98, 0x12835b01, 0x243185be, 0x550c7dc3, 0x72be5d74, 0x80deb1fe, 0x9bdc06a7, 0xc19bf174,
  0xe49b69c1, 0xefbe4786, 0x0fc19dc6, 0x240ca1cc, 0x2de92c6f, 0x4a7484aa, 0x5cb0a9dc, 0x76f988da,
  0x983e5152, 0xa831c66d, 0xb00327c8, 0xbf597fc7, 0xc6e00bf3, 0xd5a79147, 0x06ca6351, 0x14292967,
  0x27b70a85, 0x2e1b2138, 0x4d2c6dfc, 0x53380d13, 0x650a7354, 0x766a0abb, 0x81c2c92e, 0x92722c85,
  0xa2bfe8a1, 0xa81a664b, 0xc24b8b70, 0xc76c51a3, 0xd192e819, 0xd6990624, 0xf40e3585, 0x106aa070,
  0x19a4c116, 0x1e376c08, 0x2748774c, 0x34b0bcb5, 0x391c0cb3, 0x4ed8aa4a, 0x5b9cca4f, 0x682e6ff3,
  0x748f82ee, 0x78a5636f, 0x84c87814, 0x8cc70208, 0x90befffa, 0xa4506ceb, 0xbef9a3f7, 0xc67178f2]
/-- the table of sha's rounds lies where the program keeps it -/
def Tb (h : H) : Prop := AtH h ⟨0, 0, none⟩ (enc tableA)
theorem Tb.fr {S : List Nat} {h h' : H} (f : Fr S h h') (hS : 0 ∉ S) (t : Tb h) : Tb h' := AtH.fr f t hS

def rot (x : UInt32) (kv : Int) : UInt32 := (shl32 x ((toU64 kv) &&& (31 : UInt64)).toNat) ||| (shr32 x ((32 : UInt64) - ((toU64 kv) &&& (31 : UInt64))).toNat)
theorem rot_spec (x : UInt32) (kv : Int) {k : UInt32 → H → Prop} {h : H} (hk : k (rot x kv) h) : math_bits_RotateLeft32.b x kv k h := hk
def word4 (a b c d : UInt8) : UInt32 := ((((shl32 (toU32 (a.toNat : Int)) 24) ||| (shl32 (toU32 (b.toNat : Int)) 16)) ||| (shl32 (toU32 (c.toNat : Int)) 8)) ||| (toU32 (d.toNat : Int)))
theorem word_spec (s : Sl) (bs : List UInt8) {k : UInt32 → H → Prop} {h : H} (hb : SV 1 h s bs) (hl : 4 ≤ bs.length) (hk : k (word4 (bs.getD 0 0) (bs.getD 1 0) (bs.getD 2 0) (bs.getD 3 0)) h) : sha_word.b s k h := by
  have e : ∀ i, i < bs.length → bs[i]? = some (bs.getD i 0) := fun i hi => by simp [hi]
  unfold sha_word.b
  refine sidx_ld len_u8 hb (x := bs.getD 0 0) (by decide) (by simpa using e 0 (by omega)) ?_
  refine sidx_ld len_u8 hb (x := bs.getD 1 0) (by decide) (by simpa using e 1 (by omega)) ?_
  refine sidx_ld len_u8 hb (x := bs.getD 2 0) (by decide) (by simpa using e 2 (by omega)) ?_
  refine sidx_ld len_u8 hb (x := bs.getD 3 0) (by decide) (by simpa using e 3 (by omega)) ?_
  exact hk

/-- the words of a block -/
def sched1 (bs : List UInt8) : Nat → Arr 64 UInt32 := fun n => itF (fun i w => updN w i (word4 (bs.getD (4 * i) 0) (bs.getD (4 * i + 1) 0) (bs.getD (4 * i + 2) 0) (bs.getD (4 * i + 3) 0))) n (fun _ => 0)
def schedW (w : Arr 64 UInt32) (i : Nat) : UInt32 :=
  let x := getN w (i - 15); let y := getN w (i - 2)
  ((getN w (i - 16) + ((rot x (-7) ^^^ rot x (-18)) ^^^ (shr32 x 3))) + getN w (i - 7)) + ((rot y (-17) ^^^ rot y (-19)) ^^^ (shr32 y 10))
def sched2 (bs : List UInt8) : Nat → Arr 64 UInt32 := fun n => itF (fun i w => updN w (i + 16) (schedW w (i + 16))) n (sched1 bs 16)
structure R8 where
  a : UInt32
  c : UInt32
  d : UInt32
  e : UInt32
  f : UInt32
  g : UInt32
  k : UInt32
  l : UInt32
def round1 (w : Arr 64 UInt32) (i : Nat) (r : R8) : R8 :=
  let t := (((r.l + ((rot r.f (-6) ^^^ rot r.f (-11)) ^^^ rot r.f (-25))) + ((r.f &&& r.g) ^^^ ((~~~r.f) &&& r.k))) + getN tableA i) + getN w i
  let u := ((rot r.a (-2) ^^^ rot r.a (-13)) ^^^ rot r.a (-22)) + (((r.a &&& r.c) ^^^ (r.a &&& r.d)) ^^^ (r.c &&& r.d))
  ⟨t + u, r.a, r.c, r.d, r.e + t, r.f, r.g, r.k⟩
def rounds (w : Arr 64 UInt32) (n : Nat) (r : R8) : R8 := itF (round1 w) n r
def sum8 (t : Arr 8 UInt32) (n : Nat) (x : Arr 8 UInt32) : Arr 8 UInt32 := itF (fun i x => updN x i (getN x i + getN t i)) n x
def blockF (x : Arr 8 UInt32) (bs : List UInt8) : Arr 8 UInt32 :=
  let r := rounds (sched2 bs 48) 64 ⟨getN x 0, getN x 1, getN x 2, getN x 3, getN x 4, getN x 5, getN x 6, getN x 7⟩
  sum8 (arrOf [r.a, r.c, r.d, r.e, r.f, r.g, r.k, r.l]) 8 x

theorem u32len {n : Nat} (y : Arr n UInt32) : (enc y).length = n := arr_len y

theorem block_spec (p : Addr) (x : Arr 8 UInt32) (s : Sl) (bs : List UInt8) {k : Unit → H → Prop} {h : H} (hT : Tb h) (hp : Cel 187 p (enc x) h) (hp0 : p.block ≠ 0) (hb : SV 1 h s bs) (hl : bs.length = 64)
    (hne : ∀ a, s.a = some a → a.block ≠ p.block) (hk : ∀ h', Fr [p.block] h h' → Cel 187 p (enc (blockF x bs)) h' → k () h') : sha_state_block.b (some p) s k h := by
  have hT' : ∀ h', Fr [p.block] h h' → Tb h' := fun h' f => hT.fr f (by simp; omega)
  have hb' : ∀ h', Fr [p.block] h h' → SV 1 h' s bs := fun h' f => hb.fr f (by intro a ha; simp; exact hne a ha)
  have hs := Sat.init1 (e := cel 187 p (enc x)) hp (cel_loc _ _ _) (by intro b hb; simp only [cel, List.mem_singleton] at hb; subst hb; exact hp.lt)
  unfold sha_state_block.b
  refine hs.box_ (fun w h1 hs1 hw hx => ?_)
  unfold sha_state_block.l1
  refine ⟨fun i h' => 0 ≤ i ∧ i ≤ 16 ∧ Sat h [p.block] h' [cel 215 w (enc (sched1 bs i.toNat)), cel 187 p (enc x)], fun i _ => (16 - i).toNat, ⟨by omega, by omega, hs1⟩, ?_⟩
  clear hs hs1 hx hw h1
  rintro i h2 ⟨h0, h16, hs2⟩
  refine ifb_i (fun hc => ?_) (fun hc => ?_)
  · have hi : i < 16 := by simpa using hc
    have e4 : imul 4 i = 4 * i := imul_eq (by omega) (by omega)
    have hsl : (s.len : Int) = 64 := by have := (hb).2.1; omega
    rw [e4]
    refine ⟨⟨by omega, by omega⟩, ?_⟩
    have hcut := (hb' _ hs2.fr).cut len_u8 (lo := (4 * i).toNat) (hi := s.len) (mx := s.cap) (by omega) (Nat.le_refl _) hb.2.2
    refine sha_word.ok _ _ _ (word_spec _ _ hcut (by simp; omega) ?_)
    refine hs2.bst 0 rfl u32len h0 (by omega) (fun h3 hs3 => ?_)
    have e5 : iadd i 1 = i + 1 := iadd_eq (by omega) (by omega)
    rw [e5]
    refine ⟨⟨by omega, by omega, ?_⟩, by dsimp only; omega⟩
    have e6 : (i + 1).toNat = i.toNat + 1 := by omega
    have e7 : sched1 bs (i + 1).toNat = updN (sched1 bs i.toNat) i.toNat (word4 (((bs.drop (4 * i).toNat).take (s.len - (4 * i).toNat)).getD 0 0) (((bs.drop (4 * i).toNat).take (s.len - (4 * i).toNat)).getD 1 0) (((bs.drop (4 * i).toNat).take (s.len - (4 * i).toNat)).getD 2 0) (((bs.drop (4 * i).toNat).take (s.len - (4 * i).toNat)).getD 3 0)) := by
      rw [e6]
      have eg : ∀ j, j < 4 → ((bs.drop (4 * i).toNat).take (s.len - (4 * i).toNat)).getD j 0 = bs.getD (4 * i.toNat + j) 0 := by
        intro j hj
        simp only [List.getD_eq_getElem?_getD, List.getElem?_take, List.getElem?_drop]
        rw [if_pos (by omega), show (4 * i).toNat + j = 4 * i.toNat + j by omega]
      rw [eg 0 (by omega), eg 1 (by omega), eg 2 (by omega), eg 3 (by omega)]
      rfl
    rw [e7]
    exact hs3
  · have hi : i = 16 := by have : ¬ i < 16 := by simpa using hc
                           omega
    subst hi
    clear hc
    unfold sha_state_block.j1 sha_state_block.l2
    refine ⟨fun i h' => 16 ≤ i ∧ i ≤ 64 ∧ Sat h [p.block] h' [cel 215 w (enc (sched2 bs (i - 16).toNat)), cel 187 p (enc x)], fun i _ => (64 - i).toNat, ⟨by omega, by omega, hs2⟩, ?_⟩
    clear hs2 h2 h0 h16
    rintro i h2 ⟨h0, h16, hs2⟩
    refine ifb_i (fun hc => ?_) (fun hc => ?_)
    · have hi : i < 64 := by simpa using hc
      have e15 : isub i 15 = i - 15 := isub_eq (by omega) (by omega)
      have e2 : isub i 2 = i - 2 := isub_eq (by omega) (by omega)
      have e16 : isub i 16 = i - 16 := isub_eq (by omega) (by omega)
      have e7 : isub i 7 = i - 7 := isub_eq (by omega) (by omega)
      have e1 : iadd i 1 = i + 1 := iadd_eq (by omega) (by omega)
      rw [e15, e2, e16, e7, e1]
      refine hs2.bld 0 rfl (by omega) (by omega) ?_
      refine hs2.bld 0 rfl (by omega) (by omega) ?_
      refine math_bits_RotateLeft32.ok _ _ _ _ (rot_spec _ _ ?_)
      refine math_bits_RotateLeft32.ok _ _ _ _ (rot_spec _ _ ?_)
      refine math_bits_RotateLeft32.ok _ _ _ _ (rot_spec _ _ ?_)
      refine math_bits_RotateLeft32.ok _ _ _ _ (rot_spec _ _ ?_)
      refine hs2.bld 0 rfl (by omega) (by omega) ?_
      refine hs2.bld 0 rfl (by omega) (by omega) ?_
      refine hs2.bst 0 rfl u32len (by omega) (by omega) (fun h3 hs3 => ?_)
      refine ⟨⟨by omega, by omega, ?_⟩, by dsimp only; omega⟩
      have e8 : sched2 bs (i + 1 - 16).toNat = updN (sched2 bs (i - 16).toNat) i.toNat (schedW (sched2 bs (i - 16).toNat) i.toNat) := by
        rw [show (i + 1 - 16).toNat = (i - 16).toNat + 1 by omega]
        show updN (sched2 bs (i - 16).toNat) ((i - 16).toNat + 16) (schedW (sched2 bs (i - 16).toNat) ((i - 16).toNat + 16)) = _
        rw [show (i - 16).toNat + 16 = i.toNat by omega]
      rw [e8]
      simp only [schedW, show i.toNat - 15 = (i - 15).toNat by omega, show i.toNat - 2 = (i - 2).toNat by omega, show i.toNat - 16 = (i - 16).toNat by omega, show i.toNat - 7 = (i - 7).toNat by omega]
      exact hs3
    · have hi : i = 64 := by have : ¬ i < 64 := by simpa using hc
                             omega
      subst hi
      clear hc
      unfold sha_state_block.j2
      refine nn_i ?_
      refine hs2.bld 1 rfl (by omega) (by omega) ?_
      refine hs2.bld 1 rfl (by omega) (by omega) ?_
      refine hs2.bld 1 rfl (by omega) (by omega) ?_
      refine hs2.bld 1 rfl (by omega) (by omega) ?_
      refine hs2.bld 1 rfl (by omega) (by omega) ?_
      refine hs2.bld 1 rfl (by omega) (by omega) ?_
      refine hs2.bld 1 rfl (by omega) (by omega) ?_
      refine hs2.bld 1 rfl (by omega) (by omega) ?_
      refine hs2.ld_ 0 rfl ?_
      unfold sha_state_block.l3
      refine ⟨fun (st : UInt32 × UInt32 × UInt32 × UInt32 × UInt32 × UInt32 × UInt32 × UInt32 × Int) h' => ∃ i : Int, ∃ r : R8, st = (r.a, r.c, r.d, r.e, r.f, r.g, r.k, r.l, i) ∧ r = rounds (sched2 bs 48) i.toNat ⟨getN x 0, getN x 1, getN x 2, getN x 3, getN x 4, getN x 5, getN x 6, getN x 7⟩ ∧ 0 ≤ i ∧ i ≤ 64 ∧ Sat h [p.block] h' [cel 215 w (enc (sched2 bs 48)), cel 187 p (enc x)],
        fun st _ => (64 - st.2.2.2.2.2.2.2.2).toNat, ⟨0, _, rfl, rfl, by omega, by omega, hs2⟩, ?_⟩
      clear hs2 h2 h0 h16
      rintro _ h2 ⟨i, r, rfl, hr, h0, h64, hs2⟩
      refine ifb_i (fun hc => ?_) (fun hc => ?_)
      · have hi : i < 64 := by simpa using hc
        refine bnd_N (by omega) (by omega) (fun f0 hf0 => ?_)
        refine math_bits_RotateLeft32.ok _ _ _ _ (rot_spec _ _ ?_)
        refine math_bits_RotateLeft32.ok _ _ _ _ (rot_spec _ _ ?_)
        refine math_bits_RotateLeft32.ok _ _ _ _ (rot_spec _ _ ?_)
        refine old_bld (hT' _ hs2.fr) (by omega) (by omega) ?_
        refine math_bits_RotateLeft32.ok _ _ _ _ (rot_spec _ _ ?_)
        refine math_bits_RotateLeft32.ok _ _ _ _ (rot_spec _ _ ?_)
        refine math_bits_RotateLeft32.ok _ _ _ _ (rot_spec _ _ ?_)
        have e1 : iadd i 1 = i + 1 := iadd_eq (by omega) (by omega)
        rw [e1]
        refine ⟨⟨i + 1, round1 (sched2 bs 48) i.toNat r, ?_, ?_, by omega, by omega, hs2⟩, by show (64 - (i + 1)).toNat < (64 - i).toNat; omega⟩
        · have e9 : sched2 bs (64 - 16 : Int).toNat f0 = getN (sched2 bs 48) i.toNat := getN_fin (sched2 bs 48) f0 _ hf0
          rw [e9]; rfl
        · rw [show (i + 1).toNat = i.toNat + 1 by omega, hr]; rfl
      · have hi : i = 64 := by have : ¬ i < 64 := by simpa using hc
                               omega
        subst hi
        clear hc
        unfold sha_state_block.j3 sha_state_block.l4
        refine ⟨fun i h' => 0 ≤ i ∧ i ≤ 8 ∧ Sat h [p.block] h' [cel 215 w (enc (sched2 bs 48)), cel 187 p (enc (sum8 (arrOf [r.a, r.c, r.d, r.e, r.f, r.g, r.k, r.l]) i.toNat x))], fun i _ => (8 - i).toNat, ⟨by omega, by omega, hs2⟩, ?_⟩
        clear hs2 h2 h0 h64
        rintro i h2 ⟨h0, h8, hs2⟩
        refine ifb_i (fun hc => ?_) (fun hc => ?_)
        · have hi : i < 8 := by simpa using hc
          refine bnd_N (by omega) (by omega) (fun f0 hf0 => ?_)
          refine nn_i ?_
          refine hs2.bld 1 rfl (by omega) (by omega) ?_
          refine hs2.bst 1 rfl u32len (by omega) (by omega) (fun h3 hs3 => ?_)
          have e1 : iadd i 1 = i + 1 := iadd_eq (by omega) (by omega)
          rw [e1]
          refine ⟨⟨by omega, by omega, ?_⟩, by dsimp only; omega⟩
          rw [show (i + 1).toNat = i.toNat + 1 by omega]
          rw [getN_fin (arrOf [r.a, r.c, r.d, r.e, r.f, r.g, r.k, r.l] : Arr 8 UInt32) f0 _ hf0] at hs3
          exact hs3
        · have hi : i = 8 := by have : ¬ i < 8 := by simpa using hc
                                omega
          subst hi
          refine hk _ hs2.fr ?_
          have := hs2.at_ (i := 1) rfl
          subst hr
          exact this
end Go.Proofs.YtimmoekliphobaaDoor
namespace Go.Proofs.YtimmoekliphobaaDoor
open Go Go.Sh
open Go.Sh.Ty (reg)
set_option linter.unusedVariables false
set_option maxRecDepth 100000
set_option maxHeartbeats 4000000
theorem sha_Of.ok (pieces : Sl) (k : (Arr 32 UInt8) → H → Prop) (h : H) (hh : sha_Of.b pieces k h) : CallsH Prog 60 [reg pieces].toArray h fun v h' => ∃ r : Arr 32 UInt8, v = reg r ∧ k r h' := by
  unfold sha_Of.b at hh
  refine CallsH.of 86 Tryd.func60 rfl Tryd.ntmps60 rfl (fun w0 => ?_)
  refine CW.seq ?_
  refine CW.region ?_
  refine box_elim hh (fun t2 ht2 hh => ?_)
  refine .e (e_allocP ht2 zo_24 rfl ?_)
  refine .nil ?_
  refine QN.then_ ?_
  refine CW.seq ?_
  refine CW.region ?_
  refine .val (v_buildAT (arrOf [(1779033703 : UInt32), (3144134277 : UInt32), (1013904242 : UInt32), (2773480762 : UInt32), (1359893119 : UInt32), (2600822924 : UInt32), (528734635 : UInt32), (1541459225 : UInt32)] : Arr 8 UInt32) zo_187 ar_187 rfl rfl rfl) rfl ?_
  refine box_elim hh (fun hv hhv hh => ?_)
  refine .e (e_allocP hhv zo_187 rfl ?_)
  obtain ⟨xw, hxw, hwxw, hh⟩ := hh
  refine .e (e_storeN (p := hv) (nv := enc ((arrOf [(1779033703 : UInt32), (3144134277 : UInt32), (1013904242 : UInt32), (2773480762 : UInt32), (1359893119 : UInt32), (2600822924 : UInt32), (528734635 : UInt32), (1541459225 : UInt32)] : Arr 8 UInt32) : Arr 8 UInt32)) 0 rfl rfl rfl sz_187 (one_arr (n := 8) (fun _ => rfl) _) hxw hwxw (arr_len (n := 8) _) (arr_len (n := 8) _) rfl (set_187_all xw ((arrOf [(1779033703 : UInt32), (3144134277 : UInt32), (1013904242 : UInt32), (2773480762 : UInt32), (1359893119 : UInt32), (2600822924 : UInt32), (528734635 : UInt32), (1541459225 : UInt32)] : Arr 8 UInt32) : Arr 8 UInt32)) ?_)
  refine .nil ?_
  refine QN.then_ ?_
  refine CW.seq ?_
  refine CW.region ?_
  refine box_elim hh (fun buf hbuf hh => ?_)
  refine .e (e_allocP hbuf zo_188 rfl ?_)
  refine .nil ?_
  refine QN.then_ ?_
  refine CW.seq ?_
  refine CW.region ?_
  refine .val (v_assign (v := reg ((0 : Int) : Int)) rfl) rfl ?_
  refine .val (v_assign (v := reg ((0 : Int) : Int)) rfl) rfl ?_
  refine .nil ?_
  refine QN.then_ ?_
  refine CW.join (fun ρ h => ∃ (ρ' : Env) (n_3 : Int) (at__3 : Int), ρ = setl ρ' [(2, .pointer (some t2)), (3, .pointer (some hv)), (4, .pointer (some buf)), (5, reg (n_3 : Int)), (6, reg (at__3 : Int))] ∧ (sha_Of.j1 k) t2 hv buf n_3 at__3 h) ?_ ?_
  · refine CW.seq ?_
    refine CW.region ?_
    refine .val (v_move (v := reg (pieces : Sl)) rfl) rfl ?_
    refine .val (v_len_sl (sl_184).1 rfl) rfl ?_
    refine .val (v_move (v := reg ((0 : Int) : Int)) rfl) rfl ?_
    refine .nil ?_
    refine QN.then_ ?_
    refine CW.block ?_
    unfold sha_Of.l1 at hh
    refine CW.loop (fun (σ0 : Int × Int × Int) ρ => match σ0 with | (n, at_, t16) => ∃ ρ' : Env, ρ = setl ρ' [(2, .pointer (some t2)), (3, .pointer (some hv)), (4, .pointer (some buf)), (14, reg (pieces : Sl)), (15, reg ((pieces.len : Int) : Int)), (5, reg (n : Int)), (6, reg (at_ : Int)), (16, reg (t16 : Int))]) hh ⟨_, setl_eq ⟨rfl, ⟨rfl, ⟨rfl, ⟨rfl, ⟨rfl, ⟨rfl, ⟨rfl, ⟨rfl, trivial⟩⟩⟩⟩⟩⟩⟩⟩⟩ ?_
    clear hh
    rintro s1 ⟨n, at_, t16⟩ ρ h ⟨ρ', rfl⟩ hh
    refine CW.seq ?_
    refine CW.region ?_
    refine .val (v_ilss rfl rfl) rfl ?_
    refine .nil ?_
    refine QN.then_ ?_
    refine CW.seq ?_
    refine CW.cond (decide (t16 < (pieces.len : Int))) rfl (fun hb => ?_) (fun hb => ?_)
    · have hh := hh.1 hb
      refine CW.skip ?_
      refine QN.then_ ?_
      refine CW.join (fun ρ h => ∃ (ρ' : Env) (n_2 : Int) (at__2 : Int), ρ = setl ρ' [(2, .pointer (some t2)), (3, .pointer (some hv)), (4, .pointer (some buf)), (5, reg (n_2 : Int)), (6, reg (at__2 : Int)), (14, reg (pieces : Sl)), (15, reg ((pieces.len : Int) : Int)), (16, reg (t16 : Int))] ∧ (sha_Of.j2 s1) t2 hv buf n_2 at__2 pieces (pieces.len : Int) t16 h) ?_ ?_
      · refine CW.block ?_
        refine CW.seq ?_
        refine CW.region ?_
        obtain ⟨t18, ht18, hh⟩ := hh
        refine .val (v_idx_slP sl_184 rfl rfl ht18.1 ht18.2.1 ht18.2.2) rfl ?_
        obtain ⟨t19, ⟨xt19, hxt19, hgt19⟩, hh⟩ := hh
        refine .val (v_ld1 (p := t18) 0 na_130 rfl hxt19 hgt19 get_130_all) rfl ?_
        refine .val (v_assign (v := reg (t19 : Sl)) rfl) rfl ?_
        refine .nil ?_
        refine QN.then_ ?_
        refine CW.seq ?_
        refine CW.region ?_
        refine .val (v_move (v := reg (n : Int)) rfl) rfl ?_
        refine .val (v_move (v := reg (t19 : Sl)) rfl) rfl ?_
        refine .val (v_len_sl (sl_130).1 rfl) rfl ?_
        refine .val (v_iadd rfl rfl) rfl ?_
        refine .val (v_assign (v := reg ((iadd n (t19.len : Int)) : Int)) rfl) rfl ?_
        refine .nil ?_
        refine QN.then_ ?_
        refine CW.block ?_
        unfold sha_Of.l2 at hh
        refine CW.loop (fun (σ0 : Int × Sl) ρ => match σ0 with | (at__1, p) => ∃ ρ' : Env, ρ = setl ρ' [(2, .pointer (some t2)), (3, .pointer (some hv)), (4, .pointer (some buf)), (5, reg ((iadd n (t19.len : Int)) : Int)), (14, reg (pieces : Sl)), (15, reg ((pieces.len : Int) : Int)), (16, reg (t16 : Int)), (6, reg (at__1 : Int)), (8, reg (p : Sl))]) hh ⟨_, setl_eq ⟨rfl, ⟨rfl, ⟨rfl, ⟨rfl, ⟨rfl, ⟨rfl, ⟨rfl, ⟨rfl, ⟨rfl, trivial⟩⟩⟩⟩⟩⟩⟩⟩⟩⟩ ?_
        clear hh
        rintro s2 ⟨at__1, p⟩ ρ h ⟨ρ', rfl⟩ hh
        refine CW.seq ?_
        refine CW.seq ?_
        refine CW.region ?_
        refine .val (v_move (v := reg (p : Sl)) rfl) rfl ?_
        refine .val (v_len_sl (sl_130).1 rfl) rfl ?_
        refine .val (v_igtr rfl rfl) rfl ?_
        refine .nil ?_
        refine QN.then_ ?_
        refine CW.cond (decide ((0 : Int) < (p.len : Int))) rfl (fun hb_1 => ?_) (fun hb_1 => ?_)
        · have hh := hh.1 hb_1
          refine CW.skip ?_
          refine QN.then_ ?_
          refine CW.block ?_
          refine CW.seq ?_
          refine CW.region ?_
          refine .val (v_move (v := reg (at__1 : Int)) rfl) rfl ?_
          obtain ⟨hm, hh⟩ := hh
          refine .val (v_slice_al ar_188 rfl rfl hm.1 hm.2) rfl ?_
          refine .val (v_move (v := reg (p : Sl)) rfl) rfl ?_
          refine .e (e_cpy sl_130 rfl rfl rfl hh ?_)
          intro h t30 hh
          refine .val (v_assign (v := reg (t30 : Int)) rfl) rfl ?_
          refine .nil ?_
          refine QN.then_ ?_
          refine CW.seq ?_
          refine CW.drawN 8 rfl follows_mixed [0, 1, 2, 3, 4, 5, 6, 7] ?_
          refine .p 0 rfl (by kernel_rfl) (NoPanic.then_ (NoPanic.block (NoPanic.then_ (NoPanic.block (NoPanic.block (NoPanic.then_ (NoPanic.then_ (NoPanic.block (NoPanic.then_ (NoPanic.body)))))))))) (fun _ => v_move (v := reg (at__1 : Int)) rfl) ?_
          refine .p 1 rfl (by kernel_rfl) (NoPanic.then_ (NoPanic.block (NoPanic.then_ (NoPanic.block (NoPanic.block (NoPanic.then_ (NoPanic.then_ (NoPanic.block (NoPanic.then_ (NoPanic.body)))))))))) (fun _ => v_move (v := reg (t30 : Int)) rfl) ?_
          refine .p 2 rfl (by kernel_rfl) (NoPanic.then_ (NoPanic.block (NoPanic.then_ (NoPanic.block (NoPanic.block (NoPanic.then_ (NoPanic.then_ (NoPanic.block (NoPanic.then_ (NoPanic.body)))))))))) (fun _ => v_iadd rfl rfl) ?_
          refine .p 3 rfl (by kernel_rfl) (NoPanic.then_ (NoPanic.block (NoPanic.then_ (NoPanic.block (NoPanic.block (NoPanic.then_ (NoPanic.then_ (NoPanic.block (NoPanic.then_ (NoPanic.body)))))))))) (fun _ => v_move (v := reg (p : Sl)) rfl) ?_
          refine .p 4 rfl (by kernel_rfl) (NoPanic.then_ (NoPanic.block (NoPanic.then_ (NoPanic.block (NoPanic.block (NoPanic.then_ (NoPanic.then_ (NoPanic.block (NoPanic.then_ (NoPanic.body)))))))))) (fun _ => v_move (v := reg (t30 : Int)) rfl) ?_
          obtain ⟨hm_1, hh⟩ := hh
          refine .p 5 rfl (by kernel_rfl) (NoPanic.then_ (NoPanic.block (NoPanic.then_ (NoPanic.block (NoPanic.block (NoPanic.then_ (NoPanic.then_ (NoPanic.block (NoPanic.then_ (NoPanic.body)))))))))) (fun _ => v_slice_ll sl_130 rfl rfl hm_1.1 hm_1.2) ?_
          refine .p 6 rfl (by kernel_rfl) (NoPanic.then_ (NoPanic.block (NoPanic.then_ (NoPanic.block (NoPanic.block (NoPanic.then_ (NoPanic.then_ (NoPanic.block (NoPanic.then_ (NoPanic.body)))))))))) (fun _ => v_assign (v := reg ((iadd at__1 t30) : Int)) rfl) ?_
          refine .p 7 rfl (by kernel_rfl) (NoPanic.then_ (NoPanic.block (NoPanic.then_ (NoPanic.block (NoPanic.block (NoPanic.then_ (NoPanic.then_ (NoPanic.block (NoPanic.then_ (NoPanic.body)))))))))) (fun _ => v_assign (v := reg ((p.cut 1 t30.toNat p.len p.cap) : Sl)) rfl) ?_
          refine .done (by kernel_rfl) ?_
          refine QN.then_ ?_
          refine CW.seq ?_
          refine CW.region ?_
          refine .val (v_move (v := reg ((iadd at__1 t30) : Int)) rfl) rfl ?_
          refine .val (v_ieql rfl rfl) rfl ?_
          refine .nil ?_
          refine QN.then_ ?_
          refine CW.cond ((iadd at__1 t30) == (64 : Int)) rfl (fun hb_2 => ?_) (fun hb_2 => ?_)
          · have hh := hh.1 hb_2
            refine CW.seq ?_
            refine CW.region ?_
            refine .val (v_slice_an ar_188 rfl) rfl ?_
            refine .e (e_callP fn_95 rfl rfl hh ?_)
            intro h t40 hh
            refine .nil ?_
            refine QN.then_ ?_
            refine CW.region ?_
            refine .val (v_assign (v := reg ((0 : Int) : Int)) rfl) rfl ?_
            refine .nil ?_
            refine QN.blockN ?_
            exact QN.thenJ ⟨((0 : Int), (p.cut 1 t30.toNat p.len p.cap)), ⟨_, setl_eq ⟨rfl, ⟨rfl, ⟨rfl, ⟨rfl, ⟨rfl, ⟨rfl, ⟨rfl, ⟨rfl, ⟨rfl, trivial⟩⟩⟩⟩⟩⟩⟩⟩⟩⟩, hh⟩
          · have hh := hh.2 hb_2
            refine CW.skip ?_
            refine QN.blockN ?_
            exact QN.thenJ ⟨((iadd at__1 t30), (p.cut 1 t30.toNat p.len p.cap)), ⟨_, setl_eq ⟨rfl, ⟨rfl, ⟨rfl, ⟨rfl, ⟨rfl, ⟨rfl, ⟨rfl, ⟨rfl, ⟨rfl, trivial⟩⟩⟩⟩⟩⟩⟩⟩⟩⟩, hh⟩
        · have hh := hh.2 hb_1
          refine CW.exit ?_
          refine QN.thenExit ?_
          refine QN.thenExit ?_
          refine QN.blockExit ?_
          refine QN.blockN ?_
          exact QN.thenJ ⟨_, (iadd n (t19.len : Int)), at__1, setl_eq ⟨rfl, ⟨rfl, ⟨rfl, ⟨rfl, ⟨rfl, ⟨rfl, ⟨rfl, ⟨rfl, trivial⟩⟩⟩⟩⟩⟩⟩⟩, hh⟩
      · rintro ρ h ⟨ρ', n_2, at__2, rfl, hh⟩
        unfold sha_Of.j2 at hh
        refine CW.region ?_
        refine .val (v_iadd rfl rfl) rfl ?_
        refine .val (v_move (v := reg ((iadd t16 (1 : Int)) : Int)) rfl) rfl ?_
        refine .nil ?_
        exact QN.thenJ ⟨(n_2, at__2, (iadd t16 (1 : Int))), ⟨_, setl_eq ⟨rfl, ⟨rfl, ⟨rfl, ⟨rfl, ⟨rfl, ⟨rfl, ⟨rfl, ⟨rfl, trivial⟩⟩⟩⟩⟩⟩⟩⟩⟩, hh⟩
    · have hh := hh.2 hb
      refine CW.exit ?_
      refine QN.thenExit ?_
      refine QN.thenExit ?_
      refine QN.blockExit ?_
      exact QN.thenJ ⟨_, n, at_, setl_eq ⟨rfl, ⟨rfl, ⟨rfl, ⟨rfl, ⟨rfl, trivial⟩⟩⟩⟩⟩, hh⟩
  · rintro ρ h ⟨ρ', n_3, at__3, rfl, hh⟩
    unfold sha_Of.j1 at hh
    refine CW.seq ?_
    refine CW.region ?_
    refine .val (v_move (v := reg (at__3 : Int)) rfl) rfl ?_
    obtain ⟨i43, hi43, hh⟩ := hh
    refine .val (v_idx_arrP ar_188 rfl rfl hi43) rfl ?_
    obtain ⟨xw_1, hxw_1, hwxw_1, hh⟩ := hh
    refine .e (e_store (p := buf) (nv := enc ((128 : UInt8) : UInt8)) i43.val rfl rfl rfl sz_5 rfl hxw_1 hwxw_1 (arr_ble i43 xw_1 _ rfl) (arr_set i43 xw_1 ((128 : UInt8) : UInt8) rfl) ?_)
    refine .nil ?_
    refine QN.then_ ?_
    refine CW.seq ?_
    refine CW.region ?_
    refine .val (v_move (v := reg (at__3 : Int)) rfl) rfl ?_
    refine .val (v_iadd rfl rfl) rfl ?_
    obtain ⟨hm_3, hh⟩ := hh
    refine .val (v_slice_al ar_188 rfl rfl hm_3.1 hm_3.2) rfl ?_
    refine .e (e_clr sl_130 zo_5 rfl rfl rfl hh ?_)
    intro h hh
    refine .nil ?_
    refine QN.then_ ?_
    refine CW.join (fun ρ h => ∃ (ρ' : Env), ρ = setl ρ' [(2, .pointer (some t2)), (3, .pointer (some hv)), (4, .pointer (some buf)), (5, reg (n_3 : Int))] ∧ (sha_Of.j3 k) t2 hv buf n_3 h) ?_ ?_
    · refine CW.seq ?_
      refine CW.region ?_
      refine .val (v_move (v := reg (at__3 : Int)) rfl) rfl ?_
      refine .val (v_igeq rfl rfl) rfl ?_
      refine .nil ?_
      refine QN.then_ ?_
      refine CW.cond (decide ((56 : Int) ≤ at__3)) rfl (fun hb_3 => ?_) (fun hb_3 => ?_)
      · have hh := hh.1 hb_3
        refine CW.seq ?_
        refine CW.region ?_
        refine .val (v_slice_an ar_188 rfl) rfl ?_
        refine .e (e_callP fn_95 rfl rfl hh ?_)
        intro h t50 hh
        refine .nil ?_
        refine QN.then_ ?_
        refine CW.region ?_
        refine .val (v_slice_an ar_188 rfl) rfl ?_
        refine .e (e_clr sl_130 zo_5 rfl rfl rfl hh ?_)
        intro h hh
        refine .nil ?_
        exact QN.thenJ ⟨_, setl_eq ⟨rfl, ⟨rfl, ⟨rfl, ⟨rfl, trivial⟩⟩⟩⟩, hh⟩
      · have hh := hh.2 hb_3
        refine CW.skip ?_
        exact QN.thenJ ⟨_, setl_eq ⟨rfl, ⟨rfl, ⟨rfl, ⟨rfl, trivial⟩⟩⟩⟩, hh⟩
    · rintro ρ h ⟨ρ', rfl, hh⟩
      unfold sha_Of.j3 at hh
      refine CW.join (fun ρ h => ∃ (ρ' : Env), ρ = setl ρ' [(2, .pointer (some t2)), (3, .pointer (some hv)), (4, .pointer (some buf))] ∧ (sha_Of.j4 k) t2 hv buf h) ?_ ?_
      · refine CW.seq ?_
        refine CW.region ?_
        refine .val (v_move (v := reg ((0 : Int) : Int)) rfl) rfl ?_
        refine .nil ?_
        refine QN.then_ ?_
        refine CW.block ?_
        unfold sha_Of.l3 at hh
        refine CW.loop (fun (σ0 : Int) ρ => match σ0 with | t52 => ∃ ρ' : Env, ρ = setl ρ' [(2, .pointer (some t2)), (3, .pointer (some hv)), (4, .pointer (some buf)), (5, reg (n_3 : Int)), (52, reg (t52 : Int))]) hh ⟨_, setl_eq ⟨rfl, ⟨rfl, ⟨rfl, ⟨rfl, ⟨rfl, trivial⟩⟩⟩⟩⟩⟩ ?_
        clear hh
        rintro s3 t52 ρ h ⟨ρ', rfl⟩ hh
        refine CW.seq ?_
        refine CW.region ?_
        refine .val (v_ilss rfl rfl) rfl ?_
        refine .nil ?_
        refine QN.then_ ?_
        refine CW.seq ?_
        refine CW.cond (decide (t52 < (8 : Int))) rfl (fun hb_4 => ?_) (fun hb_4 => ?_)
        · have hh := hh.1 hb_4
          refine CW.skip ?_
          refine QN.then_ ?_
          refine CW.seq ?_
          refine CW.block ?_
          refine CW.seq ?_
          refine CW.region ?_
          refine .val (v_move (v := reg (t52 : Int)) rfl) rfl ?_
          refine .val (v_assign (v := reg (t52 : Int)) rfl) rfl ?_
          refine .nil ?_
          refine QN.then_ ?_
          refine CW.region ?_
          refine .val (v_move (v := reg (t52 : Int)) rfl) rfl ?_
          refine .val (v_iadd rfl rfl) rfl ?_
          refine .val (v_move (v := reg (n_3 : Int)) rfl) rfl ?_
          refine .val (v_conv_u64 un_3 un_190 rfl) rfl ?_
          refine .val (v_shl64 (a := (toU64 n_3)) (b := 3) rfl rfl (by decide)) rfl ?_
          refine .val (v_move (v := reg (t52 : Int)) rfl) rfl ?_
          refine .val (v_imul rfl rfl) rfl ?_
          refine .val (v_isub rfl rfl) rfl ?_
          obtain ⟨hm_6, hh⟩ := hh
          refine .val (v_shr64 (a := (shl64 (toU64 n_3) 3)) rfl rfl hm_6) rfl ?_
          refine .val (v_conv_u8 un_190 un_5 rfl) rfl ?_
          obtain ⟨i65, hi65, hh⟩ := hh
          refine .val (v_idx_arrP ar_188 rfl rfl hi65) rfl ?_
          obtain ⟨xw_2, hxw_2, hwxw_2, hh⟩ := hh
          refine .e (e_store (p := buf) (nv := enc ((toU8 ((shr64 (shl64 (toU64 n_3) 3) (isub (56 : Int) (imul (8 : Int) t52)).toNat).toNat : Int)) : UInt8)) i65.val rfl rfl rfl sz_5 rfl hxw_2 hwxw_2 (arr_ble i65 xw_2 _ rfl) (arr_set i65 xw_2 ((toU8 ((shr64 (shl64 (toU64 n_3) 3) (isub (56 : Int) (imul (8 : Int) t52)).toNat).toNat : Int)) : UInt8) rfl) ?_)
          refine .nil ?_
          refine QN.blockN ?_
          refine QN.then_ ?_
          refine CW.region ?_
          refine .val (v_iadd rfl rfl) rfl ?_
          refine .val (v_move (v := reg ((iadd t52 (1 : Int)) : Int)) rfl) rfl ?_
          refine .nil ?_
          exact QN.thenJ ⟨(iadd t52 (1 : Int)), ⟨_, setl_eq ⟨rfl, ⟨rfl, ⟨rfl, ⟨rfl, ⟨rfl, trivial⟩⟩⟩⟩⟩⟩, hh⟩
        · have hh := hh.2 hb_4
          refine CW.exit ?_
          refine QN.thenExit ?_
          refine QN.thenExit ?_
          refine QN.blockExit ?_
          exact QN.thenJ ⟨_, setl_eq ⟨rfl, ⟨rfl, ⟨rfl, trivial⟩⟩⟩, hh⟩
      · rintro ρ h ⟨ρ', rfl, hh⟩
        unfold sha_Of.j4 at hh
        refine CW.seq ?_
        refine CW.region ?_
        refine .val (v_slice_an ar_188 rfl) rfl ?_
        refine .e (e_callP fn_95 rfl rfl hh ?_)
        intro h t68 hh
        refine .nil ?_
        refine QN.then_ ?_
        refine CW.seq ?_
        refine CW.region ?_
        refine box_elim hh (fun out hout hh => ?_)
        refine .e (e_allocP hout zo_24 rfl ?_)
        refine .nil ?_
        refine QN.then_ ?_
        refine CW.join (fun ρ h => ∃ (ρ' : Env), ρ = setl ρ' [(2, .pointer (some t2)), (11, .pointer (some out))] ∧ (sha_Of.j5 k) t2 out h) ?_ ?_
        · refine CW.seq ?_
          refine CW.region ?_
          refine .val (v_move (v := reg ((0 : Int) : Int)) rfl) rfl ?_
          refine .nil ?_
          refine QN.then_ ?_
          refine CW.block ?_
          unfold sha_Of.l4 at hh
          refine CW.loop (fun (σ0 : Int) ρ => match σ0 with | t69 => ∃ ρ' : Env, ρ = setl ρ' [(2, .pointer (some t2)), (3, .pointer (some hv)), (11, .pointer (some out)), (69, reg (t69 : Int))]) hh ⟨_, setl_eq ⟨rfl, ⟨rfl, ⟨rfl, ⟨rfl, trivial⟩⟩⟩⟩⟩ ?_
          clear hh
          rintro s4 t69 ρ h ⟨ρ', rfl⟩ hh
          refine CW.seq ?_
          refine CW.region ?_
          refine .val (v_ilss rfl rfl) rfl ?_
          refine .nil ?_
          refine QN.then_ ?_
          refine CW.seq ?_
          refine CW.cond (decide (t69 < (32 : Int))) rfl (fun hb_5 => ?_) (fun hb_5 => ?_)
          · have hh := hh.1 hb_5
            refine CW.skip ?_
            refine QN.then_ ?_
            refine CW.seq ?_
            refine CW.block ?_
            refine CW.seq ?_
            refine CW.region ?_
            refine .val (v_move (v := reg (t69 : Int)) rfl) rfl ?_
            refine .val (v_assign (v := reg (t69 : Int)) rfl) rfl ?_
            refine .nil ?_
            refine QN.then_ ?_
            refine CW.region ?_
            refine .val (v_move (v := reg (t69 : Int)) rfl) rfl ?_
            refine .val (v_move (v := reg (t69 : Int)) rfl) rfl ?_
            refine .val (v_iquo rfl rfl (by decide)) rfl ?_
            obtain ⟨i75, hi75, hh⟩ := hh
            refine .val (v_idx_arrP ar_187 rfl rfl hi75) rfl ?_
            obtain ⟨t76, ⟨xt76, hxt76, hgt76⟩, hh⟩ := hh
            refine .val (v_ld1 (p := hv) i75.val na_185 rfl hxt76 hgt76 (arr_get i75)) rfl ?_
            refine .val (v_move (v := reg (t69 : Int)) rfl) rfl ?_
            refine .val (v_irem rfl rfl (by decide)) rfl ?_
            refine .val (v_imul rfl rfl) rfl ?_
            refine .val (v_isub rfl rfl) rfl ?_
            obtain ⟨hm_8, hh⟩ := hh
            refine .val (v_shr32 (a := t76) rfl rfl hm_8) rfl ?_
            refine .val (v_conv_u8 un_185 un_5 rfl) rfl ?_
            obtain ⟨i83, hi83, hh⟩ := hh
            refine .val (v_idx_arrP ar_24 rfl rfl hi83) rfl ?_
            obtain ⟨xw_3, hxw_3, hwxw_3, hh⟩ := hh
            refine .e (e_store (p := out) (nv := enc ((toU8 ((shr32 t76 (isub (24 : Int) (imul (8 : Int) (irem t69 (4 : Int)))).toNat).toNat : Int)) : UInt8)) i83.val rfl rfl rfl sz_5 rfl hxw_3 hwxw_3 (arr_ble i83 xw_3 _ rfl) (arr_set i83 xw_3 ((toU8 ((shr32 t76 (isub (24 : Int) (imul (8 : Int) (irem t69 (4 : Int)))).toNat).toNat : Int)) : UInt8) rfl) ?_)
            refine .nil ?_
            refine QN.blockN ?_
            refine QN.then_ ?_
            refine CW.region ?_
            refine .val (v_iadd rfl rfl) rfl ?_
            refine .val (v_move (v := reg ((iadd t69 (1 : Int)) : Int)) rfl) rfl ?_
            refine .nil ?_
            exact QN.thenJ ⟨(iadd t69 (1 : Int)), ⟨_, setl_eq ⟨rfl, ⟨rfl, ⟨rfl, ⟨rfl, trivial⟩⟩⟩⟩⟩, hh⟩
          · have hh := hh.2 hb_5
            refine CW.exit ?_
            refine QN.thenExit ?_
            refine QN.thenExit ?_
            refine QN.blockExit ?_
            exact QN.thenJ ⟨_, setl_eq ⟨rfl, ⟨rfl, trivial⟩⟩, hh⟩
        · rintro ρ h ⟨ρ', rfl, hh⟩
          unfold sha_Of.j5 at hh
          refine CW.seq ?_
          refine CW.region ?_
          obtain ⟨t85, ⟨xt85, hxt85, hgt85⟩, hh⟩ := hh
          refine .val (v_ldA (p := out) 0 ag_24 rfl hxt85 hgt85 get_24_all (fun _ => (arr_len (n := 32) _)) (fun _ => rfl)) rfl ?_
          obtain ⟨xw_4, hxw_4, hwxw_4, hh⟩ := hh
          refine .e (e_storeN (p := t2) (nv := enc (t85 : Arr 32 UInt8)) 0 rfl rfl rfl sz_24 (one_arr (n := 32) (fun _ => rfl) _) hxw_4 hwxw_4 (arr_len (n := 32) _) (arr_len (n := 32) _) rfl (set_24_all xw_4 (t85 : Arr 32 UInt8)) ?_)
          refine .nil ?_
          refine QN.then_ ?_
          refine CW.ret ?_
          obtain ⟨r2, ⟨xr2, hxr2, hgr2⟩, hh⟩ := hh
          have hr2 := ld_id hxr2 hgr2
          exact retc rfl rfl ag_24 hr2 (arr_len (n := 32) _) ⟨(r2 : Arr 32 UInt8), rfl, hh⟩
end Go.Proofs.YtimmoekliphobaaDoor
namespace Go.Proofs.YtimmoekliphobaaDoor
open Go Go.Sh
open Go.Sh.Ty (reg)
set_option linter.unusedVariables false
set_option maxRecDepth 100000

/-- one byte more: a full block is taken in -/
def absorb1 (st : Arr 8 UInt32 × List UInt8) (b : UInt8) : Arr 8 UInt32 × List UInt8 := if st.2.length = 63 then (blockF st.1 (st.2 ++ [b]), []) else (st.1, st.2 ++ [b])
def absorb (st : Arr 8 UInt32 × List UInt8) (l : List UInt8) : Arr 8 UInt32 × List UInt8 := l.foldl absorb1 st
theorem absorb_short : ∀ (l : List UInt8) (x : Arr 8 UInt32) (r : List UInt8), r.length + l.length < 64 → absorb (x, r) l = (x, r ++ l)
  | [], x, r, _ => by simp [absorb]
  | b :: l, x, r, h => by
    simp only [List.length_cons] at h
    have : absorb1 (x, r) b = (x, r ++ [b]) := by simp [absorb1]; omega
    show absorb (absorb1 (x, r) b) l = _
    rw [this, absorb_short l x (r ++ [b]) (by simp; omega)]
    simp
theorem absorb_full : ∀ (l : List UInt8) (x : Arr 8 UInt32) (r : List UInt8), r.length + l.length = 64 → l ≠ [] → absorb (x, r) l = (blockF x (r ++ l), [])
  | [], x, r, _, hne => absurd rfl hne
  | b :: l, x, r, h, _ => by
    simp only [List.length_cons] at h
    by_cases hl : l = []
    · subst hl
      simp only [List.length_nil] at h
      have : r.length = 63 := by omega
      simp [absorb, absorb1, this]
    · have hl' : 0 < l.length := List.length_pos_iff.2 hl
      have : absorb1 (x, r) b = (x, r ++ [b]) := by simp [absorb1]; omega
      show absorb (absorb1 (x, r) b) l = _
      rw [this, absorb_full l x (r ++ [b]) (by simp; omega) hl]
      simp
theorem absorb_app (st : Arr 8 UInt32 × List UInt8) (a b : List UInt8) : absorb st (a ++ b) = absorb (absorb st a) b := by simp [absorb]
def iv : Arr 8 UInt32 := arrOf [(1779033703 : UInt32), (3144134277 : UInt32), (1013904242 : UInt32), (2773480762 : UInt32), (1359893119 : UInt32), (2600822924 : UInt32), (528734635 : UInt32), (1541459225 : UInt32)]
def lenByte (n : Int) (i : Nat) : UInt8 := toU8 ((shr64 (shl64 (toU64 n) 3) (56 - 8 * i)).toNat : Int)
def lenBytes (n : Int) : List UInt8 := (List.range 8).map (lenByte n)
def finish (x : Arr 8 UInt32) (r : List UInt8) (n : Int) : Arr 8 UInt32 :=
  let p := r ++ (128 : UInt8) :: List.replicate (63 - r.length) 0
  if 56 ≤ r.length then blockF (blockF x p) (List.replicate 56 0 ++ lenBytes n) else blockF x (p.take 56 ++ lenBytes n)
def outB (x : Arr 8 UInt32) (i : Nat) : UInt8 := toU8 ((shr32 (getN x (i / 4)) (24 - 8 * (i % 4))).toNat : Int)
def outF (x : Arr 8 UInt32) : Dig := fun i => outB x i.val
/-- the digest of bytes -/
def shaF (bs : List UInt8) : Dig := let st := absorb (iv, []) bs; outF (finish st.1 st.2 (bs.length : Int))

theorem absorb_len : ∀ (l : List UInt8) (st : Arr 8 UInt32 × List UInt8), st.2.length < 64 → (absorb st l).2.length < 64
  | [], st, h => h
  | b :: l, st, h => by
    show (absorb (absorb1 st b) l).2.length < 64
    refine absorb_len l _ ?_
    unfold absorb1
    split
    · simp
    · simp; omega

/-- slices of bytes in a slice -/
def SVV (h : H) (s : Sl) (ps : List (List UInt8)) : Prop := ∃ ss : List Sl, SV 1 h s ss ∧ ss.length = ps.length ∧ ∀ (i : Nat) (x : Sl), ss[i]? = some x → ∃ l, ps[i]? = some l ∧ SV 1 h x l
theorem SVV.ext {h h' : H} (f : Ext h h') {s : Sl} {ps : List (List UInt8)} (H : SVV h s ps) : SVV h' s ps := by
  obtain ⟨ss, h1, h2, h3⟩ := H
  refine ⟨ss, h1.ext f, h2, fun i x hi => ?_⟩
  obtain ⟨l, hl, hv⟩ := h3 i x hi
  exact ⟨l, hl, hv.ext f⟩

theorem itF_upd {n : Nat} (v : Nat → UInt8) (z : Arr n UInt8) : ∀ m : Nat, m ≤ n → ∀ j : Fin n, itF (fun i w => updN w i (v i)) m z j = if j.val < m then v j.val else z j
  | 0, _, j => by simp [itF]
  | m + 1, hm, j => by
    show (if j.val = m then v m else itF (fun i w => updN w i (v i)) m z j) = _
    by_cases h : j.val = m
    · simp [h]
    · rw [if_neg h, itF_upd v z m (by omega) j]
      by_cases h2 : j.val < m
      · rw [if_pos h2, if_pos (by omega)]
      · rw [if_neg h2, if_neg (by omega)]
theorem iquo_eq {a b : Int} (h0 : 0 ≤ a) (h1 : a < 9223372036854775808) (hb : 0 < b) : iquo a b = a / b := by
  unfold iquo
  rw [Int.tdiv_eq_ediv_of_nonneg h0]
  have : 0 ≤ a / b := Int.ediv_nonneg h0 (by omega)
  have : a / b ≤ a := Int.ediv_le_self _ h0
  exact wrap_eq (by omega) (by omega)
theorem irem_eq {a b : Int} (h0 : 0 ≤ a) : irem a b = a % b := Int.tmod_eq_emod_of_nonneg h0

theorem Of_spec (s : Sl) (ps : List (List UInt8)) {k : Dig → H → Prop} {h : H} (hT : Tb h) (hp : SVV h s ps) (hn : ps.flatten.length < 2 ^ 40) (hps : ps.length < 2 ^ 40) (hk : ∀ h', Ext h h' → k (shaF ps.flatten) h') : sha_Of.b s k h := by
  have h00 : 0 < h.size := by obtain ⟨_, _, _, _, hb, _⟩ := hT; rw [Array.getElem?_eq_some_iff] at hb; exact hb.1
  unfold sha_Of.b
  refine (Sat.init h).box_ (fun t2 h1 hs1 hz2 _ => ?_)
  refine hs1.box_ (fun hv h2 hs2 hzv hx2 => ?_)
  refine hs2.st_ 0 rfl u32len (fun h3 hs3 hsz3 => ?_)
  refine hs3.box_ (fun buf h4 hs4 hzb _ => ?_)
  have hv0 : hv.block ≠ 0 := by have := hs1.fr.size; omega
  have hbv : buf.block ≠ hv.block := by
    have := (hs3.ok _ (List.mem_of_getElem? (i := 0) rfl)).2.2 hv.block (by simp [cel]); omega
  have hT' : ∀ h', Ext h h' → Tb h' := fun h' f => hT.fr f (by simp)
  have hs4' : Sat h [] h4 [cel 188 buf (enc (arrOf (List.replicate 64 0) : Arr 64 UInt8)), cel 187 hv (enc iv), cel 24 t2 (enc ((fun _ => 0) : Arr 32 UInt8))] := by
    have e : (arrOf (List.replicate 64 0) : Arr 64 UInt8) = fun _ => 0 := by
      funext i; simp only [arrOf, List.getD_eq_getElem?_getD]; rw [List.getElem?_replicate]; simp [i.2]
    rw [e]; exact hs4
  obtain ⟨ss, hss, hsl, hse⟩ := hp
  unfold sha_Of.l1
  -- what the state is behind pieces and a part of one
  let St : List UInt8 → Int → H → Prop := fun pre at_ h' => ∃ bl : List UInt8, bl.length = 64 ∧ at_ = ((absorb (iv, []) pre).2.length : Int) ∧ bl.take (absorb (iv, []) pre).2.length = (absorb (iv, []) pre).2 ∧
    Sat h [] h' [cel 188 buf (enc (arrOf bl : Arr 64 UInt8)), cel 187 hv (enc (absorb (iv, []) pre).1), cel 24 t2 (enc ((fun _ => 0) : Arr 32 UInt8))]
  have tail : ∀ (x : Arr 8 UInt32) (bl : List UInt8) (n : Nat) (h' : H), bl.length = 64 → Sat h [] h' [cel 188 buf (enc (arrOf bl : Arr 64 UInt8)), cel 187 hv (enc x), cel 24 t2 (enc ((fun _ => 0) : Arr 32 UInt8))] →
      (∀ h'', Ext h h'' → k (outF (blockF x (bl.take 56 ++ lenBytes n))) h'') → sha_Of.j3 k t2 hv buf (n : Int) h' := by
    intro x bl n h5 hbl hs5 hk5
    unfold sha_Of.j3 sha_Of.l3
    have hll : (lenBytes n).length = 8 := by simp [lenBytes]
    refine ⟨fun (i : Int) h' => 0 ≤ i ∧ i ≤ 8 ∧ Sat h [] h' [cel 188 buf (enc (arrOf (bl.take 56 ++ (lenBytes n).take i.toNat ++ bl.drop (56 + i.toNat)) : Arr 64 UInt8)), cel 187 hv (enc x), cel 24 t2 (enc ((fun _ => 0) : Arr 32 UInt8))], fun i _ => (8 - i).toNat, ⟨by omega, by omega, by simpa using hs5⟩, ?_⟩
    clear hs5
    rintro i h6 ⟨h0, h8, hs6⟩
    refine ifb_i (fun hc => ?_) (fun hc => ?_)
    · have hi : i < 8 := by simpa using hc
      have e8 : imul 8 i = 8 * i := imul_eq (by omega) (by omega)
      have e56 : isub 56 (8 * i) = 56 - 8 * i := isub_eq (by omega) (by omega)
      have ea : iadd 56 i = 56 + i := iadd_eq (by omega) (by omega)
      have e1 : iadd i 1 = i + 1 := iadd_eq (by omega) (by omega)
      rw [e8, e56, ea, e1]
      refine ⟨by omega, ?_⟩
      refine hs6.bst 0 rfl arr_len (by omega) (by omega) (fun h7 hs7 => ?_)
      refine ⟨⟨by omega, by omega, ?_⟩, by dsimp only; omega⟩
      rw [updN_arrOf _ _ _ (by simp; omega)] at hs7
      have e9 : (bl.take 56 ++ (lenBytes n).take i.toNat ++ bl.drop (56 + i.toNat)).set (56 + i).toNat (toU8 ((shr64 (shl64 (toU64 (n : Int)) 3) (56 - 8 * i).toNat).toNat : Int)) = bl.take 56 ++ (lenBytes n).take (i + 1).toNat ++ bl.drop (56 + (i + 1).toNat) := by
        have hA : (bl.take 56 ++ (lenBytes n).take i.toNat).length = (56 + i).toNat := by simp [hll]; omega
        rw [← hA, List.set_append_right _ _ (Nat.le_refl _), Nat.sub_self]
        have hd : bl.drop (56 + i.toNat) = bl[56 + i.toNat]'(by omega) :: bl.drop (56 + i.toNat + 1) := List.drop_eq_getElem_cons (by omega)
        rw [hd, List.set_cons_zero, show (i + 1).toNat = i.toNat + 1 by omega]
        have hv8 : (lenBytes n)[i.toNat]? = some (toU8 ((shr64 (shl64 (toU64 (n : Int)) 3) (56 - 8 * i).toNat).toNat : Int)) := by
          simp only [lenBytes, List.getElem?_map, List.getElem?_range (show i.toNat < 8 by omega), Option.map_some, lenByte]
          rw [show 56 - 8 * i.toNat = (56 - 8 * i).toNat by omega]
        have ht : (lenBytes n).take (i.toNat + 1) = (lenBytes n).take i.toNat ++ [toU8 ((shr64 (shl64 (toU64 (n : Int)) 3) (56 - 8 * i).toNat).toNat : Int)] := by
          rw [List.take_add_one, hv8]; rfl
        rw [ht]
        simp [Nat.add_assoc]
      rw [List.set_cons_zero, e9] at hs7
      exact hs7
    · have hi : i = 8 := by have : ¬ i < 8 := by simpa using hc
                            omega
      subst hi
      have e9 : bl.take 56 ++ (lenBytes n).take (8 : Int).toNat ++ bl.drop (56 + (8 : Int).toNat) = bl.take 56 ++ lenBytes n := by
        rw [show (8 : Int).toNat = 8 from rfl, List.take_of_length_le (l := lenBytes n) (i := 8) (by omega), List.drop_of_length_le (by omega), List.append_nil]
      rw [e9] at hs6
      unfold sha_Of.j4
      have hbl2 : (bl.take 56 ++ lenBytes n).length = 64 := by simp [hll, hbl]
      have hbuf := hs6.arrSV 0 rfl hbl2
      have hbuf2 := hbuf.cut len_u8 (lo := 0) (hi := 64) (mx := 64) (by omega) (Nat.le_refl _) (Nat.le_refl _)
      refine sha_state_block.ok _ _ _ _ (block_spec hv x _ _ (hT' _ hs6.fr) (hs6.at_ (i := 1) rfl) hv0 hbuf2 (by simp [hll, hbl]) ?_ (fun h8 hf8 hc8 => ?_))
      · intro a ha
        simp [Sl.cut] at ha
        rw [← ha, show buf.add 0 = buf from rfl]; exact hbv
      have hs8 := hs6.upd (i := 1) (e := cel 187 hv (enc x)) (e' := cel 187 hv (enc (blockF x _))) rfl hf8 hc8 (cel_loc _ _ _) (by intro b hb; simp only [cel, List.mem_singleton] at hb; subst hb; exact ⟨Cel.lt hc8, .inl (by simp [cel])⟩)
      have e10 : (((bl.take 56 ++ lenBytes n).drop 0).take (64 - 0)) = bl.take 56 ++ lenBytes n := by rw [List.drop_zero, List.take_of_length_le (by omega)]
      rw [e10] at hs8
      clear hf8 hc8 hbuf hbuf2 hs6 e9 e10
      generalize blockF x (bl.take 56 ++ lenBytes n) = y at *
      refine hs8.box_ (fun out h9 hs9 _ _ => ?_)
      unfold sha_Of.l4
      refine ⟨fun (i : Int) h' => 0 ≤ i ∧ i ≤ 32 ∧ Sat h [] h' [cel 24 out (enc (itF (fun i w => updN w i (outB y i)) i.toNat (fun _ => 0) : Arr 32 UInt8)), cel 188 buf (enc (arrOf (bl.take 56 ++ lenBytes n) : Arr 64 UInt8)), cel 187 hv (enc y), cel 24 t2 (enc ((fun _ => 0) : Arr 32 UInt8))], fun i _ => (32 - i).toNat, ⟨by omega, by omega, hs9⟩, ?_⟩
      clear hs8
      rintro i h10 ⟨h0', h32, hs10⟩
      refine ifb_i (fun hc' => ?_) (fun hc' => ?_)
      · have hi : i < 32 := by simpa using hc'
        have q4 : iquo i 4 = i / 4 := iquo_eq h0' (by omega) (by omega)
        have r4 : irem i 4 = i % 4 := irem_eq h0'
        have m4 : imul 8 (i % 4) = 8 * (i % 4) := imul_eq (by omega) (by omega)
        have s4 : isub 24 (8 * (i % 4)) = 24 - 8 * (i % 4) := isub_eq (by omega) (by omega)
        have e1 : iadd i 1 = i + 1 := iadd_eq (by omega) (by omega)
        rw [q4, r4, m4, s4, e1]
        refine hs10.bld 2 rfl (by omega) (by omega) ?_
        refine ⟨by omega, ?_⟩
        refine hs10.bst 0 rfl arr_len (by omega) (by omega) (fun h11 hs11 => ?_)
        refine ⟨⟨by omega, by omega, ?_⟩, by dsimp only; omega⟩
        rw [show (i + 1).toNat = i.toNat + 1 by omega]
        have : outB y i.toNat = toU8 ((shr32 (getN y (i / 4).toNat) (24 - 8 * (i % 4)).toNat).toNat : Int) := by
          unfold outB
          rw [show i.toNat / 4 = (i / 4).toNat by omega, show 24 - 8 * (i.toNat % 4) = (24 - 8 * (i % 4)).toNat by omega]
        rw [← this] at hs11
        exact hs11
      · have hi : i = 32 := by have : ¬ i < 32 := by simpa using hc'
                               omega
        subst hi
        have e11 : (itF (fun i w => updN w i (outB y i)) (32 : Int).toNat (fun _ => 0) : Arr 32 UInt8) = outF y := by
          funext j
          rw [itF_upd _ _ _ (by decide), if_pos (by simp)]
          rfl
        rw [e11] at hs10
        unfold sha_Of.j5
        refine hs10.ld_ 0 rfl ?_
        refine hs10.st_ 3 rfl arr_len (fun h11 hs11 _ => ?_)
        refine hs11.ld_ 3 rfl ?_
        exact hk5 _ hs11.fr
  refine ⟨fun (st : Int × Int × Int) h' => ∃ i : Nat, st.2.2 = i ∧ i ≤ ps.length ∧ st.1 = ((ps.take i).flatten.length : Int) ∧ St (ps.take i).flatten st.2.1 h', fun st _ => (ps.length - st.2.2).toNat,
    ⟨0, rfl, Nat.zero_le _, by simp, List.replicate 64 0, by simp, by simp [absorb], by simp [absorb], by simpa [absorb] using hs4'⟩, ?_⟩
  clear hs1 hs2 hs3 hs4 hs4'
  rintro ⟨n, at_, t16⟩ h5 ⟨i, hi, hil, hnn, bl, hbl, hat, htk, hs5⟩
  simp only at hi hnn hat
  subst hi
  have hslen : (s.len : Int) = ps.length := by have := hss.2.1; omega
  refine ifb_i (fun hc => ?_) (fun hc => ?_)
  · have hi : i < ps.length := by have : (i : Int) < s.len := by simpa using hc
                                  omega
    obtain ⟨x, hx⟩ : ∃ x, ss[i]? = some x := ⟨_, List.getElem?_eq_getElem (by omega)⟩
    obtain ⟨l, hl, hxl⟩ := hse i x hx
    refine sidx_ld len_sl (hss.ext hs5.fr) (Int.natCast_nonneg _) (by simpa using hx) ?_
    have hflat : (ps.take (i + 1)).flatten = (ps.take i).flatten ++ l := by
      have : ps.take (i + 1) = ps.take i ++ [l] := by rw [List.take_add_one, hl]; rfl
      rw [this]; simp
    have hle : (ps.take (i + 1)).flatten.length ≤ ps.flatten.length := by
      conv => rhs; rw [← List.take_append_drop (i + 1) ps]
      rw [List.flatten_append, List.length_append]; omega
    have hxlen : x.len = l.length := hxl.2.1
    unfold sha_Of.l2
    refine ⟨fun (st : Int × Sl) h' => ∃ j : Nat, j ≤ l.length ∧ SV 1 h st.2 (l.drop j) ∧ St ((ps.take i).flatten ++ l.take j) st.1 h', fun st _ => st.2.len, ⟨0, Nat.zero_le _, by simpa using hxl, bl, hbl, by simpa using hat, by simpa using htk, by simpa using hs5⟩, ?_⟩
    clear hs5 hat htk hbl
    rintro ⟨at2, p⟩ h6 ⟨j, hj, hpl, bl, hbl, hat, htk, hs6⟩
    simp only at hpl hat
    have hplen : p.len = l.length - j := by rw [hpl.2.1]; simp
    have hlt := absorb_len ((ps.take i).flatten ++ l.take j) (iv, []) (by simp)
    refine ifb_i (fun hc => ?_) (fun hc => ?_)
    · have hj' : j < l.length := by have : (0 : Int) < p.len := by simpa using hc
                                    omega
      refine ⟨⟨by omega, by omega⟩, ?_⟩
      have e1 : at2.toNat = (absorb (iv, []) ((ps.take i).flatten ++ l.take j)).2.length := by omega
      rw [e1]
      refine hs6.cpy_ 0 rfl hbl _ hlt (hpl.ext hs6.fr) (fun h7 hs7 => ?_)
      generalize hst : absorb (iv, []) ((ps.take i).flatten ++ l.take j) = stt at *
      obtain ⟨xx, r⟩ := stt
      simp only at *
      have hm : min (l.drop j).length (64 - r.length) = min (l.length - j) (64 - r.length) := by simp
      rw [hm]
      have hmle : min (l.length - j) (64 - r.length) ≤ l.length - j := Nat.min_le_left _ _
      have hmle2 : min (l.length - j) (64 - r.length) ≤ 64 - r.length := Nat.min_le_right _ _
      have hmpos : 0 < min (l.length - j) (64 - r.length) := by omega
      generalize hmm : min (l.length - j) (64 - r.length) = m at *
      have htake : (l.drop j).take (64 - r.length) = (l.drop j).take m := by
        by_cases hcase : l.length - j ≤ 64 - r.length
        · rw [List.take_of_length_le (by simp; omega), List.take_of_length_le (by simp; omega)]
        · rw [show m = 64 - r.length by omega]
      rw [htake] at hs7
      have hml : ((l.drop j).take m).length = m := by simp; omega
      rw [hml, htk] at hs7
      have happ : l.take (j + m) = l.take j ++ (l.drop j).take m := by rw [List.take_add]
      have hadd : iadd at2 (m : Int) = ((r.length + m : Nat) : Int) := by rw [iadd_eq (by omega) (by omega)]; omega
      refine ⟨⟨by omega, by omega⟩, ?_⟩
      rw [hadd]
      have hcut := hpl.cut len_u8 (lo := m) (hi := p.len) (mx := p.cap) (by omega) (Nat.le_refl _) hpl.2.2
      have hcut2 : SV 1 h (p.cut 1 m p.len p.cap) (l.drop (j + m)) := by
        rw [List.drop_drop, List.take_of_length_le (by simp; omega)] at hcut; exact hcut
      have hbl2 : (r ++ (l.drop j).take m ++ bl.drop (r.length + m)).length = 64 := by simp; omega
      rw [show ((m : Int)).toNat = m by simp]
      refine ifb_i (fun hc2 => ?_) (fun hc2 => ?_)
      · have h64' : (r.length : Int) + m = 64 := by simpa using hc2
        have h64 : r.length + m = 64 := by omega
        have hbuf := hs7.arrSV 0 rfl hbl2
        have hbuf2 := hbuf.cut len_u8 (lo := 0) (hi := 64) (mx := 64) (by omega) (Nat.le_refl _) (Nat.le_refl _)
        refine sha_state_block.ok _ _ _ _ (block_spec hv xx _ _ (hT' _ hs7.fr) (hs7.at_ (i := 1) rfl) hv0 hbuf2 (by simp; omega) ?_ (fun h8 hf8 hc8 => ?_))
        · intro a ha
          simp [Sl.cut] at ha
          rw [← ha, show buf.add 0 = buf from rfl]; exact hbv
        · have hs8 := hs7.upd (i := 1) (e := cel 187 hv (enc xx)) (e' := cel 187 hv (enc (blockF xx _))) rfl hf8 hc8 (cel_loc _ _ _) (by intro b hb; simp only [cel, List.mem_singleton] at hb; subst hb; exact ⟨Cel.lt hc8, .inl (by simp [cel])⟩)
          have hfull : absorb (iv, []) ((ps.take i).flatten ++ l.take (j + m)) = (blockF xx (r ++ (l.drop j).take m), []) := by
            rw [happ, ← List.append_assoc, absorb_app, hst]
            exact absorb_full _ _ _ (by rw [hml]; exact h64) (by intro h0; rw [h0] at hml; simp at hml; omega)
          refine ⟨⟨j + m, by omega, hcut2, _, hbl2, ?_, ?_, ?_⟩, ?_⟩
          · rw [hfull]; rfl
          · rw [hfull]; rfl
          · rw [hfull]
            have e9 : (((r ++ (l.drop j).take m ++ bl.drop (r.length + m)).drop 0).take (64 - 0)) = r ++ (l.drop j).take m := by
              rw [List.drop_zero, List.take_append_of_le_length (by simp; omega), List.take_of_length_le (by simp; omega)]
            rw [e9] at hs8
            exact hs8
          · show (p.cut 1 m p.len p.cap).len < p.len
            simp only [Sl.cut]; omega
      · have h64 : r.length + m ≠ 64 := by intro h0; apply absurd hc2; simp [h0]
        have hsh : absorb (iv, []) ((ps.take i).flatten ++ l.take (j + m)) = (xx, r ++ (l.drop j).take m) := by
          rw [happ, ← List.append_assoc, absorb_app, hst]
          exact absorb_short _ _ _ (by rw [hml]; omega)
        refine ⟨⟨j + m, by omega, hcut2, _, hbl2, ?_, ?_, ?_⟩, ?_⟩
        · rw [hsh]; simp only [List.length_append, hml]
        · rw [hsh]; rw [List.take_append_of_le_length (by simp), List.take_of_length_le (by simp)]
        · rw [hsh]; exact hs7
        · show (p.cut 1 m p.len p.cap).len < p.len
          simp only [Sl.cut]; omega
    · have hj2 : j = l.length := by
        have : ¬ (0 : Int) < p.len := by simpa using hc
        omega
      subst hj2
      unfold sha_Of.j2
      have e1 : iadd (i : Int) 1 = ((i + 1 : Nat) : Int) := by rw [iadd_eq (by omega) (by omega)]; omega
      have e2 : iadd n (x.len : Int) = ((ps.take (i + 1)).flatten.length : Int) := by
        rw [hflat, List.length_append] at hle ⊢
        rw [iadd_eq (by omega) (by omega)]; omega
      refine ⟨⟨i + 1, e1, by omega, e2, bl, hbl, ?_, ?_, ?_⟩, ?_⟩
      · rw [hflat]; simpa using hat
      · rw [hflat]; simpa using htk
      · rw [hflat]; simpa using hs6
      · show (ps.length - iadd (i : Int) 1).toNat < (ps.length - (i : Int)).toNat
        rw [e1]; omega
  · have hi : i = ps.length := by
      have : ¬ (i : Int) < s.len := by simpa using hc
      omega
    subst hi
    rw [List.take_length] at hat htk hs5 hnn
    have hlt := absorb_len ps.flatten (iv, []) (by simp)
    have hfin : shaF ps.flatten = outF (finish (absorb (iv, []) ps.flatten).1 (absorb (iv, []) ps.flatten).2 (ps.flatten.length : Int)) := rfl
    rw [hfin] at hk
    generalize absorb (iv, []) ps.flatten = stt at *
    obtain ⟨xx, r⟩ := stt
    simp only at *
    subst hat hnn
    unfold sha_Of.j1
    refine hs5.bst 0 rfl arr_len (by omega) (by omega) (fun h6 hs6 => ?_)
    rw [updN_arrOf _ _ _ (by omega)] at hs6
    have ea : iadd (r.length : Int) 1 = ((r.length + 1 : Nat) : Int) := by rw [iadd_eq (by omega) (by omega)]; omega
    rw [ea]
    refine ⟨⟨by omega, by omega⟩, ?_⟩
    rw [show ((r.length + 1 : Nat) : Int).toNat = r.length + 1 by simp]
    refine hs6.clr_ 0 rfl (by simp [hbl]) (r.length + 1) (by omega) (fun h7 hs7 => ?_)
    have e12 : ((bl.set (r.length : Int).toNat 128).take (r.length + 1) ++ List.replicate (64 - (r.length + 1)) (0 : UInt8)) = r ++ (128 : UInt8) :: List.replicate (63 - r.length) 0 := by
      have hb2 : bl = r ++ bl.drop r.length := by conv => lhs; rw [← List.take_append_drop r.length bl, htk]
      have hd : bl.drop r.length = bl[r.length]'(by omega) :: bl.drop (r.length + 1) := List.drop_eq_getElem_cons (by omega)
      rw [hd] at hb2
      rw [show ((r.length : Nat) : Int).toNat = r.length by simp]
      conv => lhs; rw [hb2]
      rw [List.set_append_right _ _ (Nat.le_refl _), Nat.sub_self, List.set_cons_zero]
      rw [show r ++ (128 : UInt8) :: bl.drop (r.length + 1) = (r ++ [128]) ++ bl.drop (r.length + 1) by simp, List.take_left' (by simp)]
      simp [show 64 - (r.length + 1) = 63 - r.length by omega]
    rw [e12] at hs7
    simp only [List.set_cons_zero] at hs7
    have hpl : (r ++ (128 : UInt8) :: List.replicate (63 - r.length) 0).length = 64 := by simp; omega
    refine ifb_i (fun hc2 => ?_) (fun hc2 => ?_)
    · have h56 : 56 ≤ r.length := by have : (56 : Int) ≤ r.length := by simpa using hc2
                                     omega
      have hbuf := hs7.arrSV 0 rfl hpl
      have hbuf2 := hbuf.cut len_u8 (lo := 0) (hi := 64) (mx := 64) (by omega) (Nat.le_refl _) (Nat.le_refl _)
      refine sha_state_block.ok _ _ _ _ (block_spec hv xx _ _ (hT' _ hs7.fr) (hs7.at_ (i := 1) rfl) hv0 hbuf2 (by simp; omega) ?_ (fun h8 hf8 hc8 => ?_))
      · intro a ha
        simp [Sl.cut] at ha
        rw [← ha, show buf.add 0 = buf from rfl]; exact hbv
      have hs8 := hs7.upd (i := 1) (e := cel 187 hv (enc xx)) (e' := cel 187 hv (enc (blockF xx _))) rfl hf8 hc8 (cel_loc _ _ _) (by intro b hb; simp only [cel, List.mem_singleton] at hb; subst hb; exact ⟨Cel.lt hc8, .inl (by simp [cel])⟩)
      have e10 : (((r ++ (128 : UInt8) :: List.replicate (63 - r.length) 0).drop 0).take (64 - 0)) = r ++ (128 : UInt8) :: List.replicate (63 - r.length) 0 := by rw [List.drop_zero, List.take_of_length_le (by omega)]
      rw [e10] at hs8
      refine hs8.clr_ 0 rfl hpl 0 (by omega) (fun h9 hs9 => ?_)
      refine tail _ _ ps.flatten.length h9 (by simp) hs9 (fun h10 hx10 => ?_)
      have := hk h10 hx10
      unfold finish at this
      rw [if_pos h56] at this
      simpa using this
    · have h56 : ¬ 56 ≤ r.length := by have : ¬ (56 : Int) ≤ r.length := by simpa using hc2
                                       omega
      refine tail _ _ ps.flatten.length h7 hpl hs7 (fun h10 hx10 => ?_)
      have := hk h10 hx10
      unfold finish at this
      rw [if_neg h56] at this
      exact this
end Go.Proofs.YtimmoekliphobaaDoor
namespace Go.Proofs.YtimmoekliphobaaDoor
open Go Go.Sh
open Go.Sh.Ty (reg)
set_option linter.unusedVariables false
set_option maxRecDepth 100000
set_option maxHeartbeats 4000000
theorem code_Writer_Num.ok (w : Pt) (list : Sl) (k : Unit → H → Prop) (h : H) (hh : code_Writer_Num.b w list k h) : CallsH Prog 92 [reg w, reg list].toArray h fun v h' => ∃ r : Unit, v = reg r ∧ k r h' := by
  unfold code_Writer_Num.b at hh
  refine CallsH.of 34 Tryd.func92 rfl Tryd.ntmps92 rfl (fun w0 => ?_)
  refine CW.seq ?_
  refine CW.seq ?_
  refine CW.region ?_
  refine .val (v_move (v := reg (w : Pt)) rfl) rfl ?_
  refine .val (v_eq_nil pt_143 rfl rfl) rfl ?_
  refine .nil ?_
  refine QN.then_ ?_
  refine CW.cond w.isNone rfl (fun hb => ?_) (fun hb => ?_)
  · have hh := hh.1 hb
    refine CW.ret ?_
    refine QN.thenRet ?_
    exact ret0 rfl ⟨(), rfl, hh⟩
  · have hh := hh.2 hb
    refine CW.skip ?_
    refine QN.then_ ?_
    refine CW.seq ?_
    refine CW.region ?_
    refine .val (v_move (v := reg (list : Sl)) rfl) rfl ?_
    refine .val (v_len_sl (sl_49).1 rfl) rfl ?_
    refine .val (v_move (v := reg ((0 : Int) : Int)) rfl) rfl ?_
    refine .nil ?_
    refine QN.then_ ?_
    refine CW.block ?_
    unfold code_Writer_Num.l1 at hh
    refine CW.loop (fun (σ0 : Int) ρ => match σ0 with | t11 => ∃ ρ' : Env, ρ = setl ρ' [(0, reg (w : Pt)), (9, reg (list : Sl)), (10, reg ((list.len : Int) : Int)), (11, reg (t11 : Int))]) hh ⟨_, setl_eq ⟨rfl, ⟨rfl, ⟨rfl, ⟨rfl, trivial⟩⟩⟩⟩⟩ ?_
    clear hh
    rintro s1 t11 ρ h ⟨ρ', rfl⟩ hh
    refine CW.seq ?_
    refine CW.region ?_
    refine .val (v_ilss rfl rfl) rfl ?_
    refine .nil ?_
    refine QN.then_ ?_
    refine CW.seq ?_
    refine CW.cond (decide (t11 < (list.len : Int))) rfl (fun hb_1 => ?_) (fun hb_1 => ?_)
    · have hh := hh.1 hb_1
      refine CW.skip ?_
      refine QN.then_ ?_
      refine CW.join (fun ρ h => ∃ (ρ' : Env), ρ = setl ρ' [(0, reg (w : Pt)), (9, reg (list : Sl)), (10, reg ((list.len : Int) : Int)), (11, reg (t11 : Int))] ∧ (code_Writer_Num.j1 s1) w list (list.len : Int) t11 h) ?_ ?_
      · refine CW.block ?_
        refine CW.seq ?_
        refine CW.region ?_
        obtain ⟨t13, ht13, hh⟩ := hh
        refine .val (v_idx_slP sl_49 rfl rfl ht13.1 ht13.2.1 ht13.2.2) rfl ?_
        obtain ⟨t14, ⟨xt14, hxt14, hgt14⟩, hh⟩ := hh
        refine .val (v_ld1 (p := t13) 0 na_3 rfl hxt14 hgt14 get_3_all) rfl ?_
        refine .val (v_assign (v := reg (t14 : Int)) rfl) rfl ?_
        refine .nil ?_
        refine QN.then_ ?_
        refine CW.seq ?_
        refine CW.region ?_
        refine .val (v_assign (v := reg ((56 : Int) : Int)) rfl) rfl ?_
        refine .nil ?_
        refine QN.then_ ?_
        refine CW.block ?_
        unfold code_Writer_Num.l2 at hh
        refine CW.loop (fun (σ0 : Int) ρ => match σ0 with | i => ∃ ρ' : Env, ρ = setl ρ' [(0, reg (w : Pt)), (5, reg (t14 : Int)), (9, reg (list : Sl)), (10, reg ((list.len : Int) : Int)), (11, reg (t11 : Int)), (6, reg (i : Int))]) hh ⟨_, setl_eq ⟨rfl, ⟨rfl, ⟨rfl, ⟨rfl, ⟨rfl, ⟨rfl, trivial⟩⟩⟩⟩⟩⟩⟩ ?_
        clear hh
        rintro s2 i ρ h ⟨ρ', rfl⟩ hh
        refine CW.seq ?_
        refine CW.seq ?_
        refine CW.region ?_
        refine .val (v_move (v := reg (i : Int)) rfl) rfl ?_
        refine .val (v_igeq rfl rfl) rfl ?_
        refine .nil ?_
        refine QN.then_ ?_
        refine CW.cond (decide ((0 : Int) ≤ i)) rfl (fun hb_2 => ?_) (fun hb_2 => ?_)
        · have hh := hh.1 hb_2
          refine CW.skip ?_
          refine QN.then_ ?_
          refine CW.seq ?_
          refine CW.block ?_
          refine CW.drawN 15 rfl follows_mixed [0, 1, 2, 3, 4, 5, 6, 7, 8, 9, 12, 13] ?_
          refine .p 0 rfl (by kernel_rfl) (NoPanic.block (NoPanic.then_ (NoPanic.then_ (NoPanic.block (NoPanic.block (NoPanic.then_ (NoPanic.then_ (NoPanic.block (NoPanic.body))))))))) (fun _ => v_move (v := reg (w : Pt)) rfl) ?_
          refine .p 1 rfl (by kernel_rfl) (NoPanic.block (NoPanic.then_ (NoPanic.then_ (NoPanic.block (NoPanic.block (NoPanic.then_ (NoPanic.then_ (NoPanic.block (NoPanic.body))))))))) (fun _ => v_move (v := reg (w : Pt)) rfl) ?_
          obtain ⟨p, hp, hh⟩ := hh
          refine .p 2 rfl (by kernel_rfl) (NoPanic.block (NoPanic.then_ (NoPanic.then_ (NoPanic.block (NoPanic.block (NoPanic.then_ (NoPanic.then_ (NoPanic.block (NoPanic.body))))))))) (fun _ => v_nilCheck (congrArg Value.pointer hp)) ?_
          refine .p 3 rfl (by kernel_rfl) (NoPanic.block (NoPanic.then_ (NoPanic.then_ (NoPanic.block (NoPanic.block (NoPanic.then_ (NoPanic.then_ (NoPanic.block (NoPanic.body))))))))) (fun _ => v_fieldAddr fl_145_0 rfl) ?_
          obtain ⟨t23, ⟨xt23, hxt23, hgt23⟩, hh⟩ := hh
          refine .r 4 (fun h' => ∃ x : code_Writer, AtH h' p (enc x) ∧ ((fun (x : code_Writer) => x.b) : code_Writer → Sl) x = t23) rfl (by kernel_rfl) (NoPanic.block (NoPanic.then_ (NoPanic.then_ (NoPanic.block (NoPanic.block (NoPanic.then_ (NoPanic.then_ (NoPanic.block (NoPanic.body))))))))) ⟨xt23, hxt23, hgt23⟩ (fun h' hS => hS.elim fun _ hS => v_ld1 (p := p) 0 na_130 rfl hS.1 hS.2 get_145_b) ?_
          refine .p 5 rfl (by kernel_rfl) (NoPanic.block (NoPanic.then_ (NoPanic.then_ (NoPanic.block (NoPanic.block (NoPanic.then_ (NoPanic.then_ (NoPanic.block (NoPanic.body))))))))) (fun _ => v_move (v := reg (t14 : Int)) rfl) ?_
          refine .p 6 rfl (by kernel_rfl) (NoPanic.block (NoPanic.then_ (NoPanic.then_ (NoPanic.block (NoPanic.block (NoPanic.then_ (NoPanic.then_ (NoPanic.block (NoPanic.body))))))))) (fun _ => v_conv_u64 un_3 un_190 rfl) ?_
          refine .p 7 rfl (by kernel_rfl) (NoPanic.block (NoPanic.then_ (NoPanic.then_ (NoPanic.block (NoPanic.block (NoPanic.then_ (NoPanic.then_ (NoPanic.block (NoPanic.body))))))))) (fun _ => v_move (v := reg (i : Int)) rfl) ?_
          obtain ⟨hm, hh⟩ := hh
          refine .p 8 rfl (by kernel_rfl) (NoPanic.block (NoPanic.then_ (NoPanic.then_ (NoPanic.block (NoPanic.block (NoPanic.then_ (NoPanic.then_ (NoPanic.block (NoPanic.body))))))))) (fun _ => v_shr64 (a := (toU64 t14)) rfl rfl hm) ?_
          refine .p 9 rfl (by kernel_rfl) (NoPanic.block (NoPanic.then_ (NoPanic.then_ (NoPanic.block (NoPanic.block (NoPanic.then_ (NoPanic.then_ (NoPanic.block (NoPanic.body))))))))) (fun _ => v_conv_u8 un_190 un_5 rfl) ?_
          refine mks_elim hh (fun pt29 t29 hpt29 ht29 hh => ?_)
          refine .w 10 (by kernel_rfl) rfl (by kernel_rfl) (.e (e_mks [((toU8 ((shr64 (toU64 t14) i.toNat).toNat : Int)) : UInt8)] hpt29 ht29 zo_5 sl_130 rfl rfl rfl rfl rfl ?_))
          obtain ⟨hc, hh⟩ := hh
          refine ⟨⟨trivial, .inr hc⟩, ?_⟩
          refine .w 11 (by kernel_rfl) rfl (by kernel_rfl) (.e (e_app sl_130 zo_5 by_5 rfl rfl rfl hh ?_))
          intro h t30 hh
          refine ⟨⟨trivial, .inl (by kernel_rfl)⟩, ?_⟩
          refine .p 12 rfl (by kernel_rfl) (NoPanic.block (NoPanic.then_ (NoPanic.then_ (NoPanic.block (NoPanic.block (NoPanic.then_ (NoPanic.then_ (NoPanic.block (NoPanic.body))))))))) (fun _ => v_nilCheck (congrArg Value.pointer hp)) ?_
          refine .p 13 rfl (by kernel_rfl) (NoPanic.block (NoPanic.then_ (NoPanic.then_ (NoPanic.block (NoPanic.block (NoPanic.then_ (NoPanic.then_ (NoPanic.block (NoPanic.body))))))))) (fun _ => v_fieldAddr fl_145_0 rfl) ?_
          obtain ⟨xw_3, hxw_3, hwxw_3, hh⟩ := hh
          refine .w 14 (by kernel_rfl) rfl (by kernel_rfl) (.e (e_storeN (p := p) (nv := enc (t30 : Sl)) 0 rfl rfl rfl sz_130 (one_sl _) hxw_3 hwxw_3 (len_code_Writer _) (len_sl _) rfl (set_145_b xw_3 (t30 : Sl)) ?_))
          refine ⟨⟨trivial, .inl (by kernel_rfl)⟩, ?_⟩
          refine .done (by kernel_rfl) ?_
          refine QN.blockN ?_
          refine QN.then_ ?_
          refine CW.region ?_
          refine .val (v_move (v := reg (i : Int)) rfl) rfl ?_
          refine .val (v_isub rfl rfl) rfl ?_
          refine .val (v_assign (v := reg ((isub i (8 : Int)) : Int)) rfl) rfl ?_
          refine .nil ?_
          exact QN.thenJ ⟨(isub i (8 : Int)), ⟨_, setl_eq ⟨rfl, ⟨rfl, ⟨rfl, ⟨rfl, ⟨rfl, ⟨rfl, trivial⟩⟩⟩⟩⟩⟩⟩, hh⟩
        · have hh := hh.2 hb_2
          refine CW.exit ?_
          refine QN.thenExit ?_
          refine QN.thenExit ?_
          refine QN.blockExit ?_
          refine QN.blockN ?_
          exact QN.thenJ ⟨_, setl_eq ⟨rfl, ⟨rfl, ⟨rfl, ⟨rfl, trivial⟩⟩⟩⟩, hh⟩
      · rintro ρ h ⟨ρ', rfl, hh⟩
        unfold code_Writer_Num.j1 at hh
        refine CW.region ?_
        refine .val (v_iadd rfl rfl) rfl ?_
        refine .val (v_move (v := reg ((iadd t11 (1 : Int)) : Int)) rfl) rfl ?_
        refine .nil ?_
        exact QN.thenJ ⟨(iadd t11 (1 : Int)), ⟨_, setl_eq ⟨rfl, ⟨rfl, ⟨rfl, ⟨rfl, trivial⟩⟩⟩⟩⟩, hh⟩
    · have hh := hh.2 hb_1
      refine CW.exit ?_
      refine QN.thenExit ?_
      refine QN.thenExit ?_
      refine QN.blockExit ?_
      exact ret0n rfl ⟨(), rfl, hh⟩
end Go.Proofs.YtimmoekliphobaaDoor
namespace Go.Proofs.YtimmoekliphobaaDoor
open Go Go.Sh
open Go.Sh.Ty (reg)
set_option linter.unusedVariables false
set_option maxRecDepth 100000
set_option maxHeartbeats 4000000
theorem code_Writer_Digest.ok (w : Pt) (list : Sl) (k : Unit → H → Prop) (h : H) (hh : code_Writer_Digest.b w list k h) : CallsH Prog 93 [reg w, reg list].toArray h fun v h' => ∃ r : Unit, v = reg r ∧ k r h' := by
  unfold code_Writer_Digest.b at hh
  refine CallsH.of 24 Tryd.func93 rfl Tryd.ntmps93 rfl (fun w0 => ?_)
  refine CW.seq ?_
  refine CW.seq ?_
  refine CW.region ?_
  refine .val (v_move (v := reg (w : Pt)) rfl) rfl ?_
  refine .val (v_eq_nil pt_143 rfl rfl) rfl ?_
  refine .nil ?_
  refine QN.then_ ?_
  refine CW.cond w.isNone rfl (fun hb => ?_) (fun hb => ?_)
  · have hh := hh.1 hb
    refine CW.ret ?_
    refine QN.thenRet ?_
    exact ret0 rfl ⟨(), rfl, hh⟩
  · have hh := hh.2 hb
    refine CW.skip ?_
    refine QN.then_ ?_
    refine CW.seq ?_
    refine CW.region ?_
    refine .val (v_move (v := reg (list : Sl)) rfl) rfl ?_
    refine .val (v_len_sl (sl_31).1 rfl) rfl ?_
    refine .val (v_move (v := reg ((0 : Int) : Int)) rfl) rfl ?_
    refine .nil ?_
    refine QN.then_ ?_
    refine CW.block ?_
    unfold code_Writer_Digest.l1 at hh
    refine CW.loop (fun (σ0 : Int) ρ => match σ0 with | t10 => ∃ ρ' : Env, ρ = setl ρ' [(0, reg (w : Pt)), (8, reg (list : Sl)), (9, reg ((list.len : Int) : Int)), (10, reg (t10 : Int))]) hh ⟨_, setl_eq ⟨rfl, ⟨rfl, ⟨rfl, ⟨rfl, trivial⟩⟩⟩⟩⟩ ?_
    clear hh
    rintro s1 t10 ρ h ⟨ρ', rfl⟩ hh
    refine CW.seq ?_
    refine CW.region ?_
    refine .val (v_ilss rfl rfl) rfl ?_
    refine .nil ?_
    refine QN.then_ ?_
    refine CW.seq ?_
    refine CW.cond (decide (t10 < (list.len : Int))) rfl (fun hb_1 => ?_) (fun hb_1 => ?_)
    · have hh := hh.1 hb_1
      refine CW.skip ?_
      refine QN.then_ ?_
      refine CW.seq ?_
      refine CW.block ?_
      refine CW.seq ?_
      refine CW.region ?_
      obtain ⟨t12, ht12, hh⟩ := hh
      refine .val (v_idx_slP sl_31 rfl rfl ht12.1 ht12.2.1 ht12.2.2) rfl ?_
      obtain ⟨t13, ⟨xt13, hxt13, hgt13⟩, hh⟩ := hh
      refine .val (v_ldA (p := t12) 0 ag_24 rfl hxt13 hgt13 get_24_all (fun _ => (arr_len (n := 32) _)) (fun _ => rfl)) rfl ?_
      refine box_elim hh (fun d hd hh => ?_)
      refine .e (e_allocP hd zo_24 rfl ?_)
      obtain ⟨xw_2, hxw_2, hwxw_2, hh⟩ := hh
      refine .e (e_storeN (p := d) (nv := enc (t13 : Arr 32 UInt8)) 0 rfl rfl rfl sz_24 (one_arr (n := 32) (fun _ => rfl) _) hxw_2 hwxw_2 (arr_len (n := 32) _) (arr_len (n := 32) _) rfl (set_24_all xw_2 (t13 : Arr 32 UInt8)) ?_)
      refine .nil ?_
      refine QN.then_ ?_
      refine CW.drawN 10 rfl follows_mixed [0, 1, 2, 3, 4, 5, 7, 8] ?_
      refine .p 0 rfl (by kernel_rfl) (NoPanic.block (NoPanic.then_ (NoPanic.then_ (NoPanic.block (NoPanic.body))))) (fun _ => v_move (v := reg (w : Pt)) rfl) ?_
      refine .p 1 rfl (by kernel_rfl) (NoPanic.block (NoPanic.then_ (NoPanic.then_ (NoPanic.block (NoPanic.body))))) (fun _ => v_move (v := reg (w : Pt)) rfl) ?_
      obtain ⟨p, hp, hh⟩ := hh
      refine .p 2 rfl (by kernel_rfl) (NoPanic.block (NoPanic.then_ (NoPanic.then_ (NoPanic.block (NoPanic.body))))) (fun _ => v_nilCheck (congrArg Value.pointer hp)) ?_
      refine .p 3 rfl (by kernel_rfl) (NoPanic.block (NoPanic.then_ (NoPanic.then_ (NoPanic.block (NoPanic.body))))) (fun _ => v_fieldAddr fl_145_0 rfl) ?_
      obtain ⟨t18, ⟨xt18, hxt18, hgt18⟩, hh⟩ := hh
      refine .r 4 (fun h' => ∃ x : code_Writer, AtH h' p (enc x) ∧ ((fun (x : code_Writer) => x.b) : code_Writer → Sl) x = t18) rfl (by kernel_rfl) (NoPanic.block (NoPanic.then_ (NoPanic.then_ (NoPanic.block (NoPanic.body))))) ⟨xt18, hxt18, hgt18⟩ (fun h' hS => hS.elim fun _ hS => v_ld1 (p := p) 0 na_130 rfl hS.1 hS.2 get_145_b) ?_
      refine .p 5 rfl (by kernel_rfl) (NoPanic.block (NoPanic.then_ (NoPanic.then_ (NoPanic.block (NoPanic.body))))) (fun _ => v_slice_an ar_24 rfl) ?_
      refine .w 6 (by kernel_rfl) rfl (by kernel_rfl) (.e (e_app sl_130 zo_5 by_5 rfl rfl rfl hh ?_))
      intro h t20 hh
      refine ⟨⟨trivial, .inl (by kernel_rfl)⟩, ?_⟩
      refine .p 7 rfl (by kernel_rfl) (NoPanic.block (NoPanic.then_ (NoPanic.then_ (NoPanic.block (NoPanic.body))))) (fun _ => v_nilCheck (congrArg Value.pointer hp)) ?_
      refine .p 8 rfl (by kernel_rfl) (NoPanic.block (NoPanic.then_ (NoPanic.then_ (NoPanic.block (NoPanic.body))))) (fun _ => v_fieldAddr fl_145_0 rfl) ?_
      obtain ⟨xw_3, hxw_3, hwxw_3, hh⟩ := hh
      refine .w 9 (by kernel_rfl) rfl (by kernel_rfl) (.e (e_storeN (p := p) (nv := enc (t20 : Sl)) 0 rfl rfl rfl sz_130 (one_sl _) hxw_3 hwxw_3 (len_code_Writer _) (len_sl _) rfl (set_145_b xw_3 (t20 : Sl)) ?_))
      refine ⟨⟨trivial, .inl (by kernel_rfl)⟩, ?_⟩
      refine .done (by kernel_rfl) ?_
      refine QN.blockN ?_
      refine QN.then_ ?_
      refine CW.region ?_
      refine .val (v_iadd rfl rfl) rfl ?_
      refine .val (v_move (v := reg ((iadd t10 (1 : Int)) : Int)) rfl) rfl ?_
      refine .nil ?_
      exact QN.thenJ ⟨(iadd t10 (1 : Int)), ⟨_, setl_eq ⟨rfl, ⟨rfl, ⟨rfl, ⟨rfl, trivial⟩⟩⟩⟩⟩, hh⟩
    · have hh := hh.2 hb_1
      refine CW.exit ?_
      refine QN.thenExit ?_
      refine QN.thenExit ?_
      refine QN.blockExit ?_
      exact ret0n rfl ⟨(), rfl, hh⟩
end Go.Proofs.YtimmoekliphobaaDoor
namespace Go.Proofs.YtimmoekliphobaaDoor
open Go Go.Sh
open Go.Sh.Ty (reg)
set_option linter.unusedVariables false
set_option maxRecDepth 100000
set_option maxHeartbeats 4000000
theorem code_Writer_Bytes.ok (w : Pt) (k : Sl → H → Prop) (h : H) (hh : code_Writer_Bytes.b w k h) : CallsH Prog 61 [reg w].toArray h fun v h' => ∃ r : Sl, v = reg r ∧ k r h' := by
  unfold code_Writer_Bytes.b at hh
  refine CallsH.of 15 Tryd.func61 rfl Tryd.ntmps61 rfl (fun w0 => ?_)
  refine CW.seq ?_
  refine CW.region ?_
  refine .val (v_assign (v := reg (Sl.nil : Sl)) rfl) rfl ?_
  refine .nil ?_
  refine QN.then_ ?_
  refine CW.seq ?_
  refine CW.seq ?_
  refine CW.region ?_
  refine .val (v_move (v := reg (w : Pt)) rfl) rfl ?_
  refine .val (v_eq_nil pt_143 rfl rfl) rfl ?_
  refine .nil ?_
  refine QN.then_ ?_
  refine CW.cond w.isNone rfl (fun hb => ?_) (fun hb => ?_)
  · have hh := hh.1 hb
    refine CW.seq ?_
    refine CW.region ?_
    refine .val (v_assign (v := reg (Sl.nil : Sl)) rfl) rfl ?_
    refine .nil ?_
    refine QN.then_ ?_
    refine CW.ret ?_
    refine QN.thenRet ?_
    exact ret1 rfl rfl ⟨(Sl.nil : Sl), rfl, hh⟩
  · have hh := hh.2 hb
    refine CW.skip ?_
    refine QN.then_ ?_
    refine CW.seq ?_
    refine CW.drawN 11 rfl follows_mixed [0, 1, 2, 3, 4, 5, 6, 7, 8, 10] ?_
    refine .p 0 rfl (by kernel_rfl) (NoPanic.then_ (NoPanic.body)) (fun _ => v_move (v := reg (w : Pt)) rfl) ?_
    obtain ⟨p, hp, hh⟩ := hh
    refine .p 1 rfl (by kernel_rfl) (NoPanic.then_ (NoPanic.body)) (fun _ => v_nilCheck (congrArg Value.pointer hp)) ?_
    refine .p 2 rfl (by kernel_rfl) (NoPanic.then_ (NoPanic.body)) (fun _ => v_fieldAddr fl_145_0 rfl) ?_
    obtain ⟨t8, ⟨xt8, hxt8, hgt8⟩, hh⟩ := hh
    refine .r 3 (fun h' => ∃ x : code_Writer, AtH h' p (enc x) ∧ ((fun (x : code_Writer) => x.b) : code_Writer → Sl) x = t8) rfl (by kernel_rfl) (NoPanic.then_ (NoPanic.body)) ⟨xt8, hxt8, hgt8⟩ (fun h' hS => hS.elim fun _ hS => v_ld1 (p := p) 0 na_130 rfl hS.1 hS.2 get_145_b) ?_
    obtain ⟨hm, hh⟩ := hh
    refine .p 4 rfl (by kernel_rfl) (NoPanic.then_ (NoPanic.body)) (fun _ => v_slice_hm sl_130 rfl rfl rfl hm.1 hm.2.1 hm.2.2) ?_
    refine .p 5 rfl (by kernel_rfl) (NoPanic.then_ (NoPanic.body)) (fun _ => v_move (v := reg (w : Pt)) rfl) ?_
    refine .p 6 rfl (by kernel_rfl) (NoPanic.then_ (NoPanic.body)) (fun _ => v_nilCheck (congrArg Value.pointer hp)) ?_
    refine .p 7 rfl (by kernel_rfl) (NoPanic.then_ (NoPanic.body)) (fun _ => v_fieldAddr fl_145_0 rfl) ?_
    obtain ⟨t13, ⟨xt13, hxt13, hgt13⟩, hh⟩ := hh
    refine .r 8 (fun h' => ∃ x : code_Writer, AtH h' p (enc x) ∧ ((fun (x : code_Writer) => x.b) : code_Writer → Sl) x = t13) rfl (by kernel_rfl) (NoPanic.then_ (NoPanic.body)) ⟨xt13, hxt13, hgt13⟩ (fun h' hS => hS.elim fun _ hS => v_ld1 (p := p) 0 na_130 rfl hS.1 hS.2 get_145_b) ?_
    refine .w 9 (by kernel_rfl) rfl (by kernel_rfl) (.e (e_app sl_130 zo_5 by_5 rfl rfl rfl hh ?_))
    intro h t14 hh
    refine ⟨⟨⟨trivial, .inl (by kernel_rfl)⟩, .inl (by kernel_rfl)⟩, ?_⟩
    refine .p 10 rfl (by kernel_rfl) (NoPanic.then_ (NoPanic.body)) (fun _ => v_assign (v := reg (t14 : Sl)) rfl) ?_
    refine .done (by kernel_rfl) ?_
    refine QN.then_ ?_
    refine CW.ret ?_
    exact ret1 rfl rfl ⟨(t14 : Sl), rfl, hh⟩
end Go.Proofs.YtimmoekliphobaaDoor
namespace Go.Proofs.YtimmoekliphobaaDoor
open Go Go.Sh
open Go.Sh.Ty (reg)
set_option linter.unusedVariables false
set_option maxRecDepth 100000

def numB (n : Int) : List UInt8 := [56, 48, 40, 32, 24, 16, 8, 0].map fun i => toU8 ((shr64 (toU64 n) i).toNat : Int)
theorem numB_len (n : Int) : (numB n).length = 8 := rfl
def WrA (p : Addr) (sl : Sl) (bs : List UInt8) (h : H) : Prop := Cel 145 p (enc (⟨sl⟩ : code_Writer)) h ∧ OwnA 5 1 sl bs h ∧ p.block ∉ blk sl
def wrt (p : Addr) (sl : Sl) (bs : List UInt8) : En := ⟨p.block :: blk sl, WrA p sl bs⟩
theorem wrt_loc (p : Addr) (sl : Sl) (bs : List UInt8) : Go.Sh.Loc (wrt p sl bs) := fun h h' hb H =>
  ⟨cel_loc 145 p _ h h' (fun b hb' => hb b (by simp only [cel, List.mem_singleton] at hb'; subst hb'; simp [wrt])) H.1, own_loc 5 1 sl bs h h' (fun b hb' => hb b (by simp only [own] at hb'; simp [wrt, hb'])) H.2.1, H.2.2⟩
theorem WrA.lt {p : Addr} {sl : Sl} {bs : List UInt8} {h : H} (H : WrA p sl bs h) : ∀ b ∈ p.block :: blk sl, b < h.size := by
  intro b hb
  rcases List.mem_cons.1 hb with rfl | hb
  · exact H.1.lt
  · exact H.2.1.lt b hb
theorem Sat.initW {p : Addr} {sl : Sl} {bs : List UInt8} {h : H} (H : WrA p sl bs h) : Sat h (p.block :: blk sl) h [cel 145 p (enc (⟨sl⟩ : code_Writer)), own 5 1 sl bs] := by
  refine ⟨Fr.refl _ _, ?_, ?_⟩
  · intro e he
    simp only [List.mem_cons, List.not_mem_nil, or_false] at he
    rcases he with rfl | rfl
    · exact ⟨H.1, cel_loc _ _ _, fun b hb => ⟨by simp only [cel, List.mem_singleton] at hb; subst hb; exact H.1.lt, .inl (by simp only [cel, List.mem_singleton] at hb; simp [hb])⟩⟩
    · exact ⟨H.2.1, own_loc _ _ _ _, fun b hb => ⟨H.2.1.lt b hb, .inl (by simp only [own] at hb; simp [hb])⟩⟩
  · rw [List.pairwise_cons]
    refine ⟨?_, by simp⟩
    intro e he x hx
    simp only [List.mem_singleton] at he
    subst he
    simp only [cel, List.mem_singleton] at hx
    subst hx
    exact H.2.2
theorem Sat.toW {h0 h : H} {S : List Nat} {L : List En} {p : Addr} {sl : Sl} {bs : List UInt8} (i j : Nat) (hs : Sat h0 S h L) (hi : L[i]? = some (cel 145 p (enc (⟨sl⟩ : code_Writer)))) (hj : L[j]? = some (own 5 1 sl bs)) (hne : i ≠ j) :
    WrA p sl bs h ∧ ∀ b ∈ blk sl, b < h.size ∧ (b ∈ S ∨ h0.size ≤ b) :=
  ⟨⟨hs.at_ hi, hs.at_ hj, hs.disj hi hj hne p.block (by simp [cel])⟩, fun b hb => (hs.ok _ (List.mem_of_getElem? hj)).2.2 b hb⟩
theorem len_wr (y : code_Writer) : (enc y).length = 1 := len_code_Writer y

theorem Num_spec (p : Addr) (sl : Sl) (bs : List UInt8) (s : Sl) (ns : List Int) {k : Unit → H → Prop} {h : H} (hw : WrA p sl bs h) (hv : SV 1 h s ns) (hd : ∀ b ∈ blk s, b ∉ p.block :: blk sl) (hbig : bs.length + 8 * ns.length < 2 ^ 40)
    (hk : ∀ sl' h', Fr (p.block :: blk sl) h h' → WrA p sl' (bs ++ (ns.map numB).flatten) h' → (∀ b ∈ blk sl', b < h'.size ∧ (b ∈ p.block :: blk sl ∨ h.size ≤ b)) → k () h') : code_Writer_Num.b (some p) s k h := by
  unfold code_Writer_Num.b
  refine ifb_i (fun hc => by cases hc) (fun _ => ?_)
  unfold code_Writer_Num.l1
  have hsl : s.len = ns.length := hv.2.1
  refine ⟨fun (t : Int) h' => ∃ i : Nat, t = i ∧ i ≤ ns.length ∧ ∃ sl', Sat h (p.block :: blk sl) h' [cel 145 p (enc (⟨sl'⟩ : code_Writer)), own 5 1 sl' (bs ++ ((ns.take i).map numB).flatten)], fun t _ => (ns.length - t).toNat, ⟨0, rfl, Nat.zero_le _, sl, by simpa using Sat.initW hw⟩, ?_⟩
  rintro t h2 ⟨i, rfl, hi, sl', hs⟩
  refine ifb_i (fun hc => ?_) (fun hc => ?_)
  · have hi' : i < ns.length := by have : (i : Int) < s.len := by simpa using hc
                                   omega
    have hflat : ∀ j ≤ ns.length, ((ns.take j).map numB).flatten.length = 8 * j := by
      intro j hj
      rw [flatten_len 8 _ (by intro x hx; simp only [List.mem_map] at hx; obtain ⟨y, _, rfl⟩ := hx; rfl)]
      simp; omega
    have hgi : ns[i]? = some ns[i] := List.getElem?_eq_getElem hi'
    refine sidx_ld len_i (hv.fr' hs.fr hd) (Int.natCast_nonneg _) (by rw [Int.toNat_natCast]; exact hgi) ?_
    generalize hni : ns[i] = n at *
    unfold code_Writer_Num.l2
    refine ⟨fun (t : Int) h' => ∃ j : Nat, j ≤ 8 ∧ t = 56 - 8 * (j : Int) ∧ ∃ sl', Sat h (p.block :: blk sl) h' [cel 145 p (enc (⟨sl'⟩ : code_Writer)), own 5 1 sl' (bs ++ ((ns.take i).map numB).flatten ++ (numB n).take j)], fun t _ => (t + 8).toNat, ⟨0, by omega, rfl, sl', by simpa using hs⟩, ?_⟩
    clear hs
    rintro t h3 ⟨j, hj, rfl, sl2, hs⟩
    refine ifb_i (fun hc2 => ?_) (fun hc2 => ?_)
    · have hj' : j < 8 := by have : (0 : Int) ≤ 56 - 8 * (j : Int) := by simpa using hc2
                             omega
      refine nn_i ?_
      refine hs.ld_ 0 rfl ?_
      refine ⟨by omega, ?_⟩
      refine hs.mks_ (n := 1) (fun s1 h4 hs4 hl4 _ => ?_)
      refine hs4.chk_ 1 rfl rfl ?_
      refine hs4.app_ 2 rfl (hs4.ownSV 0 rfl len_u8) len_u8 one_u8 rfl ?_ ?_ (fun r h5 hs5 hl5 => ?_)
      · simp only [List.length_append, hflat i hi, List.length_take, numB_len, maxBytes, List.length_cons, List.length_nil]; omega
      · simp only [List.length_append, hflat i hi, List.length_take, numB_len, List.length_cons, List.length_nil]; omega
      refine hs5.st_ 1 rfl len_wr (fun h6 hs6 _ => ?_)
      have e : isub (56 - 8 * (j : Int)) 8 = 56 - 8 * ((j + 1 : Nat) : Int) := by rw [isub_eq (by omega) (by omega)]; omega
      rw [e]
      refine ⟨⟨j + 1, hj', rfl, r, ?_⟩, by dsimp only; omega⟩
      have hnb : (numB n)[j]? = some (toU8 ((shr64 (toU64 n) (56 - 8 * (j : Int)).toNat).toNat : Int)) := by
        have : (56 - 8 * (j : Int)).toNat = 56 - 8 * j := by omega
        rw [this]
        have : j = 0 ∨ j = 1 ∨ j = 2 ∨ j = 3 ∨ j = 4 ∨ j = 5 ∨ j = 6 ∨ j = 7 := by omega
        rcases this with rfl | rfl | rfl | rfl | rfl | rfl | rfl | rfl <;> rfl
      have ht : (numB n).take (j + 1) = (numB n).take j ++ [toU8 ((shr64 (toU64 n) (56 - 8 * (j : Int)).toNat).toNat : Int)] := by
        rw [List.take_add_one, hnb]; rfl
      rw [ht]
      have := hs6.drop (L' := [cel 145 p (enc (⟨r⟩ : code_Writer)), own 5 1 r (bs ++ ((ns.take i).map numB).flatten ++ (numB n).take j ++ [toU8 ((shr64 (toU64 n) (56 - 8 * (j : Int)).toNat).toNat : Int)])]) (List.sublist_cons_self _ _)
      simpa using this
    · have hj' : j = 8 := by
        have : ¬ (0 : Int) ≤ 56 - 8 * (j : Int) := by simpa using hc2
        omega
      subst hj'
      unfold code_Writer_Num.j1
      have e : iadd (i : Int) 1 = ((i + 1 : Nat) : Int) := by rw [iadd_eq (by omega) (by omega)]; omega
      rw [e]
      refine ⟨⟨i + 1, rfl, hi', sl2, ?_⟩, by dsimp only; omega⟩
      have ht : ns.take (i + 1) = ns.take i ++ [n] := by rw [List.take_add_one, hgi]; rfl
      rw [ht]
      have e8 : (numB n).take 8 = numB n := rfl
      rw [e8] at hs
      simpa using hs
  · have hi' : i = ns.length := by
      have : ¬ (i : Int) < s.len := by simpa using hc
      omega
    subst hi'
    rw [List.take_length] at hs
    obtain ⟨h1, h3⟩ := Sat.toW 0 1 hs rfl rfl (by decide)
    exact hk sl' _ hs.fr h1 h3

theorem Digest_spec (p : Addr) (sl : Sl) (bs : List UInt8) (s : Sl) (ds : List Dig) {k : Unit → H → Prop} {h : H} (hw : WrA p sl bs h) (hv : SV 32 h s ds) (hd : ∀ b ∈ blk s, b ∉ p.block :: blk sl) (hbig : bs.length + 32 * ds.length < 2 ^ 40)
    (hk : ∀ sl' h', Fr (p.block :: blk sl) h h' → WrA p sl' (bs ++ (ds.map List.ofFn).flatten) h' → (∀ b ∈ blk sl', b < h'.size ∧ (b ∈ p.block :: blk sl ∨ h.size ≤ b)) → k () h') : code_Writer_Digest.b (some p) s k h := by
  unfold code_Writer_Digest.b
  refine ifb_i (fun hc => by cases hc) (fun _ => ?_)
  unfold code_Writer_Digest.l1
  have hsl : s.len = ds.length := hv.2.1
  refine ⟨fun (t : Int) h' => ∃ i : Nat, t = i ∧ i ≤ ds.length ∧ ∃ sl', Sat h (p.block :: blk sl) h' [cel 145 p (enc (⟨sl'⟩ : code_Writer)), own 5 1 sl' (bs ++ ((ds.take i).map List.ofFn).flatten)], fun t _ => (ds.length - t).toNat, ⟨0, rfl, Nat.zero_le _, sl, by simpa using Sat.initW hw⟩, ?_⟩
  rintro t h2 ⟨i, rfl, hi, sl', hs⟩
  refine ifb_i (fun hc => ?_) (fun hc => ?_)
  · have hi' : i < ds.length := by have : (i : Int) < s.len := by simpa using hc
                                   omega
    have hflat : ∀ j ≤ ds.length, ((ds.take j).map List.ofFn).flatten.length = 32 * j := by
      intro j hj
      rw [flatten_len 32 _ (by intro x hx; simp only [List.mem_map] at hx; obtain ⟨y, _, rfl⟩ := hx; simp)]
      simp; omega
    have hgi : ds[i]? = some ds[i] := List.getElem?_eq_getElem hi'
    refine sidx_ld arr_len (hv.fr' hs.fr hd) (Int.natCast_nonneg _) (by rw [Int.toNat_natCast]; exact hgi) ?_
    generalize hni : ds[i] = n at *
    refine hs.box_ (fun d h3 hs3 _ _ => ?_)
    refine hs3.st_ 0 rfl arr_len (fun h4 hs4 _ => ?_)
    refine nn_i ?_
    refine hs4.ld_ 1 rfl ?_
    have hs4' : Sat h (p.block :: blk sl) h4 [cel 24 d (enc (arrOf (List.ofFn n) : Arr 32 UInt8)), cel 145 p (enc (⟨sl'⟩ : code_Writer)), own 5 1 sl' (bs ++ ((ds.take i).map List.ofFn).flatten)] := by
      rw [arrOf_ofFn]; exact hs4
    have hx := (hs4'.arrSV 0 rfl (by simp)).cut len_u8 (lo := 0) (hi := 32) (mx := 32) (by omega) (Nat.le_refl _) (Nat.le_refl _)
    have ex : ((List.ofFn n).drop 0).take (32 - 0) = List.ofFn n := by rw [List.drop_zero, List.take_of_length_le (by simp)]
    rw [ex] at hx
    refine hs4.app_ 2 rfl hx len_u8 one_u8 rfl ?_ ?_ (fun r h5 hs5 hl5 => ?_)
    · simp only [List.length_append, hflat i hi, List.length_ofFn, maxBytes]; omega
    · simp only [List.length_append, hflat i hi, List.length_ofFn]; omega
    refine hs5.st_ 1 rfl len_wr (fun h6 hs6 _ => ?_)
    have e : iadd (i : Int) 1 = ((i + 1 : Nat) : Int) := by rw [iadd_eq (by omega) (by omega)]; omega
    rw [e]
    refine ⟨⟨i + 1, rfl, hi', r, ?_⟩, by dsimp only; omega⟩
    have ht : ds.take (i + 1) = ds.take i ++ [n] := by rw [List.take_add_one, hgi]; rfl
    rw [ht]
    have := hs6.drop (L' := [cel 145 p (enc (⟨r⟩ : code_Writer)), own 5 1 r (bs ++ ((ds.take i).map List.ofFn).flatten ++ List.ofFn n)]) (List.sublist_cons_self _ _)
    simpa only [List.map_append, List.flatten_append, List.map_cons, List.map_nil, List.flatten_cons, List.flatten_nil, List.append_nil, List.append_assoc] using this
  · have hi' : i = ds.length := by
      have : ¬ (i : Int) < s.len := by simpa using hc
      omega
    subst hi'
    rw [List.take_length] at hs
    obtain ⟨h1, h3⟩ := Sat.toW 0 1 hs rfl rfl (by decide)
    exact hk sl' _ hs.fr h1 h3
/-- the bytes of a writer, copied -/
theorem Bytes_spec (p : Addr) (sl : Sl) (bs : List UInt8) {k : Sl → H → Prop} {h : H} (hw : WrA p sl bs h) (hne : bs ≠ []) (hbig : bs.length < 2 ^ 40)
    (hk : ∀ r h', Ext h h' → OwnA 5 1 r bs h' → (∀ b ∈ blk r, h.size ≤ b ∧ b < h'.size) → k r h') : code_Writer_Bytes.b (some p) k h := by
  unfold code_Writer_Bytes.b
  refine ifb_i (fun hc => by cases hc) (fun _ => ?_)
  refine nn_i ?_
  have hW : AtH h p (enc (⟨sl⟩ : code_Writer)) := hw.1.at_
  refine ld_old hW ?_
  refine ⟨⟨by omega, by omega, by omega⟩, ?_⟩
  refine ld_old hW ?_
  have hsv := hw.2.1.sv len_u8
  have hcut : ∀ h, SV 1 h sl bs → SV 1 h (sl.cut 1 0 (0 : Int).toNat (0 : Int).toNat) ([] : List UInt8) := by
    intro h hv
    have := hv.cut len_u8 (lo := 0) (hi := 0) (mx := 0) (Nat.le_refl _) (Nat.zero_le _) (Nat.le_refl _)
    simpa using this
  refine ⟨[], bs.map reg, by simpa using (hcut h hsv).1, hsv.bytes, one_bytes _, fun hroom => ?_, fun hgrow => ⟨?_, ?_, fun q cap r hq hcap hr => ?_⟩⟩
  · have hl0 : sl.len = 0 := by simp only [Sl.cut] at hroom; omega
    have hb0 : bs = [] := List.eq_nil_of_length_eq_zero (by rw [← hsv.2.1]; exact hl0)
    exact absurd hb0 hne
  · simp only [Sl.cut, maxBytes]; rw [hsv.2.1]; omega
  · simp only [Sl.cut]; rw [hsv.2.1]; omega
  · subst hq
    have hlen : sl.len = bs.length := hsv.2.1
    refine hk r _ (Fr.push _ _) (.inr ⟨h.size, (List.replicate (cap - ((sl.cut 1 0 (0 : Int).toNat (0 : Int).toNat).len + sl.len)) (enc (0 : UInt8))).flatten, by subst hr; rfl, ?_, by subst hr; simp [Sl.cut, hlen], by subst hr; simp [Sl.cut, hlen] at hcap ⊢; exact hcap, ?_⟩) ?_
    · have := Cel.new h 5 ([] ++ bs.map reg ++ (List.replicate (cap - ((sl.cut 1 0 (0 : Int).toNat (0 : Int).toNat).len + sl.len)) (enc (0 : UInt8))).flatten)
      rw [map_enc8]
      simpa using this
    · subst hr
      rw [flatten_len 1 _ (by intro y hy; simp only [List.mem_replicate] at hy; rw [hy.2]; rfl)]
      simp [Sl.cut, hlen]
    · subst hr
      intro b hb
      simp only [blk, List.mem_singleton] at hb
      subst hb
      simp [newC]
end Go.Proofs.YtimmoekliphobaaDoor
namespace Go.Proofs.YtimmoekliphobaaDoor
open Go Go.Sh
open Go.Sh.Ty (reg)
set_option linter.unusedVariables false
set_option maxRecDepth 100000
set_option maxHeartbeats 4000000
theorem tree_Leaf.ok (b : Sl) (k : (Arr 32 UInt8) → H → Prop) (h : H) (hh : tree_Leaf.b b k h) : CallsH Prog 100 [reg b].toArray h fun v h' => ∃ r : Arr 32 UInt8, v = reg r ∧ k r h' := by
  unfold tree_Leaf.b at hh
  refine CallsH.of 7 Tryd.func100 rfl Tryd.ntmps100 rfl (fun w0 => ?_)
  refine CW.seq ?_
  refine CW.region ?_
  refine box_elim hh (fun t2 ht2 hh => ?_)
  refine .e (e_allocP ht2 zo_24 rfl ?_)
  refine .nil ?_
  refine QN.then_ ?_
  refine CW.seq ?_
  refine CW.region ?_
  refine mks_elim hh (fun pt3 t3 hpt3 ht3 hh => ?_)
  refine .e (e_mks [((0 : UInt8) : UInt8)] hpt3 ht3 zo_5 sl_130 rfl rfl rfl rfl rfl ?_)
  refine .val (v_move (v := reg (b : Sl)) rfl) rfl ?_
  refine mks_elim hh (fun pt5 t5 hpt5 ht5 hh => ?_)
  refine .e (e_mks [(t3 : Sl), (b : Sl)] hpt5 ht5 zo_130 sl_184 rfl rfl rfl rfl rfl ?_)
  refine .e (e_callP fn_60 rfl rfl hh ?_)
  intro h t6 hh
  obtain ⟨xw, hxw, hwxw, hh⟩ := hh
  refine .e (e_storeN (p := t2) (nv := enc (t6 : Arr 32 UInt8)) 0 rfl rfl rfl sz_24 (one_arr (n := 32) (fun _ => rfl) _) hxw hwxw (arr_len (n := 32) _) (arr_len (n := 32) _) rfl (set_24_all xw (t6 : Arr 32 UInt8)) ?_)
  refine .nil ?_
  refine QN.then_ ?_
  refine CW.ret ?_
  obtain ⟨r2, ⟨xr2, hxr2, hgr2⟩, hh⟩ := hh
  have hr2 := ld_id hxr2 hgr2
  exact retc rfl rfl ag_24 hr2 (arr_len (n := 32) _) ⟨(r2 : Arr 32 UInt8), rfl, hh⟩
end Go.Proofs.YtimmoekliphobaaDoor
namespace Go.Proofs.YtimmoekliphobaaDoor
open Go Go.Sh
open Go.Sh.Ty (reg)
set_option linter.unusedVariables false
set_option maxRecDepth 100000
set_option maxHeartbeats 4000000
theorem once_shut.ok (s : Arr 32 UInt8) (k : (Arr 32 UInt8) → H → Prop) (h : H) (hh : once_shut.b s k h) : CallsH Prog 101 [reg s].toArray h fun v h' => ∃ r : Arr 32 UInt8, v = reg r ∧ k r h' := by
  unfold once_shut.b at hh
  refine CallsH.of 6 Tryd.func101 rfl Tryd.ntmps101 rfl (fun w0 => ?_)
  refine CW.seq ?_
  refine CW.region ?_
  refine box_elim hh (fun s_1 hs_1 hh => ?_)
  refine .e (e_boxP hs_1 rfl rfl rfl ?_)
  refine box_elim hh (fun t2 ht2 hh => ?_)
  refine .e (e_allocP ht2 zo_24 rfl ?_)
  refine .nil ?_
  refine QN.then_ ?_
  refine CW.seq ?_
  refine CW.region ?_
  refine .val (v_slice_an ar_24 rfl) rfl ?_
  refine mks_elim hh (fun pt4 t4 hpt4 ht4 hh => ?_)
  refine .e (e_mks [(((⟨some s_1, 32, 32⟩ : Sl).cut 1 0 32 32) : Sl)] hpt4 ht4 zo_130 sl_184 rfl rfl rfl rfl rfl ?_)
  refine .e (e_callP fn_60 rfl rfl hh ?_)
  intro h t5 hh
  obtain ⟨xw, hxw, hwxw, hh⟩ := hh
  refine .e (e_storeN (p := t2) (nv := enc (t5 : Arr 32 UInt8)) 0 rfl rfl rfl sz_24 (one_arr (n := 32) (fun _ => rfl) _) hxw hwxw (arr_len (n := 32) _) (arr_len (n := 32) _) rfl (set_24_all xw (t5 : Arr 32 UInt8)) ?_)
  refine .nil ?_
  refine QN.then_ ?_
  refine CW.ret ?_
  obtain ⟨r2, ⟨xr2, hxr2, hgr2⟩, hh⟩ := hh
  have hr2 := ld_id hxr2 hgr2
  exact retc rfl rfl ag_24 hr2 (arr_len (n := 32) _) ⟨(r2 : Arr 32 UInt8), rfl, hh⟩
end Go.Proofs.YtimmoekliphobaaDoor
namespace Go.Proofs.YtimmoekliphobaaDoor
open Go Go.Sh
open Go.Sh.Ty (reg)
set_option linter.unusedVariables false
set_option maxRecDepth 100000
set_option maxHeartbeats 4000000
theorem once_secret.ok (seed : Arr 32 UInt8) (leaf : Int) (bit : Int) (is : Int) (k : (Arr 32 UInt8) → H → Prop) (h : H) (hh : once_secret.b seed leaf bit is k h) : CallsH Prog 102 [reg seed, reg leaf, reg bit, reg is].toArray h fun v h' => ∃ r : Arr 32 UInt8, v = reg r ∧ k r h' := by
  unfold once_secret.b at hh
  refine CallsH.of 42 Tryd.func102 rfl Tryd.ntmps102 rfl (fun w0 => ?_)
  refine CW.seq ?_
  refine CW.region ?_
  refine box_elim hh (fun seed_1 hseed_1 hh => ?_)
  refine .e (e_boxP hseed_1 rfl rfl rfl ?_)
  refine box_elim hh (fun t8 ht8 hh => ?_)
  refine .e (e_allocP ht8 zo_24 rfl ?_)
  refine .nil ?_
  refine QN.then_ ?_
  refine CW.seq ?_
  refine CW.region ?_
  refine box_elim hh (fun nums hnums hh => ?_)
  refine .e (e_allocP hnums zo_218 rfl ?_)
  refine .nil ?_
  refine QN.then_ ?_
  refine CW.join (fun ρ h => ∃ (ρ' : Env), ρ = setl ρ' [(4, .pointer (some seed_1)), (8, .pointer (some t8)), (9, .pointer (some nums))] ∧ (once_secret.j1 k) seed_1 t8 nums h) ?_ ?_
  · refine CW.seq ?_
    refine CW.region ?_
    refine .val (v_move (v := reg ((0 : Int) : Int)) rfl) rfl ?_
    refine .nil ?_
    refine QN.then_ ?_
    refine CW.block ?_
    unfold once_secret.l1 at hh
    refine CW.loop (fun (σ0 : Int) ρ => match σ0 with | t11 => ∃ ρ' : Env, ρ = setl ρ' [(1, reg (leaf : Int)), (2, reg (bit : Int)), (3, reg (is : Int)), (4, .pointer (some seed_1)), (8, .pointer (some t8)), (9, .pointer (some nums)), (11, reg (t11 : Int))]) hh ⟨_, setl_eq ⟨rfl, ⟨rfl, ⟨rfl, ⟨rfl, ⟨rfl, ⟨rfl, ⟨rfl, trivial⟩⟩⟩⟩⟩⟩⟩⟩ ?_
    clear hh
    rintro s1 t11 ρ h ⟨ρ', rfl⟩ hh
    refine CW.seq ?_
    refine CW.region ?_
    refine .val (v_ilss rfl rfl) rfl ?_
    refine .nil ?_
    refine QN.then_ ?_
    refine CW.seq ?_
    refine CW.cond (decide (t11 < (8 : Int))) rfl (fun hb => ?_) (fun hb => ?_)
    · have hh := hh.1 hb
      refine CW.skip ?_
      refine QN.then_ ?_
      refine CW.seq ?_
      refine CW.block ?_
      refine CW.seq ?_
      refine CW.region ?_
      refine .val (v_move (v := reg (t11 : Int)) rfl) rfl ?_
      refine .val (v_assign (v := reg (t11 : Int)) rfl) rfl ?_
      refine .nil ?_
      refine QN.then_ ?_
      refine CW.drawN 24 rfl follows_mixed [0, 1, 2, 3, 4, 5, 6, 7, 8, 9, 10, 11, 12, 13, 14, 15, 16, 17, 18, 19, 20, 22] ?_
      refine .p 0 rfl (by kernel_rfl) (NoPanic.block (NoPanic.then_ (NoPanic.then_ (NoPanic.block (NoPanic.then_ (NoPanic.body)))))) (fun _ => v_move (v := reg (t11 : Int)) rfl) ?_
      refine .p 1 rfl (by kernel_rfl) (NoPanic.block (NoPanic.then_ (NoPanic.then_ (NoPanic.block (NoPanic.then_ (NoPanic.body)))))) (fun _ => v_move (v := reg (t11 : Int)) rfl) ?_
      refine .p 2 rfl (by kernel_rfl) (NoPanic.block (NoPanic.then_ (NoPanic.then_ (NoPanic.block (NoPanic.then_ (NoPanic.body)))))) (fun _ => v_iadd rfl rfl) ?_
      refine .p 3 rfl (by kernel_rfl) (NoPanic.block (NoPanic.then_ (NoPanic.then_ (NoPanic.block (NoPanic.then_ (NoPanic.body)))))) (fun _ => v_move (v := reg (leaf : Int)) rfl) ?_
      refine .p 4 rfl (by kernel_rfl) (NoPanic.block (NoPanic.then_ (NoPanic.then_ (NoPanic.block (NoPanic.then_ (NoPanic.body)))))) (fun _ => v_conv_u64 un_3 un_190 rfl) ?_
      refine .p 5 rfl (by kernel_rfl) (NoPanic.block (NoPanic.then_ (NoPanic.then_ (NoPanic.block (NoPanic.then_ (NoPanic.body)))))) (fun _ => v_move (v := reg (t11 : Int)) rfl) ?_
      refine .p 6 rfl (by kernel_rfl) (NoPanic.block (NoPanic.then_ (NoPanic.then_ (NoPanic.block (NoPanic.then_ (NoPanic.body)))))) (fun _ => v_imul rfl rfl) ?_
      refine .p 7 rfl (by kernel_rfl) (NoPanic.block (NoPanic.then_ (NoPanic.then_ (NoPanic.block (NoPanic.then_ (NoPanic.body)))))) (fun _ => v_isub rfl rfl) ?_
      obtain ⟨hm, hh⟩ := hh
      refine .p 8 rfl (by kernel_rfl) (NoPanic.block (NoPanic.then_ (NoPanic.then_ (NoPanic.block (NoPanic.then_ (NoPanic.body)))))) (fun _ => v_shr64 (a := (toU64 leaf)) rfl rfl hm) ?_
      refine .p 9 rfl (by kernel_rfl) (NoPanic.block (NoPanic.then_ (NoPanic.then_ (NoPanic.block (NoPanic.then_ (NoPanic.body)))))) (fun _ => v_conv_u8 un_190 un_5 rfl) ?_
      refine .p 10 rfl (by kernel_rfl) (NoPanic.block (NoPanic.then_ (NoPanic.then_ (NoPanic.block (NoPanic.then_ (NoPanic.body)))))) (fun _ => v_move (v := reg (bit : Int)) rfl) ?_
      refine .p 11 rfl (by kernel_rfl) (NoPanic.block (NoPanic.then_ (NoPanic.then_ (NoPanic.block (NoPanic.then_ (NoPanic.body)))))) (fun _ => v_imul rfl rfl) ?_
      refine .p 12 rfl (by kernel_rfl) (NoPanic.block (NoPanic.then_ (NoPanic.then_ (NoPanic.block (NoPanic.then_ (NoPanic.body)))))) (fun _ => v_move (v := reg (is : Int)) rfl) ?_
      refine .p 13 rfl (by kernel_rfl) (NoPanic.block (NoPanic.then_ (NoPanic.then_ (NoPanic.block (NoPanic.then_ (NoPanic.body)))))) (fun _ => v_iadd rfl rfl) ?_
      refine .p 14 rfl (by kernel_rfl) (NoPanic.block (NoPanic.then_ (NoPanic.then_ (NoPanic.block (NoPanic.then_ (NoPanic.body)))))) (fun _ => v_conv_u64 un_3 un_190 rfl) ?_
      refine .p 15 rfl (by kernel_rfl) (NoPanic.block (NoPanic.then_ (NoPanic.then_ (NoPanic.block (NoPanic.then_ (NoPanic.body)))))) (fun _ => v_move (v := reg (t11 : Int)) rfl) ?_
      refine .p 16 rfl (by kernel_rfl) (NoPanic.block (NoPanic.then_ (NoPanic.then_ (NoPanic.block (NoPanic.then_ (NoPanic.body)))))) (fun _ => v_imul rfl rfl) ?_
      refine .p 17 rfl (by kernel_rfl) (NoPanic.block (NoPanic.then_ (NoPanic.then_ (NoPanic.block (NoPanic.then_ (NoPanic.body)))))) (fun _ => v_isub rfl rfl) ?_
      obtain ⟨hm_1, hh⟩ := hh
      refine .p 18 rfl (by kernel_rfl) (NoPanic.block (NoPanic.then_ (NoPanic.then_ (NoPanic.block (NoPanic.then_ (NoPanic.body)))))) (fun _ => v_shr64 (a := (toU64 (iadd (imul (2 : Int) bit) is))) rfl rfl hm_1) ?_
      refine .p 19 rfl (by kernel_rfl) (NoPanic.block (NoPanic.then_ (NoPanic.then_ (NoPanic.block (NoPanic.then_ (NoPanic.body)))))) (fun _ => v_conv_u8 un_190 un_5 rfl) ?_
      obtain ⟨i34, hi34, hh⟩ := hh
      refine .p 20 rfl (by kernel_rfl) (NoPanic.block (NoPanic.then_ (NoPanic.then_ (NoPanic.block (NoPanic.then_ (NoPanic.body)))))) (fun _ => v_idx_arrP ar_218 rfl rfl hi34) ?_
      obtain ⟨xw, hxw, hwxw, hh⟩ := hh
      refine .w 21 (by kernel_rfl) rfl (by kernel_rfl) (.e (e_store (p := nums) (nv := enc ((toU8 ((shr64 (toU64 leaf) (isub (56 : Int) (imul (8 : Int) t11)).toNat).toNat : Int)) : UInt8)) i34.val rfl rfl rfl sz_5 rfl hxw hwxw (arr_ble i34 xw _ rfl) (arr_set i34 xw ((toU8 ((shr64 (toU64 leaf) (isub (56 : Int) (imul (8 : Int) t11)).toNat).toNat : Int)) : UInt8) rfl) ?_))
      refine ⟨trivial, ?_⟩
      obtain ⟨i35, hi35, hh⟩ := hh
      refine .p 22 rfl (by kernel_rfl) (NoPanic.block (NoPanic.then_ (NoPanic.then_ (NoPanic.block (NoPanic.then_ (NoPanic.body)))))) (fun _ => v_idx_arrP ar_218 rfl rfl hi35) ?_
      obtain ⟨xw_1, hxw_1, hwxw_1, hh⟩ := hh
      refine .w 23 (by kernel_rfl) rfl (by kernel_rfl) (.e (e_store (p := nums) (nv := enc ((toU8 ((shr64 (toU64 (iadd (imul (2 : Int) bit) is)) (isub (56 : Int) (imul (8 : Int) t11)).toNat).toNat : Int)) : UInt8)) i35.val rfl rfl rfl sz_5 rfl hxw_1 hwxw_1 (arr_ble i35 xw_1 _ rfl) (arr_set i35 xw_1 ((toU8 ((shr64 (toU64 (iadd (imul (2 : Int) bit) is)) (isub (56 : Int) (imul (8 : Int) t11)).toNat).toNat : Int)) : UInt8) rfl) ?_))
      refine ⟨trivial, ?_⟩
      refine .done (by kernel_rfl) ?_
      refine QN.blockN ?_
      refine QN.then_ ?_
      refine CW.region ?_
      refine .val (v_iadd rfl rfl) rfl ?_
      refine .val (v_move (v := reg ((iadd t11 (1 : Int)) : Int)) rfl) rfl ?_
      refine .nil ?_
      exact QN.thenJ ⟨(iadd t11 (1 : Int)), ⟨_, setl_eq ⟨rfl, ⟨rfl, ⟨rfl, ⟨rfl, ⟨rfl, ⟨rfl, ⟨rfl, trivial⟩⟩⟩⟩⟩⟩⟩⟩, hh⟩
    · have hh := hh.2 hb
      refine CW.exit ?_
      refine QN.thenExit ?_
      refine QN.thenExit ?_
      refine QN.blockExit ?_
      exact QN.thenJ ⟨_, setl_eq ⟨rfl, ⟨rfl, ⟨rfl, trivial⟩⟩⟩, hh⟩
  · rintro ρ h ⟨ρ', rfl, hh⟩
    unfold once_secret.j1 at hh
    refine CW.seq ?_
    refine CW.drawN 6 rfl follows_mixed [1, 2] ?_
    refine .p 1 rfl (by kernel_rfl) (NoPanic.then_ (NoPanic.body)) (fun _ => v_slice_an ar_24 rfl) ?_
    refine .p 2 rfl (by kernel_rfl) (NoPanic.then_ (NoPanic.body)) (fun _ => v_slice_an ar_218 rfl) ?_
    refine mks_elim hh (fun pt37 t37 hpt37 ht37 hh => ?_)
    refine .w 0 (by kernel_rfl) rfl (by kernel_rfl) (.e (e_mks [((2 : UInt8) : UInt8)] hpt37 ht37 zo_5 sl_130 rfl rfl rfl rfl rfl ?_))
    refine ⟨trivial, ?_⟩
    refine mks_elim hh (fun pt40 t40 hpt40 ht40 hh => ?_)
    refine .w 3 (by kernel_rfl) rfl (by kernel_rfl) (.e (e_mks [(t37 : Sl), (((⟨some seed_1, 32, 32⟩ : Sl).cut 1 0 32 32) : Sl), (((⟨some nums, 16, 16⟩ : Sl).cut 1 0 16 16) : Sl)] hpt40 ht40 zo_130 sl_184 rfl rfl rfl rfl rfl ?_))
    refine ⟨trivial, ?_⟩
    refine .w 4 (by kernel_rfl) rfl (by kernel_rfl) (.e (e_callP fn_60 rfl rfl hh ?_))
    intro h t41 hh
    refine ⟨trivial, ?_⟩
    obtain ⟨xw_2, hxw_2, hwxw_2, hh⟩ := hh
    refine .w 5 (by kernel_rfl) rfl (by kernel_rfl) (.e (e_storeN (p := t8) (nv := enc (t41 : Arr 32 UInt8)) 0 rfl rfl rfl sz_24 (one_arr (n := 32) (fun _ => rfl) _) hxw_2 hwxw_2 (arr_len (n := 32) _) (arr_len (n := 32) _) rfl (set_24_all xw_2 (t41 : Arr 32 UInt8)) ?_))
    refine ⟨trivial, ?_⟩
    refine .done (by kernel_rfl) ?_
    refine QN.then_ ?_
    refine CW.ret ?_
    obtain ⟨r8, ⟨xr8, hxr8, hgr8⟩, hh⟩ := hh
    have hr8 := ld_id hxr8 hgr8
    exact retc rfl rfl ag_24 hr8 (arr_len (n := 32) _) ⟨(r8 : Arr 32 UInt8), rfl, hh⟩
end Go.Proofs.YtimmoekliphobaaDoor
namespace Go.Proofs.YtimmoekliphobaaDoor
open Go Go.Sh
open Go.Sh.Ty (reg)
set_option linter.unusedVariables false
set_option maxRecDepth 100000
set_option maxHeartbeats 4000000
theorem once_whole.ok (list : Sl) (k : (Arr 32 UInt8) → H → Prop) (h : H) (hh : once_whole.b list k h) : CallsH Prog 103 [reg list].toArray h fun v h' => ∃ r : Arr 32 UInt8, v = reg r ∧ k r h' := by
  unfold once_whole.b at hh
  refine CallsH.of 13 Tryd.func103 rfl Tryd.ntmps103 rfl (fun w0 => ?_)
  refine CW.seq ?_
  refine CW.region ?_
  refine box_elim hh (fun t2 ht2 hh => ?_)
  refine .e (e_allocP ht2 zo_24 rfl ?_)
  refine .nil ?_
  refine QN.then_ ?_
  refine CW.seq ?_
  refine CW.region ?_
  refine .val (v_buildT code_Writer.zero zo_145 pl_145 rfl (rfl) rfl) rfl ?_
  refine box_elim hh (fun t5 ht5 hh => ?_)
  refine .e (e_boxP ht5 rfl rfl rfl ?_)
  refine .val (v_assign (v := .pointer (some t5)) rfl) rfl ?_
  refine .nil ?_
  refine QN.then_ ?_
  refine CW.seq ?_
  refine CW.region ?_
  refine .val (v_move (v := .pointer (some t5)) rfl) rfl ?_
  refine .val (v_move (v := reg (list : Sl)) rfl) rfl ?_
  refine .e (e_callP fn_93 rfl rfl hh ?_)
  intro h t8 hh
  refine .nil ?_
  refine QN.then_ ?_
  refine CW.seq ?_
  refine CW.region ?_
  refine .val (v_move (v := .pointer (some t5)) rfl) rfl ?_
  refine .e (e_callP fn_61 rfl rfl hh ?_)
  intro h t10 hh
  refine mks_elim hh (fun pt11 t11 hpt11 ht11 hh => ?_)
  refine .e (e_mks [(t10 : Sl)] hpt11 ht11 zo_130 sl_184 rfl rfl rfl rfl rfl ?_)
  refine .e (e_callP fn_60 rfl rfl hh ?_)
  intro h t12 hh
  obtain ⟨xw, hxw, hwxw, hh⟩ := hh
  refine .e (e_storeN (p := t2) (nv := enc (t12 : Arr 32 UInt8)) 0 rfl rfl rfl sz_24 (one_arr (n := 32) (fun _ => rfl) _) hxw hwxw (arr_len (n := 32) _) (arr_len (n := 32) _) rfl (set_24_all xw (t12 : Arr 32 UInt8)) ?_)
  refine .nil ?_
  refine QN.then_ ?_
  refine CW.ret ?_
  obtain ⟨r2, ⟨xr2, hxr2, hgr2⟩, hh⟩ := hh
  have hr2 := ld_id hxr2 hgr2
  exact retc rfl rfl ag_24 hr2 (arr_len (n := 32) _) ⟨(r2 : Arr 32 UInt8), rfl, hh⟩
end Go.Proofs.YtimmoekliphobaaDoor
namespace Go.Proofs.YtimmoekliphobaaDoor
open Go Go.Sh
open Go.Sh.Ty (reg)
set_option linter.unusedVariables false
set_option maxRecDepth 100000
set_option maxHeartbeats 4000000
theorem once_bit.ok (d : Arr 32 UInt8) (i : Int) (k : Int → H → Prop) (h : H) (hh : once_bit.b d i k h) : CallsH Prog 105 [reg d, reg i].toArray h fun v h' => ∃ r : Int, v = reg r ∧ k r h' := by
  unfold once_bit.b at hh
  refine CallsH.of 15 Tryd.func105 rfl Tryd.ntmps105 rfl (fun w0 => ?_)
  refine CW.seq ?_
  refine CW.region ?_
  refine box_elim hh (fun d_1 hd_1 hh => ?_)
  refine .e (e_boxP hd_1 rfl rfl rfl ?_)
  refine .val (v_assign (v := reg ((0 : Int) : Int)) rfl) rfl ?_
  refine .nil ?_
  refine QN.then_ ?_
  refine CW.seq ?_
  refine CW.region ?_
  refine .val (v_move (v := reg (i : Int)) rfl) rfl ?_
  refine .val (v_iquo rfl rfl (by decide)) rfl ?_
  obtain ⟨i7, hi7, hh⟩ := hh
  refine .val (v_idx_arrP ar_24 rfl rfl hi7) rfl ?_
  obtain ⟨t8, ⟨xt8, hxt8, hgt8⟩, hh⟩ := hh
  refine .val (v_ld1 (p := d_1) i7.val na_5 rfl hxt8 hgt8 (arr_get i7)) rfl ?_
  refine .val (v_move (v := reg (i : Int)) rfl) rfl ?_
  refine .val (v_irem rfl rfl (by decide)) rfl ?_
  refine .val (v_isub rfl rfl) rfl ?_
  obtain ⟨hm, hh⟩ := hh
  refine .val (v_shr8 (a := t8) rfl rfl hm) rfl ?_
  refine .val (v_conv_i64 un_5 un_3 rfl) rfl ?_
  refine .val (v_iand rfl rfl) rfl ?_
  refine .val (v_assign (v := reg ((iand (toI64 ((shr8 t8 (isub (7 : Int) (irem i (8 : Int))).toNat).toNat : Int)) (1 : Int)) : Int)) rfl) rfl ?_
  refine .nil ?_
  refine QN.then_ ?_
  refine CW.ret ?_
  exact ret1 rfl rfl ⟨((iand (toI64 ((shr8 t8 (isub (7 : Int) (irem i (8 : Int))).toNat).toNat : Int)) (1 : Int)) : Int), rfl, hh⟩
end Go.Proofs.YtimmoekliphobaaDoor
namespace Go.Proofs.YtimmoekliphobaaDoor
open Go Go.Sh
open Go.Sh.Ty (reg)
set_option linter.unusedVariables false
set_option maxRecDepth 100000
set_option maxHeartbeats 4000000
theorem sha_Pair.ok (mark : UInt8) (a : Arr 32 UInt8) (b : Arr 32 UInt8) (k : (Arr 32 UInt8) → H → Prop) (h : H) (hh : sha_Pair.b mark a b k h) : CallsH Prog 121 [reg mark, reg a, reg b].toArray h fun v h' => ∃ r : Arr 32 UInt8, v = reg r ∧ k r h' := by
  unfold sha_Pair.b at hh
  refine CallsH.of 13 Tryd.func121 rfl Tryd.ntmps121 rfl (fun w0 => ?_)
  refine CW.seq ?_
  refine CW.region ?_
  refine box_elim hh (fun a_1 ha_1 hh => ?_)
  refine .e (e_boxP ha_1 rfl rfl rfl ?_)
  refine box_elim hh (fun b_1 hb_1 hh => ?_)
  refine .e (e_boxP hb_1 rfl rfl rfl ?_)
  refine box_elim hh (fun t6 ht6 hh => ?_)
  refine .e (e_allocP ht6 zo_24 rfl ?_)
  refine .nil ?_
  refine QN.then_ ?_
  refine CW.seq ?_
  refine CW.drawN 7 rfl follows_mixed [0, 2, 3] ?_
  refine .p 0 rfl (by kernel_rfl) (NoPanic.then_ (NoPanic.body)) (fun _ => v_move (v := reg (mark : UInt8)) rfl) ?_
  refine .p 2 rfl (by kernel_rfl) (NoPanic.then_ (NoPanic.body)) (fun _ => v_slice_an ar_24 rfl) ?_
  refine .p 3 rfl (by kernel_rfl) (NoPanic.then_ (NoPanic.body)) (fun _ => v_slice_an ar_24 rfl) ?_
  refine mks_elim hh (fun pt8 t8 hpt8 ht8 hh => ?_)
  refine .w 1 (by kernel_rfl) rfl (by kernel_rfl) (.e (e_mks [(mark : UInt8)] hpt8 ht8 zo_5 sl_130 rfl rfl rfl rfl rfl ?_))
  refine ⟨trivial, ?_⟩
  refine mks_elim hh (fun pt11 t11 hpt11 ht11 hh => ?_)
  refine .w 4 (by kernel_rfl) rfl (by kernel_rfl) (.e (e_mks [(t8 : Sl), (((⟨some a_1, 32, 32⟩ : Sl).cut 1 0 32 32) : Sl), (((⟨some b_1, 32, 32⟩ : Sl).cut 1 0 32 32) : Sl)] hpt11 ht11 zo_130 sl_184 rfl rfl rfl rfl rfl ?_))
  refine ⟨trivial, ?_⟩
  refine .w 5 (by kernel_rfl) rfl (by kernel_rfl) (.e (e_callP fn_60 rfl rfl hh ?_))
  intro h t12 hh
  refine ⟨trivial, ?_⟩
  obtain ⟨xw, hxw, hwxw, hh⟩ := hh
  refine .w 6 (by kernel_rfl) rfl (by kernel_rfl) (.e (e_storeN (p := t6) (nv := enc (t12 : Arr 32 UInt8)) 0 rfl rfl rfl sz_24 (one_arr (n := 32) (fun _ => rfl) _) hxw hwxw (arr_len (n := 32) _) (arr_len (n := 32) _) rfl (set_24_all xw (t12 : Arr 32 UInt8)) ?_))
  refine ⟨trivial, ?_⟩
  refine .done (by kernel_rfl) ?_
  refine QN.then_ ?_
  refine CW.ret ?_
  obtain ⟨r6, ⟨xr6, hxr6, hgr6⟩, hh⟩ := hh
  have hr6 := ld_id hxr6 hgr6
  exact retc rfl rfl ag_24 hr6 (arr_len (n := 32) _) ⟨(r6 : Arr 32 UInt8), rfl, hh⟩
end Go.Proofs.YtimmoekliphobaaDoor
namespace Go.Proofs.YtimmoekliphobaaDoor
open Go Go.Sh
open Go.Sh.Ty (reg)
set_option linter.unusedVariables false
set_option maxRecDepth 100000

inductive All2 {α β : Type} (R : α → β → Prop) : List α → List β → Prop
  | nil : All2 R [] []
  | cons {a b l m} : R a b → All2 R l m → All2 R (a :: l) (b :: m)
theorem All2.len {α β : Type} {R : α → β → Prop} {l : List α} {m : List β} (h : All2 R l m) : l.length = m.length := by
  induction h with
  | nil => rfl
  | cons _ _ ih => simp [ih]
theorem All2.get {α β : Type} {R : α → β → Prop} {l : List α} {m : List β} (h : All2 R l m) : ∀ (i : Nat) (x : α), l[i]? = some x → ∃ y, m[i]? = some y ∧ R x y := by
  induction h with
  | nil => intro i x h; simp at h
  | cons hr _ ih =>
    intro i x hx
    cases i with
    | zero => simp at hx; subst hx; exact ⟨_, by simp, hr⟩
    | succ i => simp at hx; simpa using ih i x hx
theorem SVV.of {h : H} {s : Sl} {ss : List Sl} {ps : List (List UInt8)} (hv : SV 1 h s ss) (ha : All2 (fun x l => SV 1 h x l) ss ps) : SVV h s ps := ⟨ss, hv, ha.len, ha.get⟩

section
variable {h0 h : H} {S : List Nat} {L : List En}
/-- an array of bytes as a slice -/
theorem _root_.Go.Sh.Sat.wholeSV {T n : Nat} {p : Addr} {x : Arr n UInt8} (i : Nat) (hs : Sat h0 S h L) (hi : L[i]? = some (cel T p (enc x))) (hn : 0 < n) : SV 1 h ((⟨some p, n, n⟩ : Sl).cut 1 0 n n) (List.ofFn x) := by
  have hv := hs.arrSV (l := List.ofFn x) i (by rw [arrOf_ofFn]; exact hi) (by simp)
  have := hv.cut len_u8 (lo := 0) (hi := n) (mx := n) (by omega) (Nat.le_refl _) (Nat.le_refl _)
  rwa [List.drop_zero, List.take_of_length_le (by simp)] at this
end

def shutF (s : Dig) : Dig := shaF (List.ofFn s)
theorem shut_spec (s : Dig) {k : Dig → H → Prop} {h : H} (hT : Tb h) (hk : ∀ h', Ext h h' → k (shutF s) h') : once_shut.b s k h := by
  unfold once_shut.b
  refine (Sat.init h).box_ (fun a h1 hs1 _ _ => ?_)
  refine hs1.box_ (fun t h2 hs2 _ _ => ?_)
  refine hs2.mks_ (n := 1) (fun sl h3 hs3 _ _ => ?_)
  refine sha_Of.ok _ _ _ (Of_spec sl [List.ofFn s] (hT.fr hs3.fr (by simp)) (.of (hs3.ownSV 0 rfl len_sl) (.cons (hs3.wholeSV 2 rfl (by decide)) .nil)) (by simp) (by simp) (fun h4 hx4 => ?_))
  have hs4 := hs3.ext hx4
  refine hs4.st_ 1 rfl arr_len (fun h5 hs5 _ => ?_)
  refine hs5.ld_ 1 rfl ?_
  have := hk h5 hs5.fr
  simpa [shutF] using this

def leafF (b : List UInt8) : Dig := shaF ([0] ++ b)
theorem Leaf_spec (s : Sl) (b : List UInt8) {k : Dig → H → Prop} {h : H} (hT : Tb h) (hv : SV 1 h s b) (hb : b.length < 2 ^ 30) (hk : ∀ h', Ext h h' → k (leafF b) h') : tree_Leaf.b s k h := by
  unfold tree_Leaf.b
  refine (Sat.init h).box_ (fun t h2 hs2 _ _ => ?_)
  refine hs2.mks_ (n := 1) (fun s1 h3 hs3 _ _ => ?_)
  refine hs3.mks_ (n := 1) (fun sl h4 hs4 _ _ => ?_)
  refine sha_Of.ok _ _ _ (Of_spec sl [[0], b] (hT.fr hs4.fr (by simp)) (.of (hs4.ownSV 0 rfl len_sl) (.cons (hs4.ownSV 1 rfl len_u8) (.cons (hv.ext hs4.fr) .nil))) (by simp; omega) (by simp) (fun h5 hx5 => ?_))
  have hs5 := hs4.ext hx5
  refine hs5.st_ 2 rfl arr_len (fun h6 hs6 _ => ?_)
  refine hs6.ld_ 2 rfl ?_
  have := hk h6 hs6.fr
  simpa [leafF] using this

def pairF (m : UInt8) (a b : Dig) : Dig := shaF ([m] ++ List.ofFn a ++ List.ofFn b)
theorem Pair_spec (m : UInt8) (a b : Dig) {k : Dig → H → Prop} {h : H} (hT : Tb h) (hk : ∀ h', Ext h h' → k (pairF m a b) h') : sha_Pair.b m a b k h := by
  unfold sha_Pair.b
  refine (Sat.init h).box_ (fun t1 h1 hs1 _ _ => ?_)
  refine hs1.box_ (fun t2 h2 hs2 _ _ => ?_)
  refine hs2.box_ (fun t3 h3 hs3 _ _ => ?_)
  refine hs3.mks_ (n := 1) (fun s1 h4 hs4 _ _ => ?_)
  refine hs4.mks_ (n := 1) (fun sl h5 hs5 _ _ => ?_)
  refine sha_Of.ok _ _ _ (Of_spec sl [[m], List.ofFn a, List.ofFn b] (hT.fr hs5.fr (by simp)) (.of (hs5.ownSV 0 rfl len_sl) (.cons (hs5.ownSV 1 rfl len_u8) (.cons (hs5.wholeSV 4 rfl (by decide)) (.cons (hs5.wholeSV 3 rfl (by decide)) .nil)))) (by simp) (by simp) (fun h6 hx6 => ?_))
  have hs6 := hs5.ext hx6
  refine hs6.st_ 2 rfl arr_len (fun h7 hs7 _ => ?_)
  refine hs7.ld_ 2 rfl ?_
  have := hk h7 hs7.fr
  simpa [pairF] using this

def secNums (leaf v : Int) (n : Nat) : Arr 16 UInt8 := itF (fun i x => updN (updN x i (toU8 ((shr64 (toU64 leaf) (56 - 8 * i)).toNat : Int))) (8 + i) (toU8 ((shr64 (toU64 v) (56 - 8 * i)).toNat : Int))) n (fun _ => 0)
def secretF (seed : Dig) (leaf bit is : Int) : Dig := shaF ([2] ++ List.ofFn seed ++ List.ofFn (secNums leaf (iadd (imul 2 bit) is) 8))
theorem secret_spec (seed : Dig) (leaf bit is : Int) {k : Dig → H → Prop} {h : H} (hT : Tb h) (hk : ∀ h', Ext h h' → k (secretF seed leaf bit is) h') : once_secret.b seed leaf bit is k h := by
  unfold once_secret.b
  refine (Sat.init h).box_ (fun t1 h1 hs1 _ _ => ?_)
  refine hs1.box_ (fun t2 h2 hs2 _ _ => ?_)
  refine hs2.box_ (fun t3 h3 hs3 _ _ => ?_)
  unfold once_secret.l1
  refine ⟨fun (i : Int) h' => 0 ≤ i ∧ i ≤ 8 ∧ Sat h [] h' [cel 218 t3 (enc (secNums leaf (iadd (imul 2 bit) is) i.toNat)), cel 24 t2 (enc ((fun _ => 0) : Arr 32 UInt8)), cel 24 t1 (enc seed)], fun i _ => (8 - i).toNat, ⟨by omega, by omega, hs3⟩, ?_⟩
  rintro i h4 ⟨h0, h8, hs4⟩
  refine ifb_i (fun hc => ?_) (fun hc => ?_)
  · have hi : i < 8 := by simpa using hc
    have m4 : imul 8 i = 8 * i := imul_eq (by omega) (by omega)
    have s4 : isub 56 (8 * i) = 56 - 8 * i := isub_eq (by omega) (by omega)
    have a4 : iadd 8 i = 8 + i := iadd_eq (by omega) (by omega)
    have e1 : iadd i 1 = i + 1 := iadd_eq (by omega) (by omega)
    rw [m4, s4, a4, e1]
    refine ⟨by omega, by omega, ?_⟩
    refine hs4.bst 0 rfl arr_len (by omega) (by omega) (fun h5 hs5 => ?_)
    refine hs5.bst 0 rfl arr_len (by omega) (by omega) (fun h6 hs6 => ?_)
    refine ⟨⟨by omega, by omega, ?_⟩, by dsimp only; omega⟩
    have e : secNums leaf (iadd (imul 2 bit) is) (i + 1).toNat = updN (updN (secNums leaf (iadd (imul 2 bit) is) i.toNat) i.toNat (toU8 ((shr64 (toU64 leaf) (56 - 8 * i).toNat).toNat : Int))) (8 + i).toNat (toU8 ((shr64 (toU64 (iadd (imul 2 bit) is)) (56 - 8 * i).toNat).toNat : Int)) := by
      rw [show (i + 1).toNat = i.toNat + 1 by omega, show (56 - 8 * i).toNat = 56 - 8 * i.toNat by omega, show (8 + i).toNat = 8 + i.toNat by omega]
      rfl
    rw [e]; exact hs6
  · have hi : i = 8 := by have : ¬ i < 8 := by simpa using hc
                          omega
    subst hi
    unfold once_secret.j1
    refine hs4.mks_ (n := 1) (fun s1 h5 hs5 _ _ => ?_)
    refine hs5.mks_ (n := 1) (fun sl h6 hs6 _ _ => ?_)
    refine sha_Of.ok _ _ _ (Of_spec sl [[2], List.ofFn seed, List.ofFn (secNums leaf (iadd (imul 2 bit) is) 8)] (hT.fr hs6.fr (by simp)) (.of (hs6.ownSV 0 rfl len_sl) (.cons (hs6.ownSV 1 rfl len_u8) (.cons (hs6.wholeSV 4 rfl (by decide)) (.cons (hs6.wholeSV 2 rfl (by decide)) .nil)))) (by simp) (by simp) (fun h7 hx7 => ?_))
    have hs7 := hs6.ext hx7
    refine hs7.st_ 3 rfl arr_len (fun h8 hs8 _ => ?_)
    refine hs8.ld_ 3 rfl ?_
    have := hk h8 hs8.fr
    simpa only [secretF, List.flatten_cons, List.flatten_nil, List.append_nil, List.append_assoc] using this

def bitF (d : Dig) (i : Int) : Int := iand (toI64 ((shr8 (getN d (i / 8).toNat) (7 - i % 8).toNat).toNat : Int)) 1
theorem bit_spec (d : Dig) (i : Int) {k : Int → H → Prop} {h : H} (h0 : 0 ≤ i) (h1 : i < 256) (hk : ∀ h', Ext h h' → k (bitF d i) h') : once_bit.b d i k h := by
  unfold once_bit.b
  refine (Sat.init h).box_ (fun t1 h1 hs1 _ _ => ?_)
  have q4 : iquo i 8 = i / 8 := iquo_eq h0 (by omega) (by omega)
  have r4 : irem i 8 = i % 8 := irem_eq h0
  have s4 : isub 7 (i % 8) = 7 - i % 8 := isub_eq (by omega) (by omega)
  rw [q4, r4, s4]
  refine hs1.bld 0 rfl (by omega) (by omega) ?_
  exact ⟨by omega, hk _ hs1.fr⟩
theorem iand1 (n : Nat) : iand (n : Int) 1 = ((n % 2 : Nat) : Int) := by
  unfold iand
  have e : (BitVec.ofInt 64 (n : Int) &&& BitVec.ofInt 64 1).toNat = n % 2 := by
    rw [BitVec.toNat_and]
    simp only [BitVec.toNat_ofInt]
    have h1 : ((1 : Int) % ((2 ^ 64 : Nat) : Int)).toNat = 1 := by decide
    have h2 : (((n : Int)) % ((2 ^ 64 : Nat) : Int)).toNat = n % 2 ^ 64 := by
      omega
    rw [h1, h2, Nat.and_one_is_mod]
    omega
  rw [e, wrap_eq (by omega) (by omega)]
theorem bitF_01 (d : Dig) (i : Int) : bitF d i = 0 ∨ bitF d i = 1 := by
  unfold bitF
  have hb : (shr8 (getN d (i / 8).toNat) (7 - i % 8).toNat).toNat < 256 := UInt8.toNat_lt _
  have e : toI64 ((shr8 (getN d (i / 8).toNat) (7 - i % 8).toNat).toNat : Int) = ((shr8 (getN d (i / 8).toNat) (7 - i % 8).toNat).toNat : Int) := wrap_eq (by omega) (by omega)
  rw [e, iand1]
  omega

def wholeF (ds : List Dig) : Dig := shaF ((ds.map List.ofFn).flatten)
theorem whole_spec (s : Sl) (ds : List Dig) {k : Dig → H → Prop} {h : H} (hT : Tb h) (hv : SV 32 h s ds) (hne : ds ≠ []) (hb : ds.length < 2 ^ 20) (hk : ∀ h', Ext h h' → k (wholeF ds) h') : once_whole.b s k h := by
  have hlen : ((ds.map List.ofFn).flatten : List UInt8).length = 32 * ds.length := by
    rw [flatten_len 32 _ (by intro x hx; simp only [List.mem_map] at hx; obtain ⟨y, _, rfl⟩ := hx; simp)]
    simp; omega
  have hdl : 0 < ds.length := List.length_pos_iff.2 hne
  unfold once_whole.b
  refine (Sat.init h).box_ (fun t1 h1 hs1 _ _ => ?_)
  refine hs1.box_ (fun w h2 hs2 hw _ => ?_)
  have hW : WrA w Sl.nil [] h2 := ⟨hs2.at_ (i := 0) rfl, .inl ⟨rfl, rfl, rfl, rfl⟩, by simp [blk, Sl.nil]⟩
  have hlt2 := hs2.fr.size
  have hs2' : Sat h [] h2 [wrt w Sl.nil [], cel 24 t1 (enc ((fun _ => 0) : Arr 32 UInt8))] :=
    hs2.upd (i := 0) (e := cel 145 w (enc code_Writer.zero)) rfl (Fr.refl _ _) hW (wrt_loc _ _ _) (by intro b hb; simp only [wrt, blk, Sl.nil, List.mem_singleton] at hb; subst hb; exact ⟨hW.1.lt, .inl (by simp [cel])⟩)
  refine code_Writer_Digest.ok _ _ _ _ (Digest_spec w Sl.nil [] s ds hW (hv.ext hs2.fr) ?_ (by simp; omega) (fun sl' h3 hf3 hw3 hb3 => ?_))
  · intro b hb hx
    have := hv.lt b hb
    simp only [blk, Sl.nil, List.mem_singleton] at hx
    subst hx
    have := (hs2.ok _ (List.mem_of_getElem? (i := 0) rfl)).2.2 w.block (by simp [cel])
    simp at this
    omega
  have hs3 := hs2'.upd (i := 0) (e := wrt w Sl.nil []) (e' := wrt w sl' ([] ++ (ds.map List.ofFn).flatten)) rfl hf3 hw3 (wrt_loc _ _ _) (by
    intro b hb
    simp only [wrt, List.mem_cons] at hb ⊢
    rcases hb with rfl | hb
    · exact ⟨hw3.1.lt, .inl (.inl rfl)⟩
    · have := hb3 b hb
      simpa [wrt] using this)
  rw [List.nil_append] at hw3
  refine code_Writer_Bytes.ok _ _ _ (Bytes_spec w sl' _ hw3 (by intro h0; rw [h0] at hlen; simp at hlen; omega) (by omega) (fun r h4 hx4 ho4 hb4 => ?_))
  have hs4 := hs3.add (e := own 5 1 r ((ds.map List.ofFn).flatten)) hx4 ho4 (own_loc _ _ _ _) hb4
  refine hs4.mks_ (n := 1) (fun sl h5 hs5 _ _ => ?_)
  refine sha_Of.ok _ _ _ (Of_spec sl [(ds.map List.ofFn).flatten] (hT.fr hs5.fr (by simp)) (.of (hs5.ownSV 0 rfl len_sl) (.cons (hs5.ownSV 1 rfl len_u8) .nil)) (by simp only [List.flatten_cons, List.flatten_nil, List.append_nil]; omega) (by simp) (fun h6 hx6 => ?_))
  have hs6 := hs5.ext hx6
  refine hs6.st_ 3 rfl arr_len (fun h7 hs7 _ => ?_)
  refine hs7.ld_ 3 rfl ?_
  have := hk h7 hs7.fr
  simpa only [wholeF, List.flatten_cons, List.flatten_nil, List.append_nil] using this
end Go.Proofs.YtimmoekliphobaaDoor
namespace Go.Proofs.YtimmoekliphobaaDoor
open Go Go.Sh
open Go.Sh.Ty (reg)
set_option linter.unusedVariables false
set_option maxRecDepth 100000
set_option maxHeartbeats 4000000
theorem keys_leaf.ok (p : Arr 32 UInt8) (k : (Arr 32 UInt8) → H → Prop) (h : H) (hh : keys_leaf.b p k h) : CallsH Prog 72 [reg p].toArray h fun v h' => ∃ r : Arr 32 UInt8, v = reg r ∧ k r h' := by
  unfold keys_leaf.b at hh
  refine CallsH.of 5 Tryd.func72 rfl Tryd.ntmps72 rfl (fun w0 => ?_)
  refine CW.seq ?_
  refine CW.region ?_
  refine box_elim hh (fun p_1 hp_1 hh => ?_)
  refine .e (e_boxP hp_1 rfl rfl rfl ?_)
  refine box_elim hh (fun t2 ht2 hh => ?_)
  refine .e (e_allocP ht2 zo_24 rfl ?_)
  refine .nil ?_
  refine QN.then_ ?_
  refine CW.seq ?_
  refine CW.region ?_
  refine .val (v_slice_an ar_24 rfl) rfl ?_
  refine .e (e_callP fn_100 rfl rfl hh ?_)
  intro h t4 hh
  obtain ⟨xw, hxw, hwxw, hh⟩ := hh
  refine .e (e_storeN (p := t2) (nv := enc (t4 : Arr 32 UInt8)) 0 rfl rfl rfl sz_24 (one_arr (n := 32) (fun _ => rfl) _) hxw hwxw (arr_len (n := 32) _) (arr_len (n := 32) _) rfl (set_24_all xw (t4 : Arr 32 UInt8)) ?_)
  refine .nil ?_
  refine QN.then_ ?_
  refine CW.ret ?_
  obtain ⟨r2, ⟨xr2, hxr2, hgr2⟩, hh⟩ := hh
  have hr2 := ld_id hxr2 hgr2
  exact retc rfl rfl ag_24 hr2 (arr_len (n := 32) _) ⟨(r2 : Arr 32 UInt8), rfl, hh⟩
end Go.Proofs.YtimmoekliphobaaDoor
namespace Go.Proofs.YtimmoekliphobaaDoor
open Go Go.Sh
open Go.Sh.Ty (reg)
set_option linter.unusedVariables false
set_option maxRecDepth 100000
set_option maxHeartbeats 4000000
theorem once_Public.ok (seed : Arr 32 UInt8) (leaf : Int) (k : (Arr 32 UInt8) → H → Prop) (h : H) (hh : once_Public.b seed leaf k h) : CallsH Prog 73 [reg seed, reg leaf].toArray h fun v h' => ∃ r : Arr 32 UInt8, v = reg r ∧ k r h' := by
  unfold once_Public.b at hh
  refine CallsH.of 26 Tryd.func73 rfl Tryd.ntmps73 rfl (fun w0 => ?_)
  refine CW.seq ?_
  refine CW.region ?_
  refine box_elim hh (fun seed_1 hseed_1 hh => ?_)
  refine .e (e_boxP hseed_1 rfl rfl rfl ?_)
  refine box_elim hh (fun t4 ht4 hh => ?_)
  refine .e (e_allocP ht4 zo_24 rfl ?_)
  refine .nil ?_
  refine QN.then_ ?_
  refine CW.seq ?_
  refine CW.region ?_
  refine .val (v_assign (v := reg (Sl.nil : Sl)) rfl) rfl ?_
  refine .nil ?_
  refine QN.then_ ?_
  refine CW.join (fun ρ h => ∃ (ρ' : Env) (list_1 : Sl), ρ = setl ρ' [(4, .pointer (some t4)), (5, reg (list_1 : Sl))] ∧ (once_Public.j1 k) t4 list_1 h) ?_ ?_
  · refine CW.seq ?_
    refine CW.region ?_
    refine .val (v_move (v := reg ((0 : Int) : Int)) rfl) rfl ?_
    refine .nil ?_
    refine QN.then_ ?_
    refine CW.block ?_
    unfold once_Public.l1 at hh
    refine CW.loop (fun (σ0 : Sl × Int) ρ => match σ0 with | (list, t7) => ∃ ρ' : Env, ρ = setl ρ' [(1, reg (leaf : Int)), (2, .pointer (some seed_1)), (4, .pointer (some t4)), (5, reg (list : Sl)), (7, reg (t7 : Int))]) hh ⟨_, setl_eq ⟨rfl, ⟨rfl, ⟨rfl, ⟨rfl, ⟨rfl, trivial⟩⟩⟩⟩⟩⟩ ?_
    clear hh
    rintro s1 ⟨list, t7⟩ ρ h ⟨ρ', rfl⟩ hh
    refine CW.seq ?_
    refine CW.region ?_
    refine .val (v_ilss rfl rfl) rfl ?_
    refine .nil ?_
    refine QN.then_ ?_
    refine CW.seq ?_
    refine CW.cond (decide (t7 < (32 : Int))) rfl (fun hb => ?_) (fun hb => ?_)
    · have hh := hh.1 hb
      refine CW.skip ?_
      refine QN.then_ ?_
      refine CW.seq ?_
      refine CW.block ?_
      refine CW.seq ?_
      refine CW.region ?_
      refine .val (v_move (v := reg (t7 : Int)) rfl) rfl ?_
      refine .val (v_assign (v := reg (t7 : Int)) rfl) rfl ?_
      refine .nil ?_
      refine QN.then_ ?_
      refine CW.drawN 14 rfl follows_mixed [0, 1, 2, 3, 6, 7, 8, 13] ?_
      refine .p 0 rfl (by kernel_rfl) (NoPanic.block (NoPanic.then_ (NoPanic.then_ (NoPanic.block (NoPanic.then_ (NoPanic.body)))))) (fun _ => v_move (v := reg (list : Sl)) rfl) ?_
      obtain ⟨t11, ⟨xt11, hxt11, hgt11⟩, hh⟩ := hh
      refine .r 1 (fun h' => ∃ x : Arr 32 UInt8, AtH h' seed_1 (enc x) ∧ ((fun (x : Arr 32 UInt8) => x) : Arr 32 UInt8 → Arr 32 UInt8) x = t11) rfl (by kernel_rfl) (NoPanic.block (NoPanic.then_ (NoPanic.then_ (NoPanic.block (NoPanic.then_ (NoPanic.body)))))) ⟨xt11, hxt11, hgt11⟩ (fun h' hS => hS.elim fun _ hS => v_ldA (p := seed_1) 0 ag_24 rfl hS.1 hS.2 get_24_all (fun _ => (arr_len (n := 32) _)) (fun _ => rfl)) ?_
      refine .p 2 rfl (by kernel_rfl) (NoPanic.block (NoPanic.then_ (NoPanic.then_ (NoPanic.block (NoPanic.then_ (NoPanic.body)))))) (fun _ => v_move (v := reg (leaf : Int)) rfl) ?_
      refine .p 3 rfl (by kernel_rfl) (NoPanic.block (NoPanic.then_ (NoPanic.then_ (NoPanic.block (NoPanic.then_ (NoPanic.body)))))) (fun _ => v_move (v := reg (t7 : Int)) rfl) ?_
      obtain ⟨t16, ⟨xt16, hxt16, hgt16⟩, hh⟩ := hh
      refine .r 6 (fun h' => ∃ x : Arr 32 UInt8, AtH h' seed_1 (enc x) ∧ ((fun (x : Arr 32 UInt8) => x) : Arr 32 UInt8 → Arr 32 UInt8) x = t16) rfl (by kernel_rfl) (NoPanic.block (NoPanic.then_ (NoPanic.then_ (NoPanic.block (NoPanic.then_ (NoPanic.body)))))) ⟨xt16, hxt16, hgt16⟩ (fun h' hS => hS.elim fun _ hS => v_ldA (p := seed_1) 0 ag_24 rfl hS.1 hS.2 get_24_all (fun _ => (arr_len (n := 32) _)) (fun _ => rfl)) ?_
      refine .p 7 rfl (by kernel_rfl) (NoPanic.block (NoPanic.then_ (NoPanic.then_ (NoPanic.block (NoPanic.then_ (NoPanic.body)))))) (fun _ => v_move (v := reg (leaf : Int)) rfl) ?_
      refine .p 8 rfl (by kernel_rfl) (NoPanic.block (NoPanic.then_ (NoPanic.then_ (NoPanic.block (NoPanic.then_ (NoPanic.body)))))) (fun _ => v_move (v := reg (t7 : Int)) rfl) ?_
      refine .w 4 (by kernel_rfl) rfl (by kernel_rfl) (.e (e_callP fn_102 rfl rfl hh ?_))
      intro h t14 hh
      obtain ⟨hc, hh⟩ := hh
      refine ⟨⟨⟨trivial, .inl (by kernel_rfl)⟩, .inr hc⟩, ?_⟩
      refine .w 5 (by kernel_rfl) rfl (by kernel_rfl) (.e (e_callP fn_101 rfl rfl hh ?_))
      intro h t15 hh
      obtain ⟨hc_1, hh⟩ := hh
      refine ⟨⟨⟨trivial, .inl (by kernel_rfl)⟩, .inr hc_1⟩, ?_⟩
      refine .w 9 (by kernel_rfl) rfl (by kernel_rfl) (.e (e_callP fn_102 rfl rfl hh ?_))
      intro h t19 hh
      refine ⟨⟨⟨trivial, .inl (by kernel_rfl)⟩, .inl (by kernel_rfl)⟩, ?_⟩
      refine .w 10 (by kernel_rfl) rfl (by kernel_rfl) (.e (e_callP fn_101 rfl rfl hh ?_))
      intro h t20 hh
      refine ⟨⟨⟨trivial, .inl (by kernel_rfl)⟩, .inl (by kernel_rfl)⟩, ?_⟩
      refine mks_elim hh (fun pt21 t21 hpt21 ht21 hh => ?_)
      refine .w 11 (by kernel_rfl) rfl (by kernel_rfl) (.e (e_mks [(t15 : Arr 32 UInt8), (t20 : Arr 32 UInt8)] hpt21 ht21 zo_24 sl_31 rfl rfl rfl rfl rfl ?_))
      refine ⟨⟨⟨trivial, .inl (by kernel_rfl)⟩, .inl (by kernel_rfl)⟩, ?_⟩
      refine .w 12 (by kernel_rfl) rfl (by kernel_rfl) (.e (e_app sl_31 zo_24 by_24 rfl rfl rfl hh ?_))
      intro h t22 hh
      refine ⟨⟨⟨trivial, .inl (by kernel_rfl)⟩, .inl (by kernel_rfl)⟩, ?_⟩
      refine .p 13 rfl (by kernel_rfl) (NoPanic.block (NoPanic.then_ (NoPanic.then_ (NoPanic.block (NoPanic.then_ (NoPanic.body)))))) (fun _ => v_assign (v := reg (t22 : Sl)) rfl) ?_
      refine .done (by kernel_rfl) ?_
      refine QN.blockN ?_
      refine QN.then_ ?_
      refine CW.region ?_
      refine .val (v_iadd rfl rfl) rfl ?_
      refine .val (v_move (v := reg ((iadd t7 (1 : Int)) : Int)) rfl) rfl ?_
      refine .nil ?_
      exact QN.thenJ ⟨(t22, (iadd t7 (1 : Int))), ⟨_, setl_eq ⟨rfl, ⟨rfl, ⟨rfl, ⟨rfl, ⟨rfl, trivial⟩⟩⟩⟩⟩⟩, hh⟩
    · have hh := hh.2 hb
      refine CW.exit ?_
      refine QN.thenExit ?_
      refine QN.thenExit ?_
      refine QN.blockExit ?_
      exact QN.thenJ ⟨_, list, setl_eq ⟨rfl, ⟨rfl, trivial⟩⟩, hh⟩
  · rintro ρ h ⟨ρ', list_1, rfl, hh⟩
    unfold once_Public.j1 at hh
    refine CW.seq ?_
    refine CW.region ?_
    refine .val (v_move (v := reg (list_1 : Sl)) rfl) rfl ?_
    refine .e (e_callP fn_103 rfl rfl hh ?_)
    intro h t25 hh
    obtain ⟨xw, hxw, hwxw, hh⟩ := hh
    refine .e (e_storeN (p := t4) (nv := enc (t25 : Arr 32 UInt8)) 0 rfl rfl rfl sz_24 (one_arr (n := 32) (fun _ => rfl) _) hxw hwxw (arr_len (n := 32) _) (arr_len (n := 32) _) rfl (set_24_all xw (t25 : Arr 32 UInt8)) ?_)
    refine .nil ?_
    refine QN.then_ ?_
    refine CW.ret ?_
    obtain ⟨r4, ⟨xr4, hxr4, hgr4⟩, hh⟩ := hh
    have hr4 := ld_id hxr4 hgr4
    exact retc rfl rfl ag_24 hr4 (arr_len (n := 32) _) ⟨(r4 : Arr 32 UInt8), rfl, hh⟩
end Go.Proofs.YtimmoekliphobaaDoor
namespace Go.Proofs.YtimmoekliphobaaDoor
open Go Go.Sh
open Go.Sh.Ty (reg)
set_option linter.unusedVariables false
set_option maxRecDepth 100000
set_option maxHeartbeats 4000000
theorem tree_Path.ok (at_ : Int) (leaves : Sl) (k : (T2 Sl Bool) → H → Prop) (h : H) (hh : tree_Path.b at_ leaves k h) : CallsH Prog 74 [reg at_, reg leaves].toArray h fun v h' => ∃ r : T2 Sl Bool, v = reg r ∧ k r h' := by
  unfold tree_Path.b at hh
  refine CallsH.of 41 Tryd.func74 rfl Tryd.ntmps74 rfl (fun w0 => ?_)
  refine CW.seq ?_
  refine CW.region ?_
  refine .val (v_assign (v := reg (Sl.nil : Sl)) rfl) rfl ?_
  refine .val (v_assign (v := reg (false : Bool)) rfl) rfl ?_
  refine .nil ?_
  refine QN.then_ ?_
  refine CW.seq ?_
  refine CW.seq ?_
  refine CW.region ?_
  refine .val (v_move (v := reg (at_ : Int)) rfl) rfl ?_
  refine .val (v_ilss rfl rfl) rfl ?_
  refine .val (v_move (v := reg ((decide (at_ < (0 : Int))) : Bool)) rfl) rfl ?_
  refine .fv 11 rfl rfl rfl (fun hb => v_move (v := reg (at_ : Int)) rfl) rfl ?_
  refine .fv 11 rfl rfl rfl (fun hb => v_move (v := reg (leaves : Sl)) rfl) rfl ?_
  refine .fv 11 rfl rfl rfl (fun hb => v_len_sl (sl_31).1 (gf hb)) rfl ?_
  refine .fv 11 rfl rfl rfl (fun hb => v_igeq (gf hb) (gf hb)) rfl ?_
  refine .val (v_pick_or rfl rfl (fun hb => gf hb)) rfl ?_
  refine .nil ?_
  refine QN.then_ ?_
  refine CW.cond ((decide (at_ < (0 : Int))) || (decide ((leaves.len : Int) ≤ at_))) rfl (fun hb => ?_) (fun hb => ?_)
  · have hh := hh.1 hb
    refine CW.seq ?_
    refine CW.region ?_
    refine .val (v_assign (v := reg (Sl.nil : Sl)) rfl) rfl ?_
    refine .val (v_assign (v := reg (false : Bool)) rfl) rfl ?_
    refine .nil ?_
    refine QN.then_ ?_
    refine CW.ret ?_
    refine QN.thenRet ?_
    exact ret2 rfl rfl rfl ⟨(⟨Sl.nil, false⟩ : T2 Sl Bool), rfl, hh⟩
  · have hh := hh.2 hb
    refine CW.skip ?_
    refine QN.then_ ?_
    refine CW.seq ?_
    refine CW.region ?_
    refine .val (v_assign (v := reg (Sl.nil : Sl)) rfl) rfl ?_
    refine .nil ?_
    refine QN.then_ ?_
    refine CW.seq ?_
    refine CW.region ?_
    refine mks_elim hh (fun pt17 t17 hpt17 ht17 hh => ?_)
    refine .e (e_mks ([] : List (Arr 32 UInt8)) hpt17 ht17 zo_24 sl_31 rfl rfl rfl rfl rfl ?_)
    refine .val (v_move (v := reg (leaves : Sl)) rfl) rfl ?_
    refine .e (e_app sl_31 zo_24 by_24 rfl rfl rfl hh ?_)
    intro h t19 hh
    refine .val (v_assign (v := reg (t19 : Sl)) rfl) rfl ?_
    refine .nil ?_
    refine QN.then_ ?_
    refine CW.join (fun ρ h => ∃ (ρ' : Env) (out_2 : Sl), ρ = setl ρ' [(6, reg (out_2 : Sl))] ∧ (tree_Path.j1 k) out_2 h) ?_ ?_
    · refine CW.block ?_
      unfold tree_Path.l1 at hh
      refine CW.loop (fun (σ0 : Int × Sl × Sl) ρ => match σ0 with | (at__1, out, row) => ∃ ρ' : Env, ρ = setl ρ' [(0, reg (at__1 : Int)), (6, reg (out : Sl)), (7, reg (row : Sl))]) hh ⟨_, setl_eq ⟨rfl, ⟨rfl, ⟨rfl, trivial⟩⟩⟩⟩ ?_
      clear hh
      rintro s1 ⟨at__1, out, row⟩ ρ h ⟨ρ', rfl⟩ hh
      refine CW.seq ?_
      refine CW.seq ?_
      refine CW.region ?_
      refine .val (v_move (v := reg (row : Sl)) rfl) rfl ?_
      refine .val (v_len_sl (sl_31).1 rfl) rfl ?_
      refine .val (v_igtr rfl rfl) rfl ?_
      refine .nil ?_
      refine QN.then_ ?_
      refine CW.cond (decide ((1 : Int) < (row.len : Int))) rfl (fun hb_1 => ?_) (fun hb_1 => ?_)
      · have hh := hh.1 hb_1
        refine CW.skip ?_
        refine QN.then_ ?_
        refine CW.join (fun ρ h => ∃ (ρ' : Env) (out_1 : Sl), ρ = setl ρ' [(0, reg (at__1 : Int)), (6, reg (out_1 : Sl)), (7, reg (row : Sl))] ∧ (tree_Path.j2 s1) at__1 out_1 row h) ?_ ?_
        · refine CW.block ?_
          refine CW.seq ?_
          refine CW.region ?_
          refine .val (v_move (v := reg (at__1 : Int)) rfl) rfl ?_
          refine .val (v_ixor rfl rfl) rfl ?_
          refine .val (v_assign (v := reg ((ixor at__1 (1 : Int)) : Int)) rfl) rfl ?_
          refine .nil ?_
          refine QN.then_ ?_
          refine CW.seq ?_
          refine CW.region ?_
          refine .val (v_move (v := reg ((ixor at__1 (1 : Int)) : Int)) rfl) rfl ?_
          refine .val (v_move (v := reg (row : Sl)) rfl) rfl ?_
          refine .val (v_len_sl (sl_31).1 rfl) rfl ?_
          refine .val (v_ilss rfl rfl) rfl ?_
          refine .nil ?_
          refine QN.then_ ?_
          refine CW.cond (decide ((ixor at__1 (1 : Int)) < (row.len : Int))) rfl (fun hb_2 => ?_) (fun hb_2 => ?_)
          · have hh := hh.1 hb_2
            refine CW.region ?_
            refine .val (v_move (v := reg (out : Sl)) rfl) rfl ?_
            refine .val (v_move (v := reg (row : Sl)) rfl) rfl ?_
            refine .val (v_move (v := reg ((ixor at__1 (1 : Int)) : Int)) rfl) rfl ?_
            obtain ⟨t36, ht36, hh⟩ := hh
            refine .val (v_idx_slP sl_31 rfl rfl ht36.1 ht36.2.1 ht36.2.2) rfl ?_
            obtain ⟨t37, ⟨xt37, hxt37, hgt37⟩, hh⟩ := hh
            refine .val (v_ldA (p := t36) 0 ag_24 rfl hxt37 hgt37 get_24_all (fun _ => (arr_len (n := 32) _)) (fun _ => rfl)) rfl ?_
            refine mks_elim hh (fun pt38 t38 hpt38 ht38 hh => ?_)
            refine .e (e_mks [(t37 : Arr 32 UInt8)] hpt38 ht38 zo_24 sl_31 rfl rfl rfl rfl rfl ?_)
            refine .e (e_app sl_31 zo_24 by_24 rfl rfl rfl hh ?_)
            intro h t39 hh
            refine .val (v_assign (v := reg (t39 : Sl)) rfl) rfl ?_
            refine .nil ?_
            refine QN.blockN ?_
            exact QN.thenJ ⟨_, t39, setl_eq ⟨rfl, ⟨rfl, ⟨rfl, trivial⟩⟩⟩, hh⟩
          · have hh := hh.2 hb_2
            refine CW.skip ?_
            refine QN.blockN ?_
            exact QN.thenJ ⟨_, out, setl_eq ⟨rfl, ⟨rfl, ⟨rfl, trivial⟩⟩⟩, hh⟩
        · rintro ρ h ⟨ρ', out_1, rfl, hh⟩
          unfold tree_Path.j2 at hh
          refine CW.region ?_
          refine .val (v_move (v := reg (row : Sl)) rfl) rfl ?_
          refine .e (e_callP fn_104 rfl rfl hh ?_)
          intro h t24 hh
          refine .val (v_move (v := reg (at__1 : Int)) rfl) rfl ?_
          refine .val (v_iquo rfl rfl (by decide)) rfl ?_
          refine .val (v_assign (v := reg (t24 : Sl)) rfl) rfl ?_
          refine .val (v_assign (v := reg ((iquo at__1 (2 : Int)) : Int)) rfl) rfl ?_
          refine .nil ?_
          exact QN.thenJ ⟨((iquo at__1 (2 : Int)), out_1, t24), ⟨_, setl_eq ⟨rfl, ⟨rfl, ⟨rfl, trivial⟩⟩⟩⟩, hh⟩
      · have hh := hh.2 hb_1
        refine CW.exit ?_
        refine QN.thenExit ?_
        refine QN.thenExit ?_
        refine QN.blockExit ?_
        exact QN.thenJ ⟨_, out, setl_eq ⟨rfl, trivial⟩, hh⟩
    · rintro ρ h ⟨ρ', out_2, rfl, hh⟩
      unfold tree_Path.j1 at hh
      refine CW.seq ?_
      refine CW.region ?_
      refine .val (v_move (v := reg (out_2 : Sl)) rfl) rfl ?_
      refine .val (v_assign (v := reg (out_2 : Sl)) rfl) rfl ?_
      refine .val (v_assign (v := reg (true : Bool)) rfl) rfl ?_
      refine .nil ?_
      refine QN.then_ ?_
      refine CW.ret ?_
      exact ret2 rfl rfl rfl ⟨(⟨out_2, true⟩ : T2 Sl Bool), rfl, hh⟩
end Go.Proofs.YtimmoekliphobaaDoor
namespace Go.Proofs.YtimmoekliphobaaDoor
open Go Go.Sh
open Go.Sh.Ty (reg)
set_option linter.unusedVariables false
set_option maxRecDepth 100000
set_option maxHeartbeats 4000000
theorem once_Sign.ok (seed : Arr 32 UInt8) (leaf : Int) (d : Arr 32 UInt8) (k : api_Once → H → Prop) (h : H) (hh : once_Sign.b seed leaf d k h) : CallsH Prog 75 [reg seed, reg leaf, reg d].toArray h fun v h' => ∃ r : api_Once, v = reg r ∧ k r h' := by
  unfold once_Sign.b at hh
  refine CallsH.of 40 Tryd.func75 rfl Tryd.ntmps75 rfl (fun w0 => ?_)
  refine CW.seq ?_
  refine CW.region ?_
  refine box_elim hh (fun seed_1 hseed_1 hh => ?_)
  refine .e (e_boxP hseed_1 rfl rfl rfl ?_)
  refine box_elim hh (fun d_1 hd_1 hh => ?_)
  refine .e (e_boxP hd_1 rfl rfl rfl ?_)
  refine box_elim hh (fun t6 ht6 hh => ?_)
  refine .e (e_allocP ht6 zo_33 rfl ?_)
  refine .nil ?_
  refine QN.then_ ?_
  refine CW.seq ?_
  refine CW.region ?_
  refine box_elim hh (fun o ho hh => ?_)
  refine .e (e_allocP ho zo_33 rfl ?_)
  refine .nil ?_
  refine QN.then_ ?_
  refine CW.join (fun ρ h => ∃ (ρ' : Env), ρ = setl ρ' [(6, .pointer (some t6)), (7, .pointer (some o))] ∧ (once_Sign.j1 k) t6 o h) ?_ ?_
  · refine CW.seq ?_
    refine CW.region ?_
    refine .val (v_move (v := reg ((0 : Int) : Int)) rfl) rfl ?_
    refine .nil ?_
    refine QN.then_ ?_
    refine CW.block ?_
    unfold once_Sign.l1 at hh
    refine CW.loop (fun (σ0 : Int) ρ => match σ0 with | t10 => ∃ ρ' : Env, ρ = setl ρ' [(1, reg (leaf : Int)), (3, .pointer (some seed_1)), (5, .pointer (some d_1)), (6, .pointer (some t6)), (7, .pointer (some o)), (10, reg (t10 : Int))]) hh ⟨_, setl_eq ⟨rfl, ⟨rfl, ⟨rfl, ⟨rfl, ⟨rfl, ⟨rfl, trivial⟩⟩⟩⟩⟩⟩⟩ ?_
    clear hh
    rintro s1 t10 ρ h ⟨ρ', rfl⟩ hh
    refine CW.seq ?_
    refine CW.region ?_
    refine .val (v_ilss rfl rfl) rfl ?_
    refine .nil ?_
    refine QN.then_ ?_
    refine CW.seq ?_
    refine CW.cond (decide (t10 < (32 : Int))) rfl (fun hb => ?_) (fun hb => ?_)
    · have hh := hh.1 hb
      refine CW.skip ?_
      refine QN.then_ ?_
      refine CW.seq ?_
      refine CW.block ?_
      refine CW.seq ?_
      refine CW.region ?_
      refine .val (v_move (v := reg (t10 : Int)) rfl) rfl ?_
      refine .val (v_assign (v := reg (t10 : Int)) rfl) rfl ?_
      refine .nil ?_
      refine QN.then_ ?_
      refine CW.seq ?_
      refine CW.region ?_
      obtain ⟨t13, ⟨xt13, hxt13, hgt13⟩, hh⟩ := hh
      refine .val (v_ldA (p := d_1) 0 ag_24 rfl hxt13 hgt13 get_24_all (fun _ => (arr_len (n := 32) _)) (fun _ => rfl)) rfl ?_
      refine .val (v_move (v := reg (t10 : Int)) rfl) rfl ?_
      refine .e (e_callP fn_105 rfl rfl hh ?_)
      intro h t15 hh
      refine .val (v_assign (v := reg (t15 : Int)) rfl) rfl ?_
      refine .nil ?_
      refine QN.then_ ?_
      refine CW.seq ?_
      refine CW.drawN 11 rfl follows_mixed [0, 1, 2, 3, 4, 5, 9] ?_
      refine .p 0 rfl (by kernel_rfl) (NoPanic.then_ (NoPanic.block (NoPanic.then_ (NoPanic.then_ (NoPanic.block (NoPanic.then_ (NoPanic.body))))))) (fun _ => v_fieldAddr fl_33_0 rfl) ?_
      obtain ⟨t17, ⟨xt17, hxt17, hgt17⟩, hh⟩ := hh
      refine .r 1 (fun h' => ∃ x : api_Once, AtH h' o (enc x) ∧ ((fun (x : api_Once) => x.Open) : api_Once → Sl) x = t17) rfl (by kernel_rfl) (NoPanic.then_ (NoPanic.block (NoPanic.then_ (NoPanic.then_ (NoPanic.block (NoPanic.then_ (NoPanic.body))))))) ⟨xt17, hxt17, hgt17⟩ (fun h' hS => hS.elim fun _ hS => v_ld1 (p := o) 0 na_31 rfl hS.1 hS.2 get_33_Open) ?_
      obtain ⟨t18, ⟨xt18, hxt18, hgt18⟩, hh⟩ := hh
      refine .r 2 (fun h' => ∃ x : Arr 32 UInt8, AtH h' seed_1 (enc x) ∧ ((fun (x : Arr 32 UInt8) => x) : Arr 32 UInt8 → Arr 32 UInt8) x = t18) rfl (by kernel_rfl) (NoPanic.then_ (NoPanic.block (NoPanic.then_ (NoPanic.then_ (NoPanic.block (NoPanic.then_ (NoPanic.body))))))) ⟨xt18, hxt18, hgt18⟩ (fun h' hS => hS.elim fun _ hS => v_ldA (p := seed_1) 0 ag_24 rfl hS.1 hS.2 get_24_all (fun _ => (arr_len (n := 32) _)) (fun _ => rfl)) ?_
      refine .p 3 rfl (by kernel_rfl) (NoPanic.then_ (NoPanic.block (NoPanic.then_ (NoPanic.then_ (NoPanic.block (NoPanic.then_ (NoPanic.body))))))) (fun _ => v_move (v := reg (leaf : Int)) rfl) ?_
      refine .p 4 rfl (by kernel_rfl) (NoPanic.then_ (NoPanic.block (NoPanic.then_ (NoPanic.then_ (NoPanic.block (NoPanic.then_ (NoPanic.body))))))) (fun _ => v_move (v := reg (t10 : Int)) rfl) ?_
      refine .p 5 rfl (by kernel_rfl) (NoPanic.then_ (NoPanic.block (NoPanic.then_ (NoPanic.then_ (NoPanic.block (NoPanic.then_ (NoPanic.body))))))) (fun _ => v_move (v := reg (t15 : Int)) rfl) ?_
      refine .w 6 (by kernel_rfl) rfl (by kernel_rfl) (.e (e_callP fn_102 rfl rfl hh ?_))
      intro h t22 hh
      obtain ⟨hc, hh⟩ := hh
      refine ⟨⟨⟨trivial, .inr hc⟩, .inl (by kernel_rfl)⟩, ?_⟩
      refine mks_elim hh (fun pt23 t23 hpt23 ht23 hh => ?_)
      refine .w 7 (by kernel_rfl) rfl (by kernel_rfl) (.e (e_mks [(t22 : Arr 32 UInt8)] hpt23 ht23 zo_24 sl_31 rfl rfl rfl rfl rfl ?_))
      obtain ⟨hc_1, hh⟩ := hh
      refine ⟨⟨⟨trivial, .inr hc_1⟩, .inl (by kernel_rfl)⟩, ?_⟩
      refine .w 8 (by kernel_rfl) rfl (by kernel_rfl) (.e (e_app sl_31 zo_24 by_24 rfl rfl rfl hh ?_))
      intro h t24 hh
      refine ⟨⟨⟨trivial, .inl (by kernel_rfl)⟩, .inl (by kernel_rfl)⟩, ?_⟩
      refine .p 9 rfl (by kernel_rfl) (NoPanic.then_ (NoPanic.block (NoPanic.then_ (NoPanic.then_ (NoPanic.block (NoPanic.then_ (NoPanic.body))))))) (fun _ => v_fieldAddr fl_33_0 rfl) ?_
      obtain ⟨xw, hxw, hwxw, hh⟩ := hh
      refine .w 10 (by kernel_rfl) rfl (by kernel_rfl) (.e (e_storeN (p := o) (nv := enc (t24 : Sl)) 0 rfl rfl rfl sz_31 (one_sl _) hxw hwxw (len_api_Once _) (len_sl _) rfl (set_33_Open xw (t24 : Sl)) ?_))
      refine ⟨⟨⟨trivial, .inl (by kernel_rfl)⟩, .inl (by kernel_rfl)⟩, ?_⟩
      refine .done (by kernel_rfl) ?_
      refine QN.then_ ?_
      refine CW.drawN 13 rfl follows_mixed [0, 1, 2, 3, 4, 5, 6, 11] ?_
      refine .p 0 rfl (by kernel_rfl) (NoPanic.block (NoPanic.then_ (NoPanic.then_ (NoPanic.block (NoPanic.then_ (NoPanic.body)))))) (fun _ => v_fieldAddr fl_33_1 rfl) ?_
      obtain ⟨t27, ⟨xt27, hxt27, hgt27⟩, hh⟩ := hh
      refine .r 1 (fun h' => ∃ x : api_Once, AtH h' o (enc x) ∧ ((fun (x : api_Once) => x.Shut) : api_Once → Sl) x = t27) rfl (by kernel_rfl) (NoPanic.block (NoPanic.then_ (NoPanic.then_ (NoPanic.block (NoPanic.then_ (NoPanic.body)))))) ⟨xt27, hxt27, hgt27⟩ (fun h' hS => hS.elim fun _ hS => v_ld1 (p := o) 1 na_31 rfl hS.1 hS.2 get_33_Shut) ?_
      obtain ⟨t28, ⟨xt28, hxt28, hgt28⟩, hh⟩ := hh
      refine .r 2 (fun h' => ∃ x : Arr 32 UInt8, AtH h' seed_1 (enc x) ∧ ((fun (x : Arr 32 UInt8) => x) : Arr 32 UInt8 → Arr 32 UInt8) x = t28) rfl (by kernel_rfl) (NoPanic.block (NoPanic.then_ (NoPanic.then_ (NoPanic.block (NoPanic.then_ (NoPanic.body)))))) ⟨xt28, hxt28, hgt28⟩ (fun h' hS => hS.elim fun _ hS => v_ldA (p := seed_1) 0 ag_24 rfl hS.1 hS.2 get_24_all (fun _ => (arr_len (n := 32) _)) (fun _ => rfl)) ?_
      refine .p 3 rfl (by kernel_rfl) (NoPanic.block (NoPanic.then_ (NoPanic.then_ (NoPanic.block (NoPanic.then_ (NoPanic.body)))))) (fun _ => v_move (v := reg (leaf : Int)) rfl) ?_
      refine .p 4 rfl (by kernel_rfl) (NoPanic.block (NoPanic.then_ (NoPanic.then_ (NoPanic.block (NoPanic.then_ (NoPanic.body)))))) (fun _ => v_move (v := reg (t10 : Int)) rfl) ?_
      refine .p 5 rfl (by kernel_rfl) (NoPanic.block (NoPanic.then_ (NoPanic.then_ (NoPanic.block (NoPanic.then_ (NoPanic.body)))))) (fun _ => v_move (v := reg (t15 : Int)) rfl) ?_
      refine .p 6 rfl (by kernel_rfl) (NoPanic.block (NoPanic.then_ (NoPanic.then_ (NoPanic.block (NoPanic.then_ (NoPanic.body)))))) (fun _ => v_isub rfl rfl) ?_
      refine .w 7 (by kernel_rfl) rfl (by kernel_rfl) (.e (e_callP fn_102 rfl rfl hh ?_))
      intro h t33 hh
      obtain ⟨hc_2, hh⟩ := hh
      refine ⟨⟨⟨trivial, .inr hc_2⟩, .inl (by kernel_rfl)⟩, ?_⟩
      refine .w 8 (by kernel_rfl) rfl (by kernel_rfl) (.e (e_callP fn_101 rfl rfl hh ?_))
      intro h t34 hh
      obtain ⟨hc_3, hh⟩ := hh
      refine ⟨⟨⟨trivial, .inr hc_3⟩, .inl (by kernel_rfl)⟩, ?_⟩
      refine mks_elim hh (fun pt35 t35 hpt35 ht35 hh => ?_)
      refine .w 9 (by kernel_rfl) rfl (by kernel_rfl) (.e (e_mks [(t34 : Arr 32 UInt8)] hpt35 ht35 zo_24 sl_31 rfl rfl rfl rfl rfl ?_))
      obtain ⟨hc_4, hh⟩ := hh
      refine ⟨⟨⟨trivial, .inr hc_4⟩, .inl (by kernel_rfl)⟩, ?_⟩
      refine .w 10 (by kernel_rfl) rfl (by kernel_rfl) (.e (e_app sl_31 zo_24 by_24 rfl rfl rfl hh ?_))
      intro h t36 hh
      refine ⟨⟨⟨trivial, .inl (by kernel_rfl)⟩, .inl (by kernel_rfl)⟩, ?_⟩
      refine .p 11 rfl (by kernel_rfl) (NoPanic.block (NoPanic.then_ (NoPanic.then_ (NoPanic.block (NoPanic.then_ (NoPanic.body)))))) (fun _ => v_fieldAddr fl_33_1 rfl) ?_
      obtain ⟨xw_1, hxw_1, hwxw_1, hh⟩ := hh
      refine .w 12 (by kernel_rfl) rfl (by kernel_rfl) (.e (e_storeN (p := o) (nv := enc (t36 : Sl)) 1 rfl rfl rfl sz_31 (one_sl _) hxw_1 hwxw_1 (len_api_Once _) (len_sl _) rfl (set_33_Shut xw_1 (t36 : Sl)) ?_))
      refine ⟨⟨⟨trivial, .inl (by kernel_rfl)⟩, .inl (by kernel_rfl)⟩, ?_⟩
      refine .done (by kernel_rfl) ?_
      refine QN.blockN ?_
      refine QN.then_ ?_
      refine CW.region ?_
      refine .val (v_iadd rfl rfl) rfl ?_
      refine .val (v_move (v := reg ((iadd t10 (1 : Int)) : Int)) rfl) rfl ?_
      refine .nil ?_
      exact QN.thenJ ⟨(iadd t10 (1 : Int)), ⟨_, setl_eq ⟨rfl, ⟨rfl, ⟨rfl, ⟨rfl, ⟨rfl, ⟨rfl, trivial⟩⟩⟩⟩⟩⟩⟩, hh⟩
    · have hh := hh.2 hb
      refine CW.exit ?_
      refine QN.thenExit ?_
      refine QN.thenExit ?_
      refine QN.blockExit ?_
      exact QN.thenJ ⟨_, setl_eq ⟨rfl, ⟨rfl, trivial⟩⟩, hh⟩
  · rintro ρ h ⟨ρ', rfl, hh⟩
    unfold once_Sign.j1 at hh
    refine CW.seq ?_
    refine CW.region ?_
    obtain ⟨t39, ⟨xt39, hxt39, hgt39⟩, hh⟩ := hh
    refine .val (v_ldA (p := o) 0 ag_33 rfl hxt39 hgt39 get_33_all (fun _ => (len_api_Once _)) (fun _ => rfl)) rfl ?_
    obtain ⟨xw_2, hxw_2, hwxw_2, hh⟩ := hh
    refine .e (e_storeN (p := t6) (nv := enc (t39 : api_Once)) 0 rfl rfl rfl sz_33 (one_api_Once _) hxw_2 hwxw_2 (len_api_Once _) (len_api_Once _) rfl (set_33_all xw_2 (t39 : api_Once)) ?_)
    refine .nil ?_
    refine QN.then_ ?_
    refine CW.ret ?_
    obtain ⟨r6, ⟨xr6, hxr6, hgr6⟩, hh⟩ := hh
    have hr6 := ld_id hxr6 hgr6
    exact retc rfl rfl ag_33 hr6 (len_api_Once _) ⟨(r6 : api_Once), rfl, hh⟩
end Go.Proofs.YtimmoekliphobaaDoor
namespace Go.Proofs.YtimmoekliphobaaDoor
open Go Go.Sh
open Go.Sh.Ty (reg)
set_option linter.unusedVariables false
set_option maxRecDepth 100000
set_option maxHeartbeats 4000000
theorem tree_Root.ok (leaves : Sl) (k : (Arr 32 UInt8) → H → Prop) (h : H) (hh : tree_Root.b leaves k h) : CallsH Prog 80 [reg leaves].toArray h fun v h' => ∃ r : Arr 32 UInt8, v = reg r ∧ k r h' := by
  unfold tree_Root.b at hh
  refine CallsH.of 19 Tryd.func80 rfl Tryd.ntmps80 rfl (fun w0 => ?_)
  refine CW.seq ?_
  refine CW.region ?_
  refine box_elim hh (fun t2 ht2 hh => ?_)
  refine .e (e_allocP ht2 zo_24 rfl ?_)
  refine .nil ?_
  refine QN.then_ ?_
  refine CW.seq ?_
  refine CW.seq ?_
  refine CW.region ?_
  refine .val (v_move (v := reg (leaves : Sl)) rfl) rfl ?_
  refine .val (v_len_sl (sl_31).1 rfl) rfl ?_
  refine .val (v_ieql rfl rfl) rfl ?_
  refine .nil ?_
  refine QN.then_ ?_
  refine CW.cond ((leaves.len : Int) == (0 : Int)) rfl (fun hb => ?_) (fun hb => ?_)
  · have hh := hh.1 hb
    refine CW.seq ?_
    refine CW.region ?_
    refine .e (e_callP fn_60 rfl rfl hh ?_)
    intro h t7 hh
    obtain ⟨xw, hxw, hwxw, hh⟩ := hh
    refine .e (e_storeN (p := t2) (nv := enc (t7 : Arr 32 UInt8)) 0 rfl rfl rfl sz_24 (one_arr (n := 32) (fun _ => rfl) _) hxw hwxw (arr_len (n := 32) _) (arr_len (n := 32) _) rfl (set_24_all xw (t7 : Arr 32 UInt8)) ?_)
    refine .nil ?_
    refine QN.then_ ?_
    refine CW.ret ?_
    refine QN.thenRet ?_
    obtain ⟨r2, ⟨xr2, hxr2, hgr2⟩, hh⟩ := hh
    have hr2 := ld_id hxr2 hgr2
    exact retc rfl rfl ag_24 hr2 (arr_len (n := 32) _) ⟨(r2 : Arr 32 UInt8), rfl, hh⟩
  · have hh := hh.2 hb
    refine CW.skip ?_
    refine QN.then_ ?_
    refine CW.seq ?_
    refine CW.region ?_
    refine mks_elim hh (fun pt8 t8 hpt8 ht8 hh => ?_)
    refine .e (e_mks ([] : List (Arr 32 UInt8)) hpt8 ht8 zo_24 sl_31 rfl rfl rfl rfl rfl ?_)
    refine .val (v_move (v := reg (leaves : Sl)) rfl) rfl ?_
    refine .e (e_app sl_31 zo_24 by_24 rfl rfl rfl hh ?_)
    intro h t10 hh
    refine .val (v_assign (v := reg (t10 : Sl)) rfl) rfl ?_
    refine .nil ?_
    refine QN.then_ ?_
    refine CW.join (fun ρ h => ∃ (ρ' : Env) (row_1 : Sl), ρ = setl ρ' [(2, .pointer (some t2)), (3, reg (row_1 : Sl))] ∧ (tree_Root.j1 k) t2 row_1 h) ?_ ?_
    · refine CW.block ?_
      unfold tree_Root.l1 at hh
      refine CW.loop (fun (σ0 : Sl) ρ => match σ0 with | row => ∃ ρ' : Env, ρ = setl ρ' [(2, .pointer (some t2)), (3, reg (row : Sl))]) hh ⟨_, setl_eq ⟨rfl, ⟨rfl, trivial⟩⟩⟩ ?_
      clear hh
      rintro s1 row ρ h ⟨ρ', rfl⟩ hh
      refine CW.seq ?_
      refine CW.seq ?_
      refine CW.region ?_
      refine .val (v_move (v := reg (row : Sl)) rfl) rfl ?_
      refine .val (v_len_sl (sl_31).1 rfl) rfl ?_
      refine .val (v_igtr rfl rfl) rfl ?_
      refine .nil ?_
      refine QN.then_ ?_
      refine CW.cond (decide ((1 : Int) < (row.len : Int))) rfl (fun hb_1 => ?_) (fun hb_1 => ?_)
      · have hh := hh.1 hb_1
        refine CW.skip ?_
        refine QN.then_ ?_
        refine CW.block ?_
        refine CW.region ?_
        refine .val (v_move (v := reg (row : Sl)) rfl) rfl ?_
        refine .e (e_callP fn_104 rfl rfl hh ?_)
        intro h t15 hh
        refine .val (v_assign (v := reg (t15 : Sl)) rfl) rfl ?_
        refine .nil ?_
        refine QN.blockN ?_
        exact QN.thenJ ⟨t15, ⟨_, setl_eq ⟨rfl, ⟨rfl, trivial⟩⟩⟩, hh⟩
      · have hh := hh.2 hb_1
        refine CW.exit ?_
        refine QN.thenExit ?_
        refine QN.thenExit ?_
        refine QN.blockExit ?_
        exact QN.thenJ ⟨_, row, setl_eq ⟨rfl, ⟨rfl, trivial⟩⟩, hh⟩
    · rintro ρ h ⟨ρ', row_1, rfl, hh⟩
      unfold tree_Root.j1 at hh
      refine CW.seq ?_
      refine CW.region ?_
      refine .val (v_move (v := reg (row_1 : Sl)) rfl) rfl ?_
      obtain ⟨t17, ht17, hh⟩ := hh
      refine .val (v_idx_slP sl_31 rfl rfl ht17.1 ht17.2.1 ht17.2.2) rfl ?_
      obtain ⟨t18, ⟨xt18, hxt18, hgt18⟩, hh⟩ := hh
      refine .val (v_ldA (p := t17) 0 ag_24 rfl hxt18 hgt18 get_24_all (fun _ => (arr_len (n := 32) _)) (fun _ => rfl)) rfl ?_
      obtain ⟨xw_1, hxw_1, hwxw_1, hh⟩ := hh
      refine .e (e_storeN (p := t2) (nv := enc (t18 : Arr 32 UInt8)) 0 rfl rfl rfl sz_24 (one_arr (n := 32) (fun _ => rfl) _) hxw_1 hwxw_1 (arr_len (n := 32) _) (arr_len (n := 32) _) rfl (set_24_all xw_1 (t18 : Arr 32 UInt8)) ?_)
      refine .nil ?_
      refine QN.then_ ?_
      refine CW.ret ?_
      obtain ⟨r2_1, ⟨xr2_1, hxr2_1, hgr2_1⟩, hh⟩ := hh
      have hr2_1 := ld_id hxr2_1 hgr2_1
      exact retc rfl rfl ag_24 hr2_1 (arr_len (n := 32) _) ⟨(r2_1 : Arr 32 UInt8), rfl, hh⟩
end Go.Proofs.YtimmoekliphobaaDoor
namespace Go.Proofs.YtimmoekliphobaaDoor
open Go Go.Sh
open Go.Sh.Ty (reg)
set_option linter.unusedVariables false
set_option maxRecDepth 100000
set_option maxHeartbeats 4000000
theorem once_Of.ok (d : Arr 32 UInt8) (o : api_Once) (k : (T2 (Arr 32 UInt8) Bool) → H → Prop) (h : H) (hh : once_Of.b d o k h) : CallsH Prog 108 [reg d, reg o].toArray h fun v h' => ∃ r : T2 (Arr 32 UInt8) Bool, v = reg r ∧ k r h' := by
  unfold once_Of.b at hh
  refine CallsH.of 52 Tryd.func108 rfl Tryd.ntmps108 rfl (fun w0 => ?_)
  refine CW.seq ?_
  refine CW.region ?_
  refine box_elim hh (fun d_1 hd_1 hh => ?_)
  refine .e (e_boxP hd_1 rfl rfl rfl ?_)
  refine box_elim hh (fun o_1 ho_1 hh => ?_)
  refine .e (e_boxP ho_1 rfl rfl rfl ?_)
  refine box_elim hh (fun t4 ht4 hh => ?_)
  refine .e (e_allocP ht4 zo_24 rfl ?_)
  refine .val (v_assign (v := reg (false : Bool)) rfl) rfl ?_
  refine .nil ?_
  refine QN.then_ ?_
  refine CW.seq ?_
  refine CW.seq ?_
  refine CW.region ?_
  refine .val (v_fieldAddr fl_33_0 rfl) rfl ?_
  obtain ⟨t11, ⟨xt11, hxt11, hgt11⟩, hh⟩ := hh
  refine .val (v_ld1 (p := o_1) 0 na_31 rfl hxt11 hgt11 get_33_Open) rfl ?_
  refine .val (v_len_sl (sl_31).1 rfl) rfl ?_
  refine .val (v_ineq rfl rfl) rfl ?_
  refine .val (v_move (v := reg (((t11.len : Int) != (32 : Int)) : Bool)) rfl) rfl ?_
  refine .fv 14 rfl rfl rfl (fun hb => v_fieldAddr fl_33_1 rfl) rfl ?_
  obtain ⟨t16, ⟨xt16, hxt16, hgt16⟩, hh⟩ := hh
  refine .fv 14 rfl rfl rfl (fun hb => v_ld1 (p := o_1) 1 na_31 (gf hb) hxt16 hgt16 get_33_Shut) rfl ?_
  refine .fv 14 rfl rfl rfl (fun hb => v_len_sl (sl_31).1 (gf hb)) rfl ?_
  refine .fv 14 rfl rfl rfl (fun hb => v_ineq (gf hb) rfl) rfl ?_
  refine .val (v_pick_or rfl rfl (fun hb => gf hb)) rfl ?_
  refine .nil ?_
  refine QN.then_ ?_
  refine CW.cond (((t11.len : Int) != (32 : Int)) || ((t16.len : Int) != (32 : Int))) rfl (fun hb => ?_) (fun hb => ?_)
  · have hh := hh.1 hb
    refine CW.seq ?_
    refine CW.region ?_
    refine .val (v_buildAT (arrOf [0, 0, 0, 0, 0, 0, 0, 0, 0, 0, 0, 0, 0, 0, 0, 0, 0, 0, 0, 0, 0, 0, 0, 0, 0, 0, 0, 0, 0, 0, 0, 0] : Arr 32 UInt8) zo_24 ar_24 rfl rfl rfl) rfl ?_
    obtain ⟨xw, hxw, hwxw, hh⟩ := hh
    refine .e (e_storeN (p := t4) (nv := enc ((arrOf [0, 0, 0, 0, 0, 0, 0, 0, 0, 0, 0, 0, 0, 0, 0, 0, 0, 0, 0, 0, 0, 0, 0, 0, 0, 0, 0, 0, 0, 0, 0, 0] : Arr 32 UInt8) : Arr 32 UInt8)) 0 rfl rfl rfl sz_24 (one_arr (n := 32) (fun _ => rfl) _) hxw hwxw (arr_len (n := 32) _) (arr_len (n := 32) _) rfl (set_24_all xw ((arrOf [0, 0, 0, 0, 0, 0, 0, 0, 0, 0, 0, 0, 0, 0, 0, 0, 0, 0, 0, 0, 0, 0, 0, 0, 0, 0, 0, 0, 0, 0, 0, 0] : Arr 32 UInt8) : Arr 32 UInt8)) ?_)
    refine .val (v_assign (v := reg (false : Bool)) rfl) rfl ?_
    refine .nil ?_
    refine QN.then_ ?_
    refine CW.ret ?_
    refine QN.thenRet ?_
    obtain ⟨r4, ⟨xr4, hxr4, hgr4⟩, hh⟩ := hh
    have hr4 := ld_id hxr4 hgr4
    exact retc1 rfl rfl ag_24 hr4 (arr_len (n := 32) _) rfl ⟨(⟨r4, false⟩ : T2 (Arr 32 UInt8) Bool), rfl, hh⟩
  · have hh := hh.2 hb
    refine CW.skip ?_
    refine QN.then_ ?_
    refine CW.seq ?_
    refine CW.region ?_
    refine .val (v_assign (v := reg (Sl.nil : Sl)) rfl) rfl ?_
    refine .nil ?_
    refine QN.then_ ?_
    refine CW.join (fun ρ h => ∃ (ρ' : Env) (list_2 : Sl), ρ = setl ρ' [(4, .pointer (some t4)), (6, reg (list_2 : Sl))] ∧ (once_Of.j1 k) t4 list_2 h) ?_ ?_
    · refine CW.seq ?_
      refine CW.region ?_
      refine .val (v_move (v := reg ((0 : Int) : Int)) rfl) rfl ?_
      refine .nil ?_
      refine QN.then_ ?_
      refine CW.block ?_
      unfold once_Of.l1 at hh
      refine CW.loop (fun (σ0 : Sl × Int) ρ => match σ0 with | (list, t21) => ∃ ρ' : Env, ρ = setl ρ' [(2, .pointer (some d_1)), (3, .pointer (some o_1)), (4, .pointer (some t4)), (6, reg (list : Sl)), (21, reg (t21 : Int))]) hh ⟨_, setl_eq ⟨rfl, ⟨rfl, ⟨rfl, ⟨rfl, ⟨rfl, trivial⟩⟩⟩⟩⟩⟩ ?_
      clear hh
      rintro s1 ⟨list, t21⟩ ρ h ⟨ρ', rfl⟩ hh
      refine CW.seq ?_
      refine CW.region ?_
      refine .val (v_ilss rfl rfl) rfl ?_
      refine .nil ?_
      refine QN.then_ ?_
      refine CW.seq ?_
      refine CW.cond (decide (t21 < (32 : Int))) rfl (fun hb_1 => ?_) (fun hb_1 => ?_)
      · have hh := hh.1 hb_1
        refine CW.skip ?_
        refine QN.then_ ?_
        refine CW.seq ?_
        refine CW.block ?_
        refine CW.seq ?_
        refine CW.region ?_
        refine .val (v_move (v := reg (t21 : Int)) rfl) rfl ?_
        refine .val (v_assign (v := reg (t21 : Int)) rfl) rfl ?_
        refine .nil ?_
        refine QN.then_ ?_
        refine CW.join (fun ρ h => ∃ (ρ' : Env) (pair_1 : Addr), ρ = setl ρ' [(2, .pointer (some d_1)), (3, .pointer (some o_1)), (4, .pointer (some t4)), (6, reg (list : Sl)), (7, reg (t21 : Int)), (8, .pointer (some pair_1)), (21, reg (t21 : Int))] ∧ (once_Of.j2 s1) d_1 o_1 t4 list t21 pair_1 t21 h) ?_ ?_
        · refine CW.drawN 14 rfl follows_mixed [0, 1, 2, 3, 4, 6, 7, 8, 9, 10, 11] ?_
          refine .p 0 rfl (by kernel_rfl) (NoPanic.then_ (NoPanic.block (NoPanic.then_ (NoPanic.then_ (NoPanic.block (NoPanic.then_ (NoPanic.body))))))) (fun _ => v_fieldAddr fl_33_0 rfl) ?_
          obtain ⟨t25, ⟨xt25, hxt25, hgt25⟩, hh⟩ := hh
          refine .r 1 (fun h' => ∃ x : api_Once, AtH h' o_1 (enc x) ∧ ((fun (x : api_Once) => x.Open) : api_Once → Sl) x = t25) rfl (by kernel_rfl) (NoPanic.then_ (NoPanic.block (NoPanic.then_ (NoPanic.then_ (NoPanic.block (NoPanic.then_ (NoPanic.body))))))) ⟨xt25, hxt25, hgt25⟩ (fun h' hS => hS.elim fun _ hS => v_ld1 (p := o_1) 0 na_31 rfl hS.1 hS.2 get_33_Open) ?_
          refine .p 2 rfl (by kernel_rfl) (NoPanic.then_ (NoPanic.block (NoPanic.then_ (NoPanic.then_ (NoPanic.block (NoPanic.then_ (NoPanic.body))))))) (fun _ => v_move (v := reg (t21 : Int)) rfl) ?_
          obtain ⟨t27, ht27, hh⟩ := hh
          refine .p 3 rfl (by kernel_rfl) (NoPanic.then_ (NoPanic.block (NoPanic.then_ (NoPanic.then_ (NoPanic.block (NoPanic.then_ (NoPanic.body))))))) (fun _ => v_idx_slP sl_31 rfl rfl ht27.1 ht27.2.1 ht27.2.2) ?_
          obtain ⟨t28, ⟨xt28, hxt28, hgt28⟩, hh⟩ := hh
          refine .r 4 (fun h' => ∃ x : Arr 32 UInt8, AtH h' t27 (enc x) ∧ ((fun (x : Arr 32 UInt8) => x) : Arr 32 UInt8 → Arr 32 UInt8) x = t28) rfl (by kernel_rfl) (NoPanic.then_ (NoPanic.block (NoPanic.then_ (NoPanic.then_ (NoPanic.block (NoPanic.then_ (NoPanic.body))))))) ⟨xt28, hxt28, hgt28⟩ (fun h' hS => hS.elim fun _ hS => v_ldA (p := t27) 0 ag_24 rfl hS.1 hS.2 get_24_all (fun _ => (arr_len (n := 32) _)) (fun _ => rfl)) ?_
          refine .p 6 rfl (by kernel_rfl) (NoPanic.then_ (NoPanic.block (NoPanic.then_ (NoPanic.then_ (NoPanic.block (NoPanic.then_ (NoPanic.body))))))) (fun _ => v_fieldAddr fl_33_1 rfl) ?_
          obtain ⟨t31, ⟨xt31, hxt31, hgt31⟩, hh⟩ := hh
          refine .r 7 (fun h' => ∃ x : api_Once, AtH h' o_1 (enc x) ∧ ((fun (x : api_Once) => x.Shut) : api_Once → Sl) x = t31) rfl (by kernel_rfl) (NoPanic.then_ (NoPanic.block (NoPanic.then_ (NoPanic.then_ (NoPanic.block (NoPanic.then_ (NoPanic.body))))))) ⟨xt31, hxt31, hgt31⟩ (fun h' hS => hS.elim fun _ hS => v_ld1 (p := o_1) 1 na_31 rfl hS.1 hS.2 get_33_Shut) ?_
          refine .p 8 rfl (by kernel_rfl) (NoPanic.then_ (NoPanic.block (NoPanic.then_ (NoPanic.then_ (NoPanic.block (NoPanic.then_ (NoPanic.body))))))) (fun _ => v_move (v := reg (t21 : Int)) rfl) ?_
          obtain ⟨t33, ht33, hh⟩ := hh
          refine .p 9 rfl (by kernel_rfl) (NoPanic.then_ (NoPanic.block (NoPanic.then_ (NoPanic.then_ (NoPanic.block (NoPanic.then_ (NoPanic.body))))))) (fun _ => v_idx_slP sl_31 rfl rfl ht33.1 ht33.2.1 ht33.2.2) ?_
          obtain ⟨t34, ⟨xt34, hxt34, hgt34⟩, hh⟩ := hh
          refine .r 10 (fun h' => ∃ x : Arr 32 UInt8, AtH h' t33 (enc x) ∧ ((fun (x : Arr 32 UInt8) => x) : Arr 32 UInt8 → Arr 32 UInt8) x = t34) rfl (by kernel_rfl) (NoPanic.then_ (NoPanic.block (NoPanic.then_ (NoPanic.then_ (NoPanic.block (NoPanic.then_ (NoPanic.body))))))) ⟨xt34, hxt34, hgt34⟩ (fun h' hS => hS.elim fun _ hS => v_ldA (p := t33) 0 ag_24 rfl hS.1 hS.2 get_24_all (fun _ => (arr_len (n := 32) _)) (fun _ => rfl)) ?_
          refine .w2 5 12 (by kernel_rfl) rfl rfl (by kernel_rfl) (by kernel_rfl) ?_ ?_
          · have hh := hh.1
            refine .e (e_callP fn_101 rfl rfl hh ?_)
            intro h t29 hh
            obtain ⟨hc, hh⟩ := hh
            obtain ⟨hc_1, hh⟩ := hh
            refine ⟨⟨⟨⟨⟨trivial, .inl (by kernel_rfl)⟩, .inl (by kernel_rfl)⟩, .inr hc⟩, .inr hc_1⟩, ?_⟩
            refine .p 11 rfl (by kernel_rfl) (NoPanic.then_ (NoPanic.block (NoPanic.then_ (NoPanic.then_ (NoPanic.block (NoPanic.then_ (NoPanic.body))))))) (fun _ => v_buildAT (arrA ((fun _ => 0) : Arr 32 UInt8) [t29, t34] : ArrA 2 (Arr 32 UInt8)) zo_220 ar_220 rfl rfl rfl) ?_
            refine box_elim hh (fun pair hpair hh => ?_)
            refine .w 12 (by kernel_rfl) rfl (by kernel_rfl) (.e (e_allocP hpair zo_220 rfl ?_))
            obtain ⟨hc_2, hh⟩ := hh
            obtain ⟨hc_3, hh⟩ := hh
            obtain ⟨hc_4, hh⟩ := hh
            obtain ⟨hc_5, hh⟩ := hh
            refine ⟨⟨⟨⟨⟨trivial, .inr hc_2⟩, .inr hc_3⟩, .inr hc_4⟩, .inr hc_5⟩, ?_⟩
            obtain ⟨xw_1, hxw_1, hwxw_1, hh⟩ := hh
            refine .w 13 (by kernel_rfl) rfl (by kernel_rfl) (.e (e_storeN (p := pair) (nv := enc ((arrA ((fun _ => 0) : Arr 32 UInt8) [t29, t34] : ArrA 2 (Arr 32 UInt8)) : ArrA 2 (Arr 32 UInt8))) 0 rfl rfl rfl sz_220 (one_arrA (fun y => (one_arr (n := 32) (fun _ => rfl) y)) _) hxw_1 hwxw_1 (arrA_len (fun y => (arr_len (n := 32) y)) _) (arrA_len (fun y => (arr_len (n := 32) y)) _) rfl (set_220_all xw_1 ((arrA ((fun _ => 0) : Arr 32 UInt8) [t29, t34] : ArrA 2 (Arr 32 UInt8)) : ArrA 2 (Arr 32 UInt8))) ?_))
            refine ⟨⟨⟨⟨⟨trivial, .inl (by kernel_rfl)⟩, .inl (by kernel_rfl)⟩, .inl (by kernel_rfl)⟩, .inl (by kernel_rfl)⟩, ?_⟩
            refine .done (by kernel_rfl) ?_
            exact QN.thenJ ⟨_, pair, setl_eq ⟨rfl, ⟨rfl, ⟨rfl, ⟨rfl, ⟨rfl, ⟨rfl, ⟨rfl, trivial⟩⟩⟩⟩⟩⟩⟩, hh⟩
          · have hh := hh.2
            refine box_elim hh (fun pair_2 hpair_2 hh => ?_)
            refine .e (e_allocP hpair_2 zo_220 rfl ?_)
            obtain ⟨hc_6, hh⟩ := hh
            obtain ⟨hc_7, hh⟩ := hh
            obtain ⟨hc_8, hh⟩ := hh
            obtain ⟨hc_9, hh⟩ := hh
            refine ⟨⟨⟨⟨⟨trivial, .inr hc_6⟩, .inr hc_7⟩, .inr hc_8⟩, .inr hc_9⟩, ?_⟩
            refine .w 5 (by kernel_rfl) rfl (by kernel_rfl) (.e (e_callP fn_101 rfl rfl hh ?_))
            intro h t29_1 hh
            obtain ⟨hc_10, hh⟩ := hh
            obtain ⟨hc_11, hh⟩ := hh
            refine ⟨⟨⟨⟨⟨trivial, .inl (by kernel_rfl)⟩, .inl (by kernel_rfl)⟩, .inr hc_10⟩, .inr hc_11⟩, ?_⟩
            refine .p 11 rfl (by kernel_rfl) (NoPanic.then_ (NoPanic.block (NoPanic.then_ (NoPanic.then_ (NoPanic.block (NoPanic.then_ (NoPanic.body))))))) (fun _ => v_buildAT (arrA ((fun _ => 0) : Arr 32 UInt8) [t29_1, t34] : ArrA 2 (Arr 32 UInt8)) zo_220 ar_220 rfl rfl rfl) ?_
            obtain ⟨xw_2, hxw_2, hwxw_2, hh⟩ := hh
            refine .w 13 (by kernel_rfl) rfl (by kernel_rfl) (.e (e_storeN (p := pair_2) (nv := enc ((arrA ((fun _ => 0) : Arr 32 UInt8) [t29_1, t34] : ArrA 2 (Arr 32 UInt8)) : ArrA 2 (Arr 32 UInt8))) 0 rfl rfl rfl sz_220 (one_arrA (fun y => (one_arr (n := 32) (fun _ => rfl) y)) _) hxw_2 hwxw_2 (arrA_len (fun y => (arr_len (n := 32) y)) _) (arrA_len (fun y => (arr_len (n := 32) y)) _) rfl (set_220_all xw_2 ((arrA ((fun _ => 0) : Arr 32 UInt8) [t29_1, t34] : ArrA 2 (Arr 32 UInt8)) : ArrA 2 (Arr 32 UInt8))) ?_))
            refine ⟨⟨⟨⟨⟨trivial, .inl (by kernel_rfl)⟩, .inl (by kernel_rfl)⟩, .inl (by kernel_rfl)⟩, .inl (by kernel_rfl)⟩, ?_⟩
            refine .done (by kernel_rfl) ?_
            exact QN.thenJ ⟨_, pair_2, setl_eq ⟨rfl, ⟨rfl, ⟨rfl, ⟨rfl, ⟨rfl, ⟨rfl, ⟨rfl, trivial⟩⟩⟩⟩⟩⟩⟩, hh⟩
        · rintro ρ h ⟨ρ', pair_1, rfl, hh⟩
          unfold once_Of.j2 at hh
          refine CW.seq ?_
          refine CW.region ?_
          obtain ⟨t36, ⟨xt36, hxt36, hgt36⟩, hh⟩ := hh
          refine .val (v_ldA (p := d_1) 0 ag_24 rfl hxt36 hgt36 get_24_all (fun _ => (arr_len (n := 32) _)) (fun _ => rfl)) rfl ?_
          refine .val (v_move (v := reg (t21 : Int)) rfl) rfl ?_
          refine .e (e_callP fn_105 rfl rfl hh ?_)
          intro h t38 hh
          refine .val (v_assign (v := reg (t38 : Int)) rfl) rfl ?_
          refine .nil ?_
          refine QN.then_ ?_
          refine CW.drawN 11 rfl follows_mixed [0, 1, 2, 3, 4, 5, 6, 7, 10] ?_
          refine .p 0 rfl (by kernel_rfl) (NoPanic.block (NoPanic.then_ (NoPanic.then_ (NoPanic.block (NoPanic.then_ (NoPanic.body)))))) (fun _ => v_move (v := reg (list : Sl)) rfl) ?_
          refine .p 1 rfl (by kernel_rfl) (NoPanic.block (NoPanic.then_ (NoPanic.then_ (NoPanic.block (NoPanic.then_ (NoPanic.body)))))) (fun _ => v_move (v := reg (t38 : Int)) rfl) ?_
          obtain ⟨i41, hi41, hh⟩ := hh
          refine .p 2 rfl (by kernel_rfl) (NoPanic.block (NoPanic.then_ (NoPanic.then_ (NoPanic.block (NoPanic.then_ (NoPanic.body)))))) (fun _ => v_idx_arrA ar_220 rfl rfl hi41) ?_
          obtain ⟨t42, ⟨xt42, hxt42, hgt42⟩, hh⟩ := hh
          refine .r 3 (fun h' => ∃ x : ArrA 2 (Arr 32 UInt8), AtH h' pair_1 (enc x) ∧ ((fun (x : ArrA 2 (Arr 32 UInt8)) => x.f i41) : ArrA 2 (Arr 32 UInt8) → Arr 32 UInt8) x = t42) rfl (by kernel_rfl) (NoPanic.block (NoPanic.then_ (NoPanic.then_ (NoPanic.block (NoPanic.then_ (NoPanic.body)))))) ⟨xt42, hxt42, hgt42⟩ (fun h' hS => hS.elim fun _ hS => v_ldA (p := pair_1) (i41.val * 32) ag_24 rfl hS.1 hS.2 (fun x => arrA_get (fun y => (arr_len (n := 32) y)) i41 x) (fun _ => (arr_len (n := 32) _)) (fun _ => rfl)) ?_
          refine .p 4 rfl (by kernel_rfl) (NoPanic.block (NoPanic.then_ (NoPanic.then_ (NoPanic.block (NoPanic.then_ (NoPanic.body)))))) (fun _ => v_move (v := reg (t38 : Int)) rfl) ?_
          refine .p 5 rfl (by kernel_rfl) (NoPanic.block (NoPanic.then_ (NoPanic.then_ (NoPanic.block (NoPanic.then_ (NoPanic.body)))))) (fun _ => v_isub rfl rfl) ?_
          obtain ⟨i45, hi45, hh⟩ := hh
          refine .p 6 rfl (by kernel_rfl) (NoPanic.block (NoPanic.then_ (NoPanic.then_ (NoPanic.block (NoPanic.then_ (NoPanic.body)))))) (fun _ => v_idx_arrA ar_220 rfl rfl hi45) ?_
          obtain ⟨t46, ⟨xt46, hxt46, hgt46⟩, hh⟩ := hh
          refine .r 7 (fun h' => ∃ x : ArrA 2 (Arr 32 UInt8), AtH h' pair_1 (enc x) ∧ ((fun (x : ArrA 2 (Arr 32 UInt8)) => x.f i45) : ArrA 2 (Arr 32 UInt8) → Arr 32 UInt8) x = t46) rfl (by kernel_rfl) (NoPanic.block (NoPanic.then_ (NoPanic.then_ (NoPanic.block (NoPanic.then_ (NoPanic.body)))))) ⟨xt46, hxt46, hgt46⟩ (fun h' hS => hS.elim fun _ hS => v_ldA (p := pair_1) (i45.val * 32) ag_24 rfl hS.1 hS.2 (fun x => arrA_get (fun y => (arr_len (n := 32) y)) i45 x) (fun _ => (arr_len (n := 32) _)) (fun _ => rfl)) ?_
          refine mks_elim hh (fun pt47 t47 hpt47 ht47 hh => ?_)
          refine .w 8 (by kernel_rfl) rfl (by kernel_rfl) (.e (e_mks [(t42 : Arr 32 UInt8), (t46 : Arr 32 UInt8)] hpt47 ht47 zo_24 sl_31 rfl rfl rfl rfl rfl ?_))
          refine ⟨⟨⟨trivial, .inl (by kernel_rfl)⟩, .inl (by kernel_rfl)⟩, ?_⟩
          refine .w 9 (by kernel_rfl) rfl (by kernel_rfl) (.e (e_app sl_31 zo_24 by_24 rfl rfl rfl hh ?_))
          intro h t48 hh
          refine ⟨⟨⟨trivial, .inl (by kernel_rfl)⟩, .inl (by kernel_rfl)⟩, ?_⟩
          refine .p 10 rfl (by kernel_rfl) (NoPanic.block (NoPanic.then_ (NoPanic.then_ (NoPanic.block (NoPanic.then_ (NoPanic.body)))))) (fun _ => v_assign (v := reg (t48 : Sl)) rfl) ?_
          refine .done (by kernel_rfl) ?_
          refine QN.blockN ?_
          refine QN.then_ ?_
          refine CW.region ?_
          refine .val (v_iadd rfl rfl) rfl ?_
          refine .val (v_move (v := reg ((iadd t21 (1 : Int)) : Int)) rfl) rfl ?_
          refine .nil ?_
          exact QN.thenJ ⟨(t48, (iadd t21 (1 : Int))), ⟨_, setl_eq ⟨rfl, ⟨rfl, ⟨rfl, ⟨rfl, ⟨rfl, trivial⟩⟩⟩⟩⟩⟩, hh⟩
      · have hh := hh.2 hb_1
        refine CW.exit ?_
        refine QN.thenExit ?_
        refine QN.thenExit ?_
        refine QN.blockExit ?_
        exact QN.thenJ ⟨_, list, setl_eq ⟨rfl, ⟨rfl, trivial⟩⟩, hh⟩
    · rintro ρ h ⟨ρ', list_2, rfl, hh⟩
      unfold once_Of.j1 at hh
      refine CW.seq ?_
      refine CW.region ?_
      refine .val (v_move (v := reg (list_2 : Sl)) rfl) rfl ?_
      refine .e (e_callP fn_103 rfl rfl hh ?_)
      intro h t51 hh
      obtain ⟨xw_3, hxw_3, hwxw_3, hh⟩ := hh
      refine .e (e_storeN (p := t4) (nv := enc (t51 : Arr 32 UInt8)) 0 rfl rfl rfl sz_24 (one_arr (n := 32) (fun _ => rfl) _) hxw_3 hwxw_3 (arr_len (n := 32) _) (arr_len (n := 32) _) rfl (set_24_all xw_3 (t51 : Arr 32 UInt8)) ?_)
      refine .val (v_assign (v := reg (true : Bool)) rfl) rfl ?_
      refine .nil ?_
      refine QN.then_ ?_
      refine CW.ret ?_
      obtain ⟨r4_1, ⟨xr4_1, hxr4_1, hgr4_1⟩, hh⟩ := hh
      have hr4_1 := ld_id hxr4_1 hgr4_1
      exact retc1 rfl rfl ag_24 hr4_1 (arr_len (n := 32) _) rfl ⟨(⟨r4_1, true⟩ : T2 (Arr 32 UInt8) Bool), rfl, hh⟩
end Go.Proofs.YtimmoekliphobaaDoor
namespace Go.Proofs.YtimmoekliphobaaDoor
open Go Go.Sh
open Go.Sh.Ty (reg)
set_option linter.unusedVariables false
set_option maxRecDepth 100000
set_option maxHeartbeats 4000000
theorem tree_Check.ok (root : Arr 32 UInt8) (leaf : Arr 32 UInt8) (at_ : Int) (count : Int) (path : Sl) (k : Bool → H → Prop) (h : H) (hh : tree_Check.b root leaf at_ count path k h) : CallsH Prog 109 [reg root, reg leaf, reg at_, reg count, reg path].toArray h fun v h' => ∃ r : Bool, v = reg r ∧ k r h' := by
  unfold tree_Check.b at hh
  refine CallsH.of 58 Tryd.func109 rfl Tryd.ntmps109 rfl (fun w0 => ?_)
  refine CW.seq ?_
  refine CW.region ?_
  refine box_elim hh (fun root_1 hroot_1 hh => ?_)
  refine .e (e_boxP hroot_1 rfl rfl rfl ?_)
  refine box_elim hh (fun leaf_1 hleaf_1 hh => ?_)
  refine .e (e_boxP hleaf_1 rfl rfl rfl ?_)
  refine .val (v_assign (v := reg (false : Bool)) rfl) rfl ?_
  refine .nil ?_
  refine QN.then_ ?_
  refine CW.seq ?_
  refine CW.seq ?_
  refine CW.region ?_
  refine .val (v_move (v := reg (at_ : Int)) rfl) rfl ?_
  refine .val (v_ilss rfl rfl) rfl ?_
  refine .val (v_move (v := reg ((decide (at_ < (0 : Int))) : Bool)) rfl) rfl ?_
  refine .fv 14 rfl rfl rfl (fun hb => v_move (v := reg (at_ : Int)) rfl) rfl ?_
  refine .fv 14 rfl rfl rfl (fun hb => v_move (v := reg (count : Int)) rfl) rfl ?_
  refine .fv 14 rfl rfl rfl (fun hb => v_igeq (gf hb) (gf hb)) rfl ?_
  refine .val (v_pick_or rfl rfl (fun hb => gf hb)) rfl ?_
  refine .nil ?_
  refine QN.then_ ?_
  refine CW.cond ((decide (at_ < (0 : Int))) || (decide (count ≤ at_))) rfl (fun hb => ?_) (fun hb => ?_)
  · have hh := hh.1 hb
    refine CW.seq ?_
    refine CW.region ?_
    refine .val (v_assign (v := reg (false : Bool)) rfl) rfl ?_
    refine .nil ?_
    refine QN.then_ ?_
    refine CW.ret ?_
    refine QN.thenRet ?_
    exact ret1 rfl rfl ⟨(false : Bool), rfl, hh⟩
  · have hh := hh.2 hb
    refine CW.skip ?_
    refine QN.then_ ?_
    refine CW.join (fun ρ h => ∃ (ρ' : Env) (path_4 : Sl), ρ = setl ρ' [(4, reg (path_4 : Sl)), (5, .pointer (some root_1)), (6, .pointer (some leaf_1))] ∧ (tree_Check.j1 k) path_4 root_1 leaf_1 h) ?_ ?_
    · refine CW.block ?_
      unfold tree_Check.l1 at hh
      refine CW.loop (fun (σ0 : Int × Int × Sl) ρ => match σ0 with | (at__1, count_1, path_1) => ∃ ρ' : Env, ρ = setl ρ' [(5, .pointer (some root_1)), (6, .pointer (some leaf_1)), (2, reg (at__1 : Int)), (3, reg (count_1 : Int)), (4, reg (path_1 : Sl))]) hh ⟨_, setl_eq ⟨rfl, ⟨rfl, ⟨rfl, ⟨rfl, ⟨rfl, trivial⟩⟩⟩⟩⟩⟩ ?_
      clear hh
      rintro s1 ⟨at__1, count_1, path_1⟩ ρ h ⟨ρ', rfl⟩ hh
      refine CW.seq ?_
      refine CW.seq ?_
      refine CW.region ?_
      refine .val (v_move (v := reg (count_1 : Int)) rfl) rfl ?_
      refine .val (v_igtr rfl rfl) rfl ?_
      refine .nil ?_
      refine QN.then_ ?_
      refine CW.cond (decide ((1 : Int) < count_1)) rfl (fun hb_1 => ?_) (fun hb_1 => ?_)
      · have hh := hh.1 hb_1
        refine CW.skip ?_
        refine QN.then_ ?_
        refine CW.join (fun ρ h => ∃ (ρ' : Env) (path_2 : Sl), ρ = setl ρ' [(2, reg (at__1 : Int)), (3, reg (count_1 : Int)), (4, reg (path_2 : Sl)), (5, .pointer (some root_1)), (6, .pointer (some leaf_1))] ∧ (tree_Check.j2 s1) at__1 count_1 path_2 root_1 leaf_1 h) ?_ ?_
        · refine CW.block ?_
          refine CW.seq ?_
          refine CW.region ?_
          refine .val (v_move (v := reg (at__1 : Int)) rfl) rfl ?_
          refine .val (v_ixor rfl rfl) rfl ?_
          refine .val (v_assign (v := reg ((ixor at__1 (1 : Int)) : Int)) rfl) rfl ?_
          refine .nil ?_
          refine QN.then_ ?_
          refine CW.seq ?_
          refine CW.seq ?_
          refine CW.region ?_
          refine .val (v_move (v := reg ((ixor at__1 (1 : Int)) : Int)) rfl) rfl ?_
          refine .val (v_move (v := reg (count_1 : Int)) rfl) rfl ?_
          refine .val (v_igeq rfl rfl) rfl ?_
          refine .nil ?_
          refine QN.then_ ?_
          refine CW.cond (decide (count_1 ≤ (ixor at__1 (1 : Int)))) rfl (fun hb_2 => ?_) (fun hb_2 => ?_)
          · have hh := hh.1 hb_2
            refine CW.exit ?_
            refine QN.thenExit ?_
            refine QN.blockExit ?_
            exact QN.thenJ ⟨_, path_1, setl_eq ⟨rfl, ⟨rfl, ⟨rfl, ⟨rfl, ⟨rfl, trivial⟩⟩⟩⟩⟩, hh⟩
          · have hh := hh.2 hb_2
            refine CW.skip ?_
            refine QN.then_ ?_
            refine CW.seq ?_
            refine CW.seq ?_
            refine CW.region ?_
            refine .val (v_move (v := reg (path_1 : Sl)) rfl) rfl ?_
            refine .val (v_len_sl (sl_31).1 rfl) rfl ?_
            refine .val (v_ieql rfl rfl) rfl ?_
            refine .nil ?_
            refine QN.then_ ?_
            refine CW.cond ((path_1.len : Int) == (0 : Int)) rfl (fun hb_3 => ?_) (fun hb_3 => ?_)
            · have hh := hh.1 hb_3
              refine CW.seq ?_
              refine CW.region ?_
              refine .val (v_assign (v := reg (false : Bool)) rfl) rfl ?_
              refine .nil ?_
              refine QN.then_ ?_
              refine CW.ret ?_
              refine QN.thenRet ?_
              refine QN.blockRet ?_
              refine QN.thenRet ?_
              refine QN.thenRet ?_
              refine QN.blockRet ?_
              refine QN.thenRet ?_
              exact ret1 rfl rfl ⟨(false : Bool), rfl, hh⟩
            · have hh := hh.2 hb_3
              refine CW.skip ?_
              refine QN.then_ ?_
              refine CW.join (fun ρ h => ∃ (ρ' : Env), ρ = setl ρ' [(2, reg (at__1 : Int)), (3, reg (count_1 : Int)), (4, reg (path_1 : Sl)), (5, .pointer (some root_1)), (6, .pointer (some leaf_1))] ∧ (tree_Check.j3 (tree_Check.j2 s1)) at__1 count_1 path_1 root_1 leaf_1 h) ?_ ?_
              · refine CW.seq ?_
                refine CW.region ?_
                refine .val (v_move (v := reg ((ixor at__1 (1 : Int)) : Int)) rfl) rfl ?_
                refine .val (v_move (v := reg (at__1 : Int)) rfl) rfl ?_
                refine .val (v_ilss rfl rfl) rfl ?_
                refine .nil ?_
                refine QN.then_ ?_
                refine CW.cond (decide ((ixor at__1 (1 : Int)) < at__1)) rfl (fun hb_4 => ?_) (fun hb_4 => ?_)
                · have hh := hh.1 hb_4
                  refine CW.drawN 6 rfl follows_mixed [0, 1, 2, 3] ?_
                  refine .p 0 rfl (by kernel_rfl) (NoPanic.then_ (NoPanic.block (NoPanic.then_ (NoPanic.then_ (NoPanic.block (NoPanic.then_ (NoPanic.body))))))) (fun _ => v_move (v := reg (path_1 : Sl)) rfl) ?_
                  obtain ⟨t39, ht39, hh⟩ := hh
                  refine .p 1 rfl (by kernel_rfl) (NoPanic.then_ (NoPanic.block (NoPanic.then_ (NoPanic.then_ (NoPanic.block (NoPanic.then_ (NoPanic.body))))))) (fun _ => v_idx_slP sl_31 rfl rfl ht39.1 ht39.2.1 ht39.2.2) ?_
                  obtain ⟨t40, ⟨xt40, hxt40, hgt40⟩, hh⟩ := hh
                  refine .r 2 (fun h' => ∃ x : Arr 32 UInt8, AtH h' t39 (enc x) ∧ ((fun (x : Arr 32 UInt8) => x) : Arr 32 UInt8 → Arr 32 UInt8) x = t40) rfl (by kernel_rfl) (NoPanic.then_ (NoPanic.block (NoPanic.then_ (NoPanic.then_ (NoPanic.block (NoPanic.then_ (NoPanic.body))))))) ⟨xt40, hxt40, hgt40⟩ (fun h' hS => hS.elim fun _ hS => v_ldA (p := t39) 0 ag_24 rfl hS.1 hS.2 get_24_all (fun _ => (arr_len (n := 32) _)) (fun _ => rfl)) ?_
                  obtain ⟨t41, ⟨xt41, hxt41, hgt41⟩, hh⟩ := hh
                  refine .r 3 (fun h' => ∃ x : Arr 32 UInt8, AtH h' leaf_1 (enc x) ∧ ((fun (x : Arr 32 UInt8) => x) : Arr 32 UInt8 → Arr 32 UInt8) x = t41) rfl (by kernel_rfl) (NoPanic.then_ (NoPanic.block (NoPanic.then_ (NoPanic.then_ (NoPanic.block (NoPanic.then_ (NoPanic.body))))))) ⟨xt41, hxt41, hgt41⟩ (fun h' hS => hS.elim fun _ hS => v_ldA (p := leaf_1) 0 ag_24 rfl hS.1 hS.2 get_24_all (fun _ => (arr_len (n := 32) _)) (fun _ => rfl)) ?_
                  refine .w 4 (by kernel_rfl) rfl (by kernel_rfl) (.e (e_callP fn_121 rfl rfl hh ?_))
                  intro h t42 hh
                  refine ⟨⟨⟨trivial, .inl (by kernel_rfl)⟩, .inl (by kernel_rfl)⟩, ?_⟩
                  obtain ⟨xw, hxw, hwxw, hh⟩ := hh
                  refine .w 5 (by kernel_rfl) rfl (by kernel_rfl) (.e (e_storeN (p := leaf_1) (nv := enc (t42 : Arr 32 UInt8)) 0 rfl rfl rfl sz_24 (one_arr (n := 32) (fun _ => rfl) _) hxw hwxw (arr_len (n := 32) _) (arr_len (n := 32) _) rfl (set_24_all xw (t42 : Arr 32 UInt8)) ?_))
                  refine ⟨⟨⟨trivial, .inl (by kernel_rfl)⟩, .inl (by kernel_rfl)⟩, ?_⟩
                  refine .done (by kernel_rfl) ?_
                  exact QN.thenJ ⟨_, setl_eq ⟨rfl, ⟨rfl, ⟨rfl, ⟨rfl, ⟨rfl, trivial⟩⟩⟩⟩⟩, hh⟩
                · have hh := hh.2 hb_4
                  refine CW.drawN 6 rfl follows_mixed [0, 1, 2, 3] ?_
                  obtain ⟨t43, ⟨xt43, hxt43, hgt43⟩, hh⟩ := hh
                  refine .r 0 (fun h' => ∃ x : Arr 32 UInt8, AtH h' leaf_1 (enc x) ∧ ((fun (x : Arr 32 UInt8) => x) : Arr 32 UInt8 → Arr 32 UInt8) x = t43) rfl (by kernel_rfl) (NoPanic.then_ (NoPanic.block (NoPanic.then_ (NoPanic.then_ (NoPanic.block (NoPanic.then_ (NoPanic.body))))))) ⟨xt43, hxt43, hgt43⟩ (fun h' hS => hS.elim fun _ hS => v_ldA (p := leaf_1) 0 ag_24 rfl hS.1 hS.2 get_24_all (fun _ => (arr_len (n := 32) _)) (fun _ => rfl)) ?_
                  refine .p 1 rfl (by kernel_rfl) (NoPanic.then_ (NoPanic.block (NoPanic.then_ (NoPanic.then_ (NoPanic.block (NoPanic.then_ (NoPanic.body))))))) (fun _ => v_move (v := reg (path_1 : Sl)) rfl) ?_
                  obtain ⟨t45, ht45, hh⟩ := hh
                  refine .p 2 rfl (by kernel_rfl) (NoPanic.then_ (NoPanic.block (NoPanic.then_ (NoPanic.then_ (NoPanic.block (NoPanic.then_ (NoPanic.body))))))) (fun _ => v_idx_slP sl_31 rfl rfl ht45.1 ht45.2.1 ht45.2.2) ?_
                  obtain ⟨t46, ⟨xt46, hxt46, hgt46⟩, hh⟩ := hh
                  refine .r 3 (fun h' => ∃ x : Arr 32 UInt8, AtH h' t45 (enc x) ∧ ((fun (x : Arr 32 UInt8) => x) : Arr 32 UInt8 → Arr 32 UInt8) x = t46) rfl (by kernel_rfl) (NoPanic.then_ (NoPanic.block (NoPanic.then_ (NoPanic.then_ (NoPanic.block (NoPanic.then_ (NoPanic.body))))))) ⟨xt46, hxt46, hgt46⟩ (fun h' hS => hS.elim fun _ hS => v_ldA (p := t45) 0 ag_24 rfl hS.1 hS.2 get_24_all (fun _ => (arr_len (n := 32) _)) (fun _ => rfl)) ?_
                  refine .w 4 (by kernel_rfl) rfl (by kernel_rfl) (.e (e_callP fn_121 rfl rfl hh ?_))
                  intro h t47 hh
                  refine ⟨⟨⟨trivial, .inl (by kernel_rfl)⟩, .inl (by kernel_rfl)⟩, ?_⟩
                  obtain ⟨xw_1, hxw_1, hwxw_1, hh⟩ := hh
                  refine .w 5 (by kernel_rfl) rfl (by kernel_rfl) (.e (e_storeN (p := leaf_1) (nv := enc (t47 : Arr 32 UInt8)) 0 rfl rfl rfl sz_24 (one_arr (n := 32) (fun _ => rfl) _) hxw_1 hwxw_1 (arr_len (n := 32) _) (arr_len (n := 32) _) rfl (set_24_all xw_1 (t47 : Arr 32 UInt8)) ?_))
                  refine ⟨⟨⟨trivial, .inl (by kernel_rfl)⟩, .inl (by kernel_rfl)⟩, ?_⟩
                  refine .done (by kernel_rfl) ?_
                  exact QN.thenJ ⟨_, setl_eq ⟨rfl, ⟨rfl, ⟨rfl, ⟨rfl, ⟨rfl, trivial⟩⟩⟩⟩⟩, hh⟩
              · rintro ρ h ⟨ρ', rfl, hh⟩
                unfold tree_Check.j3 at hh
                refine CW.region ?_
                refine .val (v_move (v := reg (path_1 : Sl)) rfl) rfl ?_
                obtain ⟨hm, hh⟩ := hh
                refine .val (v_slice_ll sl_31 rfl rfl hm.1 hm.2) rfl ?_
                refine .val (v_assign (v := reg ((path_1.cut 32 (1 : Int).toNat path_1.len path_1.cap) : Sl)) rfl) rfl ?_
                refine .nil ?_
                refine QN.blockN ?_
                exact QN.thenJ ⟨_, (path_1.cut 32 (1 : Int).toNat path_1.len path_1.cap), setl_eq ⟨rfl, ⟨rfl, ⟨rfl, ⟨rfl, ⟨rfl, trivial⟩⟩⟩⟩⟩, hh⟩
        · rintro ρ h ⟨ρ', path_2, rfl, hh⟩
          unfold tree_Check.j2 at hh
          refine CW.region ?_
          refine .val (v_move (v := reg (at__1 : Int)) rfl) rfl ?_
          refine .val (v_iquo rfl rfl (by decide)) rfl ?_
          refine .val (v_move (v := reg (count_1 : Int)) rfl) rfl ?_
          refine .val (v_isub rfl rfl) rfl ?_
          refine .val (v_iquo rfl rfl (by decide)) rfl ?_
          refine .val (v_iadd rfl rfl) rfl ?_
          refine .val (v_assign (v := reg ((iquo at__1 (2 : Int)) : Int)) rfl) rfl ?_
          refine .val (v_assign (v := reg ((iadd (iquo (isub count_1 (1 : Int)) (2 : Int)) (1 : Int)) : Int)) rfl) rfl ?_
          refine .nil ?_
          exact QN.thenJ ⟨((iquo at__1 (2 : Int)), (iadd (iquo (isub count_1 (1 : Int)) (2 : Int)) (1 : Int)), path_2), ⟨_, setl_eq ⟨rfl, ⟨rfl, ⟨rfl, ⟨rfl, ⟨rfl, trivial⟩⟩⟩⟩⟩⟩, hh⟩
      · have hh := hh.2 hb_1
        refine CW.exit ?_
        refine QN.thenExit ?_
        refine QN.thenExit ?_
        refine QN.blockExit ?_
        exact QN.thenJ ⟨_, path_1, setl_eq ⟨rfl, ⟨rfl, ⟨rfl, trivial⟩⟩⟩, hh⟩
    · rintro ρ h ⟨ρ', path_4, rfl, hh⟩
      unfold tree_Check.j1 at hh
      refine CW.seq ?_
      refine CW.region ?_
      refine .val (v_move (v := reg (path_4 : Sl)) rfl) rfl ?_
      refine .val (v_len_sl (sl_31).1 rfl) rfl ?_
      refine .val (v_ieql rfl rfl) rfl ?_
      refine .val (v_move (v := reg (((path_4.len : Int) == (0 : Int)) : Bool)) rfl) rfl ?_
      obtain ⟨t54, ⟨xt54, hxt54, hgt54⟩, hh⟩ := hh
      refine .tv 53 rfl rfl rfl (fun hb => v_ldA (p := leaf_1) 0 ag_24 rfl hxt54 hgt54 get_24_all (fun _ => (arr_len (n := 32) _)) (fun _ => rfl)) rfl ?_
      obtain ⟨t55, ⟨xt55, hxt55, hgt55⟩, hh⟩ := hh
      refine .tv 53 rfl rfl rfl (fun hb => v_ldA (p := root_1) 0 ag_24 rfl hxt55 hgt55 get_24_all (fun _ => (arr_len (n := 32) _)) (fun _ => rfl)) rfl ?_
      refine .tv 53 rfl rfl rfl (fun hb => v_eq_arr8 bt_24 (gt hb) (gt hb)) rfl ?_
      refine .val (v_pick_and rfl (fun hb => gt hb) rfl) rfl ?_
      refine .val (v_assign (v := reg ((((path_4.len : Int) == (0 : Int)) && (decide (t54 = t55))) : Bool)) rfl) rfl ?_
      refine .nil ?_
      refine QN.then_ ?_
      refine CW.ret ?_
      exact ret1 rfl rfl ⟨((((path_4.len : Int) == (0 : Int)) && (decide (t54 = t55))) : Bool), rfl, hh⟩
end Go.Proofs.YtimmoekliphobaaDoor

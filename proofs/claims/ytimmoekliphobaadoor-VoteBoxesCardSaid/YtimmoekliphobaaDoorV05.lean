/-
  THE CARD OF wapentakelaw13.VoteBoxes: for every input that the row lets in, VoteBoxes returns true and its arguments read as they did. Part 5 of 6. No condition stands ahead of the statement. Parts of this text were printed by a program of ours.
-/
import Derived.Test.YtimmoekliphobaaDoorV04
import Derived.OpenShut
import Derived.Deep.Slices
import Derived.WalkKit
import Derived.ProofKit
import Derived.Test.YtimmoekliphobaaDoorTie
import Derived.Deep.DeepHandedRow
import Derived.Test.YtimmoekliphobaaDoorCards
import Derived.Lib.LaidTab
set_option linter.all false
namespace Go.Proofs.YtimmoekliphobaaDoor
open Go Go.Sh
open Go.Sh.Ty (reg)
set_option linter.unusedVariables false
set_option maxRecDepth 100000
set_option maxHeartbeats 4000000
theorem vote_Box_Winner.ok (b : Pt) (kind : Int) (quorum : Int) (k : (T3 (Arr 32 UInt8) Int Bool) → H → Prop) (h : H) (hh : vote_Box_Winner.b b kind quorum k h) : CallsH Prog 22 [reg b, reg kind, reg quorum].toArray h fun v h' => ∃ r : T3 (Arr 32 UInt8) Int Bool, v = reg r ∧ k r h' := by
  unfold vote_Box_Winner.b at hh
  refine CallsH.of 94 Tryd.func22 rfl Tryd.ntmps22 rfl (fun w0 => ?_)
  refine CW.seq ?_
  refine CW.region ?_
  refine box_elim hh (fun t6 ht6 hh => ?_)
  refine .e (e_allocP ht6 zo_24 rfl ?_)
  refine .val (v_assign (v := reg ((0 : Int) : Int)) rfl) rfl ?_
  refine .val (v_assign (v := reg (false : Bool)) rfl) rfl ?_
  refine .nil ?_
  refine QN.then_ ?_
  refine CW.seq ?_
  refine CW.region ?_
  refine .e (e_callP fn_51 rfl rfl hh ?_)
  intro h t18 hh
  refine box_elim hh (fun best hbest hh => ?_)
  refine .e (e_allocP hbest zo_24 rfl ?_)
  obtain ⟨xw, hxw, hwxw, hh⟩ := hh
  refine .e (e_storeN (p := best) (nv := enc (t18 : Arr 32 UInt8)) 0 rfl rfl rfl sz_24 (one_arr (n := 32) (fun _ => rfl) _) hxw hwxw (arr_len (n := 32) _) (arr_len (n := 32) _) rfl (set_24_all xw (t18 : Arr 32 UInt8)) ?_)
  refine .val (v_assign (v := reg ((0 : Int) : Int)) rfl) rfl ?_
  refine .val (v_assign (v := reg (false : Bool)) rfl) rfl ?_
  refine .nil ?_
  refine QN.then_ ?_
  refine CW.seq ?_
  refine CW.seq ?_
  refine CW.region ?_
  refine .val (v_move (v := reg (b : Pt)) rfl) rfl ?_
  refine .val (v_eq_nil pt_26 rfl rfl) rfl ?_
  refine .nil ?_
  refine QN.then_ ?_
  refine CW.cond b.isNone rfl (fun hb => ?_) (fun hb => ?_)
  · have hh := hh.1 hb
    refine CW.seq ?_
    refine CW.region ?_
    refine .e (e_callP fn_51 rfl rfl hh ?_)
    intro h t21 hh
    obtain ⟨xw_1, hxw_1, hwxw_1, hh⟩ := hh
    refine .e (e_storeN (p := t6) (nv := enc (t21 : Arr 32 UInt8)) 0 rfl rfl rfl sz_24 (one_arr (n := 32) (fun _ => rfl) _) hxw_1 hwxw_1 (arr_len (n := 32) _) (arr_len (n := 32) _) rfl (set_24_all xw_1 (t21 : Arr 32 UInt8)) ?_)
    refine .val (v_assign (v := reg ((0 : Int) : Int)) rfl) rfl ?_
    refine .val (v_assign (v := reg (false : Bool)) rfl) rfl ?_
    refine .nil ?_
    refine QN.then_ ?_
    refine CW.ret ?_
    refine QN.thenRet ?_
    obtain ⟨r6, ⟨xr6, hxr6, hgr6⟩, hh⟩ := hh
    have hr6 := ld_id hxr6 hgr6
    exact retc2 rfl rfl ag_24 hr6 (arr_len (n := 32) _) rfl rfl ⟨(⟨r6, (0 : Int), false⟩ : T3 (Arr 32 UInt8) Int Bool), rfl, hh⟩
  · have hh := hh.2 hb
    refine CW.skip ?_
    refine QN.then_ ?_
    refine CW.seq ?_
    refine CW.region ?_
    refine .e (e_mkmap rfl hh ?_)
    intro h t22 hh
    refine .val (v_assign (v := reg (t22 : Mp)) rfl) rfl ?_
    refine .nil ?_
    refine QN.then_ ?_
    refine CW.join (fun ρ h => ∃ (ρ' : Env), ρ = setl ρ' [(2, reg (quorum : Int)), (6, .pointer (some t6)), (9, .pointer (some best)), (10, reg ((0 : Int) : Int)), (11, reg (false : Bool)), (12, reg (t22 : Mp))] ∧ (vote_Box_Winner.j1 k) quorum t6 best (0 : Int) false t22 h) ?_ ?_
    · refine CW.seq ?_
      refine CW.region ?_
      refine .val (v_move (v := reg (b : Pt)) rfl) rfl ?_
      obtain ⟨p, hp, hh⟩ := hh
      refine .val (v_nilCheck (congrArg Value.pointer hp)) rfl ?_
      refine .val (v_fieldAddr fl_113_0 rfl) rfl ?_
      obtain ⟨t26, ⟨xt26, hxt26, hgt26⟩, hh⟩ := hh
      refine .val (v_ld1 (p := p) 0 na_111 rfl hxt26 hgt26 get_113_votes) rfl ?_
      refine .e (e_rng ([] : List (vote_place × api_Vote)) mt_111 rfl rfl hh ?_)
      intro h t27 hh
      refine .nil ?_
      refine QN.then_ ?_
      refine CW.block ?_
      unfold vote_Box_Winner.l1 at hh
      refine CW.loop (fun (σ0 : Unit) ρ => match σ0 with | _ => ∃ ρ' : Env, ρ = setl ρ' [(1, reg (kind : Int)), (2, reg (quorum : Int)), (6, .pointer (some t6)), (9, .pointer (some best)), (10, reg ((0 : Int) : Int)), (11, reg (false : Bool)), (12, reg (t22 : Mp)), (27, .pointer (some t27))]) hh ⟨_, setl_eq ⟨rfl, ⟨rfl, ⟨rfl, ⟨rfl, ⟨rfl, ⟨rfl, ⟨rfl, ⟨rfl, trivial⟩⟩⟩⟩⟩⟩⟩⟩⟩ ?_
      clear hh
      rintro s1 ⟨⟩ ρ h ⟨ρ', rfl⟩ hh
      refine CW.seq ?_
      refine CW.region ?_
      refine .e (e_nxt rfl rfl hh ?_)
      intro h t28 hh
      refine .val (v_extnx (n := t28) rfl) rfl ?_
      refine .nil ?_
      refine QN.then_ ?_
      refine CW.seq ?_
      refine CW.cond t28.o.isSome rfl (fun hb_1 => ?_) (fun hb_1 => ?_)
      · have hh := hh.1 hb_1
        refine CW.skip ?_
        refine QN.then_ ?_
        refine CW.block ?_
        refine CW.seq ?_
        refine CW.region ?_
        obtain ⟨t30, hxt30, hh⟩ := hh
        refine .val (v_ent (q := (t30 : T2 vote_place api_Vote)) rfl hxt30) rfl ?_
        refine .val (v_extract (v := reg (t30.a : vote_place)) rfl rfl) rfl ?_
        refine .val (v_extract (v := reg (t30.b : api_Vote)) rfl rfl) rfl ?_
        refine box_elim hh (fun p_1 hp_1 hh => ?_)
        refine .e (e_allocP hp_1 zo_115 rfl ?_)
        refine box_elim hh (fun v hv hh => ?_)
        refine .e (e_allocP hv zo_37 rfl ?_)
        obtain ⟨xw_2, hxw_2, hwxw_2, hh⟩ := hh
        refine .e (e_storeN (p := p_1) (nv := enc (t30.a : vote_place)) 0 rfl rfl rfl sz_115 (one_vote_place _) hxw_2 hwxw_2 (len_vote_place _) (len_vote_place _) rfl (set_115_all xw_2 (t30.a : vote_place)) ?_)
        obtain ⟨xw_3, hxw_3, hwxw_3, hh⟩ := hh
        refine .e (e_storeN (p := v) (nv := enc (t30.b : api_Vote)) 0 rfl rfl rfl sz_37 (one_api_Vote _) hxw_3 hwxw_3 (len_api_Vote _) (len_api_Vote _) rfl (set_37_all xw_3 (t30.b : api_Vote)) ?_)
        refine .nil ?_
        refine QN.then_ ?_
        refine CW.join (fun ρ h => ∃ (ρ' : Env) (t42 : Bool), ρ = setl ρ' [(1, reg (kind : Int)), (2, reg (quorum : Int)), (6, .pointer (some t6)), (9, .pointer (some best)), (10, reg ((0 : Int) : Int)), (11, reg (false : Bool)), (12, reg (t22 : Mp)), (13, .pointer (some p_1)), (14, .pointer (some v)), (27, .pointer (some t27)), (42, reg (t42 : Bool))] ∧ (vote_Box_Winner.j2 s1) kind quorum t6 best (0 : Int) false t22 p_1 v t27 t42 h) ?_ ?_
        · refine CW.drawN 10 rfl follows_mixed [0, 1, 2, 3, 4, 5, 6, 8, 9] ?_
          refine .p 0 rfl (by kernel_rfl) (NoPanic.then_ (NoPanic.block (NoPanic.then_ (NoPanic.block (NoPanic.then_ (NoPanic.body)))))) (fun _ => v_fieldAddr fl_115_0 rfl) ?_
          obtain ⟨t34, ⟨xt34, hxt34, hgt34⟩, hh⟩ := hh
          refine .r 1 (fun h' => ∃ x : vote_place, AtH h' p_1 (enc x) ∧ ((fun (x : vote_place) => x.kind) : vote_place → Int) x = t34) rfl (by kernel_rfl) (NoPanic.then_ (NoPanic.block (NoPanic.then_ (NoPanic.block (NoPanic.then_ (NoPanic.body)))))) ⟨xt34, hxt34, hgt34⟩ (fun h' hS => hS.elim fun _ hS => v_ld1 (p := p_1) 0 na_3 rfl hS.1 hS.2 get_115_kind) ?_
          refine .p 2 rfl (by kernel_rfl) (NoPanic.then_ (NoPanic.block (NoPanic.then_ (NoPanic.block (NoPanic.then_ (NoPanic.body)))))) (fun _ => v_move (v := reg (kind : Int)) rfl) ?_
          refine .p 3 rfl (by kernel_rfl) (NoPanic.then_ (NoPanic.block (NoPanic.then_ (NoPanic.block (NoPanic.then_ (NoPanic.body)))))) (fun _ => v_ieql rfl rfl) ?_
          refine .p 4 rfl (by kernel_rfl) (NoPanic.then_ (NoPanic.block (NoPanic.then_ (NoPanic.block (NoPanic.then_ (NoPanic.body)))))) (fun _ => v_move (v := reg ((t34 == kind) : Bool)) rfl) ?_
          refine ifb_cases hh (fun hb_2 hh => ?_) (fun hb_2 hh => ?_)
          · refine .yp 5 37 rfl rfl (congrArg Value.bool hb_2) rfl (by kernel_rfl) (NoPanic.then_ (NoPanic.block (NoPanic.then_ (NoPanic.block (NoPanic.then_ (NoPanic.body)))))) (fun _ => v_fieldAddr fl_37_4 rfl) ?_
            obtain ⟨t39, ⟨xt39, hxt39, hgt39⟩, hh⟩ := hh
            refine .yr 6 37 (fun h' => ∃ x : api_Vote, AtH h' v (enc x) ∧ ((fun (x : api_Vote) => x.Digest) : api_Vote → Arr 32 UInt8) x = t39) rfl rfl (congrArg Value.bool hb_2) rfl (by kernel_rfl) (NoPanic.then_ (NoPanic.block (NoPanic.then_ (NoPanic.block (NoPanic.then_ (NoPanic.body)))))) ⟨xt39, hxt39, hgt39⟩ (fun h' hS => hS.elim fun _ hS => v_ldA (p := v) 4 ag_24 rfl hS.1 hS.2 get_37_Digest (fun _ => (arr_len (n := 32) _)) (fun _ => rfl)) ?_
            refine .w 7 (by kernel_rfl) rfl (by kernel_rfl) (.ye 37 rfl (congrArg Value.bool hb_2) rfl (e_callP fn_51 rfl rfl hh ?_))
            intro h t40 hh
            obtain ⟨hc, hh⟩ := hh
            refine ⟨⟨⟨trivial, .inl (by kernel_rfl)⟩, .inr hc⟩, ?_⟩
            refine .yp 8 37 rfl rfl (congrArg Value.bool hb_2) rfl (by kernel_rfl) (NoPanic.then_ (NoPanic.block (NoPanic.then_ (NoPanic.block (NoPanic.then_ (NoPanic.body)))))) (fun _ => v_ne_arr8 bt_24 rfl rfl) ?_
            refine .p 9 rfl (by kernel_rfl) (NoPanic.then_ (NoPanic.block (NoPanic.then_ (NoPanic.block (NoPanic.then_ (NoPanic.body)))))) (fun _ => v_pickT (v := reg ((!decide (t39 = t40)) : Bool)) rfl hb_2 rfl) ?_
            refine .done (by kernel_rfl) ?_
            exact QN.thenJ ⟨_, (!decide (t39 = t40)), setl_eq ⟨rfl, ⟨rfl, ⟨rfl, ⟨rfl, ⟨rfl, ⟨rfl, ⟨rfl, ⟨rfl, ⟨rfl, ⟨rfl, ⟨rfl, trivial⟩⟩⟩⟩⟩⟩⟩⟩⟩⟩⟩, hh⟩
          · refine .no' 5 37 rfl rfl (congrArg Value.bool hb_2) rfl (by kernel_rfl) (NoPanic.then_ (NoPanic.block (NoPanic.then_ (NoPanic.block (NoPanic.then_ (NoPanic.body)))))) ?_
            refine .no' 6 37 rfl rfl (congrArg Value.bool hb_2) rfl (by kernel_rfl) (NoPanic.then_ (NoPanic.block (NoPanic.then_ (NoPanic.block (NoPanic.then_ (NoPanic.body)))))) ?_
            refine .w 7 (by kernel_rfl) rfl (by kernel_rfl) (.no 37 rfl (congrArg Value.bool hb_2) rfl rfl ⟨⟨trivial, .inl (by kernel_rfl)⟩, ?_⟩)
            refine .no' 8 37 rfl rfl (congrArg Value.bool hb_2) rfl (by kernel_rfl) (NoPanic.then_ (NoPanic.block (NoPanic.then_ (NoPanic.block (NoPanic.then_ (NoPanic.body)))))) ?_
            refine .p 9 rfl (by kernel_rfl) (NoPanic.then_ (NoPanic.block (NoPanic.then_ (NoPanic.block (NoPanic.then_ (NoPanic.body)))))) (fun _ => v_pickF (v := reg (false : Bool)) rfl hb_2 rfl) ?_
            refine .done (by kernel_rfl) ?_
            exact QN.thenJ ⟨_, false, setl_eq ⟨rfl, ⟨rfl, ⟨rfl, ⟨rfl, ⟨rfl, ⟨rfl, ⟨rfl, ⟨rfl, ⟨rfl, ⟨rfl, ⟨rfl, trivial⟩⟩⟩⟩⟩⟩⟩⟩⟩⟩⟩, hh⟩
        · rintro ρ h ⟨ρ', t42, rfl, hh⟩
          unfold vote_Box_Winner.j2 at hh
          refine CW.cond t42 rfl (fun hb_3 => ?_) (fun hb_3 => ?_)
          · have hh := hh.1 hb_3
            refine CW.drawN 11 rfl follows_mixed [0, 1, 2, 3, 4, 5, 6, 7, 9] ?_
            refine .p 0 rfl (by kernel_rfl) (NoPanic.block (NoPanic.then_ (NoPanic.block (NoPanic.then_ (NoPanic.body))))) (fun _ => v_move (v := reg (t22 : Mp)) rfl) ?_
            refine .p 1 rfl (by kernel_rfl) (NoPanic.block (NoPanic.then_ (NoPanic.block (NoPanic.then_ (NoPanic.body))))) (fun _ => v_fieldAddr fl_115_1 rfl) ?_
            obtain ⟨t45, ⟨xt45, hxt45, hgt45⟩, hh⟩ := hh
            refine .r 2 (fun h' => ∃ x : vote_place, AtH h' p_1 (enc x) ∧ ((fun (x : vote_place) => x.round) : vote_place → Int) x = t45) rfl (by kernel_rfl) (NoPanic.block (NoPanic.then_ (NoPanic.block (NoPanic.then_ (NoPanic.body))))) ⟨xt45, hxt45, hgt45⟩ (fun h' hS => hS.elim fun _ hS => v_ld1 (p := p_1) 1 na_3 rfl hS.1 hS.2 get_115_round) ?_
            refine .p 3 rfl (by kernel_rfl) (NoPanic.block (NoPanic.then_ (NoPanic.block (NoPanic.then_ (NoPanic.body))))) (fun _ => v_fieldAddr fl_37_4 rfl) ?_
            obtain ⟨t47, ⟨xt47, hxt47, hgt47⟩, hh⟩ := hh
            refine .r 4 (fun h' => ∃ x : api_Vote, AtH h' v (enc x) ∧ ((fun (x : api_Vote) => x.Digest) : api_Vote → Arr 32 UInt8) x = t47) rfl (by kernel_rfl) (NoPanic.block (NoPanic.then_ (NoPanic.block (NoPanic.then_ (NoPanic.body))))) ⟨xt47, hxt47, hgt47⟩ (fun h' hS => hS.elim fun _ hS => v_ldA (p := v) 4 ag_24 rfl hS.1 hS.2 get_37_Digest (fun _ => (arr_len (n := 32) _)) (fun _ => rfl)) ?_
            refine .p 5 rfl (by kernel_rfl) (NoPanic.block (NoPanic.then_ (NoPanic.block (NoPanic.then_ (NoPanic.body))))) (fun _ => v_buildT ({ round := t45, digest := t47 } : vote_choice) zo_128 pl_128 rfl (fill_step rfl rfl (len_i _) (len_vote_choice _) rfl (set_128_round _ _) (fill_step rfl rfl (arr_len (n := 32) _) (len_vote_choice _) rfl (set_128_digest _ _) (rfl))) rfl) ?_
            obtain ⟨t49, ⟨xt49, hxt49, hgt49⟩, hh⟩ := hh
            refine .r 6 (fun h' => ∃ l : List (vote_choice × Int), MapIs h' t22 l ∧ (fun (l : List (vote_choice × Int)) => (mlook (0 : Int) l (({ round := t45, digest := t47 } : vote_choice) : vote_choice)).a) l = t49) rfl (by kernel_rfl) (NoPanic.block (NoPanic.then_ (NoPanic.block (NoPanic.then_ (NoPanic.body))))) ⟨xt49, hxt49, hgt49⟩ (fun h' hS => hS.elim fun _ hS => v_lookup mt_126 kt_128 zv_3 rfl rfl hS.1 hS.2) ?_
            refine .p 7 rfl (by kernel_rfl) (NoPanic.block (NoPanic.then_ (NoPanic.block (NoPanic.then_ (NoPanic.body))))) (fun _ => v_iadd rfl rfl) ?_
            refine .w 8 (by kernel_rfl) rfl (by kernel_rfl) (.e (e_ment mt_126 kt_128 zv_3 rfl rfl rfl hh ?_))
            intro h t51 hh
            obtain ⟨hc_1, hh⟩ := hh
            refine ⟨⟨⟨⟨trivial, .inl (by kernel_rfl)⟩, .inl (by kernel_rfl)⟩, .inr hc_1⟩, ?_⟩
            refine .p 9 rfl (by kernel_rfl) (NoPanic.block (NoPanic.then_ (NoPanic.block (NoPanic.then_ (NoPanic.body))))) (fun _ => v_extract (v := reg (t51.b : Int)) rfl rfl) ?_
            refine .w 10 (by kernel_rfl) rfl (by kernel_rfl) (.e (e_mste ([] : List (vote_choice × Int)) rfl rfl rfl hh ?_))
            intro h hh
            refine ⟨⟨⟨⟨trivial, .inl (by kernel_rfl)⟩, .inl (by kernel_rfl)⟩, .inl (by kernel_rfl)⟩, ?_⟩
            refine .done (by kernel_rfl) ?_
            refine QN.blockN ?_
            exact QN.thenJ ⟨(), ⟨_, setl_eq ⟨rfl, ⟨rfl, ⟨rfl, ⟨rfl, ⟨rfl, ⟨rfl, ⟨rfl, ⟨rfl, trivial⟩⟩⟩⟩⟩⟩⟩⟩⟩, hh⟩
          · have hh := hh.2 hb_3
            refine CW.skip ?_
            refine QN.blockN ?_
            exact QN.thenJ ⟨(), ⟨_, setl_eq ⟨rfl, ⟨rfl, ⟨rfl, ⟨rfl, ⟨rfl, ⟨rfl, ⟨rfl, ⟨rfl, trivial⟩⟩⟩⟩⟩⟩⟩⟩⟩, hh⟩
      · have hh := hh.2 hb_1
        refine CW.exit ?_
        refine QN.thenExit ?_
        refine QN.thenExit ?_
        refine QN.blockExit ?_
        exact QN.thenJ ⟨_, setl_eq ⟨rfl, ⟨rfl, ⟨rfl, ⟨rfl, ⟨rfl, ⟨rfl, trivial⟩⟩⟩⟩⟩⟩, hh⟩
    · rintro ρ h ⟨ρ', rfl, hh⟩
      unfold vote_Box_Winner.j1 at hh
      refine CW.join (fun ρ h => ∃ (ρ' : Env) (at__5 : Int) (found_5 : Bool), ρ = setl ρ' [(6, .pointer (some t6)), (9, .pointer (some best)), (10, reg (at__5 : Int)), (11, reg (found_5 : Bool))] ∧ (vote_Box_Winner.j3 k) t6 best at__5 found_5 h) ?_ ?_
      · refine CW.seq ?_
        refine CW.region ?_
        refine .val (v_move (v := reg (t22 : Mp)) rfl) rfl ?_
        refine .e (e_rng ([] : List (vote_choice × Int)) mt_126 rfl rfl hh ?_)
        intro h t54 hh
        refine .nil ?_
        refine QN.then_ ?_
        refine CW.block ?_
        unfold vote_Box_Winner.l2 at hh
        refine CW.loop (fun (σ0 : Int × Bool) ρ => match σ0 with | (at__3, found_3) => ∃ ρ' : Env, ρ = setl ρ' [(2, reg (quorum : Int)), (6, .pointer (some t6)), (9, .pointer (some best)), (54, .pointer (some t54)), (10, reg (at__3 : Int)), (11, reg (found_3 : Bool))]) hh ⟨_, setl_eq ⟨rfl, ⟨rfl, ⟨rfl, ⟨rfl, ⟨rfl, ⟨rfl, trivial⟩⟩⟩⟩⟩⟩⟩ ?_
        clear hh
        rintro s2 ⟨at__3, found_3⟩ ρ h ⟨ρ', rfl⟩ hh
        refine CW.seq ?_
        refine CW.region ?_
        refine .e (e_nxt rfl rfl hh ?_)
        intro h t55 hh
        refine .val (v_extnx (n := t55) rfl) rfl ?_
        refine .nil ?_
        refine QN.then_ ?_
        refine CW.seq ?_
        refine CW.cond t55.o.isSome rfl (fun hb_4 => ?_) (fun hb_4 => ?_)
        · have hh := hh.1 hb_4
          refine CW.skip ?_
          refine QN.then_ ?_
          refine CW.block ?_
          refine CW.seq ?_
          refine CW.region ?_
          obtain ⟨t57, hxt57, hh⟩ := hh
          refine .val (v_ent (q := (t57 : T2 vote_choice Int)) rfl hxt57) rfl ?_
          refine .val (v_extract (v := reg (t57.a : vote_choice)) rfl rfl) rfl ?_
          refine .val (v_extract (v := reg (t57.b : Int)) rfl rfl) rfl ?_
          refine box_elim hh (fun c hc hh => ?_)
          refine .e (e_allocP hc zo_128 rfl ?_)
          obtain ⟨xw_4, hxw_4, hwxw_4, hh⟩ := hh
          refine .e (e_storeN (p := c) (nv := enc (t57.a : vote_choice)) 0 rfl rfl rfl sz_128 (one_vote_choice _) hxw_4 hwxw_4 (len_vote_choice _) (len_vote_choice _) rfl (set_128_all xw_4 (t57.a : vote_choice)) ?_)
          refine .val (v_assign (v := reg (t57.b : Int)) rfl) rfl ?_
          refine .nil ?_
          refine QN.then_ ?_
          refine CW.join (fun ρ h => ∃ (ρ' : Env) (first : Bool), ρ = setl ρ' [(2, reg (quorum : Int)), (6, .pointer (some t6)), (9, .pointer (some best)), (10, reg (at__3 : Int)), (11, reg (found_3 : Bool)), (15, .pointer (some c)), (16, reg (t57.b : Int)), (17, reg (first : Bool)), (54, .pointer (some t54))] ∧ (vote_Box_Winner.j4 s2) quorum t6 best at__3 found_3 c t57.b first t54 h) ?_ ?_
          · refine CW.drawN 22 rfl follows_mixed [0, 1, 2, 3, 4, 5, 6, 7, 8, 9, 10, 11, 12, 13, 14, 15, 16, 18, 19, 20, 21] ?_
            refine .p 0 rfl (by kernel_rfl) (NoPanic.then_ (NoPanic.block (NoPanic.then_ (NoPanic.block (NoPanic.then_ (NoPanic.body)))))) (fun _ => v_move (v := reg (found_3 : Bool)) rfl) ?_
            refine .p 1 rfl (by kernel_rfl) (NoPanic.then_ (NoPanic.block (NoPanic.then_ (NoPanic.block (NoPanic.then_ (NoPanic.body)))))) (fun _ => v_not rfl) ?_
            refine .p 2 rfl (by kernel_rfl) (NoPanic.then_ (NoPanic.block (NoPanic.then_ (NoPanic.block (NoPanic.then_ (NoPanic.body)))))) (fun _ => v_move (v := reg ((!found_3) : Bool)) rfl) ?_
            refine .fp 3 62 rfl rfl rfl rfl (by kernel_rfl) (NoPanic.then_ (NoPanic.block (NoPanic.then_ (NoPanic.block (NoPanic.then_ (NoPanic.body)))))) (fun hb _ => v_fieldAddr fl_128_0 rfl) ?_
            obtain ⟨t64, ⟨xt64, hxt64, hgt64⟩, hh⟩ := hh
            refine .fr 4 62 (fun h' => ∃ x : vote_choice, AtH h' c (enc x) ∧ ((fun (x : vote_choice) => x.round) : vote_choice → Int) x = t64) rfl rfl rfl rfl (by kernel_rfl) (NoPanic.then_ (NoPanic.block (NoPanic.then_ (NoPanic.block (NoPanic.then_ (NoPanic.body)))))) ⟨xt64, hxt64, hgt64⟩ (fun hb => fun h' hS => hS.elim fun _ hS => v_ld1 (p := c) 0 na_3 (gf hb) hS.1 hS.2 get_128_round) ?_
            refine .fp 5 62 rfl rfl rfl rfl (by kernel_rfl) (NoPanic.then_ (NoPanic.block (NoPanic.then_ (NoPanic.block (NoPanic.then_ (NoPanic.body)))))) (fun hb _ => v_move (v := reg (at__3 : Int)) rfl) ?_
            refine .fp 6 62 rfl rfl rfl rfl (by kernel_rfl) (NoPanic.then_ (NoPanic.block (NoPanic.then_ (NoPanic.block (NoPanic.then_ (NoPanic.body)))))) (fun hb _ => v_igtr (gf hb) (gf hb)) ?_
            refine .p 7 rfl (by kernel_rfl) (NoPanic.then_ (NoPanic.block (NoPanic.then_ (NoPanic.block (NoPanic.then_ (NoPanic.body)))))) (fun _ => v_pick_or rfl rfl (fun hb => gf hb)) ?_
            refine .p 8 rfl (by kernel_rfl) (NoPanic.then_ (NoPanic.block (NoPanic.then_ (NoPanic.block (NoPanic.then_ (NoPanic.body)))))) (fun _ => v_move (v := reg (((!found_3) || (decide (at__3 < t64))) : Bool)) rfl) ?_
            refine ifb_cases hh (fun hb_5 hh => ?_) (fun hb_5 hh => ?_)
            · refine .no' 9 68 rfl rfl (congrArg Value.bool hb_5) rfl (by kernel_rfl) (NoPanic.then_ (NoPanic.block (NoPanic.then_ (NoPanic.block (NoPanic.then_ (NoPanic.body)))))) ?_
              refine .no' 10 68 rfl rfl (congrArg Value.bool hb_5) rfl (by kernel_rfl) (NoPanic.then_ (NoPanic.block (NoPanic.then_ (NoPanic.block (NoPanic.then_ (NoPanic.body)))))) ?_
              refine .no' 11 68 rfl rfl (congrArg Value.bool hb_5) rfl (by kernel_rfl) (NoPanic.then_ (NoPanic.block (NoPanic.then_ (NoPanic.block (NoPanic.then_ (NoPanic.body)))))) ?_
              refine .no' 12 68 rfl rfl (congrArg Value.bool hb_5) rfl (by kernel_rfl) (NoPanic.then_ (NoPanic.block (NoPanic.then_ (NoPanic.block (NoPanic.then_ (NoPanic.body)))))) ?_
              refine .no' 13 68 rfl rfl (congrArg Value.bool hb_5) rfl (by kernel_rfl) (NoPanic.then_ (NoPanic.block (NoPanic.then_ (NoPanic.block (NoPanic.then_ (NoPanic.body)))))) ?_
              refine .nu 14 73 rfl rfl rfl rfl (by kernel_rfl) (NoPanic.then_ (NoPanic.block (NoPanic.then_ (NoPanic.block (NoPanic.then_ (NoPanic.body)))))) ?_
              refine .nu 15 73 rfl rfl rfl rfl (by kernel_rfl) (NoPanic.then_ (NoPanic.block (NoPanic.then_ (NoPanic.block (NoPanic.then_ (NoPanic.body)))))) ?_
              refine .nu 16 73 rfl rfl rfl rfl (by kernel_rfl) (NoPanic.then_ (NoPanic.block (NoPanic.then_ (NoPanic.block (NoPanic.then_ (NoPanic.body)))))) ?_
              refine .w 17 (by kernel_rfl) rfl (by kernel_rfl) (.nu 73 rfl rfl rfl rfl ⟨⟨trivial, .inl (by kernel_rfl)⟩, ?_⟩)
              refine .nu 18 73 rfl rfl rfl rfl (by kernel_rfl) (NoPanic.then_ (NoPanic.block (NoPanic.then_ (NoPanic.block (NoPanic.then_ (NoPanic.body)))))) ?_
              refine .no' 19 68 rfl rfl (congrArg Value.bool hb_5) rfl (by kernel_rfl) (NoPanic.then_ (NoPanic.block (NoPanic.then_ (NoPanic.block (NoPanic.then_ (NoPanic.body)))))) ?_
              refine .p 20 rfl (by kernel_rfl) (NoPanic.then_ (NoPanic.block (NoPanic.then_ (NoPanic.block (NoPanic.then_ (NoPanic.body)))))) (fun _ => v_pickT (v := reg (true : Bool)) rfl hb_5 rfl) ?_
              refine .p 21 rfl (by kernel_rfl) (NoPanic.then_ (NoPanic.block (NoPanic.then_ (NoPanic.block (NoPanic.then_ (NoPanic.body)))))) (fun _ => v_assign (v := reg (true : Bool)) rfl) ?_
              refine .done (by kernel_rfl) ?_
              exact QN.thenJ ⟨_, true, setl_eq ⟨rfl, ⟨rfl, ⟨rfl, ⟨rfl, ⟨rfl, ⟨rfl, ⟨rfl, ⟨rfl, ⟨rfl, trivial⟩⟩⟩⟩⟩⟩⟩⟩⟩, hh⟩
            · refine .yp 9 68 rfl rfl (congrArg Value.bool hb_5) rfl (by kernel_rfl) (NoPanic.then_ (NoPanic.block (NoPanic.then_ (NoPanic.block (NoPanic.then_ (NoPanic.body)))))) (fun _ => v_fieldAddr fl_128_0 rfl) ?_
              obtain ⟨t70, ⟨xt70, hxt70, hgt70⟩, hh⟩ := hh
              refine .yr 10 68 (fun h' => ∃ x : vote_choice, AtH h' c (enc x) ∧ ((fun (x : vote_choice) => x.round) : vote_choice → Int) x = t70) rfl rfl (congrArg Value.bool hb_5) rfl (by kernel_rfl) (NoPanic.then_ (NoPanic.block (NoPanic.then_ (NoPanic.block (NoPanic.then_ (NoPanic.body)))))) ⟨xt70, hxt70, hgt70⟩ (fun h' hS => hS.elim fun _ hS => v_ld1 (p := c) 0 na_3 rfl hS.1 hS.2 get_128_round) ?_
              refine .yp 11 68 rfl rfl (congrArg Value.bool hb_5) rfl (by kernel_rfl) (NoPanic.then_ (NoPanic.block (NoPanic.then_ (NoPanic.block (NoPanic.then_ (NoPanic.body)))))) (fun _ => v_move (v := reg (at__3 : Int)) rfl) ?_
              refine .yp 12 68 rfl rfl (congrArg Value.bool hb_5) rfl (by kernel_rfl) (NoPanic.then_ (NoPanic.block (NoPanic.then_ (NoPanic.block (NoPanic.then_ (NoPanic.body)))))) (fun _ => v_ieql rfl rfl) ?_
              refine .yp 13 68 rfl rfl (congrArg Value.bool hb_5) rfl (by kernel_rfl) (NoPanic.then_ (NoPanic.block (NoPanic.then_ (NoPanic.block (NoPanic.then_ (NoPanic.body)))))) (fun _ => v_move (v := reg ((t70 == at__3) : Bool)) rfl) ?_
              refine ifb_cases hh (fun hb_6 hh => ?_) (fun hb_6 hh => ?_)
              · refine .yp 14 73 rfl rfl (congrArg Value.bool hb_6) rfl (by kernel_rfl) (NoPanic.then_ (NoPanic.block (NoPanic.then_ (NoPanic.block (NoPanic.then_ (NoPanic.body)))))) (fun _ => v_fieldAddr fl_128_1 rfl) ?_
                refine .yp 15 73 rfl rfl (congrArg Value.bool hb_6) rfl (by kernel_rfl) (NoPanic.then_ (NoPanic.block (NoPanic.then_ (NoPanic.block (NoPanic.then_ (NoPanic.body)))))) (fun _ => v_slice_an ar_24 rfl) ?_
                refine .yp 16 73 rfl rfl (congrArg Value.bool hb_6) rfl (by kernel_rfl) (NoPanic.then_ (NoPanic.block (NoPanic.then_ (NoPanic.block (NoPanic.then_ (NoPanic.body)))))) (fun _ => v_slice_an ar_24 rfl) ?_
                refine .w 17 (by kernel_rfl) rfl (by kernel_rfl) (.ye 73 rfl (congrArg Value.bool hb_6) rfl (e_callP fn_52 rfl rfl hh ?_))
                intro h t77 hh
                refine ⟨⟨⟨trivial, .inl (by kernel_rfl)⟩, .inl (by kernel_rfl)⟩, ?_⟩
                refine .yp 18 73 rfl rfl (congrArg Value.bool hb_6) rfl (by kernel_rfl) (NoPanic.then_ (NoPanic.block (NoPanic.then_ (NoPanic.block (NoPanic.then_ (NoPanic.body)))))) (fun _ => v_ilss rfl rfl) ?_
                refine .yp 19 68 rfl rfl (congrArg Value.bool hb_5) rfl (by kernel_rfl) (NoPanic.then_ (NoPanic.block (NoPanic.then_ (NoPanic.block (NoPanic.then_ (NoPanic.body)))))) (fun _ => v_pickT (v := reg ((decide (t77 < (0 : Int))) : Bool)) rfl hb_6 rfl) ?_
                refine .p 20 rfl (by kernel_rfl) (NoPanic.then_ (NoPanic.block (NoPanic.then_ (NoPanic.block (NoPanic.then_ (NoPanic.body)))))) (fun _ => v_pickF (v := reg ((decide (t77 < (0 : Int))) : Bool)) rfl hb_5 rfl) ?_
                refine .p 21 rfl (by kernel_rfl) (NoPanic.then_ (NoPanic.block (NoPanic.then_ (NoPanic.block (NoPanic.then_ (NoPanic.body)))))) (fun _ => v_assign (v := reg ((decide (t77 < (0 : Int))) : Bool)) rfl) ?_
                refine .done (by kernel_rfl) ?_
                exact QN.thenJ ⟨_, (decide (t77 < (0 : Int))), setl_eq ⟨rfl, ⟨rfl, ⟨rfl, ⟨rfl, ⟨rfl, ⟨rfl, ⟨rfl, ⟨rfl, ⟨rfl, trivial⟩⟩⟩⟩⟩⟩⟩⟩⟩, hh⟩
              · refine .no' 14 73 rfl rfl (congrArg Value.bool hb_6) rfl (by kernel_rfl) (NoPanic.then_ (NoPanic.block (NoPanic.then_ (NoPanic.block (NoPanic.then_ (NoPanic.body)))))) ?_
                refine .no' 15 73 rfl rfl (congrArg Value.bool hb_6) rfl (by kernel_rfl) (NoPanic.then_ (NoPanic.block (NoPanic.then_ (NoPanic.block (NoPanic.then_ (NoPanic.body)))))) ?_
                refine .no' 16 73 rfl rfl (congrArg Value.bool hb_6) rfl (by kernel_rfl) (NoPanic.then_ (NoPanic.block (NoPanic.then_ (NoPanic.block (NoPanic.then_ (NoPanic.body)))))) ?_
                refine .w 17 (by kernel_rfl) rfl (by kernel_rfl) (.no 73 rfl (congrArg Value.bool hb_6) rfl rfl ⟨⟨⟨trivial, .inl (by kernel_rfl)⟩, .inl (by kernel_rfl)⟩, ?_⟩)
                refine .no' 18 73 rfl rfl (congrArg Value.bool hb_6) rfl (by kernel_rfl) (NoPanic.then_ (NoPanic.block (NoPanic.then_ (NoPanic.block (NoPanic.then_ (NoPanic.body)))))) ?_
                refine .yp 19 68 rfl rfl (congrArg Value.bool hb_5) rfl (by kernel_rfl) (NoPanic.then_ (NoPanic.block (NoPanic.then_ (NoPanic.block (NoPanic.then_ (NoPanic.body)))))) (fun _ => v_pickF (v := reg (false : Bool)) rfl hb_6 rfl) ?_
                refine .p 20 rfl (by kernel_rfl) (NoPanic.then_ (NoPanic.block (NoPanic.then_ (NoPanic.block (NoPanic.then_ (NoPanic.body)))))) (fun _ => v_pickF (v := reg (false : Bool)) rfl hb_5 rfl) ?_
                refine .p 21 rfl (by kernel_rfl) (NoPanic.then_ (NoPanic.block (NoPanic.then_ (NoPanic.block (NoPanic.then_ (NoPanic.body)))))) (fun _ => v_assign (v := reg (false : Bool)) rfl) ?_
                refine .done (by kernel_rfl) ?_
                exact QN.thenJ ⟨_, false, setl_eq ⟨rfl, ⟨rfl, ⟨rfl, ⟨rfl, ⟨rfl, ⟨rfl, ⟨rfl, ⟨rfl, ⟨rfl, trivial⟩⟩⟩⟩⟩⟩⟩⟩⟩, hh⟩
          · rintro ρ h ⟨ρ', first, rfl, hh⟩
            unfold vote_Box_Winner.j4 at hh
            refine CW.seq ?_
            refine CW.region ?_
            refine .val (v_move (v := reg (t57.b : Int)) rfl) rfl ?_
            refine .val (v_move (v := reg (quorum : Int)) rfl) rfl ?_
            refine .val (v_igeq rfl rfl) rfl ?_
            refine .val (v_move (v := reg ((decide (quorum ≤ t57.b)) : Bool)) rfl) rfl ?_
            refine .tv 84 rfl rfl rfl (fun hb => v_move (v := reg (first : Bool)) rfl) rfl ?_
            refine .val (v_pick_and rfl (fun hb => gt hb) rfl) rfl ?_
            refine .nil ?_
            refine QN.then_ ?_
            refine CW.cond ((decide (quorum ≤ t57.b)) && first) rfl (fun hb_7 => ?_) (fun hb_7 => ?_)
            · have hh := hh.1 hb_7
              refine CW.region ?_
              refine .val (v_fieldAddr fl_128_1 rfl) rfl ?_
              obtain ⟨t88, ⟨xt88, hxt88, hgt88⟩, hh⟩ := hh
              refine .val (v_ldA (p := c) 1 ag_24 rfl hxt88 hgt88 get_128_digest (fun _ => (arr_len (n := 32) _)) (fun _ => rfl)) rfl ?_
              refine .val (v_fieldAddr fl_128_0 rfl) rfl ?_
              obtain ⟨t90, ⟨xt90, hxt90, hgt90⟩, hh⟩ := hh
              refine .val (v_ld1 (p := c) 0 na_3 rfl hxt90 hgt90 get_128_round) rfl ?_
              obtain ⟨xw_5, hxw_5, hwxw_5, hh⟩ := hh
              refine .e (e_storeN (p := best) (nv := enc (t88 : Arr 32 UInt8)) 0 rfl rfl rfl sz_24 (one_arr (n := 32) (fun _ => rfl) _) hxw_5 hwxw_5 (arr_len (n := 32) _) (arr_len (n := 32) _) rfl (set_24_all xw_5 (t88 : Arr 32 UInt8)) ?_)
              refine .val (v_assign (v := reg (t90 : Int)) rfl) rfl ?_
              refine .val (v_assign (v := reg (true : Bool)) rfl) rfl ?_
              refine .nil ?_
              refine QN.blockN ?_
              exact QN.thenJ ⟨(t90, true), ⟨_, setl_eq ⟨rfl, ⟨rfl, ⟨rfl, ⟨rfl, ⟨rfl, ⟨rfl, trivial⟩⟩⟩⟩⟩⟩⟩, hh⟩
            · have hh := hh.2 hb_7
              refine CW.skip ?_
              refine QN.blockN ?_
              exact QN.thenJ ⟨(at__3, found_3), ⟨_, setl_eq ⟨rfl, ⟨rfl, ⟨rfl, ⟨rfl, ⟨rfl, ⟨rfl, trivial⟩⟩⟩⟩⟩⟩⟩, hh⟩
        · have hh := hh.2 hb_4
          refine CW.exit ?_
          refine QN.thenExit ?_
          refine QN.thenExit ?_
          refine QN.blockExit ?_
          exact QN.thenJ ⟨_, at__3, found_3, setl_eq ⟨rfl, ⟨rfl, ⟨rfl, ⟨rfl, trivial⟩⟩⟩⟩, hh⟩
      · rintro ρ h ⟨ρ', at__5, found_5, rfl, hh⟩
        unfold vote_Box_Winner.j3 at hh
        refine CW.seq ?_
        refine CW.region ?_
        obtain ⟨t91, ⟨xt91, hxt91, hgt91⟩, hh⟩ := hh
        refine .val (v_ldA (p := best) 0 ag_24 rfl hxt91 hgt91 get_24_all (fun _ => (arr_len (n := 32) _)) (fun _ => rfl)) rfl ?_
        refine .val (v_move (v := reg (at__5 : Int)) rfl) rfl ?_
        refine .val (v_move (v := reg (found_5 : Bool)) rfl) rfl ?_
        obtain ⟨xw_6, hxw_6, hwxw_6, hh⟩ := hh
        refine .e (e_storeN (p := t6) (nv := enc (t91 : Arr 32 UInt8)) 0 rfl rfl rfl sz_24 (one_arr (n := 32) (fun _ => rfl) _) hxw_6 hwxw_6 (arr_len (n := 32) _) (arr_len (n := 32) _) rfl (set_24_all xw_6 (t91 : Arr 32 UInt8)) ?_)
        refine .val (v_assign (v := reg (at__5 : Int)) rfl) rfl ?_
        refine .val (v_assign (v := reg (found_5 : Bool)) rfl) rfl ?_
        refine .nil ?_
        refine QN.then_ ?_
        refine CW.ret ?_
        obtain ⟨r6_1, ⟨xr6_1, hxr6_1, hgr6_1⟩, hh⟩ := hh
        have hr6_1 := ld_id hxr6_1 hgr6_1
        exact retc2 rfl rfl ag_24 hr6_1 (arr_len (n := 32) _) rfl rfl ⟨(⟨r6_1, at__5, found_5⟩ : T3 (Arr 32 UInt8) Int Bool), rfl, hh⟩
end Go.Proofs.YtimmoekliphobaaDoor
namespace Go.Proofs.YtimmoekliphobaaDoor
open Go Go.Sh
open Go.Sh.Ty (reg)
set_option linter.unusedVariables false
set_option maxRecDepth 100000

def cmpL : List UInt8 → List UInt8 → Int
  | x :: xs, y :: ys => if x < y then -1 else if y < x then 1 else cmpL xs ys
  | _, _ => 0
theorem cmpL_trans : ∀ a b c : List UInt8, a.length = b.length → b.length = c.length → 0 ≤ cmpL a b → cmpL c b < 0 → 0 ≤ cmpL a c
  | [], [], [], _, _, _, h => by simp [cmpL] at h
  | x :: a, y :: b, z :: c, h1, h2, h3, h4 => by
    simp only [List.length_cons, Nat.add_right_cancel_iff] at h1 h2
    simp only [cmpL] at h3 h4 ⊢
    by_cases hxy : x < y
    · rw [if_pos hxy] at h3; omega
    · rw [if_neg hxy] at h3
      by_cases hzy : z < y
      · have hxz : ¬ x < z := fun h => hxy (UInt8.lt_trans h hzy)
        rw [if_neg hxz]
        split
        · decide
        · rename_i hzx
          exfalso
          have e1 : x.toNat = z.toNat := by
            simp only [UInt8.lt_iff_toNat_lt] at hxz hzx; omega
          simp only [UInt8.lt_iff_toNat_lt] at hxy hzy; omega
      · rw [if_neg hzy] at h4
        by_cases hyz : y < z
        · rw [if_pos hyz] at h4; omega
        · rw [if_neg hyz] at h4
          have e2 : y.toNat = z.toNat := by simp only [UInt8.lt_iff_toNat_lt] at hzy hyz; omega
          have e3 : y = z := UInt8.toNat_inj.1 e2
          subst e3
          rw [if_neg hxy]
          split
          · decide
          · rename_i hyx
            rw [if_neg hyx] at h3
            exact cmpL_trans a b c h1 h2 h3 h4
theorem isNaN_spec (x : UInt8) {k : Bool → H → Prop} {h : H} (hk : k false h) : cmp_isNaN_byte.b x k h := by
  unfold cmp_isNaN_byte.b
  have : (x != x) = false := by simp
  rw [this]; exact hk
theorem Cmp_spec (x y : UInt8) {k : Int → H → Prop} {h : H} (hk : k (if x < y then -1 else if y < x then 1 else 0) h) : cmp_Compare_byte.b x y k h := by
  unfold cmp_Compare_byte.b
  refine cmp_isNaN_byte.ok _ _ _ (isNaN_spec _ ?_)
  refine cmp_isNaN_byte.ok _ _ _ (isNaN_spec _ ?_)
  refine ifb_i (fun hc => by cases hc) (fun _ => ?_)
  refine ifb_i (fun hc => by cases hc) (fun _ => ?_)
  refine ifb_i (fun hc => ?_) (fun hc => ?_)
  · rw [if_pos (by simpa using hc)] at hk; exact hk
  · rw [if_neg (by simpa using hc)] at hk
    refine ifb_i (fun hc => ?_) (fun hc => ?_)
    · rw [if_pos (by simpa using hc)] at hk; exact hk
    · rw [if_neg (by simpa using hc)] at hk; exact hk
theorem Compare_spec (s t : Sl) (xs ys : List UInt8) {k : Int → H → Prop} {h : H} (hx : SV 1 h s xs) (hy : SV 1 h t ys) (hl : xs.length = ys.length) (hb : xs.length < 2 ^ 40) (hk : k (cmpL xs ys) h) : slices_Compare_byte.b s t k h := by
  unfold slices_Compare_byte.b slices_Compare_byte.l1
  have hsl : s.len = xs.length := hx.2.1
  have htl : t.len = ys.length := hy.2.1
  refine ⟨fun (j : Int) h' => h' = h ∧ ∃ i : Nat, j = i ∧ i ≤ xs.length ∧ cmpL xs ys = cmpL (xs.drop i) (ys.drop i), fun j _ => (xs.length - j).toNat, ⟨rfl, 0, rfl, Nat.zero_le _, by simp⟩, ?_⟩
  rintro j h' ⟨rfl, i, rfl, hi, hc⟩
  refine ifb_i (fun hc1 => ?_) (fun hc1 => ?_)
  · have hi' : i < xs.length := by have : (i : Int) < s.len := by simpa using hc1
                                   omega
    refine sidx_ld len_u8 hx (Int.natCast_nonneg _) (by rw [Int.toNat_natCast]; exact List.getElem?_eq_getElem hi') ?_
    refine ifb_i (fun hc2 => by simp at hc2; omega) (fun _ => ?_)
    refine sidx_ld len_u8 hy (Int.natCast_nonneg _) (by rw [Int.toNat_natCast]; exact List.getElem?_eq_getElem (by omega)) ?_
    have e1 : xs.drop i = xs[i] :: xs.drop (i + 1) := List.drop_eq_getElem_cons hi'
    have e2 : ys.drop i = ys[i]'(by omega) :: ys.drop (i + 1) := List.drop_eq_getElem_cons (by omega)
    rw [e1, e2] at hc
    simp only [cmpL] at hc
    refine cmp_Compare_byte.ok _ _ _ _ (Cmp_spec _ _ ?_)
    have e3 : iadd (i : Int) 1 = ((i + 1 : Nat) : Int) := by rw [iadd_eq (by omega) (by omega)]; omega
    by_cases h1 : xs[i] < ys[i]'(by omega)
    · rw [if_pos h1] at hc ⊢
      refine ifb_i (fun _ => ?_) (fun hc => by cases hc)
      rw [← hc]; exact hk
    · rw [if_neg h1] at hc ⊢
      by_cases h2 : ys[i]'(by omega) < xs[i]
      · rw [if_pos h2] at hc ⊢
        refine ifb_i (fun _ => ?_) (fun hc => by cases hc)
        rw [← hc]; exact hk
      · rw [if_neg h2] at hc ⊢
        refine ifb_i (fun hc => by cases hc) (fun _ => ?_)
        rw [e3]
        exact ⟨⟨rfl, i + 1, rfl, hi', hc⟩, by dsimp only; omega⟩
  · have hi' : i = xs.length := by
      have : ¬ (i : Int) < s.len := by simpa using hc1
      omega
    subst hi'
    unfold slices_Compare_byte.j1
    refine ifb_i (fun hc2 => by simp at hc2; omega) (fun _ => ?_)
    have e : cmpL xs ys = 0 := by rw [hc, List.drop_length]; rfl
    rw [e] at hk; exact hk
theorem none_spec {k : Dig → H → Prop} {h : H} (hk : ∀ h', Ext h h' → k (fun _ => 0) h') : vote_none.b k h := by
  unfold vote_none.b
  refine (Sat.init h).box_ (fun a h1 hs1 _ _ => ?_)
  refine hs1.box_ (fun z h2 hs2 _ _ => ?_)
  refine hs2.ld_ 0 rfl ?_
  refine hs2.st_ 1 rfl arr_len (fun h3 hs3 _ => ?_)
  refine hs3.ld_ 1 rfl ?_
  exact hk _ hs3.fr

/-- a place in a map, taken -/
def stE {κ ν : Type} [Ty κ] [Ty ν] [DecidableEq κ] (r : Nat) (l : List (κ × ν)) (key : κ) (s : Int) : En := ⟨[r], fun h => (mpE r l).A h ∧ Stamp h ⟨some r⟩ l key s⟩
theorem stE_loc {κ ν : Type} [Ty κ] [Ty ν] [DecidableEq κ] (r : Nat) (l : List (κ × ν)) (key : κ) (s : Int) : Go.Sh.Loc (stE r l key s) := fun h h' hb ⟨h1, r', es, clk, h2, h3, h4⟩ => by
  refine ⟨mpE_loc r l h h' hb h1, r', es, clk, h2, ?_, h4⟩
  obtain rfl : r = r' := Option.some.inj h2
  rw [hb r (by simp [stE])]; exact h3
section
variable {h0 h : H} {S : List Nat} {L : List En} {κ ν : Type} [Ty κ] [Ty ν] [DecidableEq κ]
theorem mapIs_mpE {h : H} {r : Nat} {l : List (κ × ν)} (H : MapIs h ⟨some r⟩ l) : (mpE r l).A h := by
  rcases H with ⟨h1, _⟩ | ⟨r', es, clk, h1, h2, h3⟩
  · cases h1
  · obtain rfl : r = r' := Option.some.inj h1
    exact ⟨es, clk, h2, h3⟩
theorem _root_.Go.Sh.Sat.ment_ {r : Nat} {l : List (κ × ν)} {z : ν} {key : κ} {k : T2 ν Int → H → Prop} (i : Nat) (hs : Sat h0 S h L) (hi : L[i]? = some (mpE r l)) (hk : ∀ s h', Sat h0 S h' (L.set i (stE r (mins l key (mins0 z l key)) key s)) → k ⟨mins0 z l key, s⟩ h') : ment z ⟨some r⟩ key k h := by
  obtain ⟨es, clk, h1, h2⟩ := (show (mpE r l).A h from hs.at_ hi)
  refine ⟨r, es, clk, l, rfl, h1, h2, fun o s hm hst => hk s _ (hs.upd hi (by simp only [mpE]; exact Fr.set _ _ _) ⟨mapIs_mpE hm, hst⟩ (stE_loc _ _ _ _) ?_)⟩
  intro b hb
  simp only [stE, List.mem_singleton] at hb
  subst hb
  rw [Array.getElem?_eq_some_iff] at h1
  exact ⟨by simpa using h1.1, .inl (by simp [mpE])⟩
theorem _root_.Go.Sh.Sat.mste_ {r : Nat} {l l0 : List (κ × ν)} {key : κ} {s : Int} {v : ν} {k : H → Prop} (i : Nat) (hs : Sat h0 S h L) (hi : L[i]? = some (stE r l key s)) (hk : ∀ h', Sat h0 S h' (L.set i (mpE r (mins l key v))) → k h') : mste l0 ⟨some r⟩ s v k h := by
  obtain ⟨h1, h2⟩ := (show (stE r l key s).A h from hs.at_ hi)
  refine ⟨l, key, h2, fun r' o hr hm => ?_⟩
  obtain rfl : r = r' := Option.some.inj hr
  refine hk _ (hs.upd hi (by simp only [stE]; exact Fr.set _ _ _) (mapIs_mpE hm) (mpE_loc _ _) ?_)
  intro b hb
  simp only [mpE, List.mem_singleton] at hb
  subst hb
  exact ⟨by simpa using mpE_lt h1, .inl (by simp [stE])⟩
theorem _root_.Go.Sh.Sat.stchk_ {α : Type} {r : Nat} {l : List (κ × ν)} {key : κ} {s : Int} {g : List (κ × ν) → α} {y : α} {k : H → Prop} (i : Nat) (hs : Sat h0 S h L) (hi : L[i]? = some (stE r l key s)) (hg : g l = y) (hk : k h) : mchk ⟨some r⟩ g y k h :=
  ⟨⟨l, mpE_is (show (stE r l key s).A h from hs.at_ hi).1, hg⟩, hk⟩
end
end Go.Proofs.YtimmoekliphobaaDoor
namespace Go.Proofs.YtimmoekliphobaaDoor
open Go Go.Sh
open Go.Sh.Ty (reg)
set_option linter.unusedVariables false
set_option maxRecDepth 100000

def dz : Dig := fun _ => 0
def chq (q : vote_place × api_Vote) : vote_choice := ⟨q.1.round, q.2.Digest⟩
def cntF (done : Vts) (kind : Int) (ch : vote_choice) : Nat := (done.filter fun q => decide (q.1.kind = kind) && !decide (q.2.Digest = dz) && decide (chq q = ch)).length
structure CountOf (cs : List (vote_choice × Int)) (done : Vts) (kind : Int) : Prop where
  nodup : (cs.map (·.1)).Nodup
  cnt : ∀ ch, mfind cs ch = if cntF done kind ch = 0 then none else some (cntF done kind ch : Int)
theorem cntF_perm {a b : Vts} (h : a.Perm b) (kind : Int) (ch : vote_choice) : cntF a kind ch = cntF b kind ch := (h.filter _).length_eq
theorem CountOf.perm {cs : List (vote_choice × Int)} {a b : Vts} {kind : Int} (h : CountOf cs a kind) (hp : a.Perm b) : CountOf cs b kind := ⟨h.nodup, fun ch => by rw [h.cnt, cntF_perm hp]⟩
theorem cntF_snoc (done : Vts) (q : vote_place × api_Vote) (kind : Int) (ch : vote_choice) : cntF (done ++ [q]) kind ch = cntF done kind ch + if q.1.kind = kind ∧ q.2.Digest ≠ dz ∧ chq q = ch then 1 else 0 := by
  unfold cntF
  rw [List.filter_append, List.length_append]
  congr 1
  by_cases h1 : q.1.kind = kind <;> by_cases h2 : q.2.Digest = dz <;> by_cases h3 : chq q = ch <;> simp [h1, h2, h3]
theorem cntF_le (done : Vts) (kind : Int) (ch : vote_choice) : cntF done kind ch ≤ done.length := List.length_filter_le _ _
theorem CountOf.skip {cs : List (vote_choice × Int)} {done : Vts} {kind : Int} (h : CountOf cs done kind) (q : vote_place × api_Vote) (hq : ¬ (q.1.kind = kind ∧ q.2.Digest ≠ dz)) : CountOf cs (done ++ [q]) kind := by
  refine ⟨h.nodup, fun ch => ?_⟩
  have hz : (if q.1.kind = kind ∧ q.2.Digest ≠ dz ∧ chq q = ch then 1 else 0) = 0 := if_neg (fun hx => hq ⟨hx.1, hx.2.1⟩)
  rw [h.cnt, cntF_snoc, hz, Nat.add_zero]
theorem CountOf.put {cs : List (vote_choice × Int)} {done : Vts} {kind : Int} (h : CountOf cs done kind) (q : vote_place × api_Vote) (h1 : q.1.kind = kind) (h2 : q.2.Digest ≠ dz) : CountOf (mins (mins cs (chq q) (cntF done kind (chq q) : Int)) (chq q) ((cntF done kind (chq q) + 1 : Nat) : Int)) (done ++ [q]) kind := by
  refine ⟨mins_nodup _ _ _ (mins_nodup _ _ _ h.nodup), fun ch => ?_⟩
  rw [mfind_mins, mfind_mins, cntF_snoc]
  by_cases hc : ch = chq q
  · subst hc
    simp [h1, h2]
  · have hz : (if q.1.kind = kind ∧ q.2.Digest ≠ dz ∧ chq q = ch then 1 else 0) = 0 := if_neg (fun hx => hc hx.2.2.symm)
    rw [if_neg hc, if_neg hc, h.cnt, hz, Nat.add_zero]
def digL (d : Dig) : List UInt8 := List.ofFn d
def WinOf (cs : List (vote_choice × Int)) (quorum : Int) (best : Dig) (at_ : Int) (found : Bool) : Prop :=
  (found = false ∧ at_ = 0 ∧ best = dz ∧ ∀ p ∈ cs, ¬ quorum ≤ p.2) ∨ (found = true ∧ ∃ n, ((⟨at_, best⟩ : vote_choice), n) ∈ cs ∧ quorum ≤ n ∧ ∀ p ∈ cs, quorum ≤ p.2 → p.1.round < at_ ∨ (p.1.round = at_ ∧ 0 ≤ cmpL (digL p.1.digest) (digL best)))
theorem WinOf.perm {a b : List (vote_choice × Int)} {quorum : Int} {best : Dig} {at_ : Int} {found : Bool} (h : WinOf a quorum best at_ found) (hp : a.Perm b) : WinOf b quorum best at_ found := by
  rcases h with ⟨h1, h2, h3, h4⟩ | ⟨h1, n, h2, h3, h4⟩
  · exact .inl ⟨h1, h2, h3, fun p hb => h4 p (hp.mem_iff.2 hb)⟩
  · exact .inr ⟨h1, n, hp.mem_iff.1 h2, h3, fun p hb => h4 p (hp.mem_iff.2 hb)⟩
theorem Winner_nil_spec (kind quorum : Int) {k : T3 Dig Int Bool → H → Prop} {h : H} (hk : ∀ h', Ext h h' → k ⟨dz, 0, false⟩ h') : vote_Box_Winner.b none kind quorum k h := by
  unfold vote_Box_Winner.b
  refine (Sat.init h).box_ (fun a h1 hs1 _ _ => ?_)
  refine vote_none.ok _ _ (none_spec (fun h2 hx2 => ?_))
  have hs2 := hs1.ext hx2
  refine hs2.box_ (fun z h3 hs3 _ _ => ?_)
  refine hs3.st_ 0 rfl arr_len (fun h4 hs4 _ => ?_)
  refine ifb_i (fun _ => ?_) (fun hc => by cases hc)
  refine vote_none.ok _ _ (none_spec (fun h5 hx5 => ?_))
  have hs5 := hs4.ext hx5
  refine hs5.st_ 1 rfl arr_len (fun h6 hs6 _ => ?_)
  refine hs6.ld_ 1 rfl ?_
  exact hk _ hs6.fr
theorem len_choice (y : vote_choice) : (enc y).length = 33 := len_vote_choice y
theorem choice_dig {h : H} {c : Addr} {x : vote_choice} (H : AtH h c (enc x)) : SV 1 h ((⟨some (c.add 1), 32, 32⟩ : Sl).cut 1 0 32 32) (List.ofFn x.digest) := by
  have h1 := H.sub 1 32
  have e : ((enc x).drop 1).take 32 = enc x.digest := by
    have : enc x = enc x.round ++ enc x.digest := rfl
    rw [this]
    have h2 : enc x.round = [reg x.round] := rfl
    rw [h2]
    have := arr_len x.digest
    simp only [List.cons_append, List.nil_append, List.drop_succ_cons, List.drop_zero]
    rw [List.take_of_length_le (by omega)]
  rw [e] at h1
  have hv := arr_SV (n := 32) (l := List.ofFn x.digest) (by simp) (by rw [arrOf_ofFn]; exact h1)
  have := hv.cut len_u8 (lo := 0) (hi := 32) (mx := 32) (by omega) (Nat.le_refl _) (Nat.le_refl _)
  rwa [List.drop_zero, List.take_of_length_le (by simp)] at this

theorem Winner_spec (p : Addr) (r : Nat) (l : Vts) (kind quorum : Int) {k : T3 Dig Int Bool → H → Prop} {h : H} (hb : BoxA p r l h) (hl : l.length < 2 ^ 20)
    (hk : ∀ (cs : List (vote_choice × Int)) best at_ found h', Ext h h' → CountOf cs l kind → WinOf cs quorum best at_ found → k ⟨best, at_, found⟩ h') : vote_Box_Winner.b (some p) kind quorum k h := by
  unfold vote_Box_Winner.b
  have hrlt := mpE_lt hb.2.1
  refine (Sat.init h).box_ (fun t6 h1 hs1 _ _ => ?_)
  refine vote_none.ok _ _ (none_spec (fun h2 hx2 => ?_))
  have hs2 := hs1.ext hx2
  refine hs2.box_ (fun best h3 hs3 _ _ => ?_)
  refine hs3.st_ 0 rfl arr_len (fun h4 hs4 _ => ?_)
  refine ifb_i (fun hc => by cases hc) (fun _ => ?_)
  refine hs4.mkmap_ (κ := vote_choice) (ν := Int) (fun sn h5 hs5 _ => ?_)
  refine nn_i ?_
  refine ld_old (hb.1.at_.ext hs5.fr) ?_
  refine hs5.rng_ (mpE_is (hb.ext hs5.fr).2.1) (fun it h6 o hs6 hR6 _ => ?_)
  unfold vote_Box_Winner.l1
  refine ⟨fun _ h' => ∃ (cs : List (vote_choice × Int)) (o : Obj) (done todo : Vts), Sat h [] h' [rawE it.block o, mpE sn cs, cel 24 best (enc dz), cel 24 t6 (enc dz)] ∧ Rng h' it ⟨some r⟩ todo ∧ (done ++ todo).Perm l ∧ CountOf cs done kind,
    fun _ h' => tlen h' it, ⟨[], o, [], l, hs6, hR6, by simp, ⟨by simp, fun ch => by simp [mfind, cntF]⟩⟩, ?_⟩
  clear hs1 hs2 hs3 hs4 hs5 hs6 hR6 hx2
  rintro ⟨⟩ h3 ⟨cs, o, done, todo, hs3, hR3, hp3, hC3⟩
  have ht3 := Rng_tlen hR3
  refine hs3.nxt_ 0 rfl hR3 (fun h0 => ?_) (fun q rest h4 o' hq hs4 hR4 hE4 => ?_)
  · refine ifb_i (fun hc => by cases hc) (fun _ => ?_)
    subst h0
    rw [List.append_nil] at hp3
    have hC := hC3.perm hp3
    clear hC3 hR3 ht3
    unfold vote_Box_Winner.j1
    obtain ⟨es, clk, q1, q2⟩ := (show (mpE sn cs).A h3 from hs3.at_ (i := 1) rfl)
    have hs4 : Sat h [] h3 [rawE it.block o, rawE sn (.map es clk), cel 24 best (enc dz), cel 24 t6 (enc dz)] :=
      hs3.upd (i := 1) (e := mpE sn cs) rfl (Fr.refl _ _) q1 (rawE_loc _ _) (by intro b hb'; simp only [rawE, List.mem_singleton] at hb'; subst hb'; rw [Array.getElem?_eq_some_iff] at q1; exact ⟨q1.1, .inl (by simp [mpE])⟩)
    refine hs4.rng_ (.inr ⟨sn, es, clk, rfl, q1, q2⟩) (fun it2 h5 o2 hs5 hR5 _ => ?_)
    unfold vote_Box_Winner.l2
    refine ⟨fun (st : Int × Bool) h' => ∃ (bd : Dig) (o2 : Obj) (done todo : List (vote_choice × Int)), Sat h [] h' [rawE it2.block o2, rawE it.block o, rawE sn (.map es clk), cel 24 best (enc bd), cel 24 t6 (enc dz)] ∧ Rng h' it2 ⟨some sn⟩ todo ∧ (done ++ todo).Perm cs ∧ WinOf done quorum bd st.1 st.2,
      fun _ h' => tlen h' it2, ⟨dz, o2, [], cs, hs5, hR5, by simp, .inl ⟨rfl, rfl, rfl, by simp⟩⟩, ?_⟩
    clear hs3 hs4 hs5 hR5
    rintro ⟨at_, found⟩ h6 ⟨bd, o2, done2, todo2, hs6, hR6, hp6, hW6⟩
    simp only at hW6
    have ht6 := Rng_tlen hR6
    refine hs6.nxt_ 0 rfl hR6 (fun h0 => ?_) (fun c rest2 h7 o3 hq2 hs7 hR7 hE7 => ?_)
    · refine ifb_i (fun hc => by cases hc) (fun _ => ?_)
      subst h0
      rw [List.append_nil] at hp6
      unfold vote_Box_Winner.j3
      refine hs6.ld_ 3 rfl ?_
      refine hs6.st_ 4 rfl arr_len (fun h8 hs8 _ => ?_)
      refine hs8.ld_ 4 rfl ?_
      exact hk cs bd at_ found _ hs8.fr hC (hW6.perm hp6)
    · refine ifb_i (fun _ => ?_) (fun hc => by cases hc)
      refine ⟨⟨c.1, c.2⟩, ⟨_, hE7⟩, ?_⟩
      have hlen2 : rest2.length < todo2.length := by rw [hq2.length_eq]; simp
      have hdone2 : ((done2 ++ [c]) ++ rest2).Perm cs := by
        refine List.Perm.trans ?_ hp6
        rw [List.append_assoc]
        exact List.Perm.append_left _ hq2.symm
      have hmap7 : h7[sn]? = some (.map es clk) := hs7.at_ (i := 2) rfl
      have hit7 : h7[it2.block]? = some o3 := hs7.at_ (i := 0) rfl
      have tr2 : ∀ {h' : H}, h'[it2.block]? = some o3 → h'[sn]? = some (.map es clk) → Rng h' it2 ⟨some sn⟩ rest2 := fun {h'} ha hb' => Rng_tr hR7 (by rw [ha, hit7]) (fun r' hr' => by
        obtain rfl : sn = r' := Option.some.inj hr'
        rw [hb', hmap7])
      refine hs7.box_ (fun cc h8 hs8 _ _ => ?_)
      refine hs8.st_ 0 rfl len_choice (fun h9 hs9 _ => ?_)
      refine hs9.ld_ 0 rfl ?_
      -- what is done with the test's answer
      have tail : ∀ (first : Bool) h', Sat h [] h' [cel 128 cc (enc c.1), rawE it2.block o3, rawE it.block o, rawE sn (.map es clk), cel 24 best (enc bd), cel 24 t6 (enc dz)] →
          (first = true → (found = false ∨ at_ < c.1.round ∨ (c.1.round = at_ ∧ cmpL (digL c.1.digest) (digL bd) < 0))) →
          (first = false → found = true ∧ (c.1.round < at_ ∨ (c.1.round = at_ ∧ 0 ≤ cmpL (digL c.1.digest) (digL bd)))) →
          vote_Box_Winner.j4 (fun s' h' => (fun (st : Int × Bool) h' => ∃ (bd : Dig) (o2 : Obj) (done todo : List (vote_choice × Int)), Sat h [] h' [rawE it2.block o2, rawE it.block o, rawE sn (.map es clk), cel 24 best (enc bd), cel 24 t6 (enc dz)] ∧ Rng h' it2 ⟨some sn⟩ todo ∧ (done ++ todo).Perm cs ∧ WinOf done quorum bd st.1 st.2) s' h' ∧ (fun (_ : Int × Bool) h' => tlen h' it2) s' h' < (fun (_ : Int × Bool) h' => tlen h' it2) (at_, found) h6) quorum t6 best at_ found cc c.2 first it2 h' := by
        intro first h' hs' ht hf
        unfold vote_Box_Winner.j4
        refine ifb_i (fun hc => ?_) (fun hc => ?_)
        · simp only [Bool.and_eq_true, decide_eq_true_eq] at hc
          refine hs'.ld_ 0 rfl ?_
          refine hs'.ld_ 0 rfl ?_
          refine hs'.st_ 4 rfl arr_len (fun h10 hs10 _ => ?_)
          have hR10 := tr2 (h' := h10) (hs10.at_ (i := 1) rfl) (hs10.at_ (i := 3) rfl)
          refine ⟨⟨c.1.digest, o3, done2 ++ [c], rest2, hs10.drop (List.sublist_cons_self _ _), hR10, hdone2, .inr ⟨rfl, c.2, by simp, hc.1, fun q hq hqq => ?_⟩⟩, by dsimp only; rw [Rng_tlen hR10, ht6]; exact hlen2⟩
          simp only [List.mem_append, List.mem_singleton] at hq
          have self : ∀ l : List UInt8, cmpL l l = 0 := by
            intro l; induction l with
            | nil => rfl
            | cons x l ih => simp [cmpL, UInt8.lt_irrefl, ih]
          rcases hq with hq | rfl
          · rcases hW6 with ⟨_, _, _, h4⟩ | ⟨_, n, _, _, h4⟩
            · exact absurd hqq (h4 q hq)
            · have h5 := h4 q hq hqq
              rcases ht hc.2 with h0 | h0 | ⟨h0, h1⟩
              · simp_all
              · left; show q.1.round < c.1.round; omega
              · rcases h5 with h5 | ⟨h5, h6⟩
                · left; show q.1.round < c.1.round; omega
                · right
                  refine ⟨by show q.1.round = c.1.round; omega, cmpL_trans _ _ _ (by simp [digL]) (by simp [digL]) h6 h1⟩
          · right
            exact ⟨rfl, by rw [self]; exact Int.le_refl _⟩
        · have hR10 := tr2 (h' := h') (hs'.at_ (i := 1) rfl) (hs'.at_ (i := 3) rfl)
          refine ⟨⟨bd, o3, done2 ++ [c], rest2, hs'.drop (List.sublist_cons_self _ _), hR10, hdone2, ?_⟩, by dsimp only; rw [Rng_tlen hR10, ht6]; exact hlen2⟩
          rcases hW6 with ⟨h1, h2, h3, h4⟩ | ⟨h1, n, h2, h3, h4⟩
          · refine .inl ⟨h1, h2, h3, fun q hq => ?_⟩
            simp only [List.mem_append, List.mem_singleton] at hq
            rcases hq with hq | rfl
            · exact h4 q hq
            · intro hqq
              cases hfi : first with
              | true => simp [hfi, hqq] at hc
              | false => have := (hf hfi).1; rw [h1] at this; cases this
          · refine .inr ⟨h1, n, by simp [h2], h3, fun q hq hqq => ?_⟩
            simp only [List.mem_append, List.mem_singleton] at hq
            rcases hq with hq | rfl
            · exact h4 q hq hqq
            · cases hfi : first with
              | true => simp [hfi, hqq] at hc
              | false => exact (hf hfi).2
      refine ifb_i (fun hc => ?_) (fun hc => ?_)
      · refine tail true h9 hs9 (fun _ => ?_) (fun h => by cases h)
        cases found with
        | false => exact .inl rfl
        | true => right; left; simpa using hc
      · have hfo : found = true ∧ ¬ at_ < c.1.round := by
          cases found with
          | false => simp at hc
          | true => exact ⟨rfl, by simpa using hc⟩
        refine hs9.ld_ 0 rfl ?_
        refine ifb_i (fun hc2 => ?_) (fun hc2 => ?_)
        · have he : c.1.round = at_ := by simpa using hc2
          refine slices_Compare_byte.ok _ _ _ _ (Compare_spec _ _ (List.ofFn c.1.digest) (List.ofFn bd) (choice_dig (Cel.at_ (hs9.at_ (i := 0) rfl))) (hs9.wholeSV 4 rfl (by decide)) (by simp) (by simp) ?_)
          refine tail _ h9 hs9 (fun h => ?_) (fun h => ⟨hfo.1, .inr ⟨he, ?_⟩⟩)
          · right; right; exact ⟨he, by simpa [digL] using h⟩
          · have : ¬ cmpL (List.ofFn c.1.digest) (List.ofFn bd) < 0 := by simpa using h
            simp only [digL]; omega
        · have he : ¬ c.1.round = at_ := by simpa using hc2
          exact tail false h9 hs9 (fun h => by cases h) (fun _ => ⟨hfo.1, .inl (by omega)⟩)
  · refine ifb_i (fun _ => ?_) (fun hc => by cases hc)
    refine ⟨⟨q.1, q.2⟩, ⟨_, hE4⟩, ?_⟩
    have hlen : rest.length < todo.length := by rw [hq.length_eq]; simp
    have hdone : ((done ++ [q]) ++ rest).Perm l := by
      refine List.Perm.trans ?_ hp3
      rw [List.append_assoc]
      exact List.Perm.append_left _ hq.symm
    have tr : ∀ {h' L'}, Sat h [] h' L' → h'[it.block]? = some o' → Rng h' it ⟨some r⟩ rest := fun {h' L'} hs' hi' => Rng_tr hR4 (by
        rw [hi']; exact (hs4.at_ (i := 0) rfl).symm) (fun r' hr' => by
        obtain rfl : r = r' := Option.some.inj hr'
        rw [hs'.fr.same r hrlt (by simp), hs4.fr.same r hrlt (by simp)])
    have hdl : done.length < 2 ^ 20 := by have := hp3.length_eq; simp at this; omega
    refine hs4.box_ (fun pp h5 hs5 _ _ => ?_)
    refine hs5.box_ (fun vv h6 hs6 _ _ => ?_)
    refine hs6.st_ 1 rfl len_vote_place (fun h7 hs7 _ => ?_)
    refine hs7.st_ 0 rfl len_api_Vote (fun h8 hs8 _ => ?_)
    refine hs8.ld_ 1 rfl ?_
    have skip : ∀ h', Sat h [] h' [cel 37 vv (enc q.2), cel 115 pp (enc q.1), rawE it.block o', mpE sn cs, cel 24 best (enc dz), cel 24 t6 (enc dz)] → ¬ (q.1.kind = kind ∧ q.2.Digest ≠ dz) →
        (∃ (cs : List (vote_choice × Int)) (o : Obj) (done todo : Vts), Sat h [] h' [rawE it.block o, mpE sn cs, cel 24 best (enc dz), cel 24 t6 (enc dz)] ∧ Rng h' it ⟨some r⟩ todo ∧ (done ++ todo).Perm l ∧ CountOf cs done kind) ∧ tlen h' it < tlen h3 it := by
      intro h' hs' hne
      have hR7 := tr hs' (hs'.at_ (i := 2) rfl)
      exact ⟨⟨cs, o', done ++ [q], rest, (hs'.drop (List.sublist_cons_self _ _)).drop (List.sublist_cons_self _ _), hR7, hdone, hC3.skip q hne⟩, by rw [Rng_tlen hR7, ht3]; exact hlen⟩
    refine ifb_i (fun hc => ?_) (fun hc => ?_)
    · have hkd : q.1.kind = kind := by simpa using hc
      refine hs8.ld_ 0 rfl ?_
      refine vote_none.ok _ _ (none_spec (fun h9 hx9 => ?_))
      have hs9 := hs8.ext hx9
      refine hs9.chk_ 0 rfl rfl ?_
      unfold vote_Box_Winner.j2
      refine ifb_i (fun hc2 => ?_) (fun hc2 => ?_)
      · have hdn : q.2.Digest ≠ dz := by
          have h9 : ¬ q.2.Digest = fun _ => 0 := by simpa using hc2
          exact h9
        refine hs9.ld_ 1 rfl ?_
        refine hs9.ld_ 0 rfl ?_
        have e0 : mins0 (0 : Int) cs (chq q) = (cntF done kind (chq q) : Int) := by
          unfold mins0; rw [hC3.cnt]; split
          · rename_i h0; simp [h0]
          · rfl
        have e1 : (mlook (0 : Int) cs (chq q)).a = (cntF done kind (chq q) : Int) := by
          unfold mlook; rw [hC3.cnt]
          by_cases h0 : cntF done kind (chq q) = 0
          · rw [if_pos h0, h0]; rfl
          · rw [if_neg h0]
        refine ⟨(cntF done kind (chq q) : Int), ⟨cs, mpE_is (hs9.at_ (i := 3) rfl), e1⟩, ?_⟩
        refine hs9.ment_ 3 rfl (fun s h10 hs10 => ?_)
        have hs10' : Sat h [] h10 [cel 37 vv (enc q.2), cel 115 pp (enc q.1), rawE it.block o', stE sn (mins cs (chq q) (cntF done kind (chq q) : Int)) (chq q) s, cel 24 best (enc dz), cel 24 t6 (enc dz)] := by
          rw [← e0]; exact hs10
        refine hs10'.stchk_ 3 rfl ?_ ?_
        · show (mlook (0 : Int) (mins cs (chq q) (cntF done kind (chq q) : Int)) (chq q)).a = _
          unfold mlook; rw [mfind_mins]; simp
        have hcl := cntF_le done kind (chq q)
        have e2 : iadd (cntF done kind (chq q) : Int) 1 = ((cntF done kind (chq q) + 1 : Nat) : Int) := by rw [iadd_eq (by omega) (by omega)]; omega
        rw [e2]
        refine hs10'.mste_ 3 rfl (fun h11 hs11 => ?_)
        have hR7 := tr hs11 (hs11.at_ (i := 2) rfl)
        exact ⟨⟨_, o', done ++ [q], rest, (hs11.drop (List.sublist_cons_self _ _)).drop (List.sublist_cons_self _ _), hR7, hdone, hC3.put q hkd hdn⟩, by dsimp only; rw [Rng_tlen hR7, ht3]; exact hlen⟩
      · have hdn : q.2.Digest = dz := by
          have h9 : q.2.Digest = fun _ => 0 := by simpa using hc2
          exact h9
        exact skip h9 hs9 (fun h => h.2 hdn)
    · have hkd : ¬ q.1.kind = kind := by simpa using hc
      unfold vote_Box_Winner.j2
      refine ifb_i (fun hc2 => by cases hc2) (fun _ => ?_)
      exact skip h8 hs8 (fun h => hkd h.1)
end Go.Proofs.YtimmoekliphobaaDoor
namespace Go.Proofs.YtimmoekliphobaaDoor
open Go Go.Sh
open Go.Sh.Ty (reg)
set_option linter.unusedVariables false
set_option maxRecDepth 100000
set_option maxHeartbeats 4000000
theorem ref13_Good.ok (v : api_Vote) (k : Bool → H → Prop) (h : H) (hh : ref13_Good.b v k h) : CallsH Prog 10 [reg v].toArray h fun v h' => ∃ r : Bool, v = reg r ∧ k r h' := by
  unfold ref13_Good.b at hh
  refine CallsH.of 49 Tryd.func10 rfl Tryd.ntmps10 rfl (fun w0 => ?_)
  refine CW.seq ?_
  refine CW.region ?_
  refine box_elim hh (fun v_1 hv_1 hh => ?_)
  refine .e (e_boxP hv_1 rfl rfl rfl ?_)
  refine .val (v_assign (v := reg (false : Bool)) rfl) rfl ?_
  refine .nil ?_
  refine QN.then_ ?_
  refine CW.seq ?_
  refine CW.seq ?_
  refine CW.region ?_
  refine .val (v_fieldAddr fl_37_0 rfl) rfl ?_
  obtain ⟨t4, ⟨xt4, hxt4, hgt4⟩, hh⟩ := hh
  refine .val (v_ld1 (p := v_1) 0 na_3 rfl hxt4 hgt4 get_37_Kind) rfl ?_
  refine .val (v_ineq rfl rfl) rfl ?_
  refine .val (v_move (v := reg ((t4 != (1 : Int)) : Bool)) rfl) rfl ?_
  refine .tv 6 rfl rfl rfl (fun hb => v_fieldAddr fl_37_0 rfl) rfl ?_
  obtain ⟨t8, ⟨xt8, hxt8, hgt8⟩, hh⟩ := hh
  refine .tv 6 rfl rfl rfl (fun hb => v_ld1 (p := v_1) 0 na_3 (gt hb) hxt8 hgt8 get_37_Kind) rfl ?_
  refine .tv 6 rfl rfl rfl (fun hb => v_ineq (gt hb) rfl) rfl ?_
  refine .val (v_pick_and rfl (fun hb => gt hb) rfl) rfl ?_
  refine .val (v_move (v := reg (((t4 != (1 : Int)) && (t8 != (2 : Int))) : Bool)) rfl) rfl ?_
  refine .fv 11 rfl rfl rfl (fun hb => v_fieldAddr fl_37_1 rfl) rfl ?_
  obtain ⟨t13, ⟨xt13, hxt13, hgt13⟩, hh⟩ := hh
  refine .fv 11 rfl rfl rfl (fun hb => v_ld1 (p := v_1) 1 na_3 (gf hb) hxt13 hgt13 get_37_Epoch) rfl ?_
  refine .fv 11 rfl rfl rfl (fun hb => v_ilss (gf hb) rfl) rfl ?_
  refine .val (v_pick_or rfl rfl (fun hb => gf hb)) rfl ?_
  refine .val (v_move (v := reg ((((t4 != (1 : Int)) && (t8 != (2 : Int))) || (decide (t13 < (0 : Int)))) : Bool)) rfl) rfl ?_
  refine .fv 16 rfl rfl rfl (fun hb => v_fieldAddr fl_37_1 rfl) rfl ?_
  obtain ⟨t18, ⟨xt18, hxt18, hgt18⟩, hh⟩ := hh
  refine .fv 16 rfl rfl rfl (fun hb => v_ld1 (p := v_1) 1 na_3 (gf hb) hxt18 hgt18 get_37_Epoch) rfl ?_
  refine .fv 16 rfl rfl rfl (fun hb => v_igtr (gf hb) rfl) rfl ?_
  refine .val (v_pick_or rfl rfl (fun hb => gf hb)) rfl ?_
  refine .val (v_move (v := reg (((((t4 != (1 : Int)) && (t8 != (2 : Int))) || (decide (t13 < (0 : Int)))) || (decide ((1073741824 : Int) < t18))) : Bool)) rfl) rfl ?_
  refine .fv 21 rfl rfl rfl (fun hb => v_fieldAddr fl_37_2 rfl) rfl ?_
  obtain ⟨t23, ⟨xt23, hxt23, hgt23⟩, hh⟩ := hh
  refine .fv 21 rfl rfl rfl (fun hb => v_ld1 (p := v_1) 2 na_3 (gf hb) hxt23 hgt23 get_37_Height) rfl ?_
  refine .fv 21 rfl rfl rfl (fun hb => v_ilss (gf hb) rfl) rfl ?_
  refine .val (v_pick_or rfl rfl (fun hb => gf hb)) rfl ?_
  refine .val (v_move (v := reg ((((((t4 != (1 : Int)) && (t8 != (2 : Int))) || (decide (t13 < (0 : Int)))) || (decide ((1073741824 : Int) < t18))) || (decide (t23 < (1 : Int)))) : Bool)) rfl) rfl ?_
  refine .fv 26 rfl rfl rfl (fun hb => v_fieldAddr fl_37_2 rfl) rfl ?_
  obtain ⟨t28, ⟨xt28, hxt28, hgt28⟩, hh⟩ := hh
  refine .fv 26 rfl rfl rfl (fun hb => v_ld1 (p := v_1) 2 na_3 (gf hb) hxt28 hgt28 get_37_Height) rfl ?_
  refine .fv 26 rfl rfl rfl (fun hb => v_igtr (gf hb) rfl) rfl ?_
  refine .val (v_pick_or rfl rfl (fun hb => gf hb)) rfl ?_
  refine .nil ?_
  refine QN.then_ ?_
  refine CW.cond ((((((t4 != (1 : Int)) && (t8 != (2 : Int))) || (decide (t13 < (0 : Int)))) || (decide ((1073741824 : Int) < t18))) || (decide (t23 < (1 : Int)))) || (decide ((1024 : Int) < t28))) rfl (fun hb => ?_) (fun hb => ?_)
  · have hh := hh.1 hb
    refine CW.seq ?_
    refine CW.region ?_
    refine .val (v_assign (v := reg (false : Bool)) rfl) rfl ?_
    refine .nil ?_
    refine QN.then_ ?_
    refine CW.ret ?_
    refine QN.thenRet ?_
    exact ret1 rfl rfl ⟨(false : Bool), rfl, hh⟩
  · have hh := hh.2 hb
    refine CW.skip ?_
    refine QN.then_ ?_
    refine CW.seq ?_
    refine CW.region ?_
    refine .val (v_fieldAddr fl_37_3 rfl) rfl ?_
    obtain ⟨t32, ⟨xt32, hxt32, hgt32⟩, hh⟩ := hh
    refine .val (v_ld1 (p := v_1) 3 na_3 rfl hxt32 hgt32 get_37_Round) rfl ?_
    refine .val (v_igeq rfl rfl) rfl ?_
    refine .val (v_move (v := reg ((decide ((0 : Int) ≤ t32)) : Bool)) rfl) rfl ?_
    refine .tv 34 rfl rfl rfl (fun hb => v_fieldAddr fl_37_3 rfl) rfl ?_
    obtain ⟨t36, ⟨xt36, hxt36, hgt36⟩, hh⟩ := hh
    refine .tv 34 rfl rfl rfl (fun hb => v_ld1 (p := v_1) 3 na_3 (gt hb) hxt36 hgt36 get_37_Round) rfl ?_
    refine .tv 34 rfl rfl rfl (fun hb => v_ileq (gt hb) rfl) rfl ?_
    refine .val (v_pick_and rfl (fun hb => gt hb) rfl) rfl ?_
    refine .val (v_move (v := reg (((decide ((0 : Int) ≤ t32)) && (decide (t36 ≤ (1024 : Int)))) : Bool)) rfl) rfl ?_
    refine .tv 39 rfl rfl rfl (fun hb => v_fieldAddr fl_37_5 rfl) rfl ?_
    obtain ⟨t41, ⟨xt41, hxt41, hgt41⟩, hh⟩ := hh
    refine .tv 39 rfl rfl rfl (fun hb => v_ld1 (p := v_1) 36 na_3 (gt hb) hxt41 hgt41 get_37_From) rfl ?_
    refine .tv 39 rfl rfl rfl (fun hb => v_igeq (gt hb) rfl) rfl ?_
    refine .val (v_pick_and rfl (fun hb => gt hb) rfl) rfl ?_
    refine .val (v_move (v := reg ((((decide ((0 : Int) ≤ t32)) && (decide (t36 ≤ (1024 : Int)))) && (decide ((1 : Int) ≤ t41))) : Bool)) rfl) rfl ?_
    refine .tv 44 rfl rfl rfl (fun hb => v_fieldAddr fl_37_5 rfl) rfl ?_
    obtain ⟨t46, ⟨xt46, hxt46, hgt46⟩, hh⟩ := hh
    refine .tv 44 rfl rfl rfl (fun hb => v_ld1 (p := v_1) 36 na_3 (gt hb) hxt46 hgt46 get_37_From) rfl ?_
    refine .tv 44 rfl rfl rfl (fun hb => v_ileq (gt hb) rfl) rfl ?_
    refine .val (v_pick_and rfl (fun hb => gt hb) rfl) rfl ?_
    refine .val (v_assign (v := reg (((((decide ((0 : Int) ≤ t32)) && (decide (t36 ≤ (1024 : Int)))) && (decide ((1 : Int) ≤ t41))) && (decide (t46 ≤ (63 : Int)))) : Bool)) rfl) rfl ?_
    refine .nil ?_
    refine QN.then_ ?_
    refine CW.ret ?_
    exact ret1 rfl rfl ⟨(((((decide ((0 : Int) ≤ t32)) && (decide (t36 ≤ (1024 : Int)))) && (decide ((1 : Int) ≤ t41))) && (decide (t46 ≤ (63 : Int)))) : Bool), rfl, hh⟩
end Go.Proofs.YtimmoekliphobaaDoor
namespace Go.Proofs.YtimmoekliphobaaDoor
open Go Go.Sh
open Go.Sh.Ty (reg)
set_option linter.unusedVariables false
set_option maxRecDepth 100000
set_option maxHeartbeats 4000000
theorem law13_great.ok (s : api_Sig) (k : Bool → H → Prop) (h : H) (hh : law13_great.b s k h) : CallsH Prog 11 [reg s].toArray h fun v h' => ∃ r : Bool, v = reg r ∧ k r h' := by
  unfold law13_great.b at hh
  refine CallsH.of 21 Tryd.func11 rfl Tryd.ntmps11 rfl (fun w0 => ?_)
  refine CW.seq ?_
  refine CW.region ?_
  refine box_elim hh (fun s_1 hs_1 hh => ?_)
  refine .e (e_boxP hs_1 rfl rfl rfl ?_)
  refine .val (v_assign (v := reg (false : Bool)) rfl) rfl ?_
  refine .nil ?_
  refine QN.then_ ?_
  refine CW.seq ?_
  refine CW.region ?_
  refine .val (v_fieldAddr fl_35_1 rfl) rfl ?_
  refine .val (v_fieldAddr fl_33_0 rfl) rfl ?_
  obtain ⟨t5, ⟨xt5, hxt5, hgt5⟩, hh⟩ := hh
  refine .val (v_ld1 (p := s_1) 1 na_31 rfl hxt5 hgt5 get_35_Once_Open) rfl ?_
  refine .val (v_len_sl (sl_31).1 rfl) rfl ?_
  refine .val (v_igtr rfl rfl) rfl ?_
  refine .val (v_move (v := reg ((decide ((200 : Int) < (t5.len : Int))) : Bool)) rfl) rfl ?_
  refine .fv 8 rfl rfl rfl (fun hb => v_fieldAddr fl_35_1 rfl) rfl ?_
  refine .fv 8 rfl rfl rfl (fun hb => v_fieldAddr fl_33_1 (gf hb)) rfl ?_
  obtain ⟨t11, ⟨xt11, hxt11, hgt11⟩, hh⟩ := hh
  refine .fv 8 rfl rfl rfl (fun hb => v_ld1 (p := s_1) 2 na_31 (gf hb) hxt11 hgt11 get_35_Once_Shut) rfl ?_
  refine .fv 8 rfl rfl rfl (fun hb => v_len_sl (sl_31).1 (gf hb)) rfl ?_
  refine .fv 8 rfl rfl rfl (fun hb => v_igtr (gf hb) rfl) rfl ?_
  refine .val (v_pick_or rfl rfl (fun hb => gf hb)) rfl ?_
  refine .val (v_move (v := reg (((decide ((200 : Int) < (t5.len : Int))) || (decide ((200 : Int) < (t11.len : Int)))) : Bool)) rfl) rfl ?_
  refine .fv 15 rfl rfl rfl (fun hb => v_fieldAddr fl_35_2 rfl) rfl ?_
  obtain ⟨t17, ⟨xt17, hxt17, hgt17⟩, hh⟩ := hh
  refine .fv 15 rfl rfl rfl (fun hb => v_ld1 (p := s_1) 3 na_31 (gf hb) hxt17 hgt17 get_35_Path) rfl ?_
  refine .fv 15 rfl rfl rfl (fun hb => v_len_sl (sl_31).1 (gf hb)) rfl ?_
  refine .fv 15 rfl rfl rfl (fun hb => v_igtr (gf hb) rfl) rfl ?_
  refine .val (v_pick_or rfl rfl (fun hb => gf hb)) rfl ?_
  refine .val (v_assign (v := reg ((((decide ((200 : Int) < (t5.len : Int))) || (decide ((200 : Int) < (t11.len : Int)))) || (decide ((200 : Int) < (t17.len : Int)))) : Bool)) rfl) rfl ?_
  refine .nil ?_
  refine QN.then_ ?_
  refine CW.ret ?_
  exact ret1 rfl rfl ⟨((((decide ((200 : Int) < (t5.len : Int))) || (decide ((200 : Int) < (t11.len : Int)))) || (decide ((200 : Int) < (t17.len : Int)))) : Bool), rfl, hh⟩
end Go.Proofs.YtimmoekliphobaaDoor
namespace Go.Proofs.YtimmoekliphobaaDoor
open Go Go.Sh
open Go.Sh.Ty (reg)
set_option linter.unusedVariables false
set_option maxRecDepth 100000
set_option maxHeartbeats 4000000
theorem ref13_Box_Add.ok (b : Pt) (v : api_Vote) (k : Bool → H → Prop) (h : H) (hh : ref13_Box_Add.b b v k h) : CallsH Prog 13 [reg b, reg v].toArray h fun v h' => ∃ r : Bool, v = reg r ∧ k r h' := by
  unfold ref13_Box_Add.b at hh
  refine CallsH.of 48 Tryd.func13 rfl Tryd.ntmps13 rfl (fun w0 => ?_)
  refine CW.seq ?_
  refine CW.region ?_
  refine box_elim hh (fun v_1 hv_1 hh => ?_)
  refine .e (e_boxP hv_1 rfl rfl rfl ?_)
  refine .val (v_assign (v := reg (false : Bool)) rfl) rfl ?_
  refine .nil ?_
  refine QN.then_ ?_
  refine CW.join (fun ρ h => ∃ (ρ' : Env), ρ = setl ρ' [(0, reg (b : Pt)), (3, .pointer (some v_1))] ∧ (ref13_Box_Add.j1 k) b v_1 h) ?_ ?_
  · refine CW.seq ?_
    refine CW.region ?_
    refine .val (v_move (v := reg (b : Pt)) rfl) rfl ?_
    obtain ⟨p, hp, hh⟩ := hh
    refine .val (v_nilCheck (congrArg Value.pointer hp)) rfl ?_
    refine .val (v_fieldAddr fl_30_0 rfl) rfl ?_
    obtain ⟨t10, ⟨xt10, hxt10, hgt10⟩, hh⟩ := hh
    refine .val (v_ld1 (p := p) 0 na_22 rfl hxt10 hgt10 get_30_Votes) rfl ?_
    refine .val (v_len_sl (sl_22).1 rfl) rfl ?_
    refine .val (v_move (v := reg ((0 : Int) : Int)) rfl) rfl ?_
    refine .nil ?_
    refine QN.then_ ?_
    refine CW.block ?_
    unfold ref13_Box_Add.l1 at hh
    refine CW.loop (fun (σ0 : Int) ρ => match σ0 with | t12 => ∃ ρ' : Env, ρ = setl ρ' [(0, reg (b : Pt)), (3, .pointer (some v_1)), (10, reg (t10 : Sl)), (11, reg ((t10.len : Int) : Int)), (12, reg (t12 : Int))]) hh ⟨_, setl_eq ⟨rfl, ⟨rfl, ⟨rfl, ⟨rfl, ⟨rfl, trivial⟩⟩⟩⟩⟩⟩ ?_
    clear hh
    rintro s1 t12 ρ h ⟨ρ', rfl⟩ hh
    refine CW.seq ?_
    refine CW.region ?_
    refine .val (v_ilss rfl rfl) rfl ?_
    refine .nil ?_
    refine QN.then_ ?_
    refine CW.seq ?_
    refine CW.cond (decide (t12 < (t10.len : Int))) rfl (fun hb => ?_) (fun hb => ?_)
    · have hh := hh.1 hb
      refine CW.skip ?_
      refine QN.then_ ?_
      refine CW.seq ?_
      refine CW.block ?_
      refine CW.seq ?_
      refine CW.region ?_
      obtain ⟨t14, ht14, hh⟩ := hh
      refine .val (v_idx_slP sl_22 rfl rfl ht14.1 ht14.2.1 ht14.2.2) rfl ?_
      obtain ⟨t15, ⟨xt15, hxt15, hgt15⟩, hh⟩ := hh
      refine .val (v_ldA (p := t14) 0 ag_37 rfl hxt15 hgt15 get_37_all (fun _ => (len_api_Vote _)) (fun _ => rfl)) rfl ?_
      refine box_elim hh (fun x hx hh => ?_)
      refine .e (e_allocP hx zo_37 rfl ?_)
      obtain ⟨xw, hxw, hwxw, hh⟩ := hh
      refine .e (e_storeN (p := x) (nv := enc (t15 : api_Vote)) 0 rfl rfl rfl sz_37 (one_api_Vote _) hxw hwxw (len_api_Vote _) (len_api_Vote _) rfl (set_37_all xw (t15 : api_Vote)) ?_)
      refine .nil ?_
      refine QN.then_ ?_
      refine CW.seq ?_
      refine CW.region ?_
      refine .val (v_fieldAddr fl_37_0 rfl) rfl ?_
      obtain ⟨t17, ⟨xt17, hxt17, hgt17⟩, hh⟩ := hh
      refine .val (v_ld1 (p := x) 0 na_3 rfl hxt17 hgt17 get_37_Kind) rfl ?_
      refine .val (v_fieldAddr fl_37_0 rfl) rfl ?_
      obtain ⟨t19, ⟨xt19, hxt19, hgt19⟩, hh⟩ := hh
      refine .val (v_ld1 (p := v_1) 0 na_3 rfl hxt19 hgt19 get_37_Kind) rfl ?_
      refine .val (v_ieql rfl rfl) rfl ?_
      refine .val (v_move (v := reg ((t17 == t19) : Bool)) rfl) rfl ?_
      refine .tv 21 rfl rfl rfl (fun hb => v_fieldAddr fl_37_3 rfl) rfl ?_
      obtain ⟨t23, ⟨xt23, hxt23, hgt23⟩, hh⟩ := hh
      refine .tv 21 rfl rfl rfl (fun hb => v_ld1 (p := x) 3 na_3 (gt hb) hxt23 hgt23 get_37_Round) rfl ?_
      refine .tv 21 rfl rfl rfl (fun hb => v_fieldAddr fl_37_3 rfl) rfl ?_
      obtain ⟨t25, ⟨xt25, hxt25, hgt25⟩, hh⟩ := hh
      refine .tv 21 rfl rfl rfl (fun hb => v_ld1 (p := v_1) 3 na_3 (gt hb) hxt25 hgt25 get_37_Round) rfl ?_
      refine .tv 21 rfl rfl rfl (fun hb => v_ieql (gt hb) (gt hb)) rfl ?_
      refine .val (v_pick_and rfl (fun hb => gt hb) rfl) rfl ?_
      refine .val (v_move (v := reg (((t17 == t19) && (t23 == t25)) : Bool)) rfl) rfl ?_
      refine .tv 28 rfl rfl rfl (fun hb => v_fieldAddr fl_37_5 rfl) rfl ?_
      obtain ⟨t30, ⟨xt30, hxt30, hgt30⟩, hh⟩ := hh
      refine .tv 28 rfl rfl rfl (fun hb => v_ld1 (p := x) 36 na_3 (gt hb) hxt30 hgt30 get_37_From) rfl ?_
      refine .tv 28 rfl rfl rfl (fun hb => v_fieldAddr fl_37_5 rfl) rfl ?_
      obtain ⟨t32, ⟨xt32, hxt32, hgt32⟩, hh⟩ := hh
      refine .tv 28 rfl rfl rfl (fun hb => v_ld1 (p := v_1) 36 na_3 (gt hb) hxt32 hgt32 get_37_From) rfl ?_
      refine .tv 28 rfl rfl rfl (fun hb => v_ieql (gt hb) (gt hb)) rfl ?_
      refine .val (v_pick_and rfl (fun hb => gt hb) rfl) rfl ?_
      refine .nil ?_
      refine QN.then_ ?_
      refine CW.cond (((t17 == t19) && (t23 == t25)) && (t30 == t32)) rfl (fun hb_1 => ?_) (fun hb_1 => ?_)
      · have hh := hh.1 hb_1
        refine CW.seq ?_
        refine CW.region ?_
        refine .val (v_assign (v := reg (false : Bool)) rfl) rfl ?_
        refine .nil ?_
        refine QN.then_ ?_
        refine CW.ret ?_
        refine QN.blockRet ?_
        refine QN.thenRet ?_
        refine QN.thenRet ?_
        refine QN.blockRet ?_
        refine QN.thenRet ?_
        exact ret1 rfl rfl ⟨(false : Bool), rfl, hh⟩
      · have hh := hh.2 hb_1
        refine CW.skip ?_
        refine QN.blockN ?_
        refine QN.then_ ?_
        refine CW.region ?_
        refine .val (v_iadd rfl rfl) rfl ?_
        refine .val (v_move (v := reg ((iadd t12 (1 : Int)) : Int)) rfl) rfl ?_
        refine .nil ?_
        exact QN.thenJ ⟨(iadd t12 (1 : Int)), ⟨_, setl_eq ⟨rfl, ⟨rfl, ⟨rfl, ⟨rfl, ⟨rfl, trivial⟩⟩⟩⟩⟩⟩, hh⟩
    · have hh := hh.2 hb
      refine CW.exit ?_
      refine QN.thenExit ?_
      refine QN.thenExit ?_
      refine QN.blockExit ?_
      exact QN.thenJ ⟨_, setl_eq ⟨rfl, ⟨rfl, trivial⟩⟩, hh⟩
  · rintro ρ h ⟨ρ', rfl, hh⟩
    unfold ref13_Box_Add.j1 at hh
    refine CW.join (fun ρ h => ∃ (ρ' : Env), ρ = setl ρ' [] ∧ (ref13_Box_Add.j2 k)  h) ?_ ?_
    · refine CW.drawN 13 rfl follows_mixed [0, 2, 3, 4, 5, 7, 10, 11] ?_
      refine .p 0 rfl (by kernel_rfl) (NoPanic.then_ (NoPanic.body)) (fun _ => v_move (v := reg (b : Pt)) rfl) ?_
      refine .p 2 rfl (by kernel_rfl) (NoPanic.then_ (NoPanic.body)) (fun _ => v_move (v := reg (b : Pt)) rfl) ?_
      obtain ⟨p_1, hp_1, hh⟩ := hh
      refine .p 3 rfl (by kernel_rfl) (NoPanic.then_ (NoPanic.body)) (fun _ => v_nilCheck (congrArg Value.pointer hp_1)) ?_
      refine .p 4 rfl (by kernel_rfl) (NoPanic.then_ (NoPanic.body)) (fun _ => v_fieldAddr fl_30_0 rfl) ?_
      obtain ⟨t41, ⟨xt41, hxt41, hgt41⟩, hh⟩ := hh
      refine .r 5 (fun h' => ∃ x : ref13_Box, AtH h' p_1 (enc x) ∧ ((fun (x : ref13_Box) => x.Votes) : ref13_Box → Sl) x = t41) rfl (by kernel_rfl) (NoPanic.then_ (NoPanic.body)) ⟨xt41, hxt41, hgt41⟩ (fun h' hS => hS.elim fun _ hS => v_ld1 (p := p_1) 0 na_22 rfl hS.1 hS.2 get_30_Votes) ?_
      obtain ⟨t43, ⟨xt43, hxt43, hgt43⟩, hh⟩ := hh
      refine .r 7 (fun h' => ∃ x : api_Vote, AtH h' v_1 (enc x) ∧ ((fun (x : api_Vote) => x) : api_Vote → api_Vote) x = t43) rfl (by kernel_rfl) (NoPanic.then_ (NoPanic.body)) ⟨xt43, hxt43, hgt43⟩ (fun h' hS => hS.elim fun _ hS => v_ldA (p := v_1) 0 ag_37 rfl hS.1 hS.2 get_37_all (fun _ => (len_api_Vote _)) (fun _ => rfl)) ?_
      refine .w2 1 8 (by kernel_rfl) rfl rfl (by kernel_rfl) (by kernel_rfl) ?_ ?_
      · have hh := hh.1
        refine mks_elim hh (fun pt37 t37 hpt37 ht37 hh => ?_)
        refine .e (e_mks ([] : List api_Vote) hpt37 ht37 zo_37 sl_22 rfl rfl rfl rfl rfl ?_)
        obtain ⟨hc, hh⟩ := hh
        obtain ⟨hc_1, hh⟩ := hh
        refine ⟨⟨⟨trivial, .inr hc⟩, .inr hc_1⟩, ?_⟩
        refine .w2 6 8 (by kernel_rfl) rfl rfl (by kernel_rfl) (by kernel_rfl) ?_ ?_
        · have hh := hh.1
          refine .e (e_app sl_22 zo_37 by_37 rfl rfl rfl hh ?_)
          intro h t42 hh
          obtain ⟨hc_2, hh⟩ := hh
          refine ⟨⟨⟨trivial, .inl (by kernel_rfl)⟩, .inr hc_2⟩, ?_⟩
          refine mks_elim hh (fun pt44 t44 hpt44 ht44 hh => ?_)
          refine .w 8 (by kernel_rfl) rfl (by kernel_rfl) (.e (e_mks [(t43 : api_Vote)] hpt44 ht44 zo_37 sl_22 rfl rfl rfl rfl rfl ?_))
          obtain ⟨hc_3, hh⟩ := hh
          refine ⟨⟨⟨trivial, .inr hc_3⟩, .inl (by kernel_rfl)⟩, ?_⟩
          refine .w 9 (by kernel_rfl) rfl (by kernel_rfl) (.e (e_app sl_22 zo_37 by_37 rfl rfl rfl hh ?_))
          intro h t45 hh
          refine ⟨⟨⟨trivial, .inl (by kernel_rfl)⟩, .inl (by kernel_rfl)⟩, ?_⟩
          refine .p 10 rfl (by kernel_rfl) (NoPanic.then_ (NoPanic.body)) (fun _ => v_nilCheck (congrArg Value.pointer hp_1)) ?_
          refine .p 11 rfl (by kernel_rfl) (NoPanic.then_ (NoPanic.body)) (fun _ => v_fieldAddr fl_30_0 rfl) ?_
          obtain ⟨xw_1, hxw_1, hwxw_1, hh⟩ := hh
          refine .w 12 (by kernel_rfl) rfl (by kernel_rfl) (.e (e_storeN (p := p_1) (nv := enc (t45 : Sl)) 0 rfl rfl rfl sz_22 (one_sl _) hxw_1 hwxw_1 (len_ref13_Box _) (len_sl _) rfl (set_30_Votes xw_1 (t45 : Sl)) ?_))
          refine ⟨⟨⟨trivial, .inl (by kernel_rfl)⟩, .inl (by kernel_rfl)⟩, ?_⟩
          refine .done (by kernel_rfl) ?_
          exact QN.thenJ ⟨_, setl_eq trivial, hh⟩
        · have hh := hh.2
          refine mks_elim hh (fun pt44_1 t44_1 hpt44_1 ht44_1 hh => ?_)
          refine .e (e_mks [(t43 : api_Vote)] hpt44_1 ht44_1 zo_37 sl_22 rfl rfl rfl rfl rfl ?_)
          obtain ⟨hc_4, hh⟩ := hh
          refine ⟨⟨⟨trivial, .inr hc_4⟩, .inl (by kernel_rfl)⟩, ?_⟩
          refine .w 6 (by kernel_rfl) rfl (by kernel_rfl) (.e (e_app sl_22 zo_37 by_37 rfl rfl rfl hh ?_))
          intro h t42_1 hh
          obtain ⟨hc_5, hh⟩ := hh
          refine ⟨⟨⟨trivial, .inl (by kernel_rfl)⟩, .inr hc_5⟩, ?_⟩
          refine .w 9 (by kernel_rfl) rfl (by kernel_rfl) (.e (e_app sl_22 zo_37 by_37 rfl rfl rfl hh ?_))
          intro h t45_1 hh
          refine ⟨⟨⟨trivial, .inl (by kernel_rfl)⟩, .inl (by kernel_rfl)⟩, ?_⟩
          refine .p 10 rfl (by kernel_rfl) (NoPanic.then_ (NoPanic.body)) (fun _ => v_nilCheck (congrArg Value.pointer hp_1)) ?_
          refine .p 11 rfl (by kernel_rfl) (NoPanic.then_ (NoPanic.body)) (fun _ => v_fieldAddr fl_30_0 rfl) ?_
          obtain ⟨xw_2, hxw_2, hwxw_2, hh⟩ := hh
          refine .w 12 (by kernel_rfl) rfl (by kernel_rfl) (.e (e_storeN (p := p_1) (nv := enc (t45_1 : Sl)) 0 rfl rfl rfl sz_22 (one_sl _) hxw_2 hwxw_2 (len_ref13_Box _) (len_sl _) rfl (set_30_Votes xw_2 (t45_1 : Sl)) ?_))
          refine ⟨⟨⟨trivial, .inl (by kernel_rfl)⟩, .inl (by kernel_rfl)⟩, ?_⟩
          refine .done (by kernel_rfl) ?_
          exact QN.thenJ ⟨_, setl_eq trivial, hh⟩
      · have hh := hh.2
        refine mks_elim hh (fun pt44_2 t44_2 hpt44_2 ht44_2 hh => ?_)
        refine .e (e_mks [(t43 : api_Vote)] hpt44_2 ht44_2 zo_37 sl_22 rfl rfl rfl rfl rfl ?_)
        obtain ⟨hc_6, hh⟩ := hh
        refine ⟨⟨⟨trivial, .inr hc_6⟩, .inl (by kernel_rfl)⟩, ?_⟩
        refine mks_elim hh (fun pt37_1 t37_1 hpt37_1 ht37_1 hh => ?_)
        refine .w 1 (by kernel_rfl) rfl (by kernel_rfl) (.e (e_mks ([] : List api_Vote) hpt37_1 ht37_1 zo_37 sl_22 rfl rfl rfl rfl rfl ?_))
        obtain ⟨hc_7, hh⟩ := hh
        obtain ⟨hc_8, hh⟩ := hh
        refine ⟨⟨⟨trivial, .inr hc_7⟩, .inr hc_8⟩, ?_⟩
        refine .w 6 (by kernel_rfl) rfl (by kernel_rfl) (.e (e_app sl_22 zo_37 by_37 rfl rfl rfl hh ?_))
        intro h t42_2 hh
        obtain ⟨hc_9, hh⟩ := hh
        refine ⟨⟨⟨trivial, .inl (by kernel_rfl)⟩, .inr hc_9⟩, ?_⟩
        refine .w 9 (by kernel_rfl) rfl (by kernel_rfl) (.e (e_app sl_22 zo_37 by_37 rfl rfl rfl hh ?_))
        intro h t45_2 hh
        refine ⟨⟨⟨trivial, .inl (by kernel_rfl)⟩, .inl (by kernel_rfl)⟩, ?_⟩
        refine .p 10 rfl (by kernel_rfl) (NoPanic.then_ (NoPanic.body)) (fun _ => v_nilCheck (congrArg Value.pointer hp_1)) ?_
        refine .p 11 rfl (by kernel_rfl) (NoPanic.then_ (NoPanic.body)) (fun _ => v_fieldAddr fl_30_0 rfl) ?_
        obtain ⟨xw_3, hxw_3, hwxw_3, hh⟩ := hh
        refine .w 12 (by kernel_rfl) rfl (by kernel_rfl) (.e (e_storeN (p := p_1) (nv := enc (t45_2 : Sl)) 0 rfl rfl rfl sz_22 (one_sl _) hxw_3 hwxw_3 (len_ref13_Box _) (len_sl _) rfl (set_30_Votes xw_3 (t45_2 : Sl)) ?_))
        refine ⟨⟨⟨trivial, .inl (by kernel_rfl)⟩, .inl (by kernel_rfl)⟩, ?_⟩
        refine .done (by kernel_rfl) ?_
        exact QN.thenJ ⟨_, setl_eq trivial, hh⟩
    · rintro ρ h ⟨ρ', rfl, hh⟩
      unfold ref13_Box_Add.j2 at hh
      refine CW.seq ?_
      refine CW.region ?_
      refine .val (v_assign (v := reg (true : Bool)) rfl) rfl ?_
      refine .nil ?_
      refine QN.then_ ?_
      refine CW.ret ?_
      exact ret1 rfl rfl ⟨(true : Bool), rfl, hh⟩
end Go.Proofs.YtimmoekliphobaaDoor
namespace Go.Proofs.YtimmoekliphobaaDoor
open Go Go.Sh
open Go.Sh.Ty (reg)
set_option linter.unusedVariables false
set_option maxRecDepth 100000
set_option maxHeartbeats 4000000
theorem ref13_Box_For.ok (b : Pt) (kind : Int) (round : Int) (d : Arr 32 UInt8) (k : Sl → H → Prop) (h : H) (hh : ref13_Box_For.b b kind round d k h) : CallsH Prog 15 [reg b, reg kind, reg round, reg d].toArray h fun v h' => ∃ r : Sl, v = reg r ∧ k r h' := by
  unfold ref13_Box_For.b at hh
  refine CallsH.of 54 Tryd.func15 rfl Tryd.ntmps15 rfl (fun w0 => ?_)
  refine CW.seq ?_
  refine CW.region ?_
  refine box_elim hh (fun d_1 hd_1 hh => ?_)
  refine .e (e_boxP hd_1 rfl rfl rfl ?_)
  refine .val (v_assign (v := reg (Sl.nil : Sl)) rfl) rfl ?_
  refine .nil ?_
  refine QN.then_ ?_
  refine CW.seq ?_
  refine CW.region ?_
  refine .val (v_assign (v := reg (Sl.nil : Sl)) rfl) rfl ?_
  refine .nil ?_
  refine QN.then_ ?_
  refine CW.join (fun ρ h => ∃ (ρ' : Env) (out_4 : Sl), ρ = setl ρ' [(9, reg (out_4 : Sl))] ∧ (ref13_Box_For.j1 k) out_4 h) ?_ ?_
  · refine CW.seq ?_
    refine CW.region ?_
    refine .val (v_assign (v := reg ((1 : Int) : Int)) rfl) rfl ?_
    refine .nil ?_
    refine QN.then_ ?_
    refine CW.block ?_
    unfold ref13_Box_For.l1 at hh
    refine CW.loop (fun (σ0 : Sl × Int) ρ => match σ0 with | (out, from_) => ∃ ρ' : Env, ρ = setl ρ' [(0, reg (b : Pt)), (1, reg (kind : Int)), (2, reg (round : Int)), (7, .pointer (some d_1)), (9, reg (out : Sl)), (10, reg (from_ : Int))]) hh ⟨_, setl_eq ⟨rfl, ⟨rfl, ⟨rfl, ⟨rfl, ⟨rfl, ⟨rfl, trivial⟩⟩⟩⟩⟩⟩⟩ ?_
    clear hh
    rintro s1 ⟨out, from_⟩ ρ h ⟨ρ', rfl⟩ hh
    refine CW.seq ?_
    refine CW.seq ?_
    refine CW.region ?_
    refine .val (v_move (v := reg (from_ : Int)) rfl) rfl ?_
    refine .val (v_ileq rfl rfl) rfl ?_
    refine .nil ?_
    refine QN.then_ ?_
    refine CW.cond (decide (from_ ≤ (63 : Int))) rfl (fun hb => ?_) (fun hb => ?_)
    · have hh := hh.1 hb
      refine CW.skip ?_
      refine QN.then_ ?_
      refine CW.join (fun ρ h => ∃ (ρ' : Env) (out_3 : Sl), ρ = setl ρ' [(0, reg (b : Pt)), (1, reg (kind : Int)), (2, reg (round : Int)), (7, .pointer (some d_1)), (9, reg (out_3 : Sl)), (10, reg (from_ : Int))] ∧ (ref13_Box_For.j2 s1) b kind round d_1 out_3 from_ h) ?_ ?_
      · refine CW.block ?_
        refine CW.seq ?_
        refine CW.region ?_
        refine .val (v_move (v := reg (b : Pt)) rfl) rfl ?_
        obtain ⟨p, hp, hh⟩ := hh
        refine .val (v_nilCheck (congrArg Value.pointer hp)) rfl ?_
        refine .val (v_fieldAddr fl_30_0 rfl) rfl ?_
        obtain ⟨t20, ⟨xt20, hxt20, hgt20⟩, hh⟩ := hh
        refine .val (v_ld1 (p := p) 0 na_22 rfl hxt20 hgt20 get_30_Votes) rfl ?_
        refine .val (v_len_sl (sl_22).1 rfl) rfl ?_
        refine .val (v_move (v := reg ((0 : Int) : Int)) rfl) rfl ?_
        refine .nil ?_
        refine QN.then_ ?_
        refine CW.block ?_
        unfold ref13_Box_For.l2 at hh
        refine CW.loop (fun (σ0 : Sl × Int) ρ => match σ0 with | (out_1, t22) => ∃ ρ' : Env, ρ = setl ρ' [(0, reg (b : Pt)), (1, reg (kind : Int)), (2, reg (round : Int)), (7, .pointer (some d_1)), (10, reg (from_ : Int)), (20, reg (t20 : Sl)), (21, reg ((t20.len : Int) : Int)), (9, reg (out_1 : Sl)), (22, reg (t22 : Int))]) hh ⟨_, setl_eq ⟨rfl, ⟨rfl, ⟨rfl, ⟨rfl, ⟨rfl, ⟨rfl, ⟨rfl, ⟨rfl, ⟨rfl, trivial⟩⟩⟩⟩⟩⟩⟩⟩⟩⟩ ?_
        clear hh
        rintro s2 ⟨out_1, t22⟩ ρ h ⟨ρ', rfl⟩ hh
        refine CW.seq ?_
        refine CW.region ?_
        refine .val (v_ilss rfl rfl) rfl ?_
        refine .nil ?_
        refine QN.then_ ?_
        refine CW.seq ?_
        refine CW.cond (decide (t22 < (t20.len : Int))) rfl (fun hb_1 => ?_) (fun hb_1 => ?_)
        · have hh := hh.1 hb_1
          refine CW.skip ?_
          refine QN.then_ ?_
          refine CW.join (fun ρ h => ∃ (ρ' : Env) (out_2 : Sl), ρ = setl ρ' [(0, reg (b : Pt)), (1, reg (kind : Int)), (2, reg (round : Int)), (7, .pointer (some d_1)), (9, reg (out_2 : Sl)), (10, reg (from_ : Int)), (20, reg (t20 : Sl)), (21, reg ((t20.len : Int) : Int)), (22, reg (t22 : Int))] ∧ (ref13_Box_For.j3 s2) b kind round d_1 out_2 from_ t20 (t20.len : Int) t22 h) ?_ ?_
          · refine CW.block ?_
            refine CW.seq ?_
            refine CW.region ?_
            obtain ⟨t24, ht24, hh⟩ := hh
            refine .val (v_idx_slP sl_22 rfl rfl ht24.1 ht24.2.1 ht24.2.2) rfl ?_
            obtain ⟨t25, ⟨xt25, hxt25, hgt25⟩, hh⟩ := hh
            refine .val (v_ldA (p := t24) 0 ag_37 rfl hxt25 hgt25 get_37_all (fun _ => (len_api_Vote _)) (fun _ => rfl)) rfl ?_
            refine box_elim hh (fun v hv hh => ?_)
            refine .e (e_allocP hv zo_37 rfl ?_)
            obtain ⟨xw, hxw, hwxw, hh⟩ := hh
            refine .e (e_storeN (p := v) (nv := enc (t25 : api_Vote)) 0 rfl rfl rfl sz_37 (one_api_Vote _) hxw hwxw (len_api_Vote _) (len_api_Vote _) rfl (set_37_all xw (t25 : api_Vote)) ?_)
            refine .nil ?_
            refine QN.then_ ?_
            refine CW.seq ?_
            refine CW.region ?_
            refine .val (v_fieldAddr fl_37_0 rfl) rfl ?_
            obtain ⟨t27, ⟨xt27, hxt27, hgt27⟩, hh⟩ := hh
            refine .val (v_ld1 (p := v) 0 na_3 rfl hxt27 hgt27 get_37_Kind) rfl ?_
            refine .val (v_move (v := reg (kind : Int)) rfl) rfl ?_
            refine .val (v_ieql rfl rfl) rfl ?_
            refine .val (v_move (v := reg ((t27 == kind) : Bool)) rfl) rfl ?_
            refine .tv 30 rfl rfl rfl (fun hb => v_fieldAddr fl_37_3 rfl) rfl ?_
            obtain ⟨t32, ⟨xt32, hxt32, hgt32⟩, hh⟩ := hh
            refine .tv 30 rfl rfl rfl (fun hb => v_ld1 (p := v) 3 na_3 (gt hb) hxt32 hgt32 get_37_Round) rfl ?_
            refine .tv 30 rfl rfl rfl (fun hb => v_move (v := reg (round : Int)) rfl) rfl ?_
            refine .tv 30 rfl rfl rfl (fun hb => v_ieql (gt hb) (gt hb)) rfl ?_
            refine .val (v_pick_and rfl (fun hb => gt hb) rfl) rfl ?_
            refine .val (v_move (v := reg (((t27 == kind) && (t32 == round)) : Bool)) rfl) rfl ?_
            refine .tv 36 rfl rfl rfl (fun hb => v_fieldAddr fl_37_4 rfl) rfl ?_
            obtain ⟨t38, ⟨xt38, hxt38, hgt38⟩, hh⟩ := hh
            refine .tv 36 rfl rfl rfl (fun hb => v_ldA (p := v) 4 ag_24 (gt hb) hxt38 hgt38 get_37_Digest (fun _ => (arr_len (n := 32) _)) (fun _ => rfl)) rfl ?_
            obtain ⟨t39, ⟨xt39, hxt39, hgt39⟩, hh⟩ := hh
            refine .tv 36 rfl rfl rfl (fun hb => v_ldA (p := d_1) 0 ag_24 rfl hxt39 hgt39 get_24_all (fun _ => (arr_len (n := 32) _)) (fun _ => rfl)) rfl ?_
            refine .tv 36 rfl rfl rfl (fun hb => v_eq_arr8 bt_24 (gt hb) (gt hb)) rfl ?_
            refine .val (v_pick_and rfl (fun hb => gt hb) rfl) rfl ?_
            refine .val (v_move (v := reg ((((t27 == kind) && (t32 == round)) && (decide (t38 = t39))) : Bool)) rfl) rfl ?_
            refine .tv 42 rfl rfl rfl (fun hb => v_fieldAddr fl_37_5 rfl) rfl ?_
            obtain ⟨t44, ⟨xt44, hxt44, hgt44⟩, hh⟩ := hh
            refine .tv 42 rfl rfl rfl (fun hb => v_ld1 (p := v) 36 na_3 (gt hb) hxt44 hgt44 get_37_From) rfl ?_
            refine .tv 42 rfl rfl rfl (fun hb => v_move (v := reg (from_ : Int)) rfl) rfl ?_
            refine .tv 42 rfl rfl rfl (fun hb => v_ieql (gt hb) (gt hb)) rfl ?_
            refine .val (v_pick_and rfl (fun hb => gt hb) rfl) rfl ?_
            refine .nil ?_
            refine QN.then_ ?_
            refine CW.cond ((((t27 == kind) && (t32 == round)) && (decide (t38 = t39))) && (t44 == from_)) rfl (fun hb_2 => ?_) (fun hb_2 => ?_)
            · have hh := hh.1 hb_2
              refine CW.region ?_
              refine .val (v_move (v := reg (out_1 : Sl)) rfl) rfl ?_
              obtain ⟨t49, ⟨xt49, hxt49, hgt49⟩, hh⟩ := hh
              refine .val (v_ldA (p := v) 0 ag_37 rfl hxt49 hgt49 get_37_all (fun _ => (len_api_Vote _)) (fun _ => rfl)) rfl ?_
              refine mks_elim hh (fun pt50 t50 hpt50 ht50 hh => ?_)
              refine .e (e_mks [(t49 : api_Vote)] hpt50 ht50 zo_37 sl_22 rfl rfl rfl rfl rfl ?_)
              refine .e (e_app sl_22 zo_37 by_37 rfl rfl rfl hh ?_)
              intro h t51 hh
              refine .val (v_assign (v := reg (t51 : Sl)) rfl) rfl ?_
              refine .nil ?_
              refine QN.blockN ?_
              exact QN.thenJ ⟨_, t51, setl_eq ⟨rfl, ⟨rfl, ⟨rfl, ⟨rfl, ⟨rfl, ⟨rfl, ⟨rfl, ⟨rfl, ⟨rfl, trivial⟩⟩⟩⟩⟩⟩⟩⟩⟩, hh⟩
            · have hh := hh.2 hb_2
              refine CW.skip ?_
              refine QN.blockN ?_
              exact QN.thenJ ⟨_, out_1, setl_eq ⟨rfl, ⟨rfl, ⟨rfl, ⟨rfl, ⟨rfl, ⟨rfl, ⟨rfl, ⟨rfl, ⟨rfl, trivial⟩⟩⟩⟩⟩⟩⟩⟩⟩, hh⟩
          · rintro ρ h ⟨ρ', out_2, rfl, hh⟩
            unfold ref13_Box_For.j3 at hh
            refine CW.region ?_
            refine .val (v_iadd rfl rfl) rfl ?_
            refine .val (v_move (v := reg ((iadd t22 (1 : Int)) : Int)) rfl) rfl ?_
            refine .nil ?_
            exact QN.thenJ ⟨(out_2, (iadd t22 (1 : Int))), ⟨_, setl_eq ⟨rfl, ⟨rfl, ⟨rfl, ⟨rfl, ⟨rfl, ⟨rfl, ⟨rfl, ⟨rfl, ⟨rfl, trivial⟩⟩⟩⟩⟩⟩⟩⟩⟩⟩, hh⟩
        · have hh := hh.2 hb_1
          refine CW.exit ?_
          refine QN.thenExit ?_
          refine QN.thenExit ?_
          refine QN.blockExit ?_
          refine QN.blockN ?_
          exact QN.thenJ ⟨_, out_1, setl_eq ⟨rfl, ⟨rfl, ⟨rfl, ⟨rfl, ⟨rfl, ⟨rfl, trivial⟩⟩⟩⟩⟩⟩, hh⟩
      · rintro ρ h ⟨ρ', out_3, rfl, hh⟩
        unfold ref13_Box_For.j2 at hh
        refine CW.region ?_
        refine .val (v_move (v := reg (from_ : Int)) rfl) rfl ?_
        refine .val (v_iadd rfl rfl) rfl ?_
        refine .val (v_assign (v := reg ((iadd from_ (1 : Int)) : Int)) rfl) rfl ?_
        refine .nil ?_
        exact QN.thenJ ⟨(out_3, (iadd from_ (1 : Int))), ⟨_, setl_eq ⟨rfl, ⟨rfl, ⟨rfl, ⟨rfl, ⟨rfl, ⟨rfl, trivial⟩⟩⟩⟩⟩⟩⟩, hh⟩
    · have hh := hh.2 hb
      refine CW.exit ?_
      refine QN.thenExit ?_
      refine QN.thenExit ?_
      refine QN.blockExit ?_
      exact QN.thenJ ⟨_, out, setl_eq ⟨rfl, trivial⟩, hh⟩
  · rintro ρ h ⟨ρ', out_4, rfl, hh⟩
    unfold ref13_Box_For.j1 at hh
    refine CW.seq ?_
    refine CW.region ?_
    refine .val (v_move (v := reg (out_4 : Sl)) rfl) rfl ?_
    refine .val (v_assign (v := reg (out_4 : Sl)) rfl) rfl ?_
    refine .nil ?_
    refine QN.then_ ?_
    refine CW.ret ?_
    exact ret1 rfl rfl ⟨(out_4 : Sl), rfl, hh⟩
end Go.Proofs.YtimmoekliphobaaDoor
namespace Go.Proofs.YtimmoekliphobaaDoor
open Go Go.Sh
open Go.Sh.Ty (reg)
set_option linter.unusedVariables false
set_option maxRecDepth 100000
set_option maxHeartbeats 4000000
theorem ref13_Box_Voters.ok (b : Pt) (round : Int) (k : Int → H → Prop) (h : H) (hh : ref13_Box_Voters.b b round k h) : CallsH Prog 18 [reg b, reg round].toArray h fun v h' => ∃ r : Int, v = reg r ∧ k r h' := by
  unfold ref13_Box_Voters.b at hh
  refine CallsH.of 41 Tryd.func18 rfl Tryd.ntmps18 rfl (fun w0 => ?_)
  refine CW.seq ?_
  refine CW.region ?_
  refine .val (v_assign (v := reg ((0 : Int) : Int)) rfl) rfl ?_
  refine .nil ?_
  refine QN.then_ ?_
  refine CW.seq ?_
  refine CW.region ?_
  refine .val (v_assign (v := reg ((0 : Int) : Int)) rfl) rfl ?_
  refine .nil ?_
  refine QN.then_ ?_
  refine CW.join (fun ρ h => ∃ (ρ' : Env) (n_5 : Int), ρ = setl ρ' [(5, reg (n_5 : Int))] ∧ (ref13_Box_Voters.j1 k) n_5 h) ?_ ?_
  · refine CW.seq ?_
    refine CW.region ?_
    refine .val (v_assign (v := reg ((1 : Int) : Int)) rfl) rfl ?_
    refine .nil ?_
    refine QN.then_ ?_
    refine CW.block ?_
    unfold ref13_Box_Voters.l1 at hh
    refine CW.loop (fun (σ0 : Int × Int) ρ => match σ0 with | (n, from_) => ∃ ρ' : Env, ρ = setl ρ' [(0, reg (b : Pt)), (1, reg (round : Int)), (5, reg (n : Int)), (6, reg (from_ : Int))]) hh ⟨_, setl_eq ⟨rfl, ⟨rfl, ⟨rfl, ⟨rfl, trivial⟩⟩⟩⟩⟩ ?_
    clear hh
    rintro s1 ⟨n, from_⟩ ρ h ⟨ρ', rfl⟩ hh
    refine CW.seq ?_
    refine CW.seq ?_
    refine CW.region ?_
    refine .val (v_move (v := reg (from_ : Int)) rfl) rfl ?_
    refine .val (v_ileq rfl rfl) rfl ?_
    refine .nil ?_
    refine QN.then_ ?_
    refine CW.cond (decide (from_ ≤ (63 : Int))) rfl (fun hb => ?_) (fun hb => ?_)
    · have hh := hh.1 hb
      refine CW.skip ?_
      refine QN.then_ ?_
      refine CW.join (fun ρ h => ∃ (ρ' : Env) (n_4 : Int), ρ = setl ρ' [(0, reg (b : Pt)), (1, reg (round : Int)), (5, reg (n_4 : Int)), (6, reg (from_ : Int))] ∧ (ref13_Box_Voters.j2 s1) b round n_4 from_ h) ?_ ?_
      · refine CW.block ?_
        refine CW.seq ?_
        refine CW.region ?_
        refine .val (v_assign (v := reg (false : Bool)) rfl) rfl ?_
        refine .nil ?_
        refine QN.then_ ?_
        refine CW.join (fun ρ h => ∃ (ρ' : Env) (is_2 : Bool), ρ = setl ρ' [(0, reg (b : Pt)), (1, reg (round : Int)), (5, reg (n : Int)), (6, reg (from_ : Int)), (7, reg (is_2 : Bool))] ∧ (ref13_Box_Voters.j3 (ref13_Box_Voters.j2 s1)) b round n from_ is_2 h) ?_ ?_
        · refine CW.seq ?_
          refine CW.region ?_
          refine .val (v_move (v := reg (b : Pt)) rfl) rfl ?_
          obtain ⟨p, hp, hh⟩ := hh
          refine .val (v_nilCheck (congrArg Value.pointer hp)) rfl ?_
          refine .val (v_fieldAddr fl_30_0 rfl) rfl ?_
          obtain ⟨t17, ⟨xt17, hxt17, hgt17⟩, hh⟩ := hh
          refine .val (v_ld1 (p := p) 0 na_22 rfl hxt17 hgt17 get_30_Votes) rfl ?_
          refine .val (v_len_sl (sl_22).1 rfl) rfl ?_
          refine .val (v_move (v := reg ((0 : Int) : Int)) rfl) rfl ?_
          refine .nil ?_
          refine QN.then_ ?_
          refine CW.block ?_
          unfold ref13_Box_Voters.l2 at hh
          refine CW.loop (fun (σ0 : Bool × Int) ρ => match σ0 with | (is, t19) => ∃ ρ' : Env, ρ = setl ρ' [(0, reg (b : Pt)), (1, reg (round : Int)), (5, reg (n : Int)), (6, reg (from_ : Int)), (17, reg (t17 : Sl)), (18, reg ((t17.len : Int) : Int)), (7, reg (is : Bool)), (19, reg (t19 : Int))]) hh ⟨_, setl_eq ⟨rfl, ⟨rfl, ⟨rfl, ⟨rfl, ⟨rfl, ⟨rfl, ⟨rfl, ⟨rfl, trivial⟩⟩⟩⟩⟩⟩⟩⟩⟩ ?_
          clear hh
          rintro s2 ⟨is, t19⟩ ρ h ⟨ρ', rfl⟩ hh
          refine CW.seq ?_
          refine CW.region ?_
          refine .val (v_ilss rfl rfl) rfl ?_
          refine .nil ?_
          refine QN.then_ ?_
          refine CW.seq ?_
          refine CW.cond (decide (t19 < (t17.len : Int))) rfl (fun hb_1 => ?_) (fun hb_1 => ?_)
          · have hh := hh.1 hb_1
            refine CW.skip ?_
            refine QN.then_ ?_
            refine CW.join (fun ρ h => ∃ (ρ' : Env) (is_1 : Bool), ρ = setl ρ' [(0, reg (b : Pt)), (1, reg (round : Int)), (5, reg (n : Int)), (6, reg (from_ : Int)), (7, reg (is_1 : Bool)), (17, reg (t17 : Sl)), (18, reg ((t17.len : Int) : Int)), (19, reg (t19 : Int))] ∧ (ref13_Box_Voters.j4 s2) b round n from_ is_1 t17 (t17.len : Int) t19 h) ?_ ?_
            · refine CW.block ?_
              refine CW.seq ?_
              refine CW.region ?_
              obtain ⟨t21, ht21, hh⟩ := hh
              refine .val (v_idx_slP sl_22 rfl rfl ht21.1 ht21.2.1 ht21.2.2) rfl ?_
              obtain ⟨t22, ⟨xt22, hxt22, hgt22⟩, hh⟩ := hh
              refine .val (v_ldA (p := t21) 0 ag_37 rfl hxt22 hgt22 get_37_all (fun _ => (len_api_Vote _)) (fun _ => rfl)) rfl ?_
              refine box_elim hh (fun v hv hh => ?_)
              refine .e (e_allocP hv zo_37 rfl ?_)
              obtain ⟨xw, hxw, hwxw, hh⟩ := hh
              refine .e (e_storeN (p := v) (nv := enc (t22 : api_Vote)) 0 rfl rfl rfl sz_37 (one_api_Vote _) hxw hwxw (len_api_Vote _) (len_api_Vote _) rfl (set_37_all xw (t22 : api_Vote)) ?_)
              refine .nil ?_
              refine QN.then_ ?_
              refine CW.region ?_
              refine .val (v_move (v := reg (is : Bool)) rfl) rfl ?_
              refine .val (v_move (v := reg (is : Bool)) rfl) rfl ?_
              refine ifb_cases hh (fun hb_2 hh => ?_) (fun hb_2 hh => ?_)
              · refine .no 24 rfl (congrArg Value.bool hb_2) rfl rfl ?_
                refine .no 24 rfl (congrArg Value.bool hb_2) rfl rfl ?_
                refine .no 24 rfl (congrArg Value.bool hb_2) rfl rfl ?_
                refine .no 24 rfl (congrArg Value.bool hb_2) rfl rfl ?_
                refine .no 24 rfl (congrArg Value.bool hb_2) rfl rfl ?_
                refine .nu 29 rfl rfl rfl rfl ?_
                refine .nu 29 rfl rfl rfl rfl ?_
                refine .nu 29 rfl rfl rfl rfl ?_
                refine .nu 29 rfl rfl rfl rfl ?_
                refine .no 24 rfl (congrArg Value.bool hb_2) rfl rfl ?_
                refine .val (v_pickT (v := reg (true : Bool)) rfl hb_2 rfl) rfl ?_
                refine .val (v_assign (v := reg (true : Bool)) rfl) rfl ?_
                refine .nil ?_
                refine QN.blockN ?_
                exact QN.thenJ ⟨_, true, setl_eq ⟨rfl, ⟨rfl, ⟨rfl, ⟨rfl, ⟨rfl, ⟨rfl, ⟨rfl, ⟨rfl, trivial⟩⟩⟩⟩⟩⟩⟩⟩, hh⟩
              · refine .yv 24 rfl (congrArg Value.bool hb_2) rfl (v_fieldAddr fl_37_5 rfl) rfl ?_
                obtain ⟨t26, ⟨xt26, hxt26, hgt26⟩, hh⟩ := hh
                refine .yv 24 rfl (congrArg Value.bool hb_2) rfl (v_ld1 (p := v) 36 na_3 rfl hxt26 hgt26 get_37_From) rfl ?_
                refine .yv 24 rfl (congrArg Value.bool hb_2) rfl (v_move (v := reg (from_ : Int)) rfl) rfl ?_
                refine .yv 24 rfl (congrArg Value.bool hb_2) rfl (v_ieql rfl rfl) rfl ?_
                refine .yv 24 rfl (congrArg Value.bool hb_2) rfl (v_move (v := reg ((t26 == from_) : Bool)) rfl) rfl ?_
                refine .tv 29 rfl rfl rfl (fun hb => v_fieldAddr fl_37_3 rfl) rfl ?_
                obtain ⟨t31, ⟨xt31, hxt31, hgt31⟩, hh⟩ := hh
                refine .tv 29 rfl rfl rfl (fun hb => v_ld1 (p := v) 3 na_3 (gt hb) hxt31 hgt31 get_37_Round) rfl ?_
                refine .tv 29 rfl rfl rfl (fun hb => v_move (v := reg (round : Int)) rfl) rfl ?_
                refine .tv 29 rfl rfl rfl (fun hb => v_igeq (gt hb) (gt hb)) rfl ?_
                refine .yv 24 rfl (congrArg Value.bool hb_2) rfl (v_pick_and rfl (fun hb => gt hb) rfl) rfl ?_
                refine .val (v_pickF (v := reg (((t26 == from_) && (decide (round ≤ t31))) : Bool)) rfl hb_2 rfl) rfl ?_
                refine .val (v_assign (v := reg (((t26 == from_) && (decide (round ≤ t31))) : Bool)) rfl) rfl ?_
                refine .nil ?_
                refine QN.blockN ?_
                exact QN.thenJ ⟨_, ((t26 == from_) && (decide (round ≤ t31))), setl_eq ⟨rfl, ⟨rfl, ⟨rfl, ⟨rfl, ⟨rfl, ⟨rfl, ⟨rfl, ⟨rfl, trivial⟩⟩⟩⟩⟩⟩⟩⟩, hh⟩
            · rintro ρ h ⟨ρ', is_1, rfl, hh⟩
              unfold ref13_Box_Voters.j4 at hh
              refine CW.region ?_
              refine .val (v_iadd rfl rfl) rfl ?_
              refine .val (v_move (v := reg ((iadd t19 (1 : Int)) : Int)) rfl) rfl ?_
              refine .nil ?_
              exact QN.thenJ ⟨(is_1, (iadd t19 (1 : Int))), ⟨_, setl_eq ⟨rfl, ⟨rfl, ⟨rfl, ⟨rfl, ⟨rfl, ⟨rfl, ⟨rfl, ⟨rfl, trivial⟩⟩⟩⟩⟩⟩⟩⟩⟩, hh⟩
          · have hh := hh.2 hb_1
            refine CW.exit ?_
            refine QN.thenExit ?_
            refine QN.thenExit ?_
            refine QN.blockExit ?_
            exact QN.thenJ ⟨_, is, setl_eq ⟨rfl, ⟨rfl, ⟨rfl, ⟨rfl, ⟨rfl, trivial⟩⟩⟩⟩⟩, hh⟩
        · rintro ρ h ⟨ρ', is_2, rfl, hh⟩
          unfold ref13_Box_Voters.j3 at hh
          refine CW.seq ?_
          refine CW.region ?_
          refine .val (v_move (v := reg (is_2 : Bool)) rfl) rfl ?_
          refine .nil ?_
          refine QN.then_ ?_
          refine CW.cond is_2 rfl (fun hb_3 => ?_) (fun hb_3 => ?_)
          · have hh := hh.1 hb_3
            refine CW.region ?_
            refine .val (v_move (v := reg (n : Int)) rfl) rfl ?_
            refine .val (v_iadd rfl rfl) rfl ?_
            refine .val (v_assign (v := reg ((iadd n (1 : Int)) : Int)) rfl) rfl ?_
            refine .nil ?_
            refine QN.blockN ?_
            exact QN.thenJ ⟨_, (iadd n (1 : Int)), setl_eq ⟨rfl, ⟨rfl, ⟨rfl, ⟨rfl, trivial⟩⟩⟩⟩, hh⟩
          · have hh := hh.2 hb_3
            refine CW.skip ?_
            refine QN.blockN ?_
            exact QN.thenJ ⟨_, n, setl_eq ⟨rfl, ⟨rfl, ⟨rfl, ⟨rfl, trivial⟩⟩⟩⟩, hh⟩
      · rintro ρ h ⟨ρ', n_4, rfl, hh⟩
        unfold ref13_Box_Voters.j2 at hh
        refine CW.region ?_
        refine .val (v_move (v := reg (from_ : Int)) rfl) rfl ?_
        refine .val (v_iadd rfl rfl) rfl ?_
        refine .val (v_assign (v := reg ((iadd from_ (1 : Int)) : Int)) rfl) rfl ?_
        refine .nil ?_
        exact QN.thenJ ⟨(n_4, (iadd from_ (1 : Int))), ⟨_, setl_eq ⟨rfl, ⟨rfl, ⟨rfl, ⟨rfl, trivial⟩⟩⟩⟩⟩, hh⟩
    · have hh := hh.2 hb
      refine CW.exit ?_
      refine QN.thenExit ?_
      refine QN.thenExit ?_
      refine QN.blockExit ?_
      exact QN.thenJ ⟨_, n, setl_eq ⟨rfl, trivial⟩, hh⟩
  · rintro ρ h ⟨ρ', n_5, rfl, hh⟩
    unfold ref13_Box_Voters.j1 at hh
    refine CW.seq ?_
    refine CW.region ?_
    refine .val (v_move (v := reg (n_5 : Int)) rfl) rfl ?_
    refine .val (v_assign (v := reg (n_5 : Int)) rfl) rfl ?_
    refine .nil ?_
    refine QN.then_ ?_
    refine CW.ret ?_
    exact ret1 rfl rfl ⟨(n_5 : Int), rfl, hh⟩
end Go.Proofs.YtimmoekliphobaaDoor
namespace Go.Proofs.YtimmoekliphobaaDoor
open Go Go.Sh
open Go.Sh.Ty (reg)
set_option linter.unusedVariables false
set_option maxRecDepth 100000
set_option maxHeartbeats 4000000
theorem ref13_Box_Reached.ok (b : Pt) (n : Int) (k : Int → H → Prop) (h : H) (hh : ref13_Box_Reached.b b n k h) : CallsH Prog 20 [reg b, reg n].toArray h fun v h' => ∃ r : Int, v = reg r ∧ k r h' := by
  unfold ref13_Box_Reached.b at hh
  refine CallsH.of 37 Tryd.func20 rfl Tryd.ntmps20 rfl (fun w0 => ?_)
  refine CW.seq ?_
  refine CW.region ?_
  refine .val (v_assign (v := reg ((0 : Int) : Int)) rfl) rfl ?_
  refine .nil ?_
  refine QN.then_ ?_
  refine CW.seq ?_
  refine CW.region ?_
  refine .val (v_assign (v := reg ((-1 : Int) : Int)) rfl) rfl ?_
  refine .nil ?_
  refine QN.then_ ?_
  refine CW.join (fun ρ h => ∃ (ρ' : Env) (best_3 : Int), ρ = setl ρ' [(5, reg (best_3 : Int))] ∧ (ref13_Box_Reached.j1 k) best_3 h) ?_ ?_
  · refine CW.seq ?_
    refine CW.region ?_
    refine .val (v_move (v := reg (b : Pt)) rfl) rfl ?_
    obtain ⟨p, hp, hh⟩ := hh
    refine .val (v_nilCheck (congrArg Value.pointer hp)) rfl ?_
    refine .val (v_fieldAddr fl_30_0 rfl) rfl ?_
    obtain ⟨t11, ⟨xt11, hxt11, hgt11⟩, hh⟩ := hh
    refine .val (v_ld1 (p := p) 0 na_22 rfl hxt11 hgt11 get_30_Votes) rfl ?_
    refine .val (v_len_sl (sl_22).1 rfl) rfl ?_
    refine .val (v_move (v := reg ((0 : Int) : Int)) rfl) rfl ?_
    refine .nil ?_
    refine QN.then_ ?_
    refine CW.block ?_
    unfold ref13_Box_Reached.l1 at hh
    refine CW.loop (fun (σ0 : Int × Int) ρ => match σ0 with | (best, t13) => ∃ ρ' : Env, ρ = setl ρ' [(0, reg (b : Pt)), (1, reg (n : Int)), (11, reg (t11 : Sl)), (12, reg ((t11.len : Int) : Int)), (5, reg (best : Int)), (13, reg (t13 : Int))]) hh ⟨_, setl_eq ⟨rfl, ⟨rfl, ⟨rfl, ⟨rfl, ⟨rfl, ⟨rfl, trivial⟩⟩⟩⟩⟩⟩⟩ ?_
    clear hh
    rintro s1 ⟨best, t13⟩ ρ h ⟨ρ', rfl⟩ hh
    refine CW.seq ?_
    refine CW.region ?_
    refine .val (v_ilss rfl rfl) rfl ?_
    refine .nil ?_
    refine QN.then_ ?_
    refine CW.seq ?_
    refine CW.cond (decide (t13 < (t11.len : Int))) rfl (fun hb => ?_) (fun hb => ?_)
    · have hh := hh.1 hb
      refine CW.skip ?_
      refine QN.then_ ?_
      refine CW.join (fun ρ h => ∃ (ρ' : Env) (best_2 : Int), ρ = setl ρ' [(0, reg (b : Pt)), (1, reg (n : Int)), (5, reg (best_2 : Int)), (11, reg (t11 : Sl)), (12, reg ((t11.len : Int) : Int)), (13, reg (t13 : Int))] ∧ (ref13_Box_Reached.j2 s1) b n best_2 t11 (t11.len : Int) t13 h) ?_ ?_
      · refine CW.block ?_
        refine CW.seq ?_
        refine CW.region ?_
        obtain ⟨t15, ht15, hh⟩ := hh
        refine .val (v_idx_slP sl_22 rfl rfl ht15.1 ht15.2.1 ht15.2.2) rfl ?_
        obtain ⟨t16, ⟨xt16, hxt16, hgt16⟩, hh⟩ := hh
        refine .val (v_ldA (p := t15) 0 ag_37 rfl hxt16 hgt16 get_37_all (fun _ => (len_api_Vote _)) (fun _ => rfl)) rfl ?_
        refine box_elim hh (fun v hv hh => ?_)
        refine .e (e_allocP hv zo_37 rfl ?_)
        obtain ⟨xw, hxw, hwxw, hh⟩ := hh
        refine .e (e_storeN (p := v) (nv := enc (t16 : api_Vote)) 0 rfl rfl rfl sz_37 (one_api_Vote _) hxw hwxw (len_api_Vote _) (len_api_Vote _) rfl (set_37_all xw (t16 : api_Vote)) ?_)
        refine .nil ?_
        refine QN.then_ ?_
        refine CW.join (fun ρ h => ∃ (ρ' : Env) (t32 : Bool), ρ = setl ρ' [(0, reg (b : Pt)), (1, reg (n : Int)), (5, reg (best : Int)), (7, .pointer (some v)), (11, reg (t11 : Sl)), (12, reg ((t11.len : Int) : Int)), (13, reg (t13 : Int)), (32, reg (t32 : Bool))] ∧ (ref13_Box_Reached.j3 (ref13_Box_Reached.j2 s1)) b n best v t11 (t11.len : Int) t13 t32 h) ?_ ?_
        · refine CW.region ?_
          refine .val (v_move (v := reg (n : Int)) rfl) rfl ?_
          refine .val (v_igeq rfl rfl) rfl ?_
          refine .val (v_move (v := reg ((decide ((1 : Int) ≤ n)) : Bool)) rfl) rfl ?_
          refine .tv 19 rfl rfl rfl (fun hb => v_fieldAddr fl_37_3 rfl) rfl ?_
          obtain ⟨t21, ⟨xt21, hxt21, hgt21⟩, hh⟩ := hh
          refine .tv 19 rfl rfl rfl (fun hb => v_ld1 (p := v) 3 na_3 (gt hb) hxt21 hgt21 get_37_Round) rfl ?_
          refine .tv 19 rfl rfl rfl (fun hb => v_move (v := reg (best : Int)) rfl) rfl ?_
          refine .tv 19 rfl rfl rfl (fun hb => v_igtr (gt hb) (gt hb)) rfl ?_
          refine .val (v_pick_and rfl (fun hb => gt hb) rfl) rfl ?_
          refine .val (v_move (v := reg (((decide ((1 : Int) ≤ n)) && (decide (best < t21))) : Bool)) rfl) rfl ?_
          refine ifb_cases hh (fun hb_1 hh => ?_) (fun hb_1 hh => ?_)
          · refine .yv 25 rfl (congrArg Value.bool hb_1) rfl (v_move (v := reg (b : Pt)) rfl) rfl ?_
            refine .yv 25 rfl (congrArg Value.bool hb_1) rfl (v_fieldAddr fl_37_3 rfl) rfl ?_
            obtain ⟨t28, ⟨xt28, hxt28, hgt28⟩, hh⟩ := hh
            refine .yv 25 rfl (congrArg Value.bool hb_1) rfl (v_ld1 (p := v) 3 na_3 rfl hxt28 hgt28 get_37_Round) rfl ?_
            refine .ye 25 rfl (congrArg Value.bool hb_1) rfl (e_callP fn_18 rfl rfl hh ?_)
            intro h t29 hh
            refine .yv 25 rfl (congrArg Value.bool hb_1) rfl (v_move (v := reg (n : Int)) rfl) rfl ?_
            refine .yv 25 rfl (congrArg Value.bool hb_1) rfl (v_igeq rfl rfl) rfl ?_
            refine .val (v_pickT (v := reg ((decide (n ≤ t29)) : Bool)) rfl hb_1 rfl) rfl ?_
            refine .nil ?_
            exact QN.thenJ ⟨_, (decide (n ≤ t29)), setl_eq ⟨rfl, ⟨rfl, ⟨rfl, ⟨rfl, ⟨rfl, ⟨rfl, ⟨rfl, ⟨rfl, trivial⟩⟩⟩⟩⟩⟩⟩⟩, hh⟩
          · refine .no 25 rfl (congrArg Value.bool hb_1) rfl rfl ?_
            refine .no 25 rfl (congrArg Value.bool hb_1) rfl rfl ?_
            refine .no 25 rfl (congrArg Value.bool hb_1) rfl rfl ?_
            refine .no 25 rfl (congrArg Value.bool hb_1) rfl rfl ?_
            refine .no 25 rfl (congrArg Value.bool hb_1) rfl rfl ?_
            refine .no 25 rfl (congrArg Value.bool hb_1) rfl rfl ?_
            refine .val (v_pickF (v := reg (false : Bool)) rfl hb_1 rfl) rfl ?_
            refine .nil ?_
            exact QN.thenJ ⟨_, false, setl_eq ⟨rfl, ⟨rfl, ⟨rfl, ⟨rfl, ⟨rfl, ⟨rfl, ⟨rfl, ⟨rfl, trivial⟩⟩⟩⟩⟩⟩⟩⟩, hh⟩
        · rintro ρ h ⟨ρ', t32, rfl, hh⟩
          unfold ref13_Box_Reached.j3 at hh
          refine CW.cond t32 rfl (fun hb_2 => ?_) (fun hb_2 => ?_)
          · have hh := hh.1 hb_2
            refine CW.region ?_
            refine .val (v_fieldAddr fl_37_3 rfl) rfl ?_
            obtain ⟨t34, ⟨xt34, hxt34, hgt34⟩, hh⟩ := hh
            refine .val (v_ld1 (p := v) 3 na_3 rfl hxt34 hgt34 get_37_Round) rfl ?_
            refine .val (v_assign (v := reg (t34 : Int)) rfl) rfl ?_
            refine .nil ?_
            refine QN.blockN ?_
            exact QN.thenJ ⟨_, t34, setl_eq ⟨rfl, ⟨rfl, ⟨rfl, ⟨rfl, ⟨rfl, ⟨rfl, trivial⟩⟩⟩⟩⟩⟩, hh⟩
          · have hh := hh.2 hb_2
            refine CW.skip ?_
            refine QN.blockN ?_
            exact QN.thenJ ⟨_, best, setl_eq ⟨rfl, ⟨rfl, ⟨rfl, ⟨rfl, ⟨rfl, ⟨rfl, trivial⟩⟩⟩⟩⟩⟩, hh⟩
      · rintro ρ h ⟨ρ', best_2, rfl, hh⟩
        unfold ref13_Box_Reached.j2 at hh
        refine CW.region ?_
        refine .val (v_iadd rfl rfl) rfl ?_
        refine .val (v_move (v := reg ((iadd t13 (1 : Int)) : Int)) rfl) rfl ?_
        refine .nil ?_
        exact QN.thenJ ⟨(best_2, (iadd t13 (1 : Int))), ⟨_, setl_eq ⟨rfl, ⟨rfl, ⟨rfl, ⟨rfl, ⟨rfl, ⟨rfl, trivial⟩⟩⟩⟩⟩⟩⟩, hh⟩
    · have hh := hh.2 hb
      refine CW.exit ?_
      refine QN.thenExit ?_
      refine QN.thenExit ?_
      refine QN.blockExit ?_
      exact QN.thenJ ⟨_, best, setl_eq ⟨rfl, trivial⟩, hh⟩
  · rintro ρ h ⟨ρ', best_3, rfl, hh⟩
    unfold ref13_Box_Reached.j1 at hh
    refine CW.seq ?_
    refine CW.region ?_
    refine .val (v_move (v := reg (best_3 : Int)) rfl) rfl ?_
    refine .val (v_assign (v := reg (best_3 : Int)) rfl) rfl ?_
    refine .nil ?_
    refine QN.then_ ?_
    refine CW.ret ?_
    exact ret1 rfl rfl ⟨(best_3 : Int), rfl, hh⟩
end Go.Proofs.YtimmoekliphobaaDoor
namespace Go.Proofs.YtimmoekliphobaaDoor
open Go Go.Sh
open Go.Sh.Ty (reg)
set_option linter.unusedVariables false
set_option maxRecDepth 100000
set_option maxHeartbeats 4000000
theorem ref13_Same.ok (a : api_Vote) (b : api_Vote) (k : Bool → H → Prop) (h : H) (hh : ref13_Same.b a b k h) : CallsH Prog 21 [reg a, reg b].toArray h fun v h' => ∃ r : Bool, v = reg r ∧ k r h' := by
  unfold ref13_Same.b at hh
  refine CallsH.of 52 Tryd.func21 rfl Tryd.ntmps21 rfl (fun w0 => ?_)
  refine CW.seq ?_
  refine CW.region ?_
  refine box_elim hh (fun a_1 ha_1 hh => ?_)
  refine .e (e_boxP ha_1 rfl rfl rfl ?_)
  refine box_elim hh (fun b_1 hb_1 hh => ?_)
  refine .e (e_boxP hb_1 rfl rfl rfl ?_)
  refine .val (v_assign (v := reg (false : Bool)) rfl) rfl ?_
  refine .nil ?_
  refine QN.then_ ?_
  refine CW.join (fun ρ h => ∃ (ρ' : Env) (t4 : Bool), ρ = setl ρ' [(4, reg (t4 : Bool))] ∧ (ref13_Same.j1 k) t4 h) ?_ ?_
  · refine CW.region ?_
    refine .val (v_fieldAddr fl_37_0 rfl) rfl ?_
    obtain ⟨t6, ⟨xt6, hxt6, hgt6⟩, hh⟩ := hh
    refine .val (v_ld1 (p := a_1) 0 na_3 rfl hxt6 hgt6 get_37_Kind) rfl ?_
    refine .val (v_fieldAddr fl_37_0 rfl) rfl ?_
    obtain ⟨t8, ⟨xt8, hxt8, hgt8⟩, hh⟩ := hh
    refine .val (v_ld1 (p := b_1) 0 na_3 rfl hxt8 hgt8 get_37_Kind) rfl ?_
    refine .val (v_ieql rfl rfl) rfl ?_
    refine .val (v_move (v := reg ((t6 == t8) : Bool)) rfl) rfl ?_
    refine .tv 10 rfl rfl rfl (fun hb => v_fieldAddr fl_37_1 rfl) rfl ?_
    obtain ⟨t12, ⟨xt12, hxt12, hgt12⟩, hh⟩ := hh
    refine .tv 10 rfl rfl rfl (fun hb => v_ld1 (p := a_1) 1 na_3 (gt hb) hxt12 hgt12 get_37_Epoch) rfl ?_
    refine .tv 10 rfl rfl rfl (fun hb => v_fieldAddr fl_37_1 rfl) rfl ?_
    obtain ⟨t14, ⟨xt14, hxt14, hgt14⟩, hh⟩ := hh
    refine .tv 10 rfl rfl rfl (fun hb => v_ld1 (p := b_1) 1 na_3 (gt hb) hxt14 hgt14 get_37_Epoch) rfl ?_
    refine .tv 10 rfl rfl rfl (fun hb => v_ieql (gt hb) (gt hb)) rfl ?_
    refine .val (v_pick_and rfl (fun hb => gt hb) rfl) rfl ?_
    refine .val (v_move (v := reg (((t6 == t8) && (t12 == t14)) : Bool)) rfl) rfl ?_
    refine .tv 17 rfl rfl rfl (fun hb => v_fieldAddr fl_37_2 rfl) rfl ?_
    obtain ⟨t19, ⟨xt19, hxt19, hgt19⟩, hh⟩ := hh
    refine .tv 17 rfl rfl rfl (fun hb => v_ld1 (p := a_1) 2 na_3 (gt hb) hxt19 hgt19 get_37_Height) rfl ?_
    refine .tv 17 rfl rfl rfl (fun hb => v_fieldAddr fl_37_2 rfl) rfl ?_
    obtain ⟨t21, ⟨xt21, hxt21, hgt21⟩, hh⟩ := hh
    refine .tv 17 rfl rfl rfl (fun hb => v_ld1 (p := b_1) 2 na_3 (gt hb) hxt21 hgt21 get_37_Height) rfl ?_
    refine .tv 17 rfl rfl rfl (fun hb => v_ieql (gt hb) (gt hb)) rfl ?_
    refine .val (v_pick_and rfl (fun hb => gt hb) rfl) rfl ?_
    refine .val (v_move (v := reg ((((t6 == t8) && (t12 == t14)) && (t19 == t21)) : Bool)) rfl) rfl ?_
    refine .tv 24 rfl rfl rfl (fun hb => v_fieldAddr fl_37_3 rfl) rfl ?_
    obtain ⟨t26, ⟨xt26, hxt26, hgt26⟩, hh⟩ := hh
    refine .tv 24 rfl rfl rfl (fun hb => v_ld1 (p := a_1) 3 na_3 (gt hb) hxt26 hgt26 get_37_Round) rfl ?_
    refine .tv 24 rfl rfl rfl (fun hb => v_fieldAddr fl_37_3 rfl) rfl ?_
    obtain ⟨t28, ⟨xt28, hxt28, hgt28⟩, hh⟩ := hh
    refine .tv 24 rfl rfl rfl (fun hb => v_ld1 (p := b_1) 3 na_3 (gt hb) hxt28 hgt28 get_37_Round) rfl ?_
    refine .tv 24 rfl rfl rfl (fun hb => v_ieql (gt hb) (gt hb)) rfl ?_
    refine .val (v_pick_and rfl (fun hb => gt hb) rfl) rfl ?_
    refine .val (v_move (v := reg (((((t6 == t8) && (t12 == t14)) && (t19 == t21)) && (t26 == t28)) : Bool)) rfl) rfl ?_
    refine .tv 31 rfl rfl rfl (fun hb => v_fieldAddr fl_37_4 rfl) rfl ?_
    obtain ⟨t33, ⟨xt33, hxt33, hgt33⟩, hh⟩ := hh
    refine .tv 31 rfl rfl rfl (fun hb => v_ldA (p := a_1) 4 ag_24 (gt hb) hxt33 hgt33 get_37_Digest (fun _ => (arr_len (n := 32) _)) (fun _ => rfl)) rfl ?_
    refine .tv 31 rfl rfl rfl (fun hb => v_fieldAddr fl_37_4 rfl) rfl ?_
    obtain ⟨t35, ⟨xt35, hxt35, hgt35⟩, hh⟩ := hh
    refine .tv 31 rfl rfl rfl (fun hb => v_ldA (p := b_1) 4 ag_24 (gt hb) hxt35 hgt35 get_37_Digest (fun _ => (arr_len (n := 32) _)) (fun _ => rfl)) rfl ?_
    refine .tv 31 rfl rfl rfl (fun hb => v_eq_arr8 bt_24 (gt hb) (gt hb)) rfl ?_
    refine .val (v_pick_and rfl (fun hb => gt hb) rfl) rfl ?_
    refine .val (v_move (v := reg ((((((t6 == t8) && (t12 == t14)) && (t19 == t21)) && (t26 == t28)) && (decide (t33 = t35))) : Bool)) rfl) rfl ?_
    refine .tv 38 rfl rfl rfl (fun hb => v_fieldAddr fl_37_5 rfl) rfl ?_
    obtain ⟨t40, ⟨xt40, hxt40, hgt40⟩, hh⟩ := hh
    refine .tv 38 rfl rfl rfl (fun hb => v_ld1 (p := a_1) 36 na_3 (gt hb) hxt40 hgt40 get_37_From) rfl ?_
    refine .tv 38 rfl rfl rfl (fun hb => v_fieldAddr fl_37_5 rfl) rfl ?_
    obtain ⟨t42, ⟨xt42, hxt42, hgt42⟩, hh⟩ := hh
    refine .tv 38 rfl rfl rfl (fun hb => v_ld1 (p := b_1) 36 na_3 (gt hb) hxt42 hgt42 get_37_From) rfl ?_
    refine .tv 38 rfl rfl rfl (fun hb => v_ieql (gt hb) (gt hb)) rfl ?_
    refine .val (v_pick_and rfl (fun hb => gt hb) rfl) rfl ?_
    refine .val (v_move (v := reg (((((((t6 == t8) && (t12 == t14)) && (t19 == t21)) && (t26 == t28)) && (decide (t33 = t35))) && (t40 == t42)) : Bool)) rfl) rfl ?_
    refine ifb_cases hh (fun hb hh => ?_) (fun hb hh => ?_)
    · refine .yv 45 rfl (congrArg Value.bool hb) rfl (v_fieldAddr fl_37_6 rfl) rfl ?_
      obtain ⟨t47, ⟨xt47, hxt47, hgt47⟩, hh⟩ := hh
      refine .yv 45 rfl (congrArg Value.bool hb) rfl (v_ldA (p := a_1) 37 ag_35 rfl hxt47 hgt47 get_37_Sig (fun _ => (len_api_Sig _)) (fun _ => rfl)) rfl ?_
      refine .yv 45 rfl (congrArg Value.bool hb) rfl (v_fieldAddr fl_37_6 rfl) rfl ?_
      obtain ⟨t49, ⟨xt49, hxt49, hgt49⟩, hh⟩ := hh
      refine .yv 45 rfl (congrArg Value.bool hb) rfl (v_ldA (p := b_1) 37 ag_35 rfl hxt49 hgt49 get_37_Sig (fun _ => (len_api_Sig _)) (fun _ => rfl)) rfl ?_
      refine .ye 45 rfl (congrArg Value.bool hb) rfl (e_callP fn_50 rfl rfl hh ?_)
      intro h t50 hh
      refine .val (v_pickT (v := reg (t50 : Bool)) rfl hb rfl) rfl ?_
      refine .val (v_assign (v := reg (t50 : Bool)) rfl) rfl ?_
      refine .nil ?_
      exact QN.thenJ ⟨_, t50, setl_eq ⟨rfl, trivial⟩, hh⟩
    · refine .no 45 rfl (congrArg Value.bool hb) rfl rfl ?_
      refine .no 45 rfl (congrArg Value.bool hb) rfl rfl ?_
      refine .no 45 rfl (congrArg Value.bool hb) rfl rfl ?_
      refine .no 45 rfl (congrArg Value.bool hb) rfl rfl ?_
      refine .no 45 rfl (congrArg Value.bool hb) rfl rfl ?_
      refine .val (v_pickF (v := reg (false : Bool)) rfl hb rfl) rfl ?_
      refine .val (v_assign (v := reg (false : Bool)) rfl) rfl ?_
      refine .nil ?_
      exact QN.thenJ ⟨_, false, setl_eq ⟨rfl, trivial⟩, hh⟩
  · rintro ρ h ⟨ρ', t4, rfl, hh⟩
    unfold ref13_Same.j1 at hh
    refine CW.ret ?_
    exact ret1 rfl rfl ⟨(t4 : Bool), rfl, hh⟩
end Go.Proofs.YtimmoekliphobaaDoor
namespace Go.Proofs.YtimmoekliphobaaDoor
open Go Go.Sh
open Go.Sh.Ty (reg)
set_option linter.unusedVariables false
set_option maxRecDepth 100000
set_option maxHeartbeats 4000000
theorem ref13_Box_Winner.ok (b : Pt) (kind : Int) (quorum : Int) (k : Int → H → Prop) (h : H) (hh : ref13_Box_Winner.b b kind quorum k h) : CallsH Prog 23 [reg b, reg kind, reg quorum].toArray h fun v h' => ∃ r : Int, v = reg r ∧ k r h' := by
  unfold ref13_Box_Winner.b at hh
  refine CallsH.of 51 Tryd.func23 rfl Tryd.ntmps23 rfl (fun w0 => ?_)
  refine CW.seq ?_
  refine CW.region ?_
  refine .val (v_assign (v := reg ((0 : Int) : Int)) rfl) rfl ?_
  refine .nil ?_
  refine QN.then_ ?_
  refine CW.seq ?_
  refine CW.region ?_
  refine .val (v_assign (v := reg ((-1 : Int) : Int)) rfl) rfl ?_
  refine .nil ?_
  refine QN.then_ ?_
  refine CW.join (fun ρ h => ∃ (ρ' : Env) (best_3 : Int), ρ = setl ρ' [(7, reg (best_3 : Int))] ∧ (ref13_Box_Winner.j1 k) best_3 h) ?_ ?_
  · refine CW.seq ?_
    refine CW.region ?_
    refine .val (v_move (v := reg (b : Pt)) rfl) rfl ?_
    obtain ⟨p, hp, hh⟩ := hh
    refine .val (v_nilCheck (congrArg Value.pointer hp)) rfl ?_
    refine .val (v_fieldAddr fl_30_0 rfl) rfl ?_
    obtain ⟨t13, ⟨xt13, hxt13, hgt13⟩, hh⟩ := hh
    refine .val (v_ld1 (p := p) 0 na_22 rfl hxt13 hgt13 get_30_Votes) rfl ?_
    refine .val (v_len_sl (sl_22).1 rfl) rfl ?_
    refine .val (v_move (v := reg ((0 : Int) : Int)) rfl) rfl ?_
    refine .nil ?_
    refine QN.then_ ?_
    refine CW.block ?_
    unfold ref13_Box_Winner.l1 at hh
    refine CW.loop (fun (σ0 : Int × Int) ρ => match σ0 with | (best, t15) => ∃ ρ' : Env, ρ = setl ρ' [(0, reg (b : Pt)), (1, reg (kind : Int)), (2, reg (quorum : Int)), (13, reg (t13 : Sl)), (14, reg ((t13.len : Int) : Int)), (7, reg (best : Int)), (15, reg (t15 : Int))]) hh ⟨_, setl_eq ⟨rfl, ⟨rfl, ⟨rfl, ⟨rfl, ⟨rfl, ⟨rfl, ⟨rfl, trivial⟩⟩⟩⟩⟩⟩⟩⟩ ?_
    clear hh
    rintro s1 ⟨best, t15⟩ ρ h ⟨ρ', rfl⟩ hh
    refine CW.seq ?_
    refine CW.region ?_
    refine .val (v_ilss rfl rfl) rfl ?_
    refine .nil ?_
    refine QN.then_ ?_
    refine CW.seq ?_
    refine CW.cond (decide (t15 < (t13.len : Int))) rfl (fun hb => ?_) (fun hb => ?_)
    · have hh := hh.1 hb
      refine CW.skip ?_
      refine QN.then_ ?_
      refine CW.join (fun ρ h => ∃ (ρ' : Env) (best_2 : Int), ρ = setl ρ' [(0, reg (b : Pt)), (1, reg (kind : Int)), (2, reg (quorum : Int)), (7, reg (best_2 : Int)), (13, reg (t13 : Sl)), (14, reg ((t13.len : Int) : Int)), (15, reg (t15 : Int))] ∧ (ref13_Box_Winner.j2 s1) b kind quorum best_2 t13 (t13.len : Int) t15 h) ?_ ?_
      · refine CW.block ?_
        refine CW.seq ?_
        refine CW.region ?_
        obtain ⟨t17, ht17, hh⟩ := hh
        refine .val (v_idx_slP sl_22 rfl rfl ht17.1 ht17.2.1 ht17.2.2) rfl ?_
        obtain ⟨t18, ⟨xt18, hxt18, hgt18⟩, hh⟩ := hh
        refine .val (v_ldA (p := t17) 0 ag_37 rfl hxt18 hgt18 get_37_all (fun _ => (len_api_Vote _)) (fun _ => rfl)) rfl ?_
        refine box_elim hh (fun v hv hh => ?_)
        refine .e (e_allocP hv zo_37 rfl ?_)
        obtain ⟨xw, hxw, hwxw, hh⟩ := hh
        refine .e (e_storeN (p := v) (nv := enc (t18 : api_Vote)) 0 rfl rfl rfl sz_37 (one_api_Vote _) hxw hwxw (len_api_Vote _) (len_api_Vote _) rfl (set_37_all xw (t18 : api_Vote)) ?_)
        refine .nil ?_
        refine QN.then_ ?_
        refine CW.join (fun ρ h => ∃ (ρ' : Env) (t46 : Bool), ρ = setl ρ' [(0, reg (b : Pt)), (1, reg (kind : Int)), (2, reg (quorum : Int)), (7, reg (best : Int)), (9, .pointer (some v)), (13, reg (t13 : Sl)), (14, reg ((t13.len : Int) : Int)), (15, reg (t15 : Int)), (46, reg (t46 : Bool))] ∧ (ref13_Box_Winner.j3 (ref13_Box_Winner.j2 s1)) b kind quorum best v t13 (t13.len : Int) t15 t46 h) ?_ ?_
        · refine CW.region ?_
          refine .val (v_fieldAddr fl_37_0 rfl) rfl ?_
          obtain ⟨t20, ⟨xt20, hxt20, hgt20⟩, hh⟩ := hh
          refine .val (v_ld1 (p := v) 0 na_3 rfl hxt20 hgt20 get_37_Kind) rfl ?_
          refine .val (v_move (v := reg (kind : Int)) rfl) rfl ?_
          refine .val (v_ieql rfl rfl) rfl ?_
          refine .val (v_move (v := reg ((t20 == kind) : Bool)) rfl) rfl ?_
          refine ifb_cases hh (fun hb_1 hh => ?_) (fun hb_1 hh => ?_)
          · refine .yv 23 rfl (congrArg Value.bool hb_1) rfl (v_fieldAddr fl_37_4 rfl) rfl ?_
            obtain ⟨t25, ⟨xt25, hxt25, hgt25⟩, hh⟩ := hh
            refine .yv 23 rfl (congrArg Value.bool hb_1) rfl (v_ldA (p := v) 4 ag_24 rfl hxt25 hgt25 get_37_Digest (fun _ => (arr_len (n := 32) _)) (fun _ => rfl)) rfl ?_
            refine .yv 23 rfl (congrArg Value.bool hb_1) rfl (v_buildAT (arrOf [0, 0, 0, 0, 0, 0, 0, 0, 0, 0, 0, 0, 0, 0, 0, 0, 0, 0, 0, 0, 0, 0, 0, 0, 0, 0, 0, 0, 0, 0, 0, 0] : Arr 32 UInt8) zo_24 ar_24 rfl rfl rfl) rfl ?_
            refine .yv 23 rfl (congrArg Value.bool hb_1) rfl (v_ne_arr8 bt_24 rfl rfl) rfl ?_
            refine .val (v_pickT (v := reg ((!decide (t25 = (arrOf [0, 0, 0, 0, 0, 0, 0, 0, 0, 0, 0, 0, 0, 0, 0, 0, 0, 0, 0, 0, 0, 0, 0, 0, 0, 0, 0, 0, 0, 0, 0, 0] : Arr 32 UInt8))) : Bool)) rfl hb_1 rfl) rfl ?_
            refine .val (v_move (v := reg ((!decide (t25 = (arrOf [0, 0, 0, 0, 0, 0, 0, 0, 0, 0, 0, 0, 0, 0, 0, 0, 0, 0, 0, 0, 0, 0, 0, 0, 0, 0, 0, 0, 0, 0, 0, 0] : Arr 32 UInt8))) : Bool)) rfl) rfl ?_
            refine .tv 29 rfl rfl rfl (fun hb => v_fieldAddr fl_37_3 rfl) rfl ?_
            obtain ⟨t31, ⟨xt31, hxt31, hgt31⟩, hh⟩ := hh
            refine .tv 29 rfl rfl rfl (fun hb => v_ld1 (p := v) 3 na_3 (gt hb) hxt31 hgt31 get_37_Round) rfl ?_
            refine .tv 29 rfl rfl rfl (fun hb => v_move (v := reg (best : Int)) rfl) rfl ?_
            refine .tv 29 rfl rfl rfl (fun hb => v_igtr (gt hb) (gt hb)) rfl ?_
            refine .val (v_pick_and rfl (fun hb => gt hb) rfl) rfl ?_
            refine .val (v_move (v := reg (((!decide (t25 = (arrOf [0, 0, 0, 0, 0, 0, 0, 0, 0, 0, 0, 0, 0, 0, 0, 0, 0, 0, 0, 0, 0, 0, 0, 0, 0, 0, 0, 0, 0, 0, 0, 0] : Arr 32 UInt8))) && (decide (best < t31))) : Bool)) rfl) rfl ?_
            refine ifb_cases hh (fun hb_2 hh => ?_) (fun hb_2 hh => ?_)
            · refine .yv 35 rfl (congrArg Value.bool hb_2) rfl (v_move (v := reg (b : Pt)) rfl) rfl ?_
              refine .yv 35 rfl (congrArg Value.bool hb_2) rfl (v_move (v := reg (kind : Int)) rfl) rfl ?_
              refine .yv 35 rfl (congrArg Value.bool hb_2) rfl (v_fieldAddr fl_37_3 rfl) rfl ?_
              obtain ⟨t39, ⟨xt39, hxt39, hgt39⟩, hh⟩ := hh
              refine .yv 35 rfl (congrArg Value.bool hb_2) rfl (v_ld1 (p := v) 3 na_3 rfl hxt39 hgt39 get_37_Round) rfl ?_
              refine .yv 35 rfl (congrArg Value.bool hb_2) rfl (v_fieldAddr fl_37_4 rfl) rfl ?_
              obtain ⟨t41, ⟨xt41, hxt41, hgt41⟩, hh⟩ := hh
              refine .yv 35 rfl (congrArg Value.bool hb_2) rfl (v_ldA (p := v) 4 ag_24 rfl hxt41 hgt41 get_37_Digest (fun _ => (arr_len (n := 32) _)) (fun _ => rfl)) rfl ?_
              refine .ye 35 rfl (congrArg Value.bool hb_2) rfl (e_callP fn_15 rfl rfl hh ?_)
              intro h t42 hh
              refine .yv 35 rfl (congrArg Value.bool hb_2) rfl (v_len_sl (sl_22).1 rfl) rfl ?_
              refine .yv 35 rfl (congrArg Value.bool hb_2) rfl (v_move (v := reg (quorum : Int)) rfl) rfl ?_
              refine .yv 35 rfl (congrArg Value.bool hb_2) rfl (v_igeq rfl rfl) rfl ?_
              refine .val (v_pickT (v := reg ((decide (quorum ≤ (t42.len : Int))) : Bool)) rfl hb_2 rfl) rfl ?_
              refine .nil ?_
              exact QN.thenJ ⟨_, (decide (quorum ≤ (t42.len : Int))), setl_eq ⟨rfl, ⟨rfl, ⟨rfl, ⟨rfl, ⟨rfl, ⟨rfl, ⟨rfl, ⟨rfl, ⟨rfl, trivial⟩⟩⟩⟩⟩⟩⟩⟩⟩, hh⟩
            · refine .no 35 rfl (congrArg Value.bool hb_2) rfl rfl ?_
              refine .no 35 rfl (congrArg Value.bool hb_2) rfl rfl ?_
              refine .no 35 rfl (congrArg Value.bool hb_2) rfl rfl ?_
              refine .no 35 rfl (congrArg Value.bool hb_2) rfl rfl ?_
              refine .no 35 rfl (congrArg Value.bool hb_2) rfl rfl ?_
              refine .no 35 rfl (congrArg Value.bool hb_2) rfl rfl ?_
              refine .no 35 rfl (congrArg Value.bool hb_2) rfl rfl ?_
              refine .no 35 rfl (congrArg Value.bool hb_2) rfl rfl ?_
              refine .no 35 rfl (congrArg Value.bool hb_2) rfl rfl ?_
              refine .no 35 rfl (congrArg Value.bool hb_2) rfl rfl ?_
              refine .val (v_pickF (v := reg (false : Bool)) rfl hb_2 rfl) rfl ?_
              refine .nil ?_
              exact QN.thenJ ⟨_, false, setl_eq ⟨rfl, ⟨rfl, ⟨rfl, ⟨rfl, ⟨rfl, ⟨rfl, ⟨rfl, ⟨rfl, ⟨rfl, trivial⟩⟩⟩⟩⟩⟩⟩⟩⟩, hh⟩
          · refine .no 23 rfl (congrArg Value.bool hb_1) rfl rfl ?_
            refine .no 23 rfl (congrArg Value.bool hb_1) rfl rfl ?_
            refine .no 23 rfl (congrArg Value.bool hb_1) rfl rfl ?_
            refine .no 23 rfl (congrArg Value.bool hb_1) rfl rfl ?_
            refine .val (v_pickF (v := reg (false : Bool)) rfl hb_1 rfl) rfl ?_
            refine .val (v_move (v := reg (false : Bool)) rfl) rfl ?_
            refine .no 29 rfl rfl rfl rfl ?_
            refine .no 29 rfl rfl rfl rfl ?_
            refine .no 29 rfl rfl rfl rfl ?_
            refine .no 29 rfl rfl rfl rfl ?_
            refine .val (v_pickF (v := reg (false : Bool)) rfl rfl rfl) rfl ?_
            refine .val (v_move (v := reg (false : Bool)) rfl) rfl ?_
            refine .no 35 rfl rfl rfl rfl ?_
            refine .no 35 rfl rfl rfl rfl ?_
            refine .no 35 rfl rfl rfl rfl ?_
            refine .no 35 rfl rfl rfl rfl ?_
            refine .no 35 rfl rfl rfl rfl ?_
            refine .no 35 rfl rfl rfl rfl ?_
            refine .no 35 rfl rfl rfl rfl ?_
            refine .no 35 rfl rfl rfl rfl ?_
            refine .no 35 rfl rfl rfl rfl ?_
            refine .no 35 rfl rfl rfl rfl ?_
            refine .val (v_pickF (v := reg (false : Bool)) rfl rfl rfl) rfl ?_
            refine .nil ?_
            exact QN.thenJ ⟨_, false, setl_eq ⟨rfl, ⟨rfl, ⟨rfl, ⟨rfl, ⟨rfl, ⟨rfl, ⟨rfl, ⟨rfl, ⟨rfl, trivial⟩⟩⟩⟩⟩⟩⟩⟩⟩, hh⟩
        · rintro ρ h ⟨ρ', t46, rfl, hh⟩
          unfold ref13_Box_Winner.j3 at hh
          refine CW.cond t46 rfl (fun hb_3 => ?_) (fun hb_3 => ?_)
          · have hh := hh.1 hb_3
            refine CW.region ?_
            refine .val (v_fieldAddr fl_37_3 rfl) rfl ?_
            obtain ⟨t48, ⟨xt48, hxt48, hgt48⟩, hh⟩ := hh
            refine .val (v_ld1 (p := v) 3 na_3 rfl hxt48 hgt48 get_37_Round) rfl ?_
            refine .val (v_assign (v := reg (t48 : Int)) rfl) rfl ?_
            refine .nil ?_
            refine QN.blockN ?_
            exact QN.thenJ ⟨_, t48, setl_eq ⟨rfl, ⟨rfl, ⟨rfl, ⟨rfl, ⟨rfl, ⟨rfl, ⟨rfl, trivial⟩⟩⟩⟩⟩⟩⟩, hh⟩
          · have hh := hh.2 hb_3
            refine CW.skip ?_
            refine QN.blockN ?_
            exact QN.thenJ ⟨_, best, setl_eq ⟨rfl, ⟨rfl, ⟨rfl, ⟨rfl, ⟨rfl, ⟨rfl, ⟨rfl, trivial⟩⟩⟩⟩⟩⟩⟩, hh⟩
      · rintro ρ h ⟨ρ', best_2, rfl, hh⟩
        unfold ref13_Box_Winner.j2 at hh
        refine CW.region ?_
        refine .val (v_iadd rfl rfl) rfl ?_
        refine .val (v_move (v := reg ((iadd t15 (1 : Int)) : Int)) rfl) rfl ?_
        refine .nil ?_
        exact QN.thenJ ⟨(best_2, (iadd t15 (1 : Int))), ⟨_, setl_eq ⟨rfl, ⟨rfl, ⟨rfl, ⟨rfl, ⟨rfl, ⟨rfl, ⟨rfl, trivial⟩⟩⟩⟩⟩⟩⟩⟩, hh⟩
    · have hh := hh.2 hb
      refine CW.exit ?_
      refine QN.thenExit ?_
      refine QN.thenExit ?_
      refine QN.blockExit ?_
      exact QN.thenJ ⟨_, best, setl_eq ⟨rfl, trivial⟩, hh⟩
  · rintro ρ h ⟨ρ', best_3, rfl, hh⟩
    unfold ref13_Box_Winner.j1 at hh
    refine CW.seq ?_
    refine CW.region ?_
    refine .val (v_move (v := reg (best_3 : Int)) rfl) rfl ?_
    refine .val (v_assign (v := reg (best_3 : Int)) rfl) rfl ?_
    refine .nil ?_
    refine QN.then_ ?_
    refine CW.ret ?_
    exact ret1 rfl rfl ⟨(best_3 : Int), rfl, hh⟩
end Go.Proofs.YtimmoekliphobaaDoor
namespace Go.Proofs.YtimmoekliphobaaDoor
open Go Go.Sh
open Go.Sh.Ty (reg)
set_option linter.unusedVariables false
set_option maxRecDepth 100000
set_option maxHeartbeats 4000000
theorem ref06_Before.ok (a : Arr 32 UInt8) (b : Arr 32 UInt8) (k : Bool → H → Prop) (h : H) (hh : ref06_Before.b a b k h) : CallsH Prog 24 [reg a, reg b].toArray h fun v h' => ∃ r : Bool, v = reg r ∧ k r h' := by
  unfold ref06_Before.b at hh
  refine CallsH.of 24 Tryd.func24 rfl Tryd.ntmps24 rfl (fun w0 => ?_)
  refine CW.seq ?_
  refine CW.region ?_
  refine box_elim hh (fun a_1 ha_1 hh => ?_)
  refine .e (e_boxP ha_1 rfl rfl rfl ?_)
  refine box_elim hh (fun b_1 hb_1 hh => ?_)
  refine .e (e_boxP hb_1 rfl rfl rfl ?_)
  refine .val (v_assign (v := reg (false : Bool)) rfl) rfl ?_
  refine .nil ?_
  refine QN.then_ ?_
  refine CW.join (fun ρ h => ∃ (ρ' : Env), ρ = setl ρ' [] ∧ (ref06_Before.j1 k)  h) ?_ ?_
  · refine CW.seq ?_
    refine CW.region ?_
    refine .val (v_move (v := reg ((0 : Int) : Int)) rfl) rfl ?_
    refine .nil ?_
    refine QN.then_ ?_
    refine CW.block ?_
    unfold ref06_Before.l1 at hh
    refine CW.loop (fun (σ0 : Int) ρ => match σ0 with | t6 => ∃ ρ' : Env, ρ = setl ρ' [(2, .pointer (some a_1)), (3, .pointer (some b_1)), (6, reg (t6 : Int))]) hh ⟨_, setl_eq ⟨rfl, ⟨rfl, ⟨rfl, trivial⟩⟩⟩⟩ ?_
    clear hh
    rintro s1 t6 ρ h ⟨ρ', rfl⟩ hh
    refine CW.seq ?_
    refine CW.region ?_
    refine .val (v_ilss rfl rfl) rfl ?_
    refine .nil ?_
    refine QN.then_ ?_
    refine CW.seq ?_
    refine CW.cond (decide (t6 < (32 : Int))) rfl (fun hb => ?_) (fun hb => ?_)
    · have hh := hh.1 hb
      refine CW.skip ?_
      refine QN.then_ ?_
      refine CW.seq ?_
      refine CW.block ?_
      refine CW.seq ?_
      refine CW.region ?_
      refine .val (v_move (v := reg (t6 : Int)) rfl) rfl ?_
      refine .val (v_assign (v := reg (t6 : Int)) rfl) rfl ?_
      refine .nil ?_
      refine QN.then_ ?_
      refine CW.seq ?_
      refine CW.drawN 7 rfl follows_mixed [0, 1, 2, 3, 4, 5, 6] ?_
      refine .p 0 rfl (by kernel_rfl) (NoPanic.then_ (NoPanic.block (NoPanic.then_ (NoPanic.then_ (NoPanic.block (NoPanic.then_ (NoPanic.body))))))) (fun _ => v_move (v := reg (t6 : Int)) rfl) ?_
      obtain ⟨i10, hi10, hh⟩ := hh
      refine .p 1 rfl (by kernel_rfl) (NoPanic.then_ (NoPanic.block (NoPanic.then_ (NoPanic.then_ (NoPanic.block (NoPanic.then_ (NoPanic.body))))))) (fun _ => v_idx_arrP ar_24 rfl rfl hi10) ?_
      obtain ⟨t11, ⟨xt11, hxt11, hgt11⟩, hh⟩ := hh
      refine .r 2 (fun h' => ∃ x : Arr 32 UInt8, AtH h' a_1 (enc x) ∧ ((fun (x : Arr 32 UInt8) => x i10) : Arr 32 UInt8 → UInt8) x = t11) rfl (by kernel_rfl) (NoPanic.then_ (NoPanic.block (NoPanic.then_ (NoPanic.then_ (NoPanic.block (NoPanic.then_ (NoPanic.body))))))) ⟨xt11, hxt11, hgt11⟩ (fun h' hS => hS.elim fun _ hS => v_ld1 (p := a_1) i10.val na_5 rfl hS.1 hS.2 (arr_get i10)) ?_
      refine .p 3 rfl (by kernel_rfl) (NoPanic.then_ (NoPanic.block (NoPanic.then_ (NoPanic.then_ (NoPanic.block (NoPanic.then_ (NoPanic.body))))))) (fun _ => v_move (v := reg (t6 : Int)) rfl) ?_
      obtain ⟨i13, hi13, hh⟩ := hh
      refine .p 4 rfl (by kernel_rfl) (NoPanic.then_ (NoPanic.block (NoPanic.then_ (NoPanic.then_ (NoPanic.block (NoPanic.then_ (NoPanic.body))))))) (fun _ => v_idx_arrP ar_24 rfl rfl hi13) ?_
      obtain ⟨t14, ⟨xt14, hxt14, hgt14⟩, hh⟩ := hh
      refine .r 5 (fun h' => ∃ x : Arr 32 UInt8, AtH h' b_1 (enc x) ∧ ((fun (x : Arr 32 UInt8) => x i13) : Arr 32 UInt8 → UInt8) x = t14) rfl (by kernel_rfl) (NoPanic.then_ (NoPanic.block (NoPanic.then_ (NoPanic.then_ (NoPanic.block (NoPanic.then_ (NoPanic.body))))))) ⟨xt14, hxt14, hgt14⟩ (fun h' hS => hS.elim fun _ hS => v_ld1 (p := b_1) i13.val na_5 rfl hS.1 hS.2 (arr_get i13)) ?_
      refine .p 6 rfl (by kernel_rfl) (NoPanic.then_ (NoPanic.block (NoPanic.then_ (NoPanic.then_ (NoPanic.block (NoPanic.then_ (NoPanic.body))))))) (fun _ => v_u8neq (a := t11) (b := t14) rfl rfl) ?_
      refine .done (by kernel_rfl) ?_
      refine QN.then_ ?_
      refine CW.cond (t11 != t14) rfl (fun hb_1 => ?_) (fun hb_1 => ?_)
      · have hh := hh.1 hb_1
        refine CW.seq ?_
        refine CW.drawN 8 rfl follows_mixed [0, 1, 2, 3, 4, 5, 6, 7] ?_
        refine .p 0 rfl (by kernel_rfl) (NoPanic.then_ (NoPanic.block (NoPanic.then_ (NoPanic.then_ (NoPanic.block (NoPanic.then_ (NoPanic.body))))))) (fun _ => v_move (v := reg (t6 : Int)) rfl) ?_
        obtain ⟨i17, hi17, hh⟩ := hh
        refine .p 1 rfl (by kernel_rfl) (NoPanic.then_ (NoPanic.block (NoPanic.then_ (NoPanic.then_ (NoPanic.block (NoPanic.then_ (NoPanic.body))))))) (fun _ => v_idx_arrP ar_24 rfl rfl hi17) ?_
        obtain ⟨t18, ⟨xt18, hxt18, hgt18⟩, hh⟩ := hh
        refine .r 2 (fun h' => ∃ x : Arr 32 UInt8, AtH h' a_1 (enc x) ∧ ((fun (x : Arr 32 UInt8) => x i17) : Arr 32 UInt8 → UInt8) x = t18) rfl (by kernel_rfl) (NoPanic.then_ (NoPanic.block (NoPanic.then_ (NoPanic.then_ (NoPanic.block (NoPanic.then_ (NoPanic.body))))))) ⟨xt18, hxt18, hgt18⟩ (fun h' hS => hS.elim fun _ hS => v_ld1 (p := a_1) i17.val na_5 rfl hS.1 hS.2 (arr_get i17)) ?_
        refine .p 3 rfl (by kernel_rfl) (NoPanic.then_ (NoPanic.block (NoPanic.then_ (NoPanic.then_ (NoPanic.block (NoPanic.then_ (NoPanic.body))))))) (fun _ => v_move (v := reg (t6 : Int)) rfl) ?_
        obtain ⟨i20, hi20, hh⟩ := hh
        refine .p 4 rfl (by kernel_rfl) (NoPanic.then_ (NoPanic.block (NoPanic.then_ (NoPanic.then_ (NoPanic.block (NoPanic.then_ (NoPanic.body))))))) (fun _ => v_idx_arrP ar_24 rfl rfl hi20) ?_
        obtain ⟨t21, ⟨xt21, hxt21, hgt21⟩, hh⟩ := hh
        refine .r 5 (fun h' => ∃ x : Arr 32 UInt8, AtH h' b_1 (enc x) ∧ ((fun (x : Arr 32 UInt8) => x i20) : Arr 32 UInt8 → UInt8) x = t21) rfl (by kernel_rfl) (NoPanic.then_ (NoPanic.block (NoPanic.then_ (NoPanic.then_ (NoPanic.block (NoPanic.then_ (NoPanic.body))))))) ⟨xt21, hxt21, hgt21⟩ (fun h' hS => hS.elim fun _ hS => v_ld1 (p := b_1) i20.val na_5 rfl hS.1 hS.2 (arr_get i20)) ?_
        refine .p 6 rfl (by kernel_rfl) (NoPanic.then_ (NoPanic.block (NoPanic.then_ (NoPanic.then_ (NoPanic.block (NoPanic.then_ (NoPanic.body))))))) (fun _ => v_u8lss (a := t18) (b := t21) rfl rfl) ?_
        refine .p 7 rfl (by kernel_rfl) (NoPanic.then_ (NoPanic.block (NoPanic.then_ (NoPanic.then_ (NoPanic.block (NoPanic.then_ (NoPanic.body))))))) (fun _ => v_assign (v := reg ((decide (t18 < t21)) : Bool)) rfl) ?_
        refine .done (by kernel_rfl) ?_
        refine QN.then_ ?_
        refine CW.ret ?_
        refine QN.blockRet ?_
        refine QN.thenRet ?_
        refine QN.thenRet ?_
        refine QN.blockRet ?_
        refine QN.thenRet ?_
        exact ret1 rfl rfl ⟨((decide (t18 < t21)) : Bool), rfl, hh⟩
      · have hh := hh.2 hb_1
        refine CW.skip ?_
        refine QN.blockN ?_
        refine QN.then_ ?_
        refine CW.region ?_
        refine .val (v_iadd rfl rfl) rfl ?_
        refine .val (v_move (v := reg ((iadd t6 (1 : Int)) : Int)) rfl) rfl ?_
        refine .nil ?_
        exact QN.thenJ ⟨(iadd t6 (1 : Int)), ⟨_, setl_eq ⟨rfl, ⟨rfl, ⟨rfl, trivial⟩⟩⟩⟩, hh⟩
    · have hh := hh.2 hb
      refine CW.exit ?_
      refine QN.thenExit ?_
      refine QN.thenExit ?_
      refine QN.blockExit ?_
      exact QN.thenJ ⟨_, setl_eq trivial, hh⟩
  · rintro ρ h ⟨ρ', rfl, hh⟩
    unfold ref06_Before.j1 at hh
    refine CW.seq ?_
    refine CW.region ?_
    refine .val (v_assign (v := reg (false : Bool)) rfl) rfl ?_
    refine .nil ?_
    refine QN.then_ ?_
    refine CW.ret ?_
    exact ret1 rfl rfl ⟨(false : Bool), rfl, hh⟩
end Go.Proofs.YtimmoekliphobaaDoor
namespace Go.Proofs.YtimmoekliphobaaDoor
open Go Go.Sh
open Go.Sh.Ty (reg)
set_option linter.unusedVariables false
set_option maxRecDepth 100000
set_option maxHeartbeats 4000000
theorem ref05_Same.ok (a : api_Sig) (b : api_Sig) (k : Bool → H → Prop) (h : H) (hh : ref05_Same.b a b k h) : CallsH Prog 50 [reg a, reg b].toArray h fun v h' => ∃ r : Bool, v = reg r ∧ k r h' := by
  unfold ref05_Same.b at hh
  refine CallsH.of 24 Tryd.func50 rfl Tryd.ntmps50 rfl (fun w0 => ?_)
  refine CW.seq ?_
  refine CW.region ?_
  refine box_elim hh (fun a_1 ha_1 hh => ?_)
  refine .e (e_boxP ha_1 rfl rfl rfl ?_)
  refine box_elim hh (fun b_1 hb_1 hh => ?_)
  refine .e (e_boxP hb_1 rfl rfl rfl ?_)
  refine .val (v_assign (v := reg (false : Bool)) rfl) rfl ?_
  refine .nil ?_
  refine QN.then_ ?_
  refine CW.join (fun ρ h => ∃ (ρ' : Env) (t4 : Bool), ρ = setl ρ' [(4, reg (t4 : Bool))] ∧ (ref05_Same.j1 k) t4 h) ?_ ?_
  · refine CW.region ?_
    refine .val (v_fieldAddr fl_35_0 rfl) rfl ?_
    obtain ⟨t6, ⟨xt6, hxt6, hgt6⟩, hh⟩ := hh
    refine .val (v_ld1 (p := a_1) 0 na_3 rfl hxt6 hgt6 get_35_Leaf) rfl ?_
    refine .val (v_fieldAddr fl_35_0 rfl) rfl ?_
    obtain ⟨t8, ⟨xt8, hxt8, hgt8⟩, hh⟩ := hh
    refine .val (v_ld1 (p := b_1) 0 na_3 rfl hxt8 hgt8 get_35_Leaf) rfl ?_
    refine .val (v_ieql rfl rfl) rfl ?_
    refine .val (v_move (v := reg ((t6 == t8) : Bool)) rfl) rfl ?_
    refine ifb_cases hh (fun hb hh => ?_) (fun hb hh => ?_)
    · refine .yv 10 rfl (congrArg Value.bool hb) rfl (v_fieldAddr fl_35_1 rfl) rfl ?_
      obtain ⟨t12, ⟨xt12, hxt12, hgt12⟩, hh⟩ := hh
      refine .yv 10 rfl (congrArg Value.bool hb) rfl (v_ldA (p := a_1) 1 ag_33 rfl hxt12 hgt12 get_35_Once (fun _ => (len_api_Once _)) (fun _ => rfl)) rfl ?_
      refine .yv 10 rfl (congrArg Value.bool hb) rfl (v_fieldAddr fl_35_1 rfl) rfl ?_
      obtain ⟨t14, ⟨xt14, hxt14, hgt14⟩, hh⟩ := hh
      refine .yv 10 rfl (congrArg Value.bool hb) rfl (v_ldA (p := b_1) 1 ag_33 rfl hxt14 hgt14 get_35_Once (fun _ => (len_api_Once _)) (fun _ => rfl)) rfl ?_
      refine .ye 10 rfl (congrArg Value.bool hb) rfl (e_callP fn_84 rfl rfl hh ?_)
      intro h t15 hh
      refine .val (v_pickT (v := reg (t15 : Bool)) rfl hb rfl) rfl ?_
      refine .val (v_move (v := reg (t15 : Bool)) rfl) rfl ?_
      refine ifb_cases hh (fun hb_1 hh => ?_) (fun hb_1 hh => ?_)
      · refine .yv 17 rfl (congrArg Value.bool hb_1) rfl (v_fieldAddr fl_35_2 rfl) rfl ?_
        obtain ⟨t19, ⟨xt19, hxt19, hgt19⟩, hh⟩ := hh
        refine .yv 17 rfl (congrArg Value.bool hb_1) rfl (v_ld1 (p := a_1) 3 na_31 rfl hxt19 hgt19 get_35_Path) rfl ?_
        refine .yv 17 rfl (congrArg Value.bool hb_1) rfl (v_fieldAddr fl_35_2 rfl) rfl ?_
        obtain ⟨t21, ⟨xt21, hxt21, hgt21⟩, hh⟩ := hh
        refine .yv 17 rfl (congrArg Value.bool hb_1) rfl (v_ld1 (p := b_1) 3 na_31 rfl hxt21 hgt21 get_35_Path) rfl ?_
        refine .ye 17 rfl (congrArg Value.bool hb_1) rfl (e_callP fn_85 rfl rfl hh ?_)
        intro h t22 hh
        refine .val (v_pickT (v := reg (t22 : Bool)) rfl hb_1 rfl) rfl ?_
        refine .val (v_assign (v := reg (t22 : Bool)) rfl) rfl ?_
        refine .nil ?_
        exact QN.thenJ ⟨_, t22, setl_eq ⟨rfl, trivial⟩, hh⟩
      · refine .no 17 rfl (congrArg Value.bool hb_1) rfl rfl ?_
        refine .no 17 rfl (congrArg Value.bool hb_1) rfl rfl ?_
        refine .no 17 rfl (congrArg Value.bool hb_1) rfl rfl ?_
        refine .no 17 rfl (congrArg Value.bool hb_1) rfl rfl ?_
        refine .no 17 rfl (congrArg Value.bool hb_1) rfl rfl ?_
        refine .val (v_pickF (v := reg (false : Bool)) rfl hb_1 rfl) rfl ?_
        refine .val (v_assign (v := reg (false : Bool)) rfl) rfl ?_
        refine .nil ?_
        exact QN.thenJ ⟨_, false, setl_eq ⟨rfl, trivial⟩, hh⟩
    · refine .no 10 rfl (congrArg Value.bool hb) rfl rfl ?_
      refine .no 10 rfl (congrArg Value.bool hb) rfl rfl ?_
      refine .no 10 rfl (congrArg Value.bool hb) rfl rfl ?_
      refine .no 10 rfl (congrArg Value.bool hb) rfl rfl ?_
      refine .no 10 rfl (congrArg Value.bool hb) rfl rfl ?_
      refine .val (v_pickF (v := reg (false : Bool)) rfl hb rfl) rfl ?_
      refine .val (v_move (v := reg (false : Bool)) rfl) rfl ?_
      refine .no 17 rfl rfl rfl rfl ?_
      refine .no 17 rfl rfl rfl rfl ?_
      refine .no 17 rfl rfl rfl rfl ?_
      refine .no 17 rfl rfl rfl rfl ?_
      refine .no 17 rfl rfl rfl rfl ?_
      refine .val (v_pickF (v := reg (false : Bool)) rfl rfl rfl) rfl ?_
      refine .val (v_assign (v := reg (false : Bool)) rfl) rfl ?_
      refine .nil ?_
      exact QN.thenJ ⟨_, false, setl_eq ⟨rfl, trivial⟩, hh⟩
  · rintro ρ h ⟨ρ', t4, rfl, hh⟩
    unfold ref05_Same.j1 at hh
    refine CW.ret ?_
    exact ret1 rfl rfl ⟨(t4 : Bool), rfl, hh⟩
end Go.Proofs.YtimmoekliphobaaDoor
namespace Go.Proofs.YtimmoekliphobaaDoor
open Go Go.Sh
open Go.Sh.Ty (reg)
set_option linter.unusedVariables false
set_option maxRecDepth 100000
set_option maxHeartbeats 4000000
theorem ref04_Same.ok (a : api_Once) (b : api_Once) (k : Bool → H → Prop) (h : H) (hh : ref04_Same.b a b k h) : CallsH Prog 84 [reg a, reg b].toArray h fun v h' => ∃ r : Bool, v = reg r ∧ k r h' := by
  unfold ref04_Same.b at hh
  refine CallsH.of 17 Tryd.func84 rfl Tryd.ntmps84 rfl (fun w0 => ?_)
  refine CW.seq ?_
  refine CW.region ?_
  refine box_elim hh (fun a_1 ha_1 hh => ?_)
  refine .e (e_boxP ha_1 rfl rfl rfl ?_)
  refine box_elim hh (fun b_1 hb_1 hh => ?_)
  refine .e (e_boxP hb_1 rfl rfl rfl ?_)
  refine .val (v_assign (v := reg (false : Bool)) rfl) rfl ?_
  refine .nil ?_
  refine QN.then_ ?_
  refine CW.join (fun ρ h => ∃ (ρ' : Env) (t4 : Bool), ρ = setl ρ' [(4, reg (t4 : Bool))] ∧ (ref04_Same.j1 k) t4 h) ?_ ?_
  · refine CW.region ?_
    refine .val (v_fieldAddr fl_33_0 rfl) rfl ?_
    obtain ⟨t6, ⟨xt6, hxt6, hgt6⟩, hh⟩ := hh
    refine .val (v_ld1 (p := a_1) 0 na_31 rfl hxt6 hgt6 get_33_Open) rfl ?_
    refine .val (v_fieldAddr fl_33_0 rfl) rfl ?_
    obtain ⟨t8, ⟨xt8, hxt8, hgt8⟩, hh⟩ := hh
    refine .val (v_ld1 (p := b_1) 0 na_31 rfl hxt8 hgt8 get_33_Open) rfl ?_
    refine .e (e_callP fn_85 rfl rfl hh ?_)
    intro h t9 hh
    refine .val (v_move (v := reg (t9 : Bool)) rfl) rfl ?_
    refine ifb_cases hh (fun hb hh => ?_) (fun hb hh => ?_)
    · refine .yv 10 rfl (congrArg Value.bool hb) rfl (v_fieldAddr fl_33_1 rfl) rfl ?_
      obtain ⟨t12, ⟨xt12, hxt12, hgt12⟩, hh⟩ := hh
      refine .yv 10 rfl (congrArg Value.bool hb) rfl (v_ld1 (p := a_1) 1 na_31 rfl hxt12 hgt12 get_33_Shut) rfl ?_
      refine .yv 10 rfl (congrArg Value.bool hb) rfl (v_fieldAddr fl_33_1 rfl) rfl ?_
      obtain ⟨t14, ⟨xt14, hxt14, hgt14⟩, hh⟩ := hh
      refine .yv 10 rfl (congrArg Value.bool hb) rfl (v_ld1 (p := b_1) 1 na_31 rfl hxt14 hgt14 get_33_Shut) rfl ?_
      refine .ye 10 rfl (congrArg Value.bool hb) rfl (e_callP fn_85 rfl rfl hh ?_)
      intro h t15 hh
      refine .val (v_pickT (v := reg (t15 : Bool)) rfl hb rfl) rfl ?_
      refine .val (v_assign (v := reg (t15 : Bool)) rfl) rfl ?_
      refine .nil ?_
      exact QN.thenJ ⟨_, t15, setl_eq ⟨rfl, trivial⟩, hh⟩
    · refine .no 10 rfl (congrArg Value.bool hb) rfl rfl ?_
      refine .no 10 rfl (congrArg Value.bool hb) rfl rfl ?_
      refine .no 10 rfl (congrArg Value.bool hb) rfl rfl ?_
      refine .no 10 rfl (congrArg Value.bool hb) rfl rfl ?_
      refine .no 10 rfl (congrArg Value.bool hb) rfl rfl ?_
      refine .val (v_pickF (v := reg (false : Bool)) rfl hb rfl) rfl ?_
      refine .val (v_assign (v := reg (false : Bool)) rfl) rfl ?_
      refine .nil ?_
      exact QN.thenJ ⟨_, false, setl_eq ⟨rfl, trivial⟩, hh⟩
  · rintro ρ h ⟨ρ', t4, rfl, hh⟩
    unfold ref04_Same.j1 at hh
    refine CW.ret ?_
    exact ret1 rfl rfl ⟨(t4 : Bool), rfl, hh⟩
end Go.Proofs.YtimmoekliphobaaDoor
namespace Go.Proofs.YtimmoekliphobaaDoor
open Go Go.Sh
open Go.Sh.Ty (reg)
set_option linter.unusedVariables false
set_option maxRecDepth 100000
set_option maxHeartbeats 4000000
theorem ref03_Same.ok (a : Sl) (b : Sl) (k : Bool → H → Prop) (h : H) (hh : ref03_Same.b a b k h) : CallsH Prog 85 [reg a, reg b].toArray h fun v h' => ∃ r : Bool, v = reg r ∧ k r h' := by
  unfold ref03_Same.b at hh
  refine CallsH.of 26 Tryd.func85 rfl Tryd.ntmps85 rfl (fun w0 => ?_)
  refine CW.seq ?_
  refine CW.region ?_
  refine .val (v_assign (v := reg (false : Bool)) rfl) rfl ?_
  refine .nil ?_
  refine QN.then_ ?_
  refine CW.seq ?_
  refine CW.seq ?_
  refine CW.region ?_
  refine .val (v_move (v := reg (a : Sl)) rfl) rfl ?_
  refine .val (v_len_sl (sl_31).1 rfl) rfl ?_
  refine .val (v_move (v := reg (b : Sl)) rfl) rfl ?_
  refine .val (v_len_sl (sl_31).1 rfl) rfl ?_
  refine .val (v_ineq rfl rfl) rfl ?_
  refine .nil ?_
  refine QN.then_ ?_
  refine CW.cond ((a.len : Int) != (b.len : Int)) rfl (fun hb => ?_) (fun hb => ?_)
  · have hh := hh.1 hb
    refine CW.seq ?_
    refine CW.region ?_
    refine .val (v_assign (v := reg (false : Bool)) rfl) rfl ?_
    refine .nil ?_
    refine QN.then_ ?_
    refine CW.ret ?_
    refine QN.thenRet ?_
    exact ret1 rfl rfl ⟨(false : Bool), rfl, hh⟩
  · have hh := hh.2 hb
    refine CW.skip ?_
    refine QN.then_ ?_
    refine CW.join (fun ρ h => ∃ (ρ' : Env), ρ = setl ρ' [] ∧ (ref03_Same.j1 k)  h) ?_ ?_
    · refine CW.seq ?_
      refine CW.region ?_
      refine .val (v_move (v := reg (a : Sl)) rfl) rfl ?_
      refine .val (v_len_sl (sl_31).1 rfl) rfl ?_
      refine .val (v_move (v := reg ((0 : Int) : Int)) rfl) rfl ?_
      refine .nil ?_
      refine QN.then_ ?_
      refine CW.block ?_
      unfold ref03_Same.l1 at hh
      refine CW.loop (fun (σ0 : Int) ρ => match σ0 with | t13 => ∃ ρ' : Env, ρ = setl ρ' [(0, reg (a : Sl)), (1, reg (b : Sl)), (12, reg ((a.len : Int) : Int)), (13, reg (t13 : Int))]) hh ⟨_, setl_eq ⟨rfl, ⟨rfl, ⟨rfl, ⟨rfl, trivial⟩⟩⟩⟩⟩ ?_
      clear hh
      rintro s1 t13 ρ h ⟨ρ', rfl⟩ hh
      refine CW.seq ?_
      refine CW.region ?_
      refine .val (v_ilss rfl rfl) rfl ?_
      refine .nil ?_
      refine QN.then_ ?_
      refine CW.seq ?_
      refine CW.cond (decide (t13 < (a.len : Int))) rfl (fun hb_1 => ?_) (fun hb_1 => ?_)
      · have hh := hh.1 hb_1
        refine CW.skip ?_
        refine QN.then_ ?_
        refine CW.seq ?_
        refine CW.block ?_
        refine CW.seq ?_
        refine CW.region ?_
        refine .val (v_move (v := reg (t13 : Int)) rfl) rfl ?_
        refine .val (v_assign (v := reg (t13 : Int)) rfl) rfl ?_
        refine .nil ?_
        refine QN.then_ ?_
        refine CW.seq ?_
        refine CW.drawN 9 rfl follows_mixed [0, 1, 2, 3, 4, 5, 6, 7, 8] ?_
        refine .p 0 rfl (by kernel_rfl) (NoPanic.then_ (NoPanic.block (NoPanic.then_ (NoPanic.then_ (NoPanic.block (NoPanic.then_ (NoPanic.body))))))) (fun _ => v_move (v := reg (a : Sl)) rfl) ?_
        refine .p 1 rfl (by kernel_rfl) (NoPanic.then_ (NoPanic.block (NoPanic.then_ (NoPanic.then_ (NoPanic.block (NoPanic.then_ (NoPanic.body))))))) (fun _ => v_move (v := reg (t13 : Int)) rfl) ?_
        obtain ⟨t18, ht18, hh⟩ := hh
        refine .p 2 rfl (by kernel_rfl) (NoPanic.then_ (NoPanic.block (NoPanic.then_ (NoPanic.then_ (NoPanic.block (NoPanic.then_ (NoPanic.body))))))) (fun _ => v_idx_slP sl_31 rfl rfl ht18.1 ht18.2.1 ht18.2.2) ?_
        obtain ⟨t19, ⟨xt19, hxt19, hgt19⟩, hh⟩ := hh
        refine .r 3 (fun h' => ∃ x : Arr 32 UInt8, AtH h' t18 (enc x) ∧ ((fun (x : Arr 32 UInt8) => x) : Arr 32 UInt8 → Arr 32 UInt8) x = t19) rfl (by kernel_rfl) (NoPanic.then_ (NoPanic.block (NoPanic.then_ (NoPanic.then_ (NoPanic.block (NoPanic.then_ (NoPanic.body))))))) ⟨xt19, hxt19, hgt19⟩ (fun h' hS => hS.elim fun _ hS => v_ldA (p := t18) 0 ag_24 rfl hS.1 hS.2 get_24_all (fun _ => (arr_len (n := 32) _)) (fun _ => rfl)) ?_
        refine .p 4 rfl (by kernel_rfl) (NoPanic.then_ (NoPanic.block (NoPanic.then_ (NoPanic.then_ (NoPanic.block (NoPanic.then_ (NoPanic.body))))))) (fun _ => v_move (v := reg (b : Sl)) rfl) ?_
        refine .p 5 rfl (by kernel_rfl) (NoPanic.then_ (NoPanic.block (NoPanic.then_ (NoPanic.then_ (NoPanic.block (NoPanic.then_ (NoPanic.body))))))) (fun _ => v_move (v := reg (t13 : Int)) rfl) ?_
        obtain ⟨t22, ht22, hh⟩ := hh
        refine .p 6 rfl (by kernel_rfl) (NoPanic.then_ (NoPanic.block (NoPanic.then_ (NoPanic.then_ (NoPanic.block (NoPanic.then_ (NoPanic.body))))))) (fun _ => v_idx_slP sl_31 rfl rfl ht22.1 ht22.2.1 ht22.2.2) ?_
        obtain ⟨t23, ⟨xt23, hxt23, hgt23⟩, hh⟩ := hh
        refine .r 7 (fun h' => ∃ x : Arr 32 UInt8, AtH h' t22 (enc x) ∧ ((fun (x : Arr 32 UInt8) => x) : Arr 32 UInt8 → Arr 32 UInt8) x = t23) rfl (by kernel_rfl) (NoPanic.then_ (NoPanic.block (NoPanic.then_ (NoPanic.then_ (NoPanic.block (NoPanic.then_ (NoPanic.body))))))) ⟨xt23, hxt23, hgt23⟩ (fun h' hS => hS.elim fun _ hS => v_ldA (p := t22) 0 ag_24 rfl hS.1 hS.2 get_24_all (fun _ => (arr_len (n := 32) _)) (fun _ => rfl)) ?_
        refine .p 8 rfl (by kernel_rfl) (NoPanic.then_ (NoPanic.block (NoPanic.then_ (NoPanic.then_ (NoPanic.block (NoPanic.then_ (NoPanic.body))))))) (fun _ => v_ne_arr8 bt_24 rfl rfl) ?_
        refine .done (by kernel_rfl) ?_
        refine QN.then_ ?_
        refine CW.cond (!decide (t19 = t23)) rfl (fun hb_2 => ?_) (fun hb_2 => ?_)
        · have hh := hh.1 hb_2
          refine CW.seq ?_
          refine CW.region ?_
          refine .val (v_assign (v := reg (false : Bool)) rfl) rfl ?_
          refine .nil ?_
          refine QN.then_ ?_
          refine CW.ret ?_
          refine QN.blockRet ?_
          refine QN.thenRet ?_
          refine QN.thenRet ?_
          refine QN.blockRet ?_
          refine QN.thenRet ?_
          exact ret1 rfl rfl ⟨(false : Bool), rfl, hh⟩
        · have hh := hh.2 hb_2
          refine CW.skip ?_
          refine QN.blockN ?_
          refine QN.then_ ?_
          refine CW.region ?_
          refine .val (v_iadd rfl rfl) rfl ?_
          refine .val (v_move (v := reg ((iadd t13 (1 : Int)) : Int)) rfl) rfl ?_
          refine .nil ?_
          exact QN.thenJ ⟨(iadd t13 (1 : Int)), ⟨_, setl_eq ⟨rfl, ⟨rfl, ⟨rfl, ⟨rfl, trivial⟩⟩⟩⟩⟩, hh⟩
      · have hh := hh.2 hb_1
        refine CW.exit ?_
        refine QN.thenExit ?_
        refine QN.thenExit ?_
        refine QN.blockExit ?_
        exact QN.thenJ ⟨_, setl_eq trivial, hh⟩
    · rintro ρ h ⟨ρ', rfl, hh⟩
      unfold ref03_Same.j1 at hh
      refine CW.seq ?_
      refine CW.region ?_
      refine .val (v_assign (v := reg (true : Bool)) rfl) rfl ?_
      refine .nil ?_
      refine QN.then_ ?_
      refine CW.ret ?_
      exact ret1 rfl rfl ⟨(true : Bool), rfl, hh⟩
end Go.Proofs.YtimmoekliphobaaDoor
namespace Go.Proofs.YtimmoekliphobaaDoor
open Go Go.Sh
open Go.Sh.Ty (reg)
set_option linter.unusedVariables false
set_option maxRecDepth 100000

def goodR (v : api_Vote) : Bool := if ((((((v.Kind != (1 : Int)) && (v.Kind != (2 : Int))) || (decide (v.Epoch < (0 : Int)))) || (decide ((1073741824 : Int) < v.Epoch))) || (decide (v.Height < (1 : Int)))) || (decide ((1024 : Int) < v.Height))) = true then false
  else ((((decide ((0 : Int) ≤ v.Round)) && (decide (v.Round ≤ (1024 : Int)))) && (decide ((1 : Int) ≤ v.From))) && (decide (v.From ≤ (63 : Int))))
theorem RGood_spec (v : api_Vote) {k : Bool → H → Prop} {h : H} (hk : ∀ h', Ext h h' → k (goodR v) h') : ref13_Good.b v k h := by
  unfold ref13_Good.b
  refine (Sat.init h).box_ (fun a h1 hs1 _ _ => ?_)
  refine hs1.ld_ 0 rfl ?_
  refine hs1.ld_ 0 rfl ?_
  refine hs1.ld_ 0 rfl ?_
  refine hs1.ld_ 0 rfl ?_
  refine hs1.ld_ 0 rfl ?_
  refine hs1.ld_ 0 rfl ?_
  have := hk _ hs1.fr
  unfold goodR at this
  refine ifb_i (fun hc => ?_) (fun hc => ?_)
  · rw [if_pos hc] at this; exact this
  · rw [if_neg (by rw [hc]; decide)] at this
    refine hs1.ld_ 0 rfl ?_
    refine hs1.ld_ 0 rfl ?_
    refine hs1.ld_ 0 rfl ?_
    refine hs1.ld_ 0 rfl ?_
    exact this
def greatF (s : api_Sig) : Bool := ((((decide ((200 : Int) < (s.Once.Open.len : Int))) || (decide ((200 : Int) < (s.Once.Shut.len : Int)))) || (decide ((200 : Int) < (s.Path.len : Int)))))
theorem Great_spec (s : api_Sig) {k : Bool → H → Prop} {h : H} (hk : ∀ h', Ext h h' → k (greatF s) h') : law13_great.b s k h := by
  unfold law13_great.b
  refine (Sat.init h).box_ (fun a h1 hs1 _ _ => ?_)
  refine hs1.ld_ 0 rfl ?_
  refine hs1.ld_ 0 rfl ?_
  refine hs1.ld_ 0 rfl ?_
  exact hk _ hs1.fr
theorem ofFn_getN {n : Nat} (x : Arr n UInt8) (i : Nat) (h : i < n) : (List.ofFn x)[i]'(by simpa using h) = getN x i := by simp [getN, h]
theorem Before_spec (a b : Dig) {k : Bool → H → Prop} {h : H} (hk : ∀ h', Ext h h' → k (decide (cmpL (digL a) (digL b) < 0)) h') : ref06_Before.b a b k h := by
  unfold ref06_Before.b
  refine (Sat.init h).box_ (fun p h1 hs1 _ _ => ?_)
  refine hs1.box_ (fun q h2 hs2 _ _ => ?_)
  unfold ref06_Before.l1
  refine ⟨fun (j : Int) h' => h' = h2 ∧ ∃ i : Nat, j = i ∧ i ≤ 32 ∧ cmpL (digL a) (digL b) = cmpL ((digL a).drop i) ((digL b).drop i), fun j _ => (32 - j).toNat, ⟨rfl, 0, rfl, Nat.zero_le _, by simp⟩, ?_⟩
  rintro j h' ⟨rfl, i, rfl, hi, hc⟩
  have la : (digL a).length = 32 := by simp [digL]
  have lb : (digL b).length = 32 := by simp [digL]
  refine ifb_i (fun hc1 => ?_) (fun hc1 => ?_)
  · have hi' : i < 32 := by have : (i : Int) < 32 := by simpa using hc1
                            omega
    have ga : (digL a)[i]'(by omega) = getN a i := ofFn_getN a i hi'
    have gb : (digL b)[i]'(by omega) = getN b i := ofFn_getN b i hi'
    have e1 : (digL a).drop i = getN a i :: (digL a).drop (i + 1) := by rw [← ga]; exact List.drop_eq_getElem_cons (by omega)
    have e2 : (digL b).drop i = getN b i :: (digL b).drop (i + 1) := by rw [← gb]; exact List.drop_eq_getElem_cons (by omega)
    rw [e1, e2] at hc
    simp only [cmpL] at hc
    refine hs2.bld 1 rfl (by omega) (by omega) ?_
    refine hs2.bld 0 rfl (by omega) (by omega) ?_
    rw [show ((i : Int)).toNat = i by simp]
    have e3 : iadd (i : Int) 1 = ((i + 1 : Nat) : Int) := by rw [iadd_eq (by omega) (by omega)]; omega
    have hkk := hk _ hs2.fr
    refine ifb_i (fun hc2 => ?_) (fun hc2 => ?_)
    · have hne : getN a i ≠ getN b i := by simpa using hc2
      refine hs2.bld 1 rfl (by omega) (by omega) ?_
      refine hs2.bld 0 rfl (by omega) (by omega) ?_
      rw [show ((i : Int)).toNat = i by simp]
      by_cases h1 : getN a i < getN b i
      · rw [if_pos h1] at hc
        rw [hc] at hkk
        simpa [h1] using hkk
      · rw [if_neg h1] at hc
        by_cases h2 : getN b i < getN a i
        · rw [if_pos h2] at hc
          rw [hc] at hkk
          simpa [h1] using hkk
        · exfalso; apply hne; apply UInt8.toNat_inj.1
          simp only [UInt8.lt_iff_toNat_lt] at h1 h2; omega
    · have he : getN a i = getN b i := by simpa using hc2
      rw [he, if_neg (UInt8.lt_irrefl _), if_neg (UInt8.lt_irrefl _)] at hc
      rw [e3]
      exact ⟨⟨rfl, i + 1, rfl, hi', hc⟩, by dsimp only; omega⟩
  · have hi' : i = 32 := by
      have : ¬ (i : Int) < 32 := by simpa using hc1
      omega
    subst hi'
    have e : cmpL (digL a) (digL b) = 0 := by
      rw [hc, List.drop_of_length_le (by omega)]; rfl
    have := hk _ hs2.fr
    rw [e] at this; exact this
/-- a slice whose elements can be read: one of no length may lead anywhere -/
def SVz {α : Type} [Ty α] (n : Nat) (h : H) (s : Sl) (l : List α) : Prop := s.len = l.length ∧ (l ≠ [] → SV n h s l)
theorem SVz.ext {α : Type} [Ty α] {n : Nat} {h h' : H} {s : Sl} {l : List α} (H : SVz n h s l) (f : Ext h h') : SVz n h' s l := ⟨H.1, fun hn => (H.2 hn).ext f⟩
theorem SV.z {α : Type} [Ty α] {n : Nat} {h : H} {s : Sl} {l : List α} (H : SV n h s l) : SVz n h s l := ⟨H.2.1, fun _ => H⟩
theorem sidx_ldz {α β : Type} [Ty α] {n : Nat} {h : H} {s : Sl} {l : List α} (hn : ∀ y : α, (enc y).length = n) (hv : SVz n h s l) {j : Int} {x : α} (h0 : 0 ≤ j) (hx : l[j.toNat]? = some x) {g : α → β} {K : β → H → Prop} (hk : K (g x) h) : sidx s j n (fun t => ld t g K) h :=
  sidx_ld hn (hv.2 (by rintro rfl; simp at hx)) h0 hx hk
/-- a signature whose lists can be read -/
def SigR (h : H) (s : api_Sig) : Prop := (∃ l : List Dig, SVz 32 h s.Once.Open l) ∧ (∃ l : List Dig, SVz 32 h s.Once.Shut l) ∧ (∃ l : List Dig, SVz 32 h s.Path l)
theorem SigR.ext {h h' : H} (f : Ext h h') {s : api_Sig} (H : SigR h s) : SigR h' s := by
  obtain ⟨⟨a, ha⟩, ⟨b, hb⟩, ⟨c, hc⟩⟩ := H
  exact ⟨⟨a, ha.ext f⟩, ⟨b, hb.ext f⟩, ⟨c, hc.ext f⟩⟩
theorem Same03_spec (s : Sl) (l : List Dig) {k : Bool → H → Prop} {h : H} (hv : SVz 32 h s l) (hl : l.length < 2 ^ 40) (hk : k true h) : ref03_Same.b s s k h := by
  unfold ref03_Same.b
  refine ifb_i (fun hc => by simp at hc) (fun _ => ?_)
  unfold ref03_Same.l1
  have hsl : s.len = l.length := hv.1
  refine ⟨fun (j : Int) h' => h' = h ∧ ∃ i : Nat, j = i ∧ i ≤ l.length, fun j _ => (l.length - j).toNat, ⟨rfl, 0, rfl, Nat.zero_le _⟩, ?_⟩
  rintro j h' ⟨rfl, i, rfl, hi⟩
  refine ifb_i (fun hc1 => ?_) (fun hc1 => hk)
  have hi' : i < l.length := by have : (i : Int) < s.len := by simpa using hc1
                                omega
  refine sidx_ldz arr_len hv (Int.natCast_nonneg _) (by rw [Int.toNat_natCast]; exact List.getElem?_eq_getElem hi') ?_
  refine sidx_ldz arr_len hv (Int.natCast_nonneg _) (by rw [Int.toNat_natCast]; exact List.getElem?_eq_getElem hi') ?_
  refine ifb_i (fun hc => by simp at hc) (fun _ => ?_)
  have e3 : iadd (i : Int) 1 = ((i + 1 : Nat) : Int) := by rw [iadd_eq (by omega) (by omega)]; omega
  rw [e3]
  exact ⟨⟨rfl, i + 1, rfl, hi'⟩, by dsimp only; omega⟩
theorem Same_spec (v : api_Vote) {k : Bool → H → Prop} {h : H} (hr : SigR h v.Sig) (hg : greatF v.Sig = false) (hk : ∀ h', Ext h h' → k true h') : ref13_Same.b v v k h := by
  unfold ref13_Same.b
  obtain ⟨⟨l1, h1⟩, ⟨l2, h2⟩, ⟨l3, h3⟩⟩ := hr
  have hlen : l1.length ≤ 200 ∧ l2.length ≤ 200 ∧ l3.length ≤ 200 := by
    simp only [greatF, Bool.or_eq_false_iff, decide_eq_false_iff_not] at hg
    have e1 := h1.1; have e2 := h2.1; have e3 := h3.1
    omega
  refine (Sat.init h).box_ (fun a h4 hs4 _ _ => ?_)
  refine hs4.box_ (fun b h5 hs5 _ _ => ?_)
  refine hs5.ld_ 1 rfl (hs5.ld_ 0 rfl (hs5.ld_ 1 rfl (hs5.ld_ 0 rfl (hs5.ld_ 1 rfl (hs5.ld_ 0 rfl (hs5.ld_ 1 rfl (hs5.ld_ 0 rfl (hs5.ld_ 1 rfl (hs5.ld_ 0 rfl (hs5.ld_ 1 rfl (hs5.ld_ 0 rfl ?_)))))))))))
  refine ifb_i (fun _ => ?_) (fun hc => by simp at hc)
  refine hs5.ld_ 1 rfl (hs5.ld_ 0 rfl ?_)
  refine ref05_Same.ok _ _ _ _ ?_
  unfold ref05_Same.b
  refine hs5.box_ (fun a2 h6 hs6 _ _ => ?_)
  refine hs6.box_ (fun b2 h7 hs7 _ _ => ?_)
  refine hs7.ld_ 1 rfl (hs7.ld_ 0 rfl ?_)
  refine ifb_i (fun _ => ?_) (fun hc => by simp at hc)
  refine hs7.ld_ 1 rfl (hs7.ld_ 0 rfl ?_)
  refine ref04_Same.ok _ _ _ _ ?_
  unfold ref04_Same.b
  refine hs7.box_ (fun a3 h8 hs8 _ _ => ?_)
  refine hs8.box_ (fun b3 h9 hs9 _ _ => ?_)
  refine hs9.ld_ 1 rfl (hs9.ld_ 0 rfl ?_)
  refine ref03_Same.ok _ _ _ _ (Same03_spec _ l1 (h1.ext hs9.fr) (by omega) ?_)
  refine ifb_i (fun _ => ?_) (fun hc => by cases hc)
  refine hs9.ld_ 1 rfl (hs9.ld_ 0 rfl ?_)
  refine ref03_Same.ok _ _ _ _ (Same03_spec _ l2 (h2.ext hs9.fr) (by omega) ?_)
  refine ifb_i (fun _ => ?_) (fun hc => by cases hc)
  refine hs9.ld_ 3 rfl (hs9.ld_ 2 rfl ?_)
  refine ref03_Same.ok _ _ _ _ (Same03_spec _ l3 (h3.ext hs9.fr) (by omega) ?_)
  exact hk _ hs9.fr
end Go.Proofs.YtimmoekliphobaaDoor
namespace Go.Proofs.YtimmoekliphobaaDoor
open Go Go.Sh
open Go.Sh.Ty (reg)
set_option linter.unusedVariables false
set_option maxRecDepth 100000

/-! what the cells of a type read as -/
def Dec (t : TypeId) {α : Type} [Ty α] (S : H → α → Prop) : Prop :=
  ∀ {HT : Type} (en : TypeId × Value → HT) (W : World) (fuel : Nat) (cs : List Value) (x : DataW HT × List MemPlace), DataW.trod en Prog W 0 (fun _ => true) true fuel t cs = some x → ∃ a : α, cs = enc a ∧ S W.heap a
def IntOk (_ : H) (n : Int) : Prop := -9223372036854775808 ≤ n ∧ n ≤ 9223372036854775807
theorem dec_int {t : TypeId} (ht : Tryd.prog.underlying t = some (.int .i64)) : Dec t IntOk := by
  intro HT en W fuel cs x h
  obtain ⟨n, rfl, _, hw⟩ := DataW.trod_int ht h
  refine ⟨n, rfl, ?_⟩
  simp [Lit.wf, IntKind.min, IntKind.max, IntKind.signed, IntKind.bits] at hw
  exact hw
theorem dec_bool {t : TypeId} (ht : Tryd.prog.underlying t = some .bool) : Dec t (fun _ (_ : Bool) => True) := by
  intro HT en W fuel cs x h
  obtain ⟨n, rfl, _⟩ := DataW.trod_bool ht h
  exact ⟨n, rfl, trivial⟩
theorem dec_u8 {t : TypeId} (ht : Tryd.prog.underlying t = some (.int .u8)) : Dec t (fun _ (_ : UInt8) => True) := by
  intro HT en W fuel cs x h
  obtain ⟨n, rfl, _, hw⟩ := DataW.trod_int ht h
  simp [Lit.wf, IntKind.min, IntKind.max, IntKind.signed, IntKind.bits] at hw
  refine ⟨UInt8.ofNat n.toNat, ?_, trivial⟩
  show [Value.int .u8 n] = [Value.int .u8 ((UInt8.ofNat n.toNat).toNat : Int)]
  have : ((UInt8.ofNat n.toNat).toNat : Int) = n := by
    rw [UInt8.toNat_ofNat']; omega
  rw [this]
theorem dec_arr {t e : TypeId} {n : Nat} {α : Type} [Ty α] {S : H → α → Prop} (ht : Tryd.prog.underlying t = some (.array n e)) (hc : Tryd.prog.cellsOf e = 1) (hct : Tryd.prog.cellsOf t = n) (h1 : ∀ a : α, enc a = [reg a]) (D : Dec e S) : Dec t (fun h (x : Arr n α) => ∀ i, S h (x i)) := by
  intro HT en W fuel cs x h
  obtain ⟨xs, m, _, _, hl, hxl, hget⟩ := DataW.trod_array ht h
  have hl' : cs.length = n := hl.trans hct
  have key : ∀ i : Fin n, ∃ a : α, cs[i.1]? = some (reg a) ∧ S W.heap a := by
    intro i
    have h2 := hget i.1 i.2
    rw [hc, List.getElem?_eq_getElem (by omega), Nat.mul_one] at h2
    obtain ⟨a, ha, hs⟩ := D en W m _ _ h2
    refine ⟨a, ?_, hs⟩
    rw [h1] at ha
    have := congrArg (fun l => l[0]?) ha
    simpa [List.getElem?_take] using this
  refine ⟨fun i => (key i).choose, ?_, fun i => (key i).choose_spec.2⟩
  show cs = (List.ofFn fun i => reg ((key i).choose))
  apply List.ext_getElem?
  intro i
  by_cases hi : i < n
  · rw [(key ⟨i, hi⟩).choose_spec.1]; simp [List.getElem?_ofFn, hi]
  · rw [List.getElem?_eq_none (by omega), List.getElem?_eq_none (by simpa using hi)]
def AtA (arr : Array Value) (off : Nat) (cs : List Value) : Prop := ∀ i v, cs[i]? = some v → arr[off + i]? = some v
theorem AtA.app {arr : Array Value} {off : Nat} {a b : List Value} (ha : AtA arr off a) (hb : AtA arr (off + a.length) b) : AtA arr off (a ++ b) := by
  intro i v hv
  by_cases hi : i < a.length
  · rw [List.getElem?_append_left hi] at hv; exact ha i v hv
  · rw [List.getElem?_append_right (by omega)] at hv
    have := hb _ _ hv
    rwa [show off + a.length + (i - a.length) = off + i by omega] at this
theorem AtA.flat {arr : Array Value} {c : Nat} : ∀ (L : List (List Value)) (off : Nat), (∀ i x, L[i]? = some x → x.length = c ∧ AtA arr (off + i * c) x) → AtA arr off L.flatten
  | [], off, _ => by intro i v hv; simp at hv
  | x :: L, off, h => by
    have h0 := h 0 x rfl
    rw [List.flatten_cons]
    refine AtA.app (by simpa using h0.2) ?_
    rw [h0.1]
    refine AtA.flat (c := c) L (off + c) (fun i y hy => ?_)
    have := h (i + 1) y hy
    rwa [show off + (i + 1) * c = off + c + i * c by rw [Nat.add_mul]; omega] at this
theorem flat_len {α : Type} [Ty α] {c : Nat} (hn : ∀ y : α, (enc y).length = c) : ∀ l : List α, (l.map enc).flatten.length = l.length * c
  | [] => by simp
  | x :: l => by rw [List.map_cons, List.flatten_cons, List.length_append, hn, flat_len hn l, List.length_cons, Nat.add_mul]; omega
theorem add_add (a : Addr) (x y : Nat) : (a.add x).add y = a.add (x + y) := by
  unfold Addr.add
  by_cases hx : x = 0
  · subst hx; simp
  · by_cases hy : y = 0
    · subst hy; simp
    · simp [hx, hy, Nat.add_assoc]
theorem cell_add {W : World} {a : Addr} {arr : Array Value} {T : TypeId} {fr : Nat × Nat} (ho : W.heap[a.block]? = some (.cells arr T fr)) (hs : a.spot = none) (k : Nat) : W.cell? (a.add k) = arr[a.off + k]? := by
  unfold Addr.add
  by_cases hk : k = 0
  · subst hk; simp [World.cell?, ho, hs]
  · simp [World.cell?, ho, hk]
def SlOk {α : Type} [Ty α] (c : Nat) (S : H → α → Prop) (h : H) (s : Sl) : Prop := ∃ l : List α, SVz c h s l ∧ ∀ a ∈ l, S h a
theorem dec_slice {t e : TypeId} {c : Nat} {α : Type} [Ty α] {S : H → α → Prop} (ht : Tryd.prog.underlying t = some (.slice e)) (hc : Tryd.prog.cellsOf e = c) (h0 : 0 < c) (hn : ∀ y : α, (enc y).length = c) (D : Dec e S) : Dec t (SlOk c S) := by
  intro HT en W fuel cs x h
  rcases Go.Deep.open_slice ht h with ⟨rfl, _⟩ | ⟨a, len, cap, m, n, DD, Pl, rfl, _, hlc, _, hm, _, hx⟩
  · exact ⟨Sl.nil, rfl, [], ⟨rfl, fun hne => absurd rfl hne⟩, by simp⟩
  · simp only [if_true] at hm
    subst hm
    have key : ∀ i : Fin len, ∃ y : α, (∀ r v, (enc y)[r]? = some v → W.cell? (a.add (i.1 * c + r)) = some v) ∧ S W.heap y := by
      intro i
      obtain ⟨cs', h1, h2⟩ := hx i.1 (by omega)
      obtain ⟨y, rfl, hs⟩ := D en W n _ _ h2
      refine ⟨y, fun r v hv => ?_, hs⟩
      rw [hc] at h1
      obtain ⟨_, h4, h5⟩ := World.cells?_some h1
      have hr : r < c := by
        rw [List.getElem?_eq_some_iff] at hv; obtain ⟨h9, _⟩ := hv; rw [hn] at h9; exact h9
      have := h5 r hr
      rw [hv] at this
      rw [← this, add_add]
    refine ⟨⟨some a, len, _⟩, rfl, List.ofFn fun i => (key i).choose, ⟨by simp, fun hne => ?_⟩, ?_⟩
    · have hlen : 0 < len := by
        rcases Nat.eq_zero_or_pos len with h9 | h9
        · subst h9; simp at hne
        · exact h9
      have h00 := (key ⟨0, hlen⟩).choose_spec.1
      generalize hy : (key ⟨0, hlen⟩).choose = y at h00
      obtain ⟨v, hv⟩ : ∃ v, (enc y)[0]? = some v := ⟨_, List.getElem?_eq_getElem (by rw [hn]; exact h0)⟩
      have hc0 := h00 0 v hv
      rw [show a.add ((⟨0, hlen⟩ : Fin len).1 * c + 0) = a by simp [Addr.add]] at hc0
      unfold World.cell? at hc0
      cases ho : W.heap[a.block]? with
      | none => simp [ho] at hc0
      | some o =>
        cases o with
        | cells arr T fr =>
          have hsp : a.spot = none := by
            cases hs : a.spot with
            | none => rfl
            | some z => simp [ho, hs] at hc0
          refine ⟨.inr ⟨a, rfl, ⟨hsp, arr, T, fr, ho, ?_⟩, ?_⟩, by simp, hlc⟩
          · refine AtA.flat (c := c) _ _ (fun i z hz => ?_)
            rw [List.getElem?_map] at hz
            by_cases hi : i < len
            · rw [List.getElem?_ofFn] at hz
              simp only [hi, dite_true, Option.map_some, Option.some.injEq] at hz
              subst hz
              refine ⟨hn _, fun r v hv => ?_⟩
              have h8 := (key ⟨i, hi⟩).choose_spec.1 r v hv
              rw [cell_add ho hsp] at h8
              rw [← h8, Nat.add_assoc]
            · rw [List.getElem?_eq_none (by simpa using hi)] at hz; simp at hz
          · rw [flat_len hn]; simp
        | _ => simp [ho] at hc0
    · intro y hy
      rw [List.mem_ofFn] at hy
      obtain ⟨i, rfl⟩ := hy
      exact (key i).choose_spec.2

theorem cut_at (cs : List Value) (o s : Nat) : cs.drop o = (cs.drop o).take s ++ cs.drop (o + s) := by
  rw [← List.drop_drop, List.take_append_drop]
theorem cut_end {cs : List Value} {o s : Nat} (h : cs.length = o + s) : cs.drop o = (cs.drop o).take s := by
  rw [List.take_of_length_le]; simp; omega
theorem fld {α : Type} {xs : List α} {m : Nat} (h : xs.length = m) (i : Nat) (hi : i < m) : ∃ y, xs[i]? = some y := ⟨_, List.getElem?_eq_getElem (by omega)⟩

theorem fdec {t : TypeId} {α : Type} [Ty α] {S : H → α → Prop} (D : Dec t S) {c : Nat} (hc : Tryd.prog.cellsOf t = c) (o : Nat) {HT : Type} {en : TypeId × Value → HT} {W : World} {n : Nat} {cs : List Value} {r : Option (DataW HT × List MemPlace)} {y : DataW HT × List MemPlace}
    (h : DataW.trod en Prog W 0 (fun _ => true) true n t ((cs.drop o).take (Tryd.prog.cellsOf t)) = r) (e : r = some y) : ∃ a : α, (cs.drop o).take c = enc a ∧ S W.heap a := by
  rw [hc] at h
  exact D en W n _ _ (h.trans e)
theorem cof3 : Tryd.prog.cellsOf 3 = 1 := by kernel_rfl
theorem cof4 : Tryd.prog.cellsOf 4 = 1 := by kernel_rfl
theorem cof24 : Tryd.prog.cellsOf 24 = 32 := by kernel_rfl
theorem cof31 : Tryd.prog.cellsOf 31 = 1 := by kernel_rfl
theorem cof33 : Tryd.prog.cellsOf 33 = 2 := by kernel_rfl
theorem cof35 : Tryd.prog.cellsOf 35 = 4 := by kernel_rfl
theorem dec_i : Dec 3 IntOk := dec_int Tryd.underlying3
theorem dec_dig : Dec 24 (fun _ (_ : Dig) => True) := by
  intro HT en W fuel cs x h
  obtain ⟨a, h1, _⟩ := dec_arr (α := UInt8) (S := fun _ _ => True) Tryd.underlying24 (by kernel_rfl) (by kernel_rfl) (fun _ => rfl) (dec_u8 Tryd.underlying5) en W fuel cs x h
  exact ⟨a, h1, trivial⟩
theorem dec_digs : Dec 31 (SlOk (α := Dig) 32 fun _ _ => True) := dec_slice Tryd.underlying31 (by kernel_rfl) (by decide) arr_len dec_dig
def OnceOk (h : H) (x : api_Once) : Prop := SlOk (α := Dig) 32 (fun _ _ => True) h x.Open ∧ SlOk (α := Dig) 32 (fun _ _ => True) h x.Shut
theorem dec_once {t : TypeId} (ht : Tryd.prog.underlying t = Tryd.prog.underlying 33) (hct : Tryd.prog.cellsOf t = 2) : Dec t OnceOk := by
  intro HT en W fuel cs x h
  obtain ⟨xs, n, _, _, hl, hxl, hf⟩ := DataW.trod_struct (ht.trans Tryd.underlying33) h
  rw [hct] at hl
  obtain ⟨y0, e0⟩ := fld hxl 0 (by decide); obtain ⟨y1, e1⟩ := fld hxl 1 (by decide)
  obtain ⟨a0, c0, s0⟩ := fdec dec_digs cof31 0 (hf 0 _ rfl) e0
  obtain ⟨a1, c1, s1⟩ := fdec dec_digs cof31 1 (hf 1 _ rfl) e1
  refine ⟨⟨a0, a1⟩, ?_, s0, s1⟩
  rw [enc_api_Once]
  rw [← c0, ← c1, ← cut_end (show cs.length = 1 + 1 by omega)]
  exact cut_at cs 0 1
def SigOk (h : H) (x : api_Sig) : Prop := IntOk h x.Leaf ∧ OnceOk h x.Once ∧ SlOk (α := Dig) 32 (fun _ _ => True) h x.Path
theorem dec_sig {t : TypeId} (ht : Tryd.prog.underlying t = Tryd.prog.underlying 35) (hct : Tryd.prog.cellsOf t = 4) : Dec t SigOk := by
  intro HT en W fuel cs x h
  obtain ⟨xs, n, _, _, hl, hxl, hf⟩ := DataW.trod_struct (ht.trans Tryd.underlying35) h
  rw [hct] at hl
  obtain ⟨y0, e0⟩ := fld hxl 0 (by decide); obtain ⟨y1, e1⟩ := fld hxl 1 (by decide); obtain ⟨y2, e2⟩ := fld hxl 2 (by decide)
  obtain ⟨a0, c0, s0⟩ := fdec dec_i cof3 0 (hf 0 _ rfl) e0
  obtain ⟨a1, c1, s1⟩ := fdec (dec_once (t := 33) rfl cof33) cof33 1 (hf 1 _ rfl) e1
  obtain ⟨a2, c2, s2⟩ := fdec dec_digs cof31 3 (hf 2 _ rfl) e2
  refine ⟨⟨a0, a1, a2⟩, ?_, s0, s1, s2⟩
  rw [enc_api_Sig]
  dsimp only
  rw [← c0, ← c1, ← c2, ← cut_end (show cs.length = 3 + 1 by omega), ← cut_at cs 1 2]
  exact cut_at cs 0 1
def VoteOk (h : H) (x : api_Vote) : Prop := SigOk h x.Sig
theorem dec_vote {t : TypeId} (ht : Tryd.prog.underlying t = Tryd.prog.underlying 37) (hct : Tryd.prog.cellsOf t = 41) : Dec t VoteOk := by
  intro HT en W fuel cs x h
  obtain ⟨xs, n, _, _, hl, hxl, hf⟩ := DataW.trod_struct (ht.trans Tryd.underlying37) h
  rw [hct] at hl
  obtain ⟨y0, e0⟩ := fld hxl 0 (by decide); obtain ⟨y1, e1⟩ := fld hxl 1 (by decide); obtain ⟨y2, e2⟩ := fld hxl 2 (by decide); obtain ⟨y3, e3⟩ := fld hxl 3 (by decide)
  obtain ⟨y4, e4⟩ := fld hxl 4 (by decide); obtain ⟨y5, e5⟩ := fld hxl 5 (by decide); obtain ⟨y6, e6⟩ := fld hxl 6 (by decide)
  obtain ⟨a0, c0, s0⟩ := fdec dec_i cof3 0 (hf 0 _ rfl) e0
  obtain ⟨a1, c1, s1⟩ := fdec dec_i cof3 1 (hf 1 _ rfl) e1
  obtain ⟨a2, c2, s2⟩ := fdec dec_i cof3 2 (hf 2 _ rfl) e2
  obtain ⟨a3, c3, s3⟩ := fdec dec_i cof3 3 (hf 3 _ rfl) e3
  obtain ⟨a4, c4, s4⟩ := fdec (S := fun _ _ => True) dec_dig cof24 4 (hf 4 _ rfl) e4
  obtain ⟨a5, c5, s5⟩ := fdec dec_i cof3 36 (hf 5 _ rfl) e5
  obtain ⟨a6, c6, s6⟩ := fdec (dec_sig (t := 35) rfl cof35) cof35 37 (hf 6 _ rfl) e6
  refine ⟨⟨a0, a1, a2, a3, a4, a5, a6⟩, ?_, s6⟩
  rw [enc_api_Vote]
  dsimp only
  rw [← c0, ← c1, ← c2, ← c3, ← c4, ← c5, ← c6, ← cut_end (show cs.length = 37 + 4 by omega), ← cut_at cs 36 1, ← cut_at cs 4 32, ← cut_at cs 3 1, ← cut_at cs 2 1, ← cut_at cs 1 1]
  exact cut_at cs 0 1
theorem dec_votes {t e : TypeId} (ht : Tryd.prog.underlying t = some (.slice e)) (he : Tryd.prog.underlying e = Tryd.prog.underlying 37) (hc : Tryd.prog.cellsOf e = 41) : Dec t (SlOk 41 VoteOk) := dec_slice ht hc (by decide) len_api_Vote (dec_vote he hc)
theorem SigOk.sigR {h : H} {x : api_Sig} (H : SigOk h x) : SigR h x := by
  obtain ⟨_, ⟨⟨l1, h1, _⟩, ⟨l2, h2, _⟩⟩, ⟨l3, h3, _⟩⟩ := H
  exact ⟨⟨l1, h1⟩, ⟨l2, h2⟩, ⟨l3, h3⟩⟩
end Go.Proofs.YtimmoekliphobaaDoor
namespace Go.Proofs.YtimmoekliphobaaDoor
open Go Go.Sh Go.ChangeShapes Go.WideShapes Go.ChangeAt Go.RowKit
open Go.Sh.Ty (reg)
set_option linter.unusedVariables false
set_option maxRecDepth 100000

theorem ownKnob0 : ownKnob Tryd.prog.godebug = none := by kernel_rfl
theorem gTab : Tryd.prog.globalNamed "wapentake/sha.table" = some 0 := by kernel_rfl
theorem gTabType : (Tryd.prog.globals[0]?).map (·.type) = some 215 := by kernel_rfl
theorem cof215 : Tryd.prog.cellsOf 215 = 64 := by kernel_rfl
theorem cof185 : Tryd.prog.cellsOf 185 = 1 := by kernel_rfl
def tabZ : List Int := [1116352408, 1899447441, 3049323471, 3921009573, 961987163, 1508970993, 2453635748, 2870763221, 3624381080, 310598401, 607225278, 1426881987, 1925078388, 2162078206, 2614888103, 3248222580, 3835390401, 4022224774, 264347078, 604807628, 770255983, 1249150122, 1555081692, 1996064986, 2554220882, 2821834349, 2952996808, 3210313671, 3336571891, 3584528711, 113926993, 338241895, 666307205, 773529912, 1294757372, 1396182291, 1695183700, 1986661051, 2177026350, 2456956037, 2730485921, 2820302411, 3259730800, 3345764771, 3516065817, 3600352804, 4094571909, 275423344, 430227734, 506948616, 659060556, 883997877, 958139571, 1322822218, 1537002063, 1747873779, 1955562222, 2024104815, 2227730452, 2361852424, 2428436474, 2756734187, 3204031479, 3329325298]
theorem tabData_eq : (Rows.laid_wapentake_sha_table : DataW Unit) = Lib.tabData .u32 tabZ := by kernel_rfl
theorem table {W : World} (h : laidMetH Tryd.prog [("wapentake/sha.table", Rows.laid_wapentake_sha_table)] W) : Lib.TabIs Tryd.prog W "wapentake/sha.table" .u32 tabZ :=
  Lib.tabIs_of_head (rest := []) gTab gTabType Tryd.underlying215 Tryd.underlying185 cof185 cof215 (by rw [← tabData_eq]; exact h)
theorem encTab : enc tableA = tabZ.map (Value.int .u32) := by kernel_rfl
theorem tb_of_laid {W : World} (h : laidMetH Tryd.prog [("wapentake/sha.table", Rows.laid_wapentake_sha_table)] W) : Tb W.heap := by
  have hc : ∀ i, i < 64 → W.cell? ⟨0, i, none⟩ = some (.int .u32 (tabZ.getD i 0)) := fun i hi => (table h).cell gTab i hi
  have h0 := hc 0 (by decide)
  unfold World.cell? at h0
  cases ho : W.heap[0]? with
  | none => simp [ho] at h0
  | some o =>
    cases o with
    | cells arr T fr =>
      refine ⟨rfl, arr, T, fr, ho, fun i v hv => ?_⟩
      have hi : i < 64 := by
        rw [List.getElem?_eq_some_iff] at hv; obtain ⟨h9, _⟩ := hv; rw [encTab] at h9; simpa [tabZ] using h9
      have h1 := hc i hi
      simp only [World.cell?, ho, Option.isSome_none, Bool.false_eq_true, if_false] at h1
      rw [show (⟨0, 0, none⟩ : Addr).off + i = i by simp, h1]
      rw [encTab, List.getElem?_map] at hv
      have hlt : i < tabZ.length := hi
      rw [List.getElem?_eq_getElem hlt, Option.map_some] at hv
      rw [List.getD_eq_getElem?_getD, List.getElem?_eq_getElem hlt]
      exact hv
    | _ => simp [ho] at h0
theorem kids : Kids Tryd.prog (· < Tryd.prog.types.size) := kids_rows (by kernel_rfl) (by kernel_rfl)
theorem full : ∀ t e, t < Tryd.prog.types.size → Tryd.prog.underlying t = some (.slice e) → 0 < Tryd.prog.cellsOf e := slices_full_of Tryd.prog (by kernel_rfl)
theorem kept_ext {W W' : World} {may : MemPlace → Prop} (hx : Ext W.heap W'.heap) (ho : W'.os = W.os) (hu : W'.output = W.output) : W.keptBut W' may := by
  refine ⟨ho, hu, fun i hi => ?_⟩
  have h1 : W'.heap[i]? = W.heap[i]? := hx.same i hi (by simp)
  rw [h1]
  cases W.heap[i]? with
  | none => rfl
  | some o => cases o <;> simp
theorem sameAt_ext {W W' : World} (hx : Ext W.heap W'.heap) {p : MemPlace} (hp : p.block < W.heap.size) : W.sameAt W' p := by
  have h1 : W'.heap[p.block]? = W.heap[p.block]? := hx.same _ hp (by simp)
  cases p with
  | cell b o => simp only [World.sameAt, World.cell?]; simp only [MemPlace.block] at h1; rw [h1]
  | map b => exact h1
section
variable {HT : Type} {en : TypeId × Value → HT}
theorem arg_int {W : World} {t : TypeId} {b0 : Nat} {v : Value} {d : DataW HT} {p : List MemPlace} (ht : Tryd.prog.underlying t = some (.int .i64)) (hv : Value.okWide Tryd.prog W .any b0 t v) (h : DataW.Trod en Tryd.prog W 0 (fun _ => true) true t v d p) : ∃ n : Int, v = reg n ∧ IntOk W.heap n := by
  obtain ⟨n, rfl, _, _, hw⟩ := open_int ht hv h
  simp [Lit.wf, IntKind.min, IntKind.max, IntKind.signed, IntKind.bits] at hw
  exact ⟨n, rfl, hw⟩
theorem arg_slice {W : World} {t e : TypeId} {S : H → Sl → Prop} {b0 : Nat} {v : Value} {d : DataW HT} {p : List MemPlace} (ht : Tryd.prog.underlying t = some (.slice e)) (D : Dec t S) (hv : Value.okWide Tryd.prog W .any b0 t v) (h : DataW.Trod en Tryd.prog W 0 (fun _ => true) true t v d p) : ∃ s : Sl, v = reg s ∧ S W.heap s := by
  obtain ⟨a, l, c, rfl⟩ := okWide_slice ht hv
  obtain ⟨n, hn⟩ := h
  obtain ⟨s, hs, hS⟩ := D en W n _ _ hn
  refine ⟨s, ?_, hS⟩
  have : [Value.slice a l c] = [reg s] := hs
  simpa using this
theorem arg_dig {W : World} {b0 : Nat} {v : Value} {d : DataW HT} {p : List MemPlace} (hv : Value.okWide Tryd.prog W .any b0 24 v) (h : DataW.Trod en Tryd.prog W 0 (fun _ => true) true 24 v d p) : ∃ x : Dig, v = reg x := by
  have hcs : ∃ cs, v = .agg cs := by
    simp only [Value.okWide, Tryd.underlying24] at hv
    exact ⟨_, hv.choose_spec.1⟩
  obtain ⟨cs, rfl⟩ := hcs
  obtain ⟨n, hn⟩ := h
  obtain ⟨x, hx, _⟩ := dec_dig en W n _ _ hn
  refine ⟨x, ?_⟩
  have h1 : cs.toList = List.ofFn fun i => reg (x i) := hx
  show Value.agg cs = Value.agg (List.ofFn fun i => reg (x i)).toArray
  rw [← h1]
theorem trodAll_carry {W W' : World} {sp : Nat → Bool} : ∀ {ts : List TypeId} {vs : List Value} {ds : List (DataW HT)} {ps : List MemPlace}, DataW.TrodAll en Tryd.prog W 0 sp true ts vs ds ps → (∀ p ∈ ps, W.sameAt W' p) → DataW.TrodAll en Tryd.prog W' 0 sp true ts vs ds ps
  | [], [], [], _, h, _ => h
  | _ :: _, _ :: _, _ :: _, _, ⟨p, q, ⟨n, h1⟩, h2, e⟩, hs => ⟨p, q, ⟨n, DataW.trod_carry n _ _ _ h1 (fun x hx => hs x (by rw [e]; exact List.mem_append_left _ hx))⟩, trodAll_carry h2 (fun x hx => hs x (by rw [e]; exact List.mem_append_right _ hx)), e⟩
theorem post_ext {f : Func} {s : ChangeSpec} {W W' : World} {args : Array Value} {ds gs : List (DataW HT)} {before : List MemPlace} (hrt : f.resultTypes = #[4]) (hsv : s.vars = []) (hft : ∀ t ∈ f.params.toList, t < Tryd.prog.types.size)
    (hW : DataW.Whole en Tryd.prog f.params.toList s.vars false W args.toList ds gs before) (hfr : (s.fn HT (ds ++ gs)).results = [.lit (.bool true)]) (hfa : (s.fn HT (ds ++ gs)).args = ds) (hfv : (s.fn HT (ds ++ gs)).vars = [])
    (hx : Ext W.heap W'.heap) (ho : W'.os = W.os) (hu : W'.output = W.output) : s.post en Tryd.prog f false true false false W args (.bool true) W' := by
  have hlt : ∀ p ∈ before, p.block < W.heap.size := fun p hp => hW.lt p hp
  have hW' := hW
  obtain ⟨p, q, hA, hV, hpq, hfz, _⟩ := hW
  rw [hsv] at hV
  obtain ⟨hgs, hq⟩ := trodVars_none hV
  subst hq
  rw [List.append_nil] at hpq
  subst hpq
  have hre : ∀ sp : Nat → Bool, (∀ x ∈ before, sp x.block = true) → DataW.TrodAll en Tryd.prog W' 0 sp true f.params.toList args.toList (s.fn HT (ds ++ gs)).args before := by
    intro sp hsp
    rw [hfa]
    exact trodAll_carry (hA.respare kids full hft hsp) (fun x hxp => sameAt_ext hx (hlt x hxp))
  have hres : ∀ (b : Nat) (sp : Nat → Bool) (hd : Bool), DataW.TrodAll en Tryd.prog W' b sp hd f.resultTypes.toList ((Value.bool true).resultList f.resultTypes.size) (s.fn HT (ds ++ gs)).results [] := by
    intro b sp hd
    rw [hrt, hfr]
    exact trodAll_cons_mk (shut_bool Tryd.underlying4 _) trodAll_mk0
  have hvr : ∀ sp : Nat → Bool, DataW.TrodVars en Tryd.prog W' sp s.vars (s.fn HT (ds ++ gs)).vars [] := by
    intro sp; rw [hsv, hfv]; rfl
  have hold : ∀ p ∈ before, (fun b => decide (b < W.heap.size)) p.block = true := fun p hp => by simpa using hlt p hp
  refine ⟨ds, gs, before, [], before, [], hW', hres _ _ _, hre _ hold, hvr _, World.keptBut_mono (fun p hp => ⟨hp, ?_⟩) (kept_ext (may := (· ∈ before)) hx ho hu), fun _ => ?_⟩
  · exact Or.inr (Or.inl hp)
  · refine ⟨?_, _, _, ([] ++ before) ++ [], ⟨[] ++ before, [], trodAll_append (hre _ (fun _ _ => rfl)) (hres _ _ _), hvr _, rfl, ?_, ?_⟩, ?_⟩
    · exact ok_one hrt rfl (okWide_bool_mk Tryd.underlying4 _)
    · intro b off hp
      have hp' : MemPlace.cell b off ∈ before := by simpa using hp
      have h1 : W'.heap[b]? = W.heap[b]? := hx.same b (hlt _ hp') (by simp)
      have h2 : W'.frozen? ⟨b, off, none⟩ = W.frozen? ⟨b, off, none⟩ := by
        simp only [World.frozen?, h1]
      rw [h2]
      exact hfz b off hp'
    · intro ha; cases ha
    · intro x hp _
      simpa using hp
end
end Go.Proofs.YtimmoekliphobaaDoor
namespace Go.Proofs.YtimmoekliphobaaDoor
open Go Go.Sh
open Go.Sh.Ty (reg)
set_option linter.unusedVariables false
set_option maxRecDepth 100000

/-! the reference's box: votes in the order in which they came -/
def RefA (p : Addr) (s : Sl) (vs : List api_Vote) (h : H) : Prop := Cel 30 p (enc (⟨s⟩ : ref13_Box)) h ∧ OwnA 37 41 s vs h ∧ p.block ∉ blk s
def rfE (p : Addr) (s : Sl) (vs : List api_Vote) : En := ⟨p.block :: blk s, RefA p s vs⟩
theorem rfE_loc (p : Addr) (s : Sl) (vs : List api_Vote) : Go.Sh.Loc (rfE p s vs) := fun h h' hb H =>
  ⟨cel_loc 30 p _ h h' (fun b hb' => hb b (by simp only [cel, List.mem_singleton] at hb'; subst hb'; simp [rfE])) H.1, own_loc 37 41 s vs h h' (fun b hb' => hb b (by simp only [own] at hb'; simp [rfE, hb'])) H.2.1, H.2.2⟩
theorem RefA.lt {p : Addr} {s : Sl} {vs : List api_Vote} {h : H} (H : RefA p s vs h) : ∀ b ∈ p.block :: blk s, b < h.size := by
  intro b hb
  rcases List.mem_cons.1 hb with rfl | hb
  · exact H.1.lt
  · exact H.2.1.lt b hb
theorem RefA.ext {p : Addr} {s : Sl} {vs : List api_Vote} {h h' : H} (f : Ext h h') (H : RefA p s vs h) : RefA p s vs h' := rfE_loc p s vs h h' (fun b hb => f.same b (H.lt b hb) (by simp)) H
def samePlace (x v : api_Vote) : Bool := ((x.Kind == v.Kind) && (x.Round == v.Round)) && (x.From == v.From)
theorem len_rbox (y : ref13_Box) : (enc y).length = 1 := len_ref13_Box y
theorem RAdd_spec (p : Addr) (s : Sl) (vs : List api_Vote) (v : api_Vote) {k : Bool → H → Prop} {h : H} (hb : RefA p s vs h) (hl : vs.length < 2 ^ 20)
    (hk1 : ∀ h', (vs.any fun x => samePlace x v) = true → Ext h h' → k false h') (hk2 : ∀ s' h', (vs.any fun x => samePlace x v) = false → Fr [p.block] h h' → RefA p s' (vs ++ [v]) h' → (∀ b ∈ blk s', h.size ≤ b ∧ b < h'.size) → k true h') : ref13_Box_Add.b (some p) v k h := by
  unfold ref13_Box_Add.b
  have hv := hb.2.1.sv len_api_Vote
  have hsl : s.len = vs.length := hv.2.1
  have hc : ∀ h', Ext h h' → AtH h' p (enc (⟨s⟩ : ref13_Box)) := fun h' f => hb.1.at_.ext f
  refine (Sat.init h).box_ (fun a h1 hs1 _ _ => ?_)
  refine nn_i ?_
  refine ld_old (hc _ hs1.fr) ?_
  unfold ref13_Box_Add.l1
  refine ⟨fun (t : Int) h' => ∃ i : Nat, t = i ∧ i ≤ vs.length ∧ Sat h [] h' [cel 37 a (enc v)] ∧ ((vs.take i).any fun x => samePlace x v) = false, fun t _ => (vs.length - t).toNat, ⟨0, rfl, Nat.zero_le _, hs1, by simp⟩, ?_⟩
  rintro t h2 ⟨i, rfl, hi, hs2, hno⟩
  refine ifb_i (fun hc1 => ?_) (fun hc1 => ?_)
  · have hi' : i < vs.length := by have : (i : Int) < s.len := by simpa using hc1
                                   omega
    refine sidx_ld len_api_Vote (hv.ext hs2.fr) (Int.natCast_nonneg _) (by rw [Int.toNat_natCast]; exact List.getElem?_eq_getElem hi') ?_
    refine hs2.box_ (fun x h3 hs3 _ _ => ?_)
    refine hs3.st_ 0 rfl len_api_Vote (fun h4 hs4 _ => ?_)
    refine hs4.ld_ 0 rfl (hs4.ld_ 1 rfl (hs4.ld_ 0 rfl (hs4.ld_ 1 rfl (hs4.ld_ 0 rfl (hs4.ld_ 1 rfl ?_)))))
    refine ifb_i (fun hc2 => ?_) (fun hc2 => ?_)
    · refine hk1 h4 ?_ hs4.fr
      rw [List.any_eq_true]
      exact ⟨vs[i], List.getElem_mem hi', hc2⟩
    · have e1 : iadd (i : Int) 1 = ((i + 1 : Nat) : Int) := by rw [iadd_eq (by omega) (by omega)]; omega
      rw [e1]
      refine ⟨⟨i + 1, rfl, hi', hs4.drop (List.sublist_cons_self _ _), ?_⟩, by dsimp only; omega⟩
      rw [List.take_add_one, List.getElem?_eq_getElem hi', List.any_append, hno]
      simpa [samePlace] using hc2
  · have hi' : i = vs.length := by
      have : ¬ (i : Int) < s.len := by simpa using hc1
      omega
    subst hi'
    rw [List.take_length] at hno
    unfold ref13_Box_Add.j1
    have hp' : ∀ {h' L'}, Sat h [] h' L' → Cel 30 p (enc (⟨s⟩ : ref13_Box)) h' := fun hs => hb.1.fr hs.fr (by simp)
    have fin : ∀ (r : Sl) h' L', Sat h [] h' (own 37 41 r (vs ++ [v]) :: L') → Go.Sh.st p (fun (x : ref13_Box) => { x with Votes := r }) (ref13_Box_Add.j2 k) h' := by
      intro r h' L' hs
      have hcp := hp' hs
      have hset := hcp.set (enc (⟨r⟩ : ref13_Box)) (by rw [len_rbox, len_rbox])
      refine ⟨⟨s⟩, hcp.at_, hcp.w, ?_⟩
      unfold ref13_Box_Add.j2
      have hr0 := (hs.ok _ (List.mem_of_getElem? (i := 0) rfl)).2.2
      have hpb : p.block < h.size := hb.1.lt
      have hnp : p.block ∉ blk r := fun hx => by have := (hr0 p.block hx).2; simp at this; omega
      refine hk2 r _ hno ((hs.fr.mono (by simp)).trans hset.2 (by simp)) ⟨hset.1, OwnA.fr hset.2 (hs.at_ (i := 0) rfl) (fun b hb => by simp; rintro rfl; exact hnp hb), hnp⟩ (fun b hb => ?_)
      have := hr0 b hb
      simp at this
      exact ⟨this.2, Nat.lt_of_lt_of_le this.1 hset.2.size⟩
    have big1 : ∀ n, n ≤ vs.length + 1 → n * 152 ≤ maxBytes := by intro n hn; simp only [maxBytes]; omega
    refine nn_i ?_
    refine ld_old (hc _ hs2.fr) ?_
    refine hs2.ld_ 0 rfl ?_
    refine ⟨?_, ?_⟩
    · refine hs2.mks_ (n := 41) (fun t1 h3 hs3 _ _ => ?_)
      refine ⟨⟨_, hc _ hs3.fr, rfl⟩, ?_⟩
      refine hs3.chk_ 1 rfl rfl ?_
      refine ⟨?_, ?_⟩
      · refine hs3.app_ 0 rfl (hv.ext hs3.fr) len_api_Vote one_api_Vote (len_api_Vote _) (big1 _ (by simp)) (by simp; omega) (fun r1 h4 hs4 _ => ?_)
        refine hs4.chk_ 1 rfl rfl ?_
        refine hs4.mks_ (n := 41) (fun t2 h5 hs5 _ _ => ?_)
        refine ⟨⟨_, hc _ hs5.fr, rfl⟩, ?_⟩
        refine hs5.app_ 1 rfl (hs5.ownSV 0 rfl len_api_Vote) len_api_Vote one_api_Vote (len_api_Vote _) (big1 _ (by simp)) (by simp; omega) (fun r2 h6 hs6 _ => ?_)
        exact fin r2 h6 _ (hs6.drop (List.sublist_cons_self _ _))
      · refine hs3.mks_ (n := 41) (fun t2 h4 hs4 _ _ => ?_)
        refine ⟨⟨_, hc _ hs4.fr, rfl⟩, ?_⟩
        refine hs4.app_ 1 rfl (hv.ext hs4.fr) len_api_Vote one_api_Vote (len_api_Vote _) (big1 _ (by simp)) (by simp; omega) (fun r1 h5 hs5 _ => ?_)
        refine hs5.chk_ 2 rfl rfl ?_
        refine hs5.app_ 1 rfl (hs5.ownSV 0 rfl len_api_Vote) len_api_Vote one_api_Vote (len_api_Vote _) (big1 _ (by simp)) (by simp; omega) (fun r2 h6 hs6 _ => ?_)
        exact fin r2 h6 _ (hs6.drop (List.sublist_cons_self _ _))
    · refine hs2.mks_ (n := 41) (fun t2 h3 hs3 _ _ => ?_)
      refine ⟨⟨_, hc _ hs3.fr, rfl⟩, ?_⟩
      refine hs3.mks_ (n := 41) (fun t1 h4 hs4 _ _ => ?_)
      refine ⟨⟨_, hc _ hs4.fr, rfl⟩, ?_⟩
      refine hs4.chk_ 2 rfl rfl ?_
      refine hs4.app_ 0 rfl (hv.ext hs4.fr) len_api_Vote one_api_Vote (len_api_Vote _) (big1 _ (by simp)) (by simp; omega) (fun r1 h5 hs5 _ => ?_)
      refine hs5.chk_ 2 rfl rfl ?_
      refine hs5.app_ 0 rfl (hs5.ownSV 1 rfl len_api_Vote) len_api_Vote one_api_Vote (len_api_Vote _) (big1 _ (by simp)) (by simp; omega) (fun r2 h6 hs6 _ => ?_)
      exact fin r2 h6 _ hs6

/-- the reference's answer: the votes for a digest -/
def refPick (vs : List api_Vote) (kind round : Int) (d : Dig) (i : Int) : List api_Vote := vs.filter fun v => (((v.Kind == kind) && (v.Round == round)) && (decide (v.Digest = d))) && (v.From == i)
def refFor (vs : List api_Vote) (kind round : Int) (d : Dig) (n : Nat) : List api_Vote := (List.range n).flatMap fun i : Nat => refPick vs kind round d ((i + 1 : Nat) : Int)
theorem refFor_succ (vs : List api_Vote) (kind round : Int) (d : Dig) (n : Nat) : refFor vs kind round d (n + 1) = refFor vs kind round d n ++ refPick vs kind round d ((n + 1 : Nat) : Int) := by simp [refFor, List.range_succ]
theorem refFor_len (vs : List api_Vote) (kind round : Int) (d : Dig) (n : Nat) : (refFor vs kind round d n).length ≤ n * vs.length := by
  induction n with
  | zero => simp [refFor]
  | succ n ih =>
    rw [refFor_succ, List.length_append, Nat.succ_mul]
    have : (refPick vs kind round d ((n + 1 : Nat) : Int)).length ≤ vs.length := List.length_filter_le _ _
    omega
theorem RFor_spec (p : Addr) (s : Sl) (vs : List api_Vote) (kind round : Int) (d : Dig) {k : Sl → H → Prop} {h : H} (hb : RefA p s vs h) (hl : vs.length < 2 ^ 20)
    (hk : ∀ r h', Ext h h' → OwnA 37 41 r (refFor vs kind round d 63) h' → (∀ b ∈ blk r, h.size ≤ b ∧ b < h'.size) → k r h') : ref13_Box_For.b (some p) kind round d k h := by
  unfold ref13_Box_For.b
  have hv := hb.2.1.sv len_api_Vote
  have hsl : s.len = vs.length := hv.2.1
  have hc : ∀ h', Ext h h' → AtH h' p (enc (⟨s⟩ : ref13_Box)) := fun h' f => hb.1.at_.ext f
  refine (Sat.init h).box_ (fun a h1 hs1 _ _ => ?_)
  unfold ref13_Box_For.l1
  refine ⟨fun (x : Sl × Int) h' => ∃ i : Nat, x.2 = ((i + 1 : Nat) : Int) ∧ i ≤ 63 ∧ Sat h [] h' [own 37 41 x.1 (refFor vs kind round d i), cel 24 a (enc d)], fun x _ => (64 - x.2).toNat, ⟨0, rfl, by omega, hs1.nilOwn⟩, ?_⟩
  rintro ⟨out, t⟩ h2 ⟨i, hi, hil, hs2⟩
  simp only at hi hs2
  subst hi
  refine ifb_i (fun hc1 => ?_) (fun hc1 => ?_)
  · have hi : i < 63 := by have : ((i + 1 : Nat) : Int) ≤ 63 := by simpa using hc1
                           omega
    refine nn_i ?_
    refine ld_old (hc _ hs2.fr) ?_
    unfold ref13_Box_For.l2
    refine ⟨fun (x : Sl × Int) h' => ∃ j : Nat, x.2 = (j : Int) ∧ j ≤ vs.length ∧ Sat h [] h' [own 37 41 x.1 (refFor vs kind round d i ++ refPick (vs.take j) kind round d ((i + 1 : Nat) : Int)), cel 24 a (enc d)], fun x _ => (vs.length - x.2).toNat, ⟨0, rfl, by omega, by simpa [refPick] using hs2⟩, ?_⟩
    clear hs2
    rintro ⟨out, t⟩ h3 ⟨j, hj, hjl, hs3⟩
    simp only at hj hs3
    subst hj
    refine ifb_i (fun hc2 => ?_) (fun hc2 => ?_)
    · have hj : j < vs.length := by have : (j : Int) < s.len := by simpa using hc2
                                    omega
      have hgj : vs[j]? = some vs[j] := List.getElem?_eq_getElem hj
      refine sidx_ld len_api_Vote (hv.ext hs3.fr) (Int.natCast_nonneg _) (by rw [Int.toNat_natCast]; exact hgj) ?_
      generalize hvj : vs[j] = v at *
      have ht : vs.take (j + 1) = vs.take j ++ [v] := by rw [List.take_add_one, hgj]; rfl
      have e1 : iadd (j : Int) 1 = ((j + 1 : Nat) : Int) := by rw [iadd_eq (by omega) (by omega)]; omega
      refine hs3.box_ (fun x h4 hs4 _ _ => ?_)
      refine hs4.st_ 0 rfl len_api_Vote (fun h5 hs5 _ => ?_)
      refine hs5.ld_ 0 rfl (hs5.ld_ 0 rfl (hs5.ld_ 0 rfl (hs5.ld_ 2 rfl (hs5.ld_ 0 rfl ?_))))
      refine ifb_i (fun hc3 => ?_) (fun hc3 => ?_)
      · refine hs5.ld_ 0 rfl ?_
        refine hs5.mks_ (n := 41) (fun sl h6 hs6 _ _ => ?_)
        have hlen := refFor_len vs kind round d i
        have hlen2 : (refPick (vs.take j) kind round d ((i + 1 : Nat) : Int)).length ≤ (vs.take j).length := List.length_filter_le _ _
        have hlen3 : i * vs.length ≤ 63 * vs.length := Nat.mul_le_mul_right _ (by omega)
        have hlen4 : (vs.take j).length ≤ vs.length := by simp; omega
        refine hs6.app_ 2 rfl (hs6.ownSV 0 rfl len_api_Vote) len_api_Vote one_api_Vote (len_api_Vote _) ?_ ?_ (fun r h7 hs7 _ => ?_)
        · simp only [List.length_append, List.length_cons, List.length_nil, maxBytes]; omega
        · simp only [List.length_append, List.length_cons, List.length_nil]; omega
        unfold ref13_Box_For.j3
        rw [e1]
        refine ⟨⟨j + 1, rfl, hj, ?_⟩, by dsimp only; omega⟩
        have e2 : refPick (vs.take (j + 1)) kind round d ((i + 1 : Nat) : Int) = refPick (vs.take j) kind round d ((i + 1 : Nat) : Int) ++ [v] := by
          unfold refPick
          rw [ht, List.filter_append]
          congr 1
          rw [List.filter_cons_of_pos (by exact hc3)]; rfl
        rw [e2, ← List.append_assoc]
        exact (hs7.drop (List.sublist_cons_self _ _)).drop (List.sublist_cons_self _ _)
      · unfold ref13_Box_For.j3
        rw [e1]
        refine ⟨⟨j + 1, rfl, hj, ?_⟩, by dsimp only; omega⟩
        have e2 : refPick (vs.take (j + 1)) kind round d ((i + 1 : Nat) : Int) = refPick (vs.take j) kind round d ((i + 1 : Nat) : Int) := by
          unfold refPick
          rw [ht, List.filter_append, List.filter_cons_of_neg (by rw [Bool.not_eq_true]; exact hc3)]
          simp
        rw [e2]
        exact hs5.drop (List.sublist_cons_self _ _)
    · have hj : j = vs.length := by
        have : ¬ (j : Int) < s.len := by simpa using hc2
        omega
      subst hj
      rw [List.take_length] at hs3
      unfold ref13_Box_For.j2
      have e1 : iadd ((i + 1 : Nat) : Int) 1 = ((i + 1 + 1 : Nat) : Int) := by rw [iadd_eq (by omega) (by omega)]; omega
      rw [e1]
      refine ⟨⟨i + 1, rfl, hi, ?_⟩, by dsimp only; omega⟩
      rw [refFor_succ]; exact hs3
  · have hi : i = 63 := by
      have : ¬ ((i + 1 : Nat) : Int) ≤ 63 := by simpa using hc1
      omega
    subst hi
    refine hk out h2 hs2.fr (hs2.at_ (i := 0) rfl) (fun b hb' => ?_)
    have := (hs2.ok _ (List.mem_of_getElem? (i := 0) rfl)).2.2 b hb'
    simp at this; omega
end Go.Proofs.YtimmoekliphobaaDoor
namespace Go.Proofs.YtimmoekliphobaaDoor
open Go Go.Sh
open Go.Sh.Ty (reg)
set_option linter.unusedVariables false
set_option maxRecDepth 100000

def dig1 : Dig := (arrOf [(1 : UInt8), 0, 0, 0, 0, 0, 0, 0, 0, 0, 0, 0, 0, 0, 0, 0, 0, 0, 0, 0, 0, 0, 0, 0, 0, 0, 0, 0, 0, 0, 0, 0] : Arr 32 UInt8)
def v1 (s : api_Sig) : api_Vote := { api_Vote.zero with Kind := 1, Height := 1, From := 1, Sig := s }
theorem zero32 : (arrOf [0, 0, 0, 0, 0, 0, 0, 0, 0, 0, 0, 0, 0, 0, 0, 0, 0, 0, 0, 0, 0, 0, 0, 0, 0, 0, 0, 0, 0, 0, 0, 0] : Arr 32 UInt8) = fun _ => 0 := by
  funext i
  obtain ⟨i, hi⟩ := i
  have : ∀ n, n < 32 → ([0, 0, 0, 0, 0, 0, 0, 0, 0, 0, 0, 0, 0, 0, 0, 0, 0, 0, 0, 0, 0, 0, 0, 0, 0, 0, 0, 0, 0, 0, 0, 0] : List UInt8).getD n default = 0 := by decide
  exact this i hi
theorem Right1_spec (c : api_Config) (seed : Dig) (o : api_Once) {k : Bool → H → Prop} {h : H} (hT : Tb h) (hv : SV 34 h c.Members ([⟨1, ⟨leaf0 seed, 0⟩⟩] : List api_Member)) (he : c.Epoch = 0) (d : Dig) (hd : d = signsF (v1 ⟨0, o, Sl.nil⟩))
    (ho : OnceA o (opensF seed 0 d 32) (shutsF seed 0 d 32) h) (hk : ∀ h', Ext h h' → k true h') : vote_Right.b c (v1 ⟨0, o, Sl.nil⟩) k h := by
  unfold vote_Right.b
  refine (Sat.init h).box_ (fun a h1 hs1 _ _ => ?_)
  refine hs1.box_ (fun b h2 hs2 _ _ => ?_)
  refine hs2.ld_ 1 rfl ?_
  refine hs2.ld_ 0 rfl ?_
  refine config_Find.ok _ _ _ _ (Find_spec c _ 1 (hv.ext hs2.fr) (by simp) (fun h3 hx3 => ?_))
  have hs3 := hs2.ext hx3
  have ef : findF [⟨1, ⟨leaf0 seed, 0⟩⟩] 1 = ⟨⟨1, ⟨leaf0 seed, 0⟩⟩, 0, true⟩ := by simp [findF, List.findIdx?_cons]
  rw [ef]
  refine hs3.box_ (fun m h4 hs4 _ _ => ?_)
  refine hs4.st_ 0 rfl len_api_Member (fun h5 hs5 _ => ?_)
  refine ifb_i (fun _ => ?_) (fun hc => by cases hc)
  refine hs5.ld_ 1 rfl ?_
  refine vote_Good.ok _ _ _ (Good_spec _ (fun h6 hx6 => ?_))
  have hs6 := hs5.ext hx6
  refine hs6.ld_ 1 rfl ?_
  refine hs6.ld_ 2 rfl ?_
  refine ifb_i (fun _ => ?_) (fun hc => ?_)
  · refine hs6.ld_ 0 rfl ?_
    refine hs6.ld_ 1 rfl ?_
    refine hs6.ld_ 1 rfl ?_
    refine vote_Signs.ok _ _ _ (Signs_spec _ (hT.fr hs6.fr (by simp)) (fun h7 hx7 => ?_))
    have hs7 := hs6.ext hx7
    refine hs7.chk_ 0 rfl rfl ?_
    refine hs7.chk_ 1 rfl rfl ?_
    rw [← hd]
    refine keys_Check.ok _ _ _ _ _ (KeysCheck_spec seed d o (hT.fr hs7.fr (by simp)) ⟨ho.1.ext hs7.fr, ho.2.ext hs7.fr⟩ (fun h8 hx8 => ?_))
    exact hk h8 (hs7.ext hx8).fr
  · rw [he] at hc
    have : (goodF (v1 ⟨0, o, Sl.nil⟩) && (v1 ⟨0, o, Sl.nil⟩).Epoch == 0) = true := rfl
    rw [this] at hc; cases hc
theorem headB_sig (v w : api_Vote) (h1 : v.Kind = w.Kind) (h2 : v.Epoch = w.Epoch) (h3 : v.Height = w.Height) (h4 : v.Round = w.Round) (h5 : v.From = w.From) (h6 : v.Digest = w.Digest) : signsF v = signsF w := by
  simp only [signsF, headB, h1, h2, h3, h4, h5, h6]
theorem alive13_spec {k : Bool → H → Prop} {h : H} (hT : Tb h) (hk : ∀ h', Ext h h' → k true h') : law13_alive.b k h := by
  unfold law13_alive.b
  refine keys_New.ok _ _ _ _ (New_spec _ hT (fun p s h1 hx1 ht1 hb1 => ?_))
  refine ifb_i (fun hc => by cases hc) (fun _ => ?_)
  have trA : ∀ h', Ext h1 h' → TreeA p dig1 s h' := fun h' f => ⟨ht1.1.fr f (by simp), ht1.2.1.fr f (by simp), ht1.2.2⟩
  have hT1 := hT.fr hx1 (by simp)
  have hs1 := Sat.init h1
  refine hs1.box_ (fun v h2 hs2 _ hx2 => ?_)
  refine hs2.st_ 0 rfl len_api_Vote (fun h3 hs3 _ => ?_)
  refine hs3.ld_ 0 rfl ?_
  refine vote_Signs.ok _ _ _ (Signs_spec _ (hT1.fr hs3.fr (by simp)) (fun h4 hx4 => ?_))
  have hs4 := hs3.ext hx4
  refine keys_Tree_Sign.ok _ _ _ _ _ (TreeSign_spec p dig1 s _ (hT1.fr hs4.fr (by simp)) (trA _ hs4.fr) (fun o h5 hx5 ho5 hb5 => ?_))
  have hs5 := hs4.add (e := onc o _ _) hx5 ho5 (onc_loc _ _ _) hb5
  refine hs5.st_ 1 rfl len_api_Vote (fun h6 hs6 _ => ?_)
  refine vote_NewBox.ok _ _ (NewBox_spec (fun q r h7 hx7 hB7 hb7 => ?_))
  have hs7 := hs6.add (e := bxE q r []) hx7 hB7 (bxE_loc _ _ _) hb7
  refine ifb_i (fun _ => ?_) (fun hc => by cases hc)
  refine hs7.ld_ 2 rfl ?_
  refine keys_Tree_Key.ok _ _ _ (Key_spec p dig1 s (trA _ hs7.fr) (fun h8 hx8 => ?_))
  have hs8 := hs7.ext hx8
  refine hs8.chk_ 2 rfl rfl ?_
  refine hs8.mks_ (n := 34) (fun sl h9 hs9 _ _ => ?_)
  refine hs9.chk_ 3 rfl rfl ?_
  refine vote_Right.ok _ _ _ _ (Right1_spec _ dig1 o (hT1.fr hs9.fr (by simp)) (hs9.ownSV 0 rfl len_api_Member) rfl _ (headB_sig _ _ rfl rfl rfl rfl rfl rfl) (hs9.at_ (i := 2) rfl) (fun h10 hx10 => ?_))
  have hs10 := hs9.ext hx10
  refine ifb_i (fun _ => ?_) (fun hc => by cases hc)
  refine hs10.ld_ 3 rfl ?_
  refine vote_Box_Add.ok _ _ _ _ (Add_spec q r [] _ (hs10.at_ (i := 1) rfl) (fun u h' hm => by simp [mfind] at hm) (fun h11 hm hf11 hB11 => ?_))
  have hs11 := hs10.upd (i := 1) (e := bxE q r []) (e' := bxE q r _) rfl hf11 hB11 (bxE_loc _ _ _) (by
    intro b hb
    refine ⟨?_, .inl hb⟩
    simp only [bxE, List.mem_cons, List.not_mem_nil, or_false] at hb
    rcases hb with rfl | rfl
    · exact hB11.1.lt
    · exact mpE_lt hB11.2.1)
  refine ifb_i (fun _ => ?_) (fun hc => by cases hc)
  refine hs11.ld_ 3 rfl ?_
  refine vote_Box_Add.ok _ _ _ _ (Add_spec q r _ _ (hs11.at_ (i := 1) rfl) (fun u h12 hm hx12 => ?_) (fun h12 hm _ _ => ?_))
  · have hs12 := hs11.ext hx12
    refine ifb_i (fun _ => ?_) (fun hc => by cases hc)
    refine vote_Box_Count.ok _ _ _ _ _ _ (Count_spec q r _ _ _ _ (hs12.at_ (i := 1) rfl) (fun h13 hx13 => ?_))
    have hs13 := hs12.ext hx13
    have e1 : (forF (mins [] (placeOf (v1 ⟨0, o, Sl.nil⟩)) (v1 ⟨0, o, Sl.nil⟩)) 1 0 (fun _ => 0) 63).length = 1 := by
      have : ∀ i : Nat, pick1 (mins [] (placeOf (v1 ⟨0, o, Sl.nil⟩)) (v1 ⟨0, o, Sl.nil⟩)) 1 0 (fun _ => 0) (i + 1) = if i = 0 then [v1 ⟨0, o, Sl.nil⟩] else [] := by
        intro i
        by_cases hi : i = 0
        · subst hi
          simp [pick1, mins, mfind, placeOf, v1, api_Vote.zero]
        · rw [if_neg hi]
          have : mfind (mins [] (placeOf (v1 ⟨0, o, Sl.nil⟩)) (v1 ⟨0, o, Sl.nil⟩)) (⟨1, 0, ((i + 1 : Nat) : Int)⟩ : vote_place) = none := by
            have hne : ¬ ((⟨1, 0, ((i + 1 : Nat) : Int)⟩ : vote_place) = placeOf (v1 ⟨0, o, Sl.nil⟩)) := by
              intro h0
              have := congrArg vote_place.from_ h0
              have e3 : (placeOf (v1 ⟨0, o, Sl.nil⟩)).from_ = 1 := rfl
              rw [e3] at this
              simp only at this
              omega
            simp only [mins, mfind, List.find?_cons, List.find?_nil, hne, decide_false, Option.map_none]
          unfold pick1
          rw [this]
      unfold forF
      rw [List.flatMap_def]
      have e : (List.range 63).map (fun i : Nat => pick1 (mins [] (placeOf (v1 ⟨0, o, Sl.nil⟩)) (v1 ⟨0, o, Sl.nil⟩)) 1 0 (fun _ => 0) (i + 1)) = (List.range 63).map (fun i : Nat => if i = 0 then [v1 ⟨0, o, Sl.nil⟩] else []) := List.map_congr_left fun i _ => this i
      rw [e]
      rfl
    rw [zero32]
    have := hk h13 (hx1.trans hs13.fr)
    have e2 : (((forF (mins [] (placeOf (v1 ⟨0, o, Sl.nil⟩)) (v1 ⟨0, o, Sl.nil⟩)) 1 0 (fun _ => 0) 63).length : Int) == 1) = true := by rw [e1]; rfl
    rw [← e2] at this
    exact this
  · exfalso
    simp [mins, mfind] at hm
end Go.Proofs.YtimmoekliphobaaDoor
namespace Go.Proofs.YtimmoekliphobaaDoor
open Go Go.Sh
open Go.Sh.Ty (reg)
set_option linter.unusedVariables false
set_option maxRecDepth 100000

def votesOf (vs : List api_Vote) (round : Int) (x : Int) : Bool := vs.any fun v => (v.From == x) && (decide (round ≤ v.Round))
def votersR (vs : List api_Vote) (round : Int) (n : Nat) : Nat := ((List.range n).filter fun i : Nat => votesOf vs round ((i + 1 : Nat) : Int)).length
theorem votersR_le (vs : List api_Vote) (round : Int) (n : Nat) : votersR vs round n ≤ n := by
  have := List.length_filter_le (fun i : Nat => votesOf vs round ((i + 1 : Nat) : Int)) (List.range n)
  simpa [votersR] using this
theorem votersR_succ (vs : List api_Vote) (round : Int) (n : Nat) : votersR vs round (n + 1) = votersR vs round n + if votesOf vs round ((n + 1 : Nat) : Int) then 1 else 0 := by
  unfold votersR
  rw [List.range_succ, List.filter_append, List.length_append]
  congr 1
  simp only [List.filter_cons, List.filter_nil]
  split <;> simp
theorem RVoters_spec (p : Addr) (s : Sl) (vs : List api_Vote) (round : Int) {k : Int → H → Prop} {h : H} (hb : RefA p s vs h) (hl : vs.length < 2 ^ 20)
    (hk : ∀ h', Ext h h' → k (votersR vs round 63 : Int) h') : ref13_Box_Voters.b (some p) round k h := by
  unfold ref13_Box_Voters.b
  have hv := hb.2.1.sv len_api_Vote
  have hsl : s.len = vs.length := hv.2.1
  have hc : ∀ h', Ext h h' → AtH h' p (enc (⟨s⟩ : ref13_Box)) := fun h' f => hb.1.at_.ext f
  unfold ref13_Box_Voters.l1
  refine ⟨fun (x : Int × Int) h' => ∃ i : Nat, x.2 = ((i + 1 : Nat) : Int) ∧ i ≤ 63 ∧ x.1 = (votersR vs round i : Int) ∧ Ext h h', fun x _ => (64 - x.2).toNat, ⟨0, rfl, by omega, rfl, Fr.refl _ _⟩, ?_⟩
  rintro ⟨n, t⟩ h2 ⟨i, hi, hil, hn, hx2⟩
  simp only at hi hn
  subst hi; subst hn
  refine ifb_i (fun hc1 => ?_) (fun hc1 => ?_)
  · have hi : i < 63 := by have : ((i + 1 : Nat) : Int) ≤ 63 := by simpa using hc1
                           omega
    refine nn_i ?_
    refine ld_old (hc _ hx2) ?_
    unfold ref13_Box_Voters.l2
    refine ⟨fun (x : Bool × Int) h' => ∃ j : Nat, x.2 = (j : Int) ∧ j ≤ vs.length ∧ x.1 = votesOf (vs.take j) round ((i + 1 : Nat) : Int) ∧ Ext h h', fun x _ => (vs.length - x.2).toNat, ⟨0, rfl, by omega, by simp [votesOf], hx2⟩, ?_⟩
    clear hx2
    rintro ⟨is, t⟩ h3 ⟨j, hj, hjl, his, hx3⟩
    simp only at hj his
    subst hj; subst his
    have hlv := votersR_le vs round i
    refine ifb_i (fun hc2 => ?_) (fun hc2 => ?_)
    · have hj : j < vs.length := by have : (j : Int) < s.len := by simpa using hc2
                                    omega
      have hgj : vs[j]? = some vs[j] := List.getElem?_eq_getElem hj
      refine sidx_ld len_api_Vote (hv.ext hx3) (Int.natCast_nonneg _) (by rw [Int.toNat_natCast]; exact hgj) ?_
      generalize hvj : vs[j] = v at *
      have ht : vs.take (j + 1) = vs.take j ++ [v] := by rw [List.take_add_one, hgj]; rfl
      have e1 : iadd (j : Int) 1 = ((j + 1 : Nat) : Int) := by rw [iadd_eq (by omega) (by omega)]; omega
      have e2 : votesOf (vs.take (j + 1)) round ((i + 1 : Nat) : Int) = (votesOf (vs.take j) round ((i + 1 : Nat) : Int) || ((v.From == ((i + 1 : Nat) : Int)) && (decide (round ≤ v.Round)))) := by
        unfold votesOf; rw [ht, List.any_append]; simp
      refine (Sat.init h3).box_ (fun x h4 hs4 _ _ => ?_)
      refine hs4.st_ 0 rfl len_api_Vote (fun h5 hs5 _ => ?_)
      have hx5 : Ext h h5 := Fr.trans hx3 hs5.fr (by simp)
      refine ifb_i (fun hc3 => ?_) (fun hc3 => ?_)
      · unfold ref13_Box_Voters.j4
        rw [e1]
        exact ⟨⟨j + 1, rfl, hj, by rw [e2, hc3]; rfl, hx5⟩, by dsimp only; omega⟩
      · refine hs5.ld_ 0 rfl (hs5.ld_ 0 rfl ?_)
        unfold ref13_Box_Voters.j4
        rw [e1]
        exact ⟨⟨j + 1, rfl, hj, by rw [e2, hc3]; rfl, hx5⟩, by dsimp only; omega⟩
    · have hj : j = vs.length := by
        have : ¬ (j : Int) < s.len := by simpa using hc2
        omega
      subst hj
      rw [List.take_length]
      have e1 : iadd ((i + 1 : Nat) : Int) 1 = ((i + 1 + 1 : Nat) : Int) := by rw [iadd_eq (by omega) (by omega)]; omega
      have e3 : iadd (votersR vs round i : Int) 1 = ((votersR vs round i + 1 : Nat) : Int) := by rw [iadd_eq (by omega) (by omega)]; omega
      unfold ref13_Box_Voters.j3 ref13_Box_Voters.j2
      rw [e1, e3]
      refine ifb_i (fun hc4 => ?_) (fun hc4 => ?_)
      · exact ⟨⟨i + 1, rfl, hi, by rw [votersR_succ, if_pos hc4], hx3⟩, by dsimp only; omega⟩
      · exact ⟨⟨i + 1, rfl, hi, by rw [votersR_succ, if_neg (by rw [hc4]; decide)]; rfl, hx3⟩, by dsimp only; omega⟩
  · have hi : i = 63 := by
      have : ¬ ((i + 1 : Nat) : Int) ≤ 63 := by simpa using hc1
      omega
    subst hi
    exact hk _ hx2

def reachStep (vs : List api_Vote) (n : Int) (best : Int) (v : api_Vote) : Int := if ((decide ((1 : Int) ≤ n)) && (decide (best < v.Round))) && decide (n ≤ (votersR vs v.Round 63 : Int)) then v.Round else best
def reachR (vs : List api_Vote) (n : Int) : Int := vs.foldl (reachStep vs n) (-1)
theorem RReached_spec (p : Addr) (s : Sl) (vs : List api_Vote) (n : Int) {k : Int → H → Prop} {h : H} (hb : RefA p s vs h) (hl : vs.length < 2 ^ 20)
    (hk : ∀ h', Ext h h' → k (reachR vs n) h') : ref13_Box_Reached.b (some p) n k h := by
  unfold ref13_Box_Reached.b
  have hv := hb.2.1.sv len_api_Vote
  have hsl : s.len = vs.length := hv.2.1
  refine nn_i ?_
  refine ld_old hb.1.at_ ?_
  unfold ref13_Box_Reached.l1
  refine ⟨fun (x : Int × Int) h' => ∃ j : Nat, x.2 = (j : Int) ∧ j ≤ vs.length ∧ x.1 = (vs.take j).foldl (reachStep vs n) (-1) ∧ Ext h h', fun x _ => (vs.length - x.2).toNat, ⟨0, rfl, by omega, rfl, Fr.refl _ _⟩, ?_⟩
  rintro ⟨best, t⟩ h3 ⟨j, hj, hjl, his, hx3⟩
  simp only at hj his
  subst hj
  refine ifb_i (fun hc2 => ?_) (fun hc2 => ?_)
  · have hj : j < vs.length := by have : (j : Int) < s.len := by simpa using hc2
                                  omega
    have hgj : vs[j]? = some vs[j] := List.getElem?_eq_getElem hj
    refine sidx_ld len_api_Vote (hv.ext hx3) (Int.natCast_nonneg _) (by rw [Int.toNat_natCast]; exact hgj) ?_
    generalize hvj : vs[j] = v at *
    have ht : vs.take (j + 1) = vs.take j ++ [v] := by rw [List.take_add_one, hgj]; rfl
    have e1 : iadd (j : Int) 1 = ((j + 1 : Nat) : Int) := by rw [iadd_eq (by omega) (by omega)]; omega
    have e2 : (vs.take (j + 1)).foldl (reachStep vs n) (-1) = reachStep vs n best v := by rw [ht, List.foldl_append, his]; rfl
    refine (Sat.init h3).box_ (fun x h4 hs4 _ _ => ?_)
    refine hs4.st_ 0 rfl len_api_Vote (fun h5 hs5 _ => ?_)
    refine hs5.ld_ 0 rfl ?_
    have nxt : ∀ (y : Int) h', Ext h h' → y = reachStep vs n best v → ref13_Box_Reached.j2 (fun s' h' => (fun (x : Int × Int) h' => ∃ j : Nat, x.2 = (j : Int) ∧ j ≤ vs.length ∧ x.1 = (vs.take j).foldl (reachStep vs n) (-1) ∧ Ext h h') s' h' ∧ (fun (x : Int × Int) (_ : H) => (vs.length - x.2).toNat) s' h' < (fun (x : Int × Int) (_ : H) => (vs.length - x.2).toNat) (best, (j : Int)) h3) (some p) n y s (s.len : Int) (j : Int) h' := by
      intro y h' hx' hy
      unfold ref13_Box_Reached.j2
      rw [e1]
      exact ⟨⟨j + 1, rfl, hj, by rw [e2]; exact hy, hx'⟩, by dsimp only; omega⟩
    refine ifb_i (fun hc3 => ?_) (fun hc3 => ?_)
    · refine hs5.ld_ 0 rfl ?_
      refine ref13_Box_Voters.ok _ _ _ _ (RVoters_spec p s vs _ (hb.ext (Fr.trans hx3 hs5.fr (by simp))) hl (fun h6 hx6 => ?_))
      have hs6 := hs5.ext hx6
      unfold ref13_Box_Reached.j3
      refine ifb_i (fun hc4 => ?_) (fun hc4 => ?_)
      · refine hs6.ld_ 0 rfl ?_
        exact nxt _ _ (Fr.trans hx3 hs6.fr (by simp)) (by unfold reachStep; rw [hc3, hc4]; rfl)
      · exact nxt _ _ (Fr.trans hx3 hs6.fr (by simp)) (by unfold reachStep; rw [hc4]; simp)
    · unfold ref13_Box_Reached.j3
      refine ifb_i (fun hc4 => by cases hc4) (fun _ => ?_)
      exact nxt _ _ (Fr.trans hx3 hs5.fr (by simp)) (by unfold reachStep; rw [hc3]; rfl)
  · have hj : j = vs.length := by
      have : ¬ (j : Int) < s.len := by simpa using hc2
      omega
    subst hj
    rw [List.take_length] at his
    subst his
    exact hk _ hx3

def winStep (vs : List api_Vote) (kind quorum : Int) (best : Int) (v : api_Vote) : Int := if ((v.Kind == kind) && ((!decide (v.Digest = dz)) && decide (best < v.Round))) && decide (quorum ≤ ((refFor vs kind v.Round v.Digest 63).length : Int)) then v.Round else best
def winR (vs : List api_Vote) (kind quorum : Int) : Int := vs.foldl (winStep vs kind quorum) (-1)
theorem RWinner_spec (p : Addr) (s : Sl) (vs : List api_Vote) (kind quorum : Int) {k : Int → H → Prop} {h : H} (hb : RefA p s vs h) (hl : vs.length < 2 ^ 20)
    (hk : ∀ h', Ext h h' → k (winR vs kind quorum) h') : ref13_Box_Winner.b (some p) kind quorum k h := by
  unfold ref13_Box_Winner.b
  have hv := hb.2.1.sv len_api_Vote
  have hsl : s.len = vs.length := hv.2.1
  refine nn_i ?_
  refine ld_old hb.1.at_ ?_
  unfold ref13_Box_Winner.l1
  refine ⟨fun (x : Int × Int) h' => ∃ j : Nat, x.2 = (j : Int) ∧ j ≤ vs.length ∧ x.1 = (vs.take j).foldl (winStep vs kind quorum) (-1) ∧ Ext h h', fun x _ => (vs.length - x.2).toNat, ⟨0, rfl, by omega, rfl, Fr.refl _ _⟩, ?_⟩
  rintro ⟨best, t⟩ h3 ⟨j, hj, hjl, his, hx3⟩
  simp only at hj his
  subst hj
  refine ifb_i (fun hc2 => ?_) (fun hc2 => ?_)
  · have hj : j < vs.length := by have : (j : Int) < s.len := by simpa using hc2
                                  omega
    have hgj : vs[j]? = some vs[j] := List.getElem?_eq_getElem hj
    refine sidx_ld len_api_Vote (hv.ext hx3) (Int.natCast_nonneg _) (by rw [Int.toNat_natCast]; exact hgj) ?_
    generalize hvj : vs[j] = v at *
    have ht : vs.take (j + 1) = vs.take j ++ [v] := by rw [List.take_add_one, hgj]; rfl
    have e1 : iadd (j : Int) 1 = ((j + 1 : Nat) : Int) := by rw [iadd_eq (by omega) (by omega)]; omega
    have e2 : (vs.take (j + 1)).foldl (winStep vs kind quorum) (-1) = winStep vs kind quorum best v := by rw [ht, List.foldl_append, his]; rfl
    refine (Sat.init h3).box_ (fun x h4 hs4 _ _ => ?_)
    refine hs4.st_ 0 rfl len_api_Vote (fun h5 hs5 _ => ?_)
    refine hs5.ld_ 0 rfl ?_
    have nxt : ∀ (y : Int) h', Ext h h' → y = winStep vs kind quorum best v → ref13_Box_Winner.j2 (fun s' h' => (fun (x : Int × Int) h' => ∃ j : Nat, x.2 = (j : Int) ∧ j ≤ vs.length ∧ x.1 = (vs.take j).foldl (winStep vs kind quorum) (-1) ∧ Ext h h') s' h' ∧ (fun (x : Int × Int) (_ : H) => (vs.length - x.2).toNat) s' h' < (fun (x : Int × Int) (_ : H) => (vs.length - x.2).toNat) (best, (j : Int)) h3) (some p) kind quorum y s (s.len : Int) (j : Int) h' := by
      intro y h' hx' hy
      unfold ref13_Box_Winner.j2
      rw [e1]
      exact ⟨⟨j + 1, rfl, hj, by rw [e2]; exact hy, hx'⟩, by dsimp only; omega⟩
    have no : ∀ h', Ext h h' → ∀ v1 L', (((v.Kind == kind) && ((!decide (v.Digest = dz)) && decide (best < v.Round))) = false) → Sat h3 [] h' L' → ref13_Box_Winner.j3 (ref13_Box_Winner.j2 (fun s' h' => (fun (x : Int × Int) h' => ∃ j : Nat, x.2 = (j : Int) ∧ j ≤ vs.length ∧ x.1 = (vs.take j).foldl (winStep vs kind quorum) (-1) ∧ Ext h h') s' h' ∧ (fun (x : Int × Int) (_ : H) => (vs.length - x.2).toNat) s' h' < (fun (x : Int × Int) (_ : H) => (vs.length - x.2).toNat) (best, (j : Int)) h3)) (some p) kind quorum best v1 s (s.len : Int) (j : Int) false h' := by
      intro h' hx' v1 L' hfa _
      unfold ref13_Box_Winner.j3
      refine ifb_i (fun hc4 => by cases hc4) (fun _ => ?_)
      exact nxt _ _ hx' (by unfold winStep; rw [hfa]; rfl)
    rw [zero32]
    refine ifb_i (fun hc3 => ?_) (fun hc3 => ?_)
    · refine hs5.ld_ 0 rfl (hs5.ld_ 0 rfl ?_)
      refine ifb_i (fun hc5 => ?_) (fun hc5 => ?_)
      · refine hs5.ld_ 0 rfl (hs5.ld_ 0 rfl ?_)
        refine ref13_Box_For.ok _ _ _ _ _ _ (RFor_spec p s vs kind _ _ (hb.ext (Fr.trans hx3 hs5.fr (by simp))) hl (fun r h6 hx6 ho6 _ => ?_))
        have hs6 := hs5.ext hx6
        have hrl : r.len = (refFor vs kind v.Round v.Digest 63).length := (ho6.sv len_api_Vote).2.1
        rw [hrl]
        unfold ref13_Box_Winner.j3
        refine ifb_i (fun hc4 => ?_) (fun hc4 => ?_)
        · refine hs6.ld_ 0 rfl ?_
          exact nxt _ _ (Fr.trans hx3 hs6.fr (by simp)) (by
            unfold winStep
            have h9 : ((!decide (v.Digest = dz)) && decide (best < v.Round)) = true := hc5
            rw [hc3, h9, hc4]; rfl)
        · exact nxt _ _ (Fr.trans hx3 hs6.fr (by simp)) (by unfold winStep; rw [hc4]; simp)
      · exact no _ (Fr.trans hx3 hs5.fr (by simp)) _ _ (by
          have h9 : ((!decide (v.Digest = dz)) && decide (best < v.Round)) = false := hc5
          rw [h9]; simp) hs5
    · exact no _ (Fr.trans hx3 hs5.fr (by simp)) _ _ (by rw [hc3]; rfl) hs5
  · have hj : j = vs.length := by
      have : ¬ (j : Int) < s.len := by simpa using hc2
      omega
    subst hj
    rw [List.take_length] at his
    subst his
    exact hk _ hx3
end Go.Proofs.YtimmoekliphobaaDoor
namespace Go.Proofs.YtimmoekliphobaaDoor
open Go Go.Sh
open Go.Sh.Ty (reg)
set_option linter.unusedVariables false

def Lv (vs : List api_Vote) : Vts := vs.map fun v => (placeOf v, v)
/-- the votes that a box can hold -/
structure OkV (vs : List api_Vote) : Prop where
  nodup : (vs.map placeOf).Nodup
  from_ : ∀ v ∈ vs, 1 ≤ v.From ∧ v.From ≤ 63
  round : ∀ v ∈ vs, 0 ≤ v.Round
theorem Lv_find : ∀ (vs : List api_Vote) (pl : vote_place), mfind (Lv vs) pl = vs.find? fun v => decide (pl = placeOf v)
  | [], pl => rfl
  | v :: vs, pl => by
    by_cases h : pl = placeOf v
    · simp [Lv, mfind, h]
    · have h1 : mfind (Lv (v :: vs)) pl = mfind (Lv vs) pl := by simp [Lv, mfind, h]
      rw [h1, Lv_find vs pl]
      simp [h]
theorem samePlace_iff (x v : api_Vote) : samePlace x v = true ↔ placeOf x = placeOf v := by
  simp [samePlace, placeOf, and_assoc]
theorem any_same (vs : List api_Vote) (v : api_Vote) : (vs.any fun x => samePlace x v) = (mfind (Lv vs) (placeOf v)).isSome := by
  rw [Lv_find, Bool.eq_iff_iff, List.find?_isSome, List.any_eq_true]
  simp only [samePlace_iff, decide_eq_true_eq]
  exact ⟨fun ⟨x, h1, h2⟩ => ⟨x, h1, h2.symm⟩, fun ⟨x, h1, h2⟩ => ⟨x, h1, h2.symm⟩⟩
theorem mins_new {κ ν : Type} [DecidableEq κ] (k : κ) (v : ν) : ∀ l : List (κ × ν), mfind l k = none → mins l k v = l ++ [(k, v)]
  | [], _ => rfl
  | p :: l, h => by
    by_cases hc : k = p.1
    · simp [mfind, hc] at h
    · have h' : mfind l k = none := by simpa [mfind, hc] using h
      simp [mins, hc, mins_new k v l h']
theorem Lv_snoc (vs : List api_Vote) (v : api_Vote) (h : mfind (Lv vs) (placeOf v) = none) : mins (Lv vs) (placeOf v) v = Lv (vs ++ [v]) := by
  rw [mins_new _ _ _ h]; simp [Lv]
theorem OkV.snoc {vs : List api_Vote} (h : OkV vs) (v : api_Vote) (hn : mfind (Lv vs) (placeOf v) = none) (h1 : 1 ≤ v.From ∧ v.From ≤ 63) (h2 : 0 ≤ v.Round) : OkV (vs ++ [v]) := by
  have hk : placeOf v ∉ vs.map placeOf := by
    rw [mfind_none] at hn
    intro hx
    apply hn
    simp only [Lv, List.map_map]
    simpa using hx
  refine ⟨?_, ?_, ?_⟩
  · rw [List.map_append, List.nodup_append]
    refine ⟨h.nodup, by simp, ?_⟩
    intro a ha b hb
    simp only [List.map_cons, List.map_nil, List.mem_singleton] at hb
    subst hb
    exact fun e => hk (by rw [← e]; exact ha)
  · intro x hx
    simp only [List.mem_append, List.mem_singleton] at hx
    rcases hx with hx | rfl
    · exact h.from_ x hx
    · exact h1
  · intro x hx
    simp only [List.mem_append, List.mem_singleton] at hx
    rcases hx with hx | rfl
    · exact h.round x hx
    · exact h2
/-- of each place there is one -/
theorem filter_place : ∀ (vs : List api_Vote) (pl : vote_place) (f : api_Vote → Bool), (vs.map placeOf).Nodup →
    (vs.filter fun v => decide (placeOf v = pl) && f v) = match vs.find? fun v => decide (pl = placeOf v) with
      | some v => if f v then [v] else []
      | none => []
  | [], _, _, _ => rfl
  | v :: vs, pl, f, h => by
    simp only [List.map_cons, List.nodup_cons] at h
    have ih := filter_place vs pl f h.2
    by_cases hc : placeOf v = pl
    · have hno : (vs.filter fun v => decide (placeOf v = pl) && f v) = [] := by
        rw [List.filter_eq_nil_iff]
        intro x hx
        have : placeOf x ≠ pl := fun e => h.1 (by rw [hc, ← e]; exact List.mem_map.2 ⟨x, hx, rfl⟩)
        simp [this]
      simp only [List.filter_cons, hc, decide_true, Bool.true_and, hno, List.find?_cons]
    · have hc' : ¬ pl = placeOf v := fun e => hc e.symm
      simp only [List.filter_cons, hc, decide_false, Bool.false_and, Bool.false_eq_true, if_false, List.find?_cons, hc']
      exact ih
theorem for_eq (vs : List api_Vote) (hv : OkV vs) (kind round : Int) (d : Dig) (n : Nat) : forF (Lv vs) kind round d n = refFor vs kind round d n := by
  unfold forF refFor
  rw [List.flatMap_def, List.flatMap_def]
  congr 1
  apply List.map_congr_left
  intro i _
  unfold pick1 refPick
  rw [Lv_find]
  have h := filter_place vs ⟨kind, round, ((i + 1 : Nat) : Int)⟩ (fun v => decide (v.Digest = d)) hv.nodup
  have e : (vs.filter fun v => (((v.Kind == kind) && (v.Round == round)) && (decide (v.Digest = d))) && (v.From == ((i + 1 : Nat) : Int))) = vs.filter fun v => decide (placeOf v = ⟨kind, round, ((i + 1 : Nat) : Int)⟩) && decide (v.Digest = d) := by
    apply List.filter_congr
    intro v _
    rw [Bool.eq_iff_iff]
    simp only [Bool.and_eq_true, beq_iff_eq, decide_eq_true_eq, placeOf, vote_place.mk.injEq]
    constructor
    · rintro ⟨⟨⟨a, b⟩, c⟩, e⟩; exact ⟨⟨a, b, e⟩, c⟩
    · rintro ⟨⟨a, b, e⟩, c⟩; exact ⟨⟨⟨a, b⟩, c⟩, e⟩
  rw [e, h]
  cases vs.find? fun v => decide ((⟨kind, round, ((i + 1 : Nat) : Int)⟩ : vote_place) = placeOf v) with
  | none => rfl
  | some v => simp
/-- how many: members apart, all together -/
theorem sum_filter (vs : List api_Vote) (f : api_Vote → Bool) (g : api_Vote → Int) : ∀ n : Nat, ((List.range n).flatMap fun i : Nat => vs.filter fun v => f v && (g v == ((i + 1 : Nat) : Int))).length = (vs.filter fun v => f v && (decide (1 ≤ g v) && decide (g v ≤ (n : Int)))).length
  | 0 => by
    simp only [List.range_zero, List.flatMap_nil, List.length_nil]
    symm
    rw [List.length_eq_zero_iff, List.filter_eq_nil_iff]
    intro v _
    simp only [Bool.and_eq_true, decide_eq_true_eq, not_and]
    intro _ h1 h2; omega
  | n + 1 => by
    rw [List.range_succ, List.flatMap_append, List.length_append, sum_filter vs f g n]
    simp only [List.flatMap_cons, List.flatMap_nil, List.append_nil]
    rw [← List.countP_eq_length_filter, ← List.countP_eq_length_filter, ← List.countP_eq_length_filter]
    clear sum_filter
    induction vs with
    | nil => rfl
    | cons v vs ih =>
      simp only [List.countP_cons]
      have : (if (f v && (decide (1 ≤ g v) && decide (g v ≤ ((n + 1 : Nat) : Int)))) = true then 1 else 0) = (if (f v && (decide (1 ≤ g v) && decide (g v ≤ (n : Int)))) = true then 1 else 0) + (if (f v && (g v == ((n + 1 : Nat) : Int))) = true then 1 else 0) := by
        have key : ∀ (a b c e x : Bool), a = decide (1 ≤ g v) → b = decide (g v ≤ (n : Int)) → c = decide (g v ≤ ((n + 1 : Nat) : Int)) → e = (g v == ((n + 1 : Nat) : Int)) → (if (x && (a && c)) = true then 1 else 0) = (if (x && (a && b)) = true then 1 else 0) + (if (x && e) = true then 1 else 0) := by
          intro a b c e x ha hb hc he
          have : (a = true ↔ 1 ≤ g v) ∧ (b = true ↔ g v ≤ (n : Int)) ∧ (c = true ↔ g v ≤ ((n + 1 : Nat) : Int)) ∧ (e = true ↔ g v = ((n + 1 : Nat) : Int)) := by
            subst ha; subst hb; subst hc; subst he
            simp
          obtain ⟨ia, ib, ic, ie⟩ := this
          clear ha hb hc he
          cases a <;> cases b <;> cases c <;> cases e <;> cases x <;> simp at ia ib ic ie ⊢ <;> omega
        exact key _ _ _ _ (f v) rfl rfl rfl rfl
      omega
def rcount (vs : List api_Vote) (kind round : Int) (d : Dig) : Nat := (vs.filter fun v => ((v.Kind == kind) && (v.Round == round)) && (decide (v.Digest = d))).length
theorem refFor_count (vs : List api_Vote) (hv : OkV vs) (kind round : Int) (d : Dig) : (refFor vs kind round d 63).length = rcount vs kind round d := by
  have h := sum_filter vs (fun v => ((v.Kind == kind) && (v.Round == round)) && (decide (v.Digest = d))) (·.From) 63
  unfold refFor refPick
  rw [h]
  unfold rcount
  congr 1
  apply List.filter_congr
  intro v hx
  have := hv.from_ v hx
  have h1 : decide (1 ≤ v.From) = true := by simpa using this.1
  have h2 : decide (v.From ≤ ((63 : Nat) : Int)) = true := by simpa using this.2
  rw [h1, h2]; simp
theorem cnt_eq (vs : List api_Vote) (kind round : Int) (d : Dig) (hd : d ≠ dz) : cntF (Lv vs) kind ⟨round, d⟩ = rcount vs kind round d := by
  unfold cntF rcount Lv
  rw [List.filter_map, List.length_map]
  congr 1
  apply List.filter_congr
  intro v _
  rw [Bool.eq_iff_iff]
  by_cases h1 : v.Kind = kind <;> by_cases h2 : v.Round = round <;> by_cases h3 : v.Digest = d <;> simp [chq, placeOf, h1, h2, h3, hd]
/-- the greatest of what is asked for -/
theorem fold_max (P : api_Vote → Bool) (f : api_Vote → Int) (step : Int → api_Vote → Int) (hs : ∀ b v, step b v = if P v = true ∧ b < f v then f v else b) : ∀ (vs : List api_Vote) (b : Int),
    b ≤ vs.foldl step b ∧ (vs.foldl step b = b ∨ ∃ v ∈ vs, P v = true ∧ f v = vs.foldl step b) ∧ ∀ v ∈ vs, P v = true → f v ≤ vs.foldl step b
  | [], b => by simp
  | v :: vs, b => by
    simp only [List.foldl_cons]
    obtain ⟨h1, h2, h3⟩ := fold_max P f step hs vs (step b v)
    rw [hs] at h1 h2 h3 ⊢
    by_cases hc : P v = true ∧ b < f v
    · rw [if_pos hc] at h1 h2 h3 ⊢
      refine ⟨by omega, .inr ?_, ?_⟩
      · rcases h2 with h2 | ⟨x, hx, h4, h5⟩
        · exact ⟨v, by simp, hc.1, h2.symm⟩
        · exact ⟨x, by simp [hx], h4, h5⟩
      · intro x hx hp
        rcases List.mem_cons.1 hx with rfl | hx
        · exact h1
        · exact h3 x hx hp
    · rw [if_neg hc] at h1 h2 h3 ⊢
      refine ⟨h1, ?_, ?_⟩
      · rcases h2 with h2 | ⟨x, hx, h4, h5⟩
        · exact .inl h2
        · exact .inr ⟨x, by simp [hx], h4, h5⟩
      · intro x hx hp
        rcases List.mem_cons.1 hx with rfl | hx
        · have : ¬ b < f x := fun h => hc ⟨hp, h⟩
          omega
        · exact h3 x hx hp
end Go.Proofs.YtimmoekliphobaaDoor

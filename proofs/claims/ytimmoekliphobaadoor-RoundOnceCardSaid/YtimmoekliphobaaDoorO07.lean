/-
  THE CARD OF wapentakelaw19.RoundOnce: for every input that the row lets in, RoundOnce returns true and its arguments read as they did. Part 7 of 14. No condition stands ahead of the statement. Parts of this text were printed by a program of ours.
-/
import Derived.Test.YtimmoekliphobaaDoorO06
set_option linter.all false
namespace Go.Proofs.YtimmoekliphobaaDoor
open Go Go.Sh
open Go.Sh.Ty (reg)
set_option linter.unusedVariables false
set_option maxRecDepth 100000
set_option maxHeartbeats 4000000
theorem round_Core_moves.ok (c : Pt) (k : Bool → H → Prop) (h : H) (hh : round_Core_moves.b c k h) : CallsH Prog 91 [reg c].toArray h fun v h' => ∃ r : Bool, v = reg r ∧ k r h' := by
  unfold round_Core_moves.b at hh
  refine CallsH.of 206 Tryd.func91 rfl Tryd.ntmps91 rfl (fun w0 => ?_)
  refine CW.seq ?_
  refine CW.region ?_
  refine .val (v_assign (v := reg (false : Bool)) rfl) rfl ?_
  refine .nil ?_
  refine QN.then_ ?_
  refine CW.join (fun ρ h => ∃ (ρ' : Env) (d_1 : Addr) (r : Int) (is : Bool), ρ = setl ρ' [(0, reg (c : Pt)), (3, .pointer (some d_1)), (4, reg (r : Int)), (5, reg (is : Bool))] ∧ (round_Core_moves.j1 k) c d_1 r is h) ?_ ?_
  · refine CW.drawN 18 rfl follows_mixed [0, 1, 2, 3, 4, 5, 6, 7, 10, 11, 12, 13, 16, 17] ?_
    refine .p 0 rfl (by kernel_rfl) (NoPanic.then_ (NoPanic.body)) (fun _ => v_move (v := reg (c : Pt)) rfl) ?_
    obtain ⟨p, hp, hh⟩ := hh
    refine .p 1 rfl (by kernel_rfl) (NoPanic.then_ (NoPanic.body)) (fun _ => v_nilCheck (congrArg Value.pointer hp)) ?_
    refine .p 2 rfl (by kernel_rfl) (NoPanic.then_ (NoPanic.body)) (fun _ => v_fieldAddr fl_140_10 rfl) ?_
    obtain ⟨t18, ⟨xt18, hxt18, hgt18⟩, hh⟩ := hh
    refine .r 3 (fun h' => ∃ x : round_Core, AtH h' p (enc x) ∧ ((fun (x : round_Core) => x.box) : round_Core → Pt) x = t18) rfl (by kernel_rfl) (NoPanic.then_ (NoPanic.body)) ⟨xt18, hxt18, hgt18⟩ (fun h' hS => hS.elim fun _ hS => v_ld1 (p := p) 209 na_26 rfl hS.1 hS.2 get_140_box) ?_
    refine .p 4 rfl (by kernel_rfl) (NoPanic.then_ (NoPanic.body)) (fun _ => v_move (v := reg (c : Pt)) rfl) ?_
    refine .p 5 rfl (by kernel_rfl) (NoPanic.then_ (NoPanic.body)) (fun _ => v_nilCheck (congrArg Value.pointer hp)) ?_
    refine .p 6 rfl (by kernel_rfl) (NoPanic.then_ (NoPanic.body)) (fun _ => v_fieldAddr fl_140_0 rfl) ?_
    obtain ⟨t22, ⟨xt22, hxt22, hgt22⟩, hh⟩ := hh
    refine .r 7 (fun h' => ∃ x : round_Core, AtH h' p (enc x) ∧ ((fun (x : round_Core) => x.config) : round_Core → api_Config) x = t22) rfl (by kernel_rfl) (NoPanic.then_ (NoPanic.body)) ⟨xt22, hxt22, hgt22⟩ (fun h' hS => hS.elim fun _ hS => v_ldA (p := p) 0 ag_54 rfl hS.1 hS.2 get_140_config (fun _ => (len_api_Config _)) (fun _ => rfl)) ?_
    refine .w2 8 14 (by kernel_rfl) rfl rfl (by kernel_rfl) (by kernel_rfl) ?_ ?_
    · have hh := hh.1
      refine .e (e_callP fn_114 rfl rfl hh ?_)
      intro h t23 hh
      obtain ⟨hc, hh⟩ := hh
      refine ⟨⟨⟨trivial, .inr hc⟩, .inl (by kernel_rfl)⟩, ?_⟩
      refine .w2 9 14 (by kernel_rfl) rfl rfl (by kernel_rfl) (by kernel_rfl) ?_ ?_
      · have hh := hh.1
        refine .e (e_callP fn_22 rfl rfl hh ?_)
        intro h t24 hh
        refine ⟨⟨⟨trivial, .inl (by kernel_rfl)⟩, .inl (by kernel_rfl)⟩, ?_⟩
        refine .p 10 rfl (by kernel_rfl) (NoPanic.then_ (NoPanic.body)) (fun _ => v_move (v := reg (t24 : T3 (Arr 32 UInt8) Int Bool)) rfl) ?_
        refine .p 11 rfl (by kernel_rfl) (NoPanic.then_ (NoPanic.body)) (fun _ => v_extract (v := reg (t24.a : Arr 32 UInt8)) rfl rfl) ?_
        refine .p 12 rfl (by kernel_rfl) (NoPanic.then_ (NoPanic.body)) (fun _ => v_extract (v := reg (t24.b : Int)) rfl rfl) ?_
        refine .p 13 rfl (by kernel_rfl) (NoPanic.then_ (NoPanic.body)) (fun _ => v_extract (v := reg (t24.c : Bool)) rfl rfl) ?_
        refine box_elim hh (fun d hd hh => ?_)
        refine .w 14 (by kernel_rfl) rfl (by kernel_rfl) (.e (e_allocP hd zo_24 rfl ?_))
        obtain ⟨hc_1, hh⟩ := hh
        obtain ⟨hc_2, hh⟩ := hh
        refine ⟨⟨⟨trivial, .inr hc_1⟩, .inr hc_2⟩, ?_⟩
        obtain ⟨xw, hxw, hwxw, hh⟩ := hh
        refine .w 15 (by kernel_rfl) rfl (by kernel_rfl) (.e (e_storeN (p := d) (nv := enc (t24.a : Arr 32 UInt8)) 0 rfl rfl rfl sz_24 (one_arr (n := 32) (fun _ => rfl) _) hxw hwxw (arr_len (n := 32) _) (arr_len (n := 32) _) rfl (set_24_all xw (t24.a : Arr 32 UInt8)) ?_))
        refine ⟨⟨⟨trivial, .inl (by kernel_rfl)⟩, .inl (by kernel_rfl)⟩, ?_⟩
        refine .p 16 rfl (by kernel_rfl) (NoPanic.then_ (NoPanic.body)) (fun _ => v_assign (v := reg (t24.b : Int)) rfl) ?_
        refine .p 17 rfl (by kernel_rfl) (NoPanic.then_ (NoPanic.body)) (fun _ => v_assign (v := reg (t24.c : Bool)) rfl) ?_
        refine .done (by kernel_rfl) ?_
        exact QN.thenJ ⟨_, d, t24.b, t24.c, setl_eq ⟨rfl, ⟨rfl, ⟨rfl, ⟨rfl, trivial⟩⟩⟩⟩, hh⟩
      · have hh := hh.2
        refine box_elim hh (fun d_2 hd_2 hh => ?_)
        refine .e (e_allocP hd_2 zo_24 rfl ?_)
        obtain ⟨hc_3, hh⟩ := hh
        obtain ⟨hc_4, hh⟩ := hh
        refine ⟨⟨⟨trivial, .inr hc_3⟩, .inr hc_4⟩, ?_⟩
        refine .w 9 (by kernel_rfl) rfl (by kernel_rfl) (.e (e_callP fn_22 rfl rfl hh ?_))
        intro h t24_1 hh
        refine ⟨⟨⟨trivial, .inl (by kernel_rfl)⟩, .inl (by kernel_rfl)⟩, ?_⟩
        refine .p 10 rfl (by kernel_rfl) (NoPanic.then_ (NoPanic.body)) (fun _ => v_move (v := reg (t24_1 : T3 (Arr 32 UInt8) Int Bool)) rfl) ?_
        refine .p 11 rfl (by kernel_rfl) (NoPanic.then_ (NoPanic.body)) (fun _ => v_extract (v := reg (t24_1.a : Arr 32 UInt8)) rfl rfl) ?_
        refine .p 12 rfl (by kernel_rfl) (NoPanic.then_ (NoPanic.body)) (fun _ => v_extract (v := reg (t24_1.b : Int)) rfl rfl) ?_
        refine .p 13 rfl (by kernel_rfl) (NoPanic.then_ (NoPanic.body)) (fun _ => v_extract (v := reg (t24_1.c : Bool)) rfl rfl) ?_
        obtain ⟨xw_1, hxw_1, hwxw_1, hh⟩ := hh
        refine .w 15 (by kernel_rfl) rfl (by kernel_rfl) (.e (e_storeN (p := d_2) (nv := enc (t24_1.a : Arr 32 UInt8)) 0 rfl rfl rfl sz_24 (one_arr (n := 32) (fun _ => rfl) _) hxw_1 hwxw_1 (arr_len (n := 32) _) (arr_len (n := 32) _) rfl (set_24_all xw_1 (t24_1.a : Arr 32 UInt8)) ?_))
        refine ⟨⟨⟨trivial, .inl (by kernel_rfl)⟩, .inl (by kernel_rfl)⟩, ?_⟩
        refine .p 16 rfl (by kernel_rfl) (NoPanic.then_ (NoPanic.body)) (fun _ => v_assign (v := reg (t24_1.b : Int)) rfl) ?_
        refine .p 17 rfl (by kernel_rfl) (NoPanic.then_ (NoPanic.body)) (fun _ => v_assign (v := reg (t24_1.c : Bool)) rfl) ?_
        refine .done (by kernel_rfl) ?_
        exact QN.thenJ ⟨_, d_2, t24_1.b, t24_1.c, setl_eq ⟨rfl, ⟨rfl, ⟨rfl, ⟨rfl, trivial⟩⟩⟩⟩, hh⟩
    · have hh := hh.2
      refine box_elim hh (fun d_3 hd_3 hh => ?_)
      refine .e (e_allocP hd_3 zo_24 rfl ?_)
      obtain ⟨hc_5, hh⟩ := hh
      obtain ⟨hc_6, hh⟩ := hh
      refine ⟨⟨⟨trivial, .inr hc_5⟩, .inr hc_6⟩, ?_⟩
      refine .w 8 (by kernel_rfl) rfl (by kernel_rfl) (.e (e_callP fn_114 rfl rfl hh ?_))
      intro h t23_1 hh
      obtain ⟨hc_7, hh⟩ := hh
      refine ⟨⟨⟨trivial, .inr hc_7⟩, .inl (by kernel_rfl)⟩, ?_⟩
      refine .w 9 (by kernel_rfl) rfl (by kernel_rfl) (.e (e_callP fn_22 rfl rfl hh ?_))
      intro h t24_2 hh
      refine ⟨⟨⟨trivial, .inl (by kernel_rfl)⟩, .inl (by kernel_rfl)⟩, ?_⟩
      refine .p 10 rfl (by kernel_rfl) (NoPanic.then_ (NoPanic.body)) (fun _ => v_move (v := reg (t24_2 : T3 (Arr 32 UInt8) Int Bool)) rfl) ?_
      refine .p 11 rfl (by kernel_rfl) (NoPanic.then_ (NoPanic.body)) (fun _ => v_extract (v := reg (t24_2.a : Arr 32 UInt8)) rfl rfl) ?_
      refine .p 12 rfl (by kernel_rfl) (NoPanic.then_ (NoPanic.body)) (fun _ => v_extract (v := reg (t24_2.b : Int)) rfl rfl) ?_
      refine .p 13 rfl (by kernel_rfl) (NoPanic.then_ (NoPanic.body)) (fun _ => v_extract (v := reg (t24_2.c : Bool)) rfl rfl) ?_
      obtain ⟨xw_2, hxw_2, hwxw_2, hh⟩ := hh
      refine .w 15 (by kernel_rfl) rfl (by kernel_rfl) (.e (e_storeN (p := d_3) (nv := enc (t24_2.a : Arr 32 UInt8)) 0 rfl rfl rfl sz_24 (one_arr (n := 32) (fun _ => rfl) _) hxw_2 hwxw_2 (arr_len (n := 32) _) (arr_len (n := 32) _) rfl (set_24_all xw_2 (t24_2.a : Arr 32 UInt8)) ?_))
      refine ⟨⟨⟨trivial, .inl (by kernel_rfl)⟩, .inl (by kernel_rfl)⟩, ?_⟩
      refine .p 16 rfl (by kernel_rfl) (NoPanic.then_ (NoPanic.body)) (fun _ => v_assign (v := reg (t24_2.b : Int)) rfl) ?_
      refine .p 17 rfl (by kernel_rfl) (NoPanic.then_ (NoPanic.body)) (fun _ => v_assign (v := reg (t24_2.c : Bool)) rfl) ?_
      refine .done (by kernel_rfl) ?_
      exact QN.thenJ ⟨_, d_3, t24_2.b, t24_2.c, setl_eq ⟨rfl, ⟨rfl, ⟨rfl, ⟨rfl, trivial⟩⟩⟩⟩, hh⟩
  · rintro ρ h ⟨ρ', d_1, r, is, rfl, hh⟩
    unfold round_Core_moves.j1 at hh
    refine CW.seq ?_
    refine CW.drawN 12 rfl follows_mixed [0, 1, 2, 3, 4, 5, 6, 7, 8, 11] ?_
    refine .p 0 rfl (by kernel_rfl) (NoPanic.then_ (NoPanic.body)) (fun _ => v_move (v := reg (c : Pt)) rfl) ?_
    obtain ⟨p_1, hp_1, hh⟩ := hh
    refine .p 1 rfl (by kernel_rfl) (NoPanic.then_ (NoPanic.body)) (fun _ => v_nilCheck (congrArg Value.pointer hp_1)) ?_
    refine .p 2 rfl (by kernel_rfl) (NoPanic.then_ (NoPanic.body)) (fun _ => v_fieldAddr fl_140_9 rfl) ?_
    obtain ⟨t32, ⟨xt32, hxt32, hgt32⟩, hh⟩ := hh
    refine .r 3 (fun h' => ∃ x : round_Core, AtH h' p_1 (enc x) ∧ ((fun (x : round_Core) => x.blocks) : round_Core → Mp) x = t32) rfl (by kernel_rfl) (NoPanic.then_ (NoPanic.body)) ⟨xt32, hxt32, hgt32⟩ (fun h' hS => hS.elim fun _ hS => v_ld1 (p := p_1) 208 na_138 rfl hS.1 hS.2 get_140_blocks) ?_
    obtain ⟨t33, ⟨xt33, hxt33, hgt33⟩, hh⟩ := hh
    refine .r 4 (fun h' => ∃ x : Arr 32 UInt8, AtH h' d_1 (enc x) ∧ ((fun (x : Arr 32 UInt8) => x) : Arr 32 UInt8 → Arr 32 UInt8) x = t33) rfl (by kernel_rfl) (NoPanic.then_ (NoPanic.body)) ⟨xt33, hxt33, hgt33⟩ (fun h' hS => hS.elim fun _ hS => v_ldA (p := d_1) 0 ag_24 rfl hS.1 hS.2 get_24_all (fun _ => (arr_len (n := 32) _)) (fun _ => rfl)) ?_
    obtain ⟨t34, ⟨xt34, hxt34, hgt34⟩, hh⟩ := hh
    refine .r 5 (fun h' => ∃ l : List ((Arr 32 UInt8) × api_Block), MapIs h' t32 l ∧ (fun (l : List ((Arr 32 UInt8) × api_Block)) => mlook (api_Block.zero : api_Block) l (t33 : Arr 32 UInt8)) l = t34) rfl (by kernel_rfl) (NoPanic.then_ (NoPanic.body)) ⟨xt34, hxt34, hgt34⟩ (fun h' hS => hS.elim fun _ hS => v_lookupOk mt_138 kt_24 zv_75 rfl rfl hS.1 hS.2) ?_
    refine .p 6 rfl (by kernel_rfl) (NoPanic.then_ (NoPanic.body)) (fun _ => v_move (v := reg (t34 : T2 api_Block Bool)) rfl) ?_
    refine .p 7 rfl (by kernel_rfl) (NoPanic.then_ (NoPanic.body)) (fun _ => v_extract (v := reg (t34.a : api_Block)) rfl rfl) ?_
    refine .p 8 rfl (by kernel_rfl) (NoPanic.then_ (NoPanic.body)) (fun _ => v_extract (v := reg (t34.b : Bool)) rfl rfl) ?_
    refine box_elim hh (fun b hb hh => ?_)
    refine .w 9 (by kernel_rfl) rfl (by kernel_rfl) (.e (e_allocP hb zo_75 rfl ?_))
    obtain ⟨hc_8, hh⟩ := hh
    obtain ⟨hc_9, hh⟩ := hh
    obtain ⟨hc_10, hh⟩ := hh
    refine ⟨⟨⟨⟨trivial, .inr hc_8⟩, .inr hc_9⟩, .inr hc_10⟩, ?_⟩
    obtain ⟨xw_3, hxw_3, hwxw_3, hh⟩ := hh
    refine .w 10 (by kernel_rfl) rfl (by kernel_rfl) (.e (e_storeN (p := b) (nv := enc (t34.a : api_Block)) 0 rfl rfl rfl sz_75 (one_api_Block _) hxw_3 hwxw_3 (len_api_Block _) (len_api_Block _) rfl (set_75_all xw_3 (t34.a : api_Block)) ?_))
    refine ⟨⟨⟨⟨trivial, .inl (by kernel_rfl)⟩, .inl (by kernel_rfl)⟩, .inl (by kernel_rfl)⟩, ?_⟩
    refine .p 11 rfl (by kernel_rfl) (NoPanic.then_ (NoPanic.body)) (fun _ => v_assign (v := reg (t34.b : Bool)) rfl) ?_
    refine .done (by kernel_rfl) ?_
    refine QN.then_ ?_
    refine CW.seq ?_
    refine CW.region ?_
    refine .val (v_move (v := reg (c : Pt)) rfl) rfl ?_
    refine .val (v_nilCheck (congrArg Value.pointer hp_1)) rfl ?_
    refine .val (v_fieldAddr fl_140_3 rfl) rfl ?_
    obtain ⟨t40, ⟨xt40, hxt40, hgt40⟩, hh⟩ := hh
    refine .val (v_ld1 (p := p_1) 4 na_65 rfl hxt40 hgt40 get_140_at) rfl ?_
    refine .e (e_callP fn_65 rfl rfl hh ?_)
    intro h t41 hh
    refine .val (v_assign (v := reg (t41 : Int)) rfl) rfl ?_
    refine .nil ?_
    refine QN.then_ ?_
    refine CW.seq ?_
    refine CW.region ?_
    refine .val (v_move (v := reg (c : Pt)) rfl) rfl ?_
    refine .val (v_nilCheck (congrArg Value.pointer hp_1)) rfl ?_
    refine .val (v_fieldAddr fl_140_8 rfl) rfl ?_
    obtain ⟨t46, ⟨xt46, hxt46, hgt46⟩, hh⟩ := hh
    refine .val (v_ld1 (p := p_1) 207 na_137 rfl hxt46 hgt46 get_140_plans) rfl ?_
    refine .val (v_move (v := reg (t41 : Int)) rfl) rfl ?_
    obtain ⟨t48, ⟨xt48, hxt48, hgt48⟩, hh⟩ := hh
    refine .val (v_lookupOk mt_137 kt_3 zv_77 rfl rfl hxt48 hgt48) rfl ?_
    refine .val (v_move (v := reg (t48 : T2 api_Plan Bool)) rfl) rfl ?_
    refine .val (v_extract (v := reg (t48.a : api_Plan)) rfl rfl) rfl ?_
    refine .val (v_extract (v := reg (t48.b : Bool)) rfl rfl) rfl ?_
    refine box_elim hh (fun p_2 hp_2 hh => ?_)
    refine .e (e_allocP hp_2 zo_77 rfl ?_)
    obtain ⟨xw_4, hxw_4, hwxw_4, hh⟩ := hh
    refine .e (e_storeN (p := p_2) (nv := enc (t48.a : api_Plan)) 0 rfl rfl rfl sz_77 (one_api_Plan _) hxw_4 hwxw_4 (len_api_Plan _) (len_api_Plan _) rfl (set_77_all xw_4 (t48.a : api_Plan)) ?_)
    refine .val (v_assign (v := reg (t48.b : Bool)) rfl) rfl ?_
    refine .nil ?_
    refine QN.then_ ?_
    refine CW.join (fun ρ h => ∃ (ρ' : Env), ρ = setl ρ' [(0, reg (c : Pt))] ∧ (round_Core_moves.j2 k) c h) ?_ ?_
    · refine CW.seq ?_
      refine CW.region ?_
      refine .val (v_move (v := reg (c : Pt)) rfl) rfl ?_
      refine .e (e_callP fn_115 rfl rfl hh ?_)
      intro h t52 hh
      refine .val (v_assign (v := reg (t52 : Int)) rfl) rfl ?_
      refine .nil ?_
      refine QN.then_ ?_
      refine CW.block ?_
      refine CW.seq ?_
      refine CW.region ?_
      refine .val (v_move (v := reg (is : Bool)) rfl) rfl ?_
      refine .val (v_move (v := reg (is : Bool)) rfl) rfl ?_
      refine .tv 55 rfl rfl rfl (fun hb => v_move (v := reg (t34.b : Bool)) rfl) rfl ?_
      refine .val (v_pick_and rfl (fun hb => gt hb) rfl) rfl ?_
      refine .val (v_assign (v := reg ((is && t34.b) : Bool)) rfl) rfl ?_
      refine .nil ?_
      refine QN.then_ ?_
      refine CW.cond (is && t34.b) rfl (fun hb => ?_) (fun hb => ?_)
      · have hh := hh.1 hb
        refine CW.seq ?_
        refine CW.region ?_
        refine .val (v_move (v := reg (c : Pt)) rfl) rfl ?_
        refine .val (v_nilCheck (congrArg Value.pointer hp_1)) rfl ?_
        refine .val (v_fieldAddr fl_140_12 rfl) rfl ?_
        obtain ⟨xw_5, hxw_5, hwxw_5, hh⟩ := hh
        refine .e (e_storeN (p := p_1) (nv := enc (true : Bool)) 211 rfl rfl rfl sz_4 (one_b _) hxw_5 hwxw_5 (len_round_Core _) (len_b _) rfl (set_140_decided xw_5 (true : Bool)) ?_)
        refine .nil ?_
        refine QN.then_ ?_
        refine CW.region ?_
        refine .val (v_move (v := reg (c : Pt)) rfl) rfl ?_
        refine .val (v_move (v := reg (r : Int)) rfl) rfl ?_
        obtain ⟨t63, ⟨xt63, hxt63, hgt63⟩, hh⟩ := hh
        refine .val (v_ldA (p := d_1) 0 ag_24 rfl hxt63 hgt63 get_24_all (fun _ => (arr_len (n := 32) _)) (fun _ => rfl)) rfl ?_
        obtain ⟨t64, ⟨xt64, hxt64, hgt64⟩, hh⟩ := hh
        refine .val (v_ldA (p := b) 0 ag_75 rfl hxt64 hgt64 get_75_all (fun _ => (len_api_Block _)) (fun _ => rfl)) rfl ?_
        refine .val (v_buildT ({ api_Act.zero with Act := (3 : Int), Round := r, Digest := t63, Block := t64 } : api_Act) zo_80 pl_80 rfl (fill_step rfl rfl (len_i _) (len_api_Act _) rfl (set_80_Act _ _) (fill_step rfl rfl (len_i _) (len_api_Act _) rfl (set_80_Round _ _) (fill_step rfl rfl (arr_len (n := 32) _) (len_api_Act _) rfl (set_80_Digest _ _) (fill_step rfl rfl (len_api_Block _) (len_api_Act _) rfl (set_80_Block _ _) (rfl))))) rfl) rfl ?_
        refine .e (e_callP fn_90 rfl rfl hh ?_)
        intro h t66 hh
        refine .nil ?_
        refine QN.blockN ?_
        exact QN.thenJ ⟨_, setl_eq ⟨rfl, trivial⟩, hh⟩
      · have hh := hh.2 hb
        refine CW.seq ?_
        refine CW.region ?_
        refine .val (v_move (v := reg (t52 : Int)) rfl) rfl ?_
        refine .val (v_igeq rfl rfl) rfl ?_
        refine .val (v_assign (v := reg ((decide ((0 : Int) ≤ t52)) : Bool)) rfl) rfl ?_
        refine .nil ?_
        refine QN.then_ ?_
        refine CW.cond (decide ((0 : Int) ≤ t52)) rfl (fun hb_1 => ?_) (fun hb_1 => ?_)
        · have hh := hh.1 hb_1
          refine CW.region ?_
          refine .val (v_move (v := reg (c : Pt)) rfl) rfl ?_
          refine .val (v_move (v := reg (t52 : Int)) rfl) rfl ?_
          refine .e (e_callP fn_57 rfl rfl hh ?_)
          intro h t72 hh
          refine .nil ?_
          refine QN.blockN ?_
          exact QN.thenJ ⟨_, setl_eq ⟨rfl, trivial⟩, hh⟩
        · have hh := hh.2 hb_1
          refine CW.join (fun ρ h => ∃ (ρ' : Env) (t73 : Bool), ρ = setl ρ' [(0, reg (c : Pt)), (8, reg (t41 : Int)), (9, .pointer (some p_2)), (10, reg (t48.b : Bool)), (73, reg (t73 : Bool))] ∧ (round_Core_moves.j3 (round_Core_moves.j2 k) k) c t41 p_2 t48.b t73 h) ?_ ?_
          · refine CW.region ?_
            refine .val (v_move (v := reg (c : Pt)) rfl) rfl ?_
            refine .val (v_nilCheck (congrArg Value.pointer hp_1)) rfl ?_
            refine .val (v_fieldAddr fl_140_4 rfl) rfl ?_
            obtain ⟨t77, ⟨xt77, hxt77, hgt77⟩, hh⟩ := hh
            refine .val (v_ld1 (p := p_1) 5 na_3 rfl hxt77 hgt77 get_140_step) rfl ?_
            refine .val (v_ieql rfl rfl) rfl ?_
            refine .val (v_move (v := reg ((t77 == (0 : Int)) : Bool)) rfl) rfl ?_
            refine ifb_cases hh (fun hb_2 hh => ?_) (fun hb_2 hh => ?_)
            · refine .yv 79 rfl (congrArg Value.bool hb_2) rfl (v_move (v := reg (c : Pt)) rfl) rfl ?_
              refine .yv 79 rfl (congrArg Value.bool hb_2) rfl (v_nilCheck (congrArg Value.pointer hp_1)) rfl ?_
              refine .yv 79 rfl (congrArg Value.bool hb_2) rfl (v_fieldAddr fl_140_8 rfl) rfl ?_
              obtain ⟨t83, ⟨xt83, hxt83, hgt83⟩, hh⟩ := hh
              refine .yv 79 rfl (congrArg Value.bool hb_2) rfl (v_ld1 (p := p_1) 207 na_137 rfl hxt83 hgt83 get_140_plans) rfl ?_
              obtain ⟨t84, ⟨xt84, hxt84, hgt84⟩, hh⟩ := hh
              refine .yv 79 rfl (congrArg Value.bool hb_2) rfl (v_lenm mt_137 rfl hxt84 hgt84) rfl ?_
              refine .yv 79 rfl (congrArg Value.bool hb_2) rfl (v_igtr rfl rfl) rfl ?_
              refine .yv 79 rfl (congrArg Value.bool hb_2) rfl (v_move (v := reg ((decide ((0 : Int) < t84)) : Bool)) rfl) rfl ?_
              refine ifb_cases hh (fun hb_3 hh => ?_) (fun hb_3 hh => ?_)
              · refine .no 86 rfl (congrArg Value.bool hb_3) rfl rfl ?_
                refine .no 86 rfl (congrArg Value.bool hb_3) rfl rfl ?_
                refine .no 86 rfl (congrArg Value.bool hb_3) rfl rfl ?_
                refine .no 86 rfl (congrArg Value.bool hb_3) rfl rfl ?_
                refine .no 86 rfl (congrArg Value.bool hb_3) rfl rfl ?_
                refine .no 86 rfl (congrArg Value.bool hb_3) rfl rfl ?_
                refine .yv 79 rfl (congrArg Value.bool hb_2) rfl (v_pickT (v := reg (true : Bool)) rfl hb_3 rfl) rfl ?_
                refine .val (v_pickT (v := reg (true : Bool)) rfl hb_2 rfl) rfl ?_
                refine .val (v_assign (v := reg (true : Bool)) rfl) rfl ?_
                refine .nil ?_
                exact QN.thenJ ⟨_, true, setl_eq ⟨rfl, ⟨rfl, ⟨rfl, ⟨rfl, ⟨rfl, trivial⟩⟩⟩⟩⟩, hh⟩
              · refine .yv 86 rfl (congrArg Value.bool hb_3) rfl (v_move (v := reg (c : Pt)) rfl) rfl ?_
                refine .yv 86 rfl (congrArg Value.bool hb_3) rfl (v_nilCheck (congrArg Value.pointer hp_1)) rfl ?_
                refine .yv 86 rfl (congrArg Value.bool hb_3) rfl (v_fieldAddr fl_140_10 rfl) rfl ?_
                obtain ⟨t90, ⟨xt90, hxt90, hgt90⟩, hh⟩ := hh
                refine .yv 86 rfl (congrArg Value.bool hb_3) rfl (v_ld1 (p := p_1) 209 na_26 rfl hxt90 hgt90 get_140_box) rfl ?_
                refine .ye 86 rfl (congrArg Value.bool hb_3) rfl (e_callP fn_17 rfl rfl hh ?_)
                intro h t91 hh
                refine .yv 86 rfl (congrArg Value.bool hb_3) rfl (v_igtr rfl rfl) rfl ?_
                refine .yv 79 rfl (congrArg Value.bool hb_2) rfl (v_pickF (v := reg ((decide ((0 : Int) < t91)) : Bool)) rfl hb_3 rfl) rfl ?_
                refine .val (v_pickT (v := reg ((decide ((0 : Int) < t91)) : Bool)) rfl hb_2 rfl) rfl ?_
                refine .val (v_assign (v := reg ((decide ((0 : Int) < t91)) : Bool)) rfl) rfl ?_
                refine .nil ?_
                exact QN.thenJ ⟨_, (decide ((0 : Int) < t91)), setl_eq ⟨rfl, ⟨rfl, ⟨rfl, ⟨rfl, ⟨rfl, trivial⟩⟩⟩⟩⟩, hh⟩
            · refine .no 79 rfl (congrArg Value.bool hb_2) rfl rfl ?_
              refine .no 79 rfl (congrArg Value.bool hb_2) rfl rfl ?_
              refine .no 79 rfl (congrArg Value.bool hb_2) rfl rfl ?_
              refine .no 79 rfl (congrArg Value.bool hb_2) rfl rfl ?_
              refine .no 79 rfl (congrArg Value.bool hb_2) rfl rfl ?_
              refine .no 79 rfl (congrArg Value.bool hb_2) rfl rfl ?_
              refine .no 79 rfl (congrArg Value.bool hb_2) rfl rfl ?_
              refine .nu 86 rfl rfl rfl rfl ?_
              refine .nu 86 rfl rfl rfl rfl ?_
              refine .nu 86 rfl rfl rfl rfl ?_
              refine .nu 86 rfl rfl rfl rfl ?_
              refine .nu 86 rfl rfl rfl rfl ?_
              refine .nu 86 rfl rfl rfl rfl ?_
              refine .no 79 rfl (congrArg Value.bool hb_2) rfl rfl ?_
              refine .val (v_pickF (v := reg (false : Bool)) rfl hb_2 rfl) rfl ?_
              refine .val (v_assign (v := reg (false : Bool)) rfl) rfl ?_
              refine .nil ?_
              exact QN.thenJ ⟨_, false, setl_eq ⟨rfl, ⟨rfl, ⟨rfl, ⟨rfl, ⟨rfl, trivial⟩⟩⟩⟩⟩, hh⟩
          · rintro ρ h ⟨ρ', t73, rfl, hh⟩
            unfold round_Core_moves.j3 at hh
            refine CW.cond t73 rfl (fun hb_4 => ?_) (fun hb_4 => ?_)
            · have hh := hh.1 hb_4
              refine CW.region ?_
              refine .val (v_move (v := reg (c : Pt)) rfl) rfl ?_
              refine .e (e_callP fn_57 rfl rfl hh ?_)
              intro h t96 hh
              refine .nil ?_
              refine QN.blockN ?_
              exact QN.thenJ ⟨_, setl_eq ⟨rfl, trivial⟩, hh⟩
            · have hh := hh.2 hb_4
              refine CW.seq ?_
              refine CW.region ?_
              refine .val (v_move (v := reg (c : Pt)) rfl) rfl ?_
              obtain ⟨p_4, hp_4, hh⟩ := hh
              refine .val (v_nilCheck (congrArg Value.pointer hp_4)) rfl ?_
              refine .val (v_fieldAddr fl_140_4 rfl) rfl ?_
              obtain ⟨t101, ⟨xt101, hxt101, hgt101⟩, hh⟩ := hh
              refine .val (v_ld1 (p := p_4) 5 na_3 rfl hxt101 hgt101 get_140_step) rfl ?_
              refine .val (v_ieql rfl rfl) rfl ?_
              refine .val (v_move (v := reg ((t101 == (1 : Int)) : Bool)) rfl) rfl ?_
              refine .tv 103 rfl rfl rfl (fun hb => v_move (v := reg (t48.b : Bool)) rfl) rfl ?_
              refine .val (v_pick_and rfl (fun hb => gt hb) rfl) rfl ?_
              refine .val (v_assign (v := reg (((t101 == (1 : Int)) && t48.b) : Bool)) rfl) rfl ?_
              refine .nil ?_
              refine QN.then_ ?_
              refine CW.cond ((t101 == (1 : Int)) && t48.b) rfl (fun hb_5 => ?_) (fun hb_5 => ?_)
              · have hh := hh.1 hb_5
                refine CW.seq ?_
                refine CW.region ?_
                refine .val (v_move (v := reg (c : Pt)) rfl) rfl ?_
                obtain ⟨t108, ⟨xt108, hxt108, hgt108⟩, hh⟩ := hh
                refine .val (v_ldA (p := p_2) 0 ag_77 rfl hxt108 hgt108 get_77_all (fun _ => (len_api_Plan _)) (fun _ => rfl)) rfl ?_
                refine .e (e_callP fn_116 rfl rfl hh ?_)
                intro h t109 hh
                refine .val (v_move (v := reg (t109 : T2 (Arr 32 UInt8) Bool)) rfl) rfl ?_
                refine .val (v_extract (v := reg (t109.a : Arr 32 UInt8)) rfl rfl) rfl ?_
                refine .val (v_extract (v := reg (t109.b : Bool)) rfl rfl) rfl ?_
                refine box_elim hh (fun d_4 hd_4 hh => ?_)
                refine .e (e_allocP hd_4 zo_24 rfl ?_)
                obtain ⟨xw_6, hxw_6, hwxw_6, hh⟩ := hh
                refine .e (e_storeN (p := d_4) (nv := enc (t109.a : Arr 32 UInt8)) 0 rfl rfl rfl sz_24 (one_arr (n := 32) (fun _ => rfl) _) hxw_6 hwxw_6 (arr_len (n := 32) _) (arr_len (n := 32) _) rfl (set_24_all xw_6 (t109.a : Arr 32 UInt8)) ?_)
                refine .val (v_assign (v := reg (t109.b : Bool)) rfl) rfl ?_
                refine .nil ?_
                refine QN.then_ ?_
                refine CW.seq ?_
                refine CW.seq ?_
                refine CW.region ?_
                refine .val (v_move (v := reg (t109.b : Bool)) rfl) rfl ?_
                refine .val (v_not rfl) rfl ?_
                refine .nil ?_
                refine QN.then_ ?_
                refine CW.cond (!t109.b) rfl (fun hb_6 => ?_) (fun hb_6 => ?_)
                · have hh := hh.1 hb_6
                  refine CW.seq ?_
                  refine CW.region ?_
                  refine .val (v_assign (v := reg (false : Bool)) rfl) rfl ?_
                  refine .nil ?_
                  refine QN.then_ ?_
                  refine CW.ret ?_
                  refine QN.thenRet ?_
                  refine QN.blockRet ?_
                  refine QN.thenRet ?_
                  exact ret1 rfl rfl ⟨(false : Bool), rfl, hh⟩
                · have hh := hh.2 hb_6
                  refine CW.skip ?_
                  refine QN.then_ ?_
                  refine CW.region ?_
                  refine .val (v_move (v := reg (c : Pt)) rfl) rfl ?_
                  obtain ⟨t115, ⟨xt115, hxt115, hgt115⟩, hh⟩ := hh
                  refine .val (v_ldA (p := d_4) 0 ag_24 rfl hxt115 hgt115 get_24_all (fun _ => (arr_len (n := 32) _)) (fun _ => rfl)) rfl ?_
                  refine .e (e_callP fn_63 rfl rfl hh ?_)
                  intro h t116 hh
                  refine .nil ?_
                  refine QN.blockN ?_
                  exact QN.thenJ ⟨_, setl_eq ⟨rfl, trivial⟩, hh⟩
              · have hh := hh.2 hb_5
                refine CW.join (fun ρ h => ∃ (ρ' : Env) (t117 : Bool), ρ = setl ρ' [(0, reg (c : Pt)), (8, reg (t41 : Int)), (9, .pointer (some p_2)), (10, reg (t48.b : Bool)), (117, reg (t117 : Bool))] ∧ (round_Core_moves.j4 (round_Core_moves.j2 k) k) c t41 p_2 t48.b t117 h) ?_ ?_
                · refine CW.region ?_
                  refine .val (v_move (v := reg (c : Pt)) rfl) rfl ?_
                  refine .val (v_nilCheck (congrArg Value.pointer hp_4)) rfl ?_
                  refine .val (v_fieldAddr fl_140_4 rfl) rfl ?_
                  obtain ⟨t121, ⟨xt121, hxt121, hgt121⟩, hh⟩ := hh
                  refine .val (v_ld1 (p := p_4) 5 na_3 rfl hxt121 hgt121 get_140_step) rfl ?_
                  refine .val (v_ieql rfl rfl) rfl ?_
                  refine .val (v_move (v := reg ((t121 == (2 : Int)) : Bool)) rfl) rfl ?_
                  refine .tv 123 rfl rfl rfl (fun hb => v_move (v := reg (t48.b : Bool)) rfl) rfl ?_
                  refine .val (v_pick_and rfl (fun hb => gt hb) rfl) rfl ?_
                  refine .val (v_move (v := reg (((t121 == (2 : Int)) && t48.b) : Bool)) rfl) rfl ?_
                  refine ifb_cases hh (fun hb_7 hh => ?_) (fun hb_7 hh => ?_)
                  · refine .yv 126 rfl (congrArg Value.bool hb_7) rfl (v_move (v := reg (c : Pt)) rfl) rfl ?_
                    refine .yv 126 rfl (congrArg Value.bool hb_7) rfl (v_move (v := reg (t41 : Int)) rfl) rfl ?_
                    refine .yv 126 rfl (congrArg Value.bool hb_7) rfl (v_fieldAddr fl_77_4 rfl) rfl ?_
                    obtain ⟨t130, ⟨xt130, hxt130, hgt130⟩, hh⟩ := hh
                    refine .yv 126 rfl (congrArg Value.bool hb_7) rfl (v_ldA (p := p_2) 4 ag_75 rfl hxt130 hgt130 get_77_Block (fun _ => (len_api_Block _)) (fun _ => rfl)) rfl ?_
                    refine .ye 126 rfl (congrArg Value.bool hb_7) rfl (e_callP fn_34 rfl rfl hh ?_)
                    intro h t131 hh
                    refine .ye 126 rfl (congrArg Value.bool hb_7) rfl (e_callP fn_117 rfl rfl hh ?_)
                    intro h t132 hh
                    refine .val (v_pickT (v := reg (t132 : Bool)) rfl hb_7 rfl) rfl ?_
                    refine .val (v_assign (v := reg (t132 : Bool)) rfl) rfl ?_
                    refine .nil ?_
                    exact QN.thenJ ⟨_, t132, setl_eq ⟨rfl, ⟨rfl, ⟨rfl, ⟨rfl, ⟨rfl, trivial⟩⟩⟩⟩⟩, hh⟩
                  · refine .no 126 rfl (congrArg Value.bool hb_7) rfl rfl ?_
                    refine .no 126 rfl (congrArg Value.bool hb_7) rfl rfl ?_
                    refine .no 126 rfl (congrArg Value.bool hb_7) rfl rfl ?_
                    refine .no 126 rfl (congrArg Value.bool hb_7) rfl rfl ?_
                    refine .no 126 rfl (congrArg Value.bool hb_7) rfl rfl ?_
                    refine .no 126 rfl (congrArg Value.bool hb_7) rfl rfl ?_
                    refine .val (v_pickF (v := reg (false : Bool)) rfl hb_7 rfl) rfl ?_
                    refine .val (v_assign (v := reg (false : Bool)) rfl) rfl ?_
                    refine .nil ?_
                    exact QN.thenJ ⟨_, false, setl_eq ⟨rfl, ⟨rfl, ⟨rfl, ⟨rfl, ⟨rfl, trivial⟩⟩⟩⟩⟩, hh⟩
                · rintro ρ h ⟨ρ', t117, rfl, hh⟩
                  unfold round_Core_moves.j4 at hh
                  refine CW.cond t117 rfl (fun hb_8 => ?_) (fun hb_8 => ?_)
                  · have hh := hh.1 hb_8
                    refine CW.seq ?_
                    refine CW.drawN 16 rfl follows_mixed [0, 1, 2, 3, 4, 5, 6, 7, 8, 9, 10, 11, 13, 14] ?_
                    refine .p 0 rfl (by kernel_rfl) (NoPanic.then_ (NoPanic.block (NoPanic.then_ (NoPanic.body)))) (fun _ => v_move (v := reg (c : Pt)) rfl) ?_
                    refine .p 1 rfl (by kernel_rfl) (NoPanic.then_ (NoPanic.block (NoPanic.then_ (NoPanic.body)))) (fun _ => v_move (v := reg (c : Pt)) rfl) ?_
                    refine .p 2 rfl (by kernel_rfl) (NoPanic.then_ (NoPanic.block (NoPanic.then_ (NoPanic.body)))) (fun _ => v_move (v := reg (t41 : Int)) rfl) ?_
                    refine .p 3 rfl (by kernel_rfl) (NoPanic.then_ (NoPanic.block (NoPanic.then_ (NoPanic.body)))) (fun _ => v_fieldAddr fl_77_4 rfl) ?_
                    obtain ⟨t138, ⟨xt138, hxt138, hgt138⟩, hh⟩ := hh
                    refine .r 4 (fun h' => ∃ x : api_Plan, AtH h' p_2 (enc x) ∧ ((fun (x : api_Plan) => x.Block) : api_Plan → api_Block) x = t138) rfl (by kernel_rfl) (NoPanic.then_ (NoPanic.block (NoPanic.then_ (NoPanic.body)))) ⟨xt138, hxt138, hgt138⟩ (fun h' hS => hS.elim fun _ hS => v_ldA (p := p_2) 4 ag_75 rfl hS.1 hS.2 get_77_Block (fun _ => (len_api_Block _)) (fun _ => rfl)) ?_
                    refine .p 5 rfl (by kernel_rfl) (NoPanic.then_ (NoPanic.block (NoPanic.then_ (NoPanic.body)))) (fun _ => v_buildT ({ round := t41, block := t138 } : round_mark) zo_136 pl_136 rfl (fill_step rfl rfl (len_i _) (len_round_mark _) rfl (set_136_round _ _) (fill_step rfl rfl (len_api_Block _) (len_round_mark _) rfl (set_136_block _ _) (rfl))) rfl) ?_
                    refine .p 6 rfl (by kernel_rfl) (NoPanic.then_ (NoPanic.block (NoPanic.then_ (NoPanic.body)))) (fun _ => v_move (v := reg (t41 : Int)) rfl) ?_
                    refine .p 7 rfl (by kernel_rfl) (NoPanic.then_ (NoPanic.block (NoPanic.then_ (NoPanic.body)))) (fun _ => v_fieldAddr fl_77_4 rfl) ?_
                    obtain ⟨t142, ⟨xt142, hxt142, hgt142⟩, hh⟩ := hh
                    refine .r 8 (fun h' => ∃ x : api_Plan, AtH h' p_2 (enc x) ∧ ((fun (x : api_Plan) => x.Block) : api_Plan → api_Block) x = t142) rfl (by kernel_rfl) (NoPanic.then_ (NoPanic.block (NoPanic.then_ (NoPanic.body)))) ⟨xt142, hxt142, hgt142⟩ (fun h' hS => hS.elim fun _ hS => v_ldA (p := p_2) 4 ag_75 rfl hS.1 hS.2 get_77_Block (fun _ => (len_api_Block _)) (fun _ => rfl)) ?_
                    refine .p 9 rfl (by kernel_rfl) (NoPanic.then_ (NoPanic.block (NoPanic.then_ (NoPanic.body)))) (fun _ => v_buildT ({ round := t41, block := t142 } : round_mark) zo_136 pl_136 rfl (fill_step rfl rfl (len_i _) (len_round_mark _) rfl (set_136_round _ _) (fill_step rfl rfl (len_api_Block _) (len_round_mark _) rfl (set_136_block _ _) (rfl))) rfl) ?_
                    obtain ⟨p_6, hp_6, hh⟩ := hh
                    refine .p 10 rfl (by kernel_rfl) (NoPanic.then_ (NoPanic.block (NoPanic.then_ (NoPanic.body)))) (fun _ => v_nilCheck (congrArg Value.pointer hp_6)) ?_
                    refine .p 11 rfl (by kernel_rfl) (NoPanic.then_ (NoPanic.block (NoPanic.then_ (NoPanic.body)))) (fun _ => v_fieldAddr fl_140_6 rfl) ?_
                    obtain ⟨xw_7, hxw_7, hwxw_7, hh⟩ := hh
                    refine .w 12 (by kernel_rfl) rfl (by kernel_rfl) (.e (e_storeN (p := p_6) (nv := enc (({ round := t41, block := t138 } : round_mark) : round_mark)) 7 rfl rfl rfl sz_136 (one_round_mark _) hxw_7 hwxw_7 (len_round_Core _) (len_round_mark _) rfl (set_140_locked xw_7 (({ round := t41, block := t138 } : round_mark) : round_mark)) ?_))
                    obtain ⟨hc_11, hh⟩ := hh
                    refine ⟨⟨⟨trivial, .inl (by kernel_rfl)⟩, .inr hc_11⟩, ?_⟩
                    refine .p 13 rfl (by kernel_rfl) (NoPanic.then_ (NoPanic.block (NoPanic.then_ (NoPanic.body)))) (fun _ => v_nilCheck (congrArg Value.pointer hp_6)) ?_
                    refine .p 14 rfl (by kernel_rfl) (NoPanic.then_ (NoPanic.block (NoPanic.then_ (NoPanic.body)))) (fun _ => v_fieldAddr fl_140_7 rfl) ?_
                    obtain ⟨xw_8, hxw_8, hwxw_8, hh⟩ := hh
                    refine .w 15 (by kernel_rfl) rfl (by kernel_rfl) (.e (e_storeN (p := p_6) (nv := enc (({ round := t41, block := t142 } : round_mark) : round_mark)) 107 rfl rfl rfl sz_136 (one_round_mark _) hxw_8 hwxw_8 (len_round_Core _) (len_round_mark _) rfl (set_140_valid xw_8 (({ round := t41, block := t142 } : round_mark) : round_mark)) ?_))
                    refine ⟨⟨⟨trivial, .inl (by kernel_rfl)⟩, .inl (by kernel_rfl)⟩, ?_⟩
                    refine .done (by kernel_rfl) ?_
                    refine QN.then_ ?_
                    refine CW.region ?_
                    refine .val (v_move (v := reg (c : Pt)) rfl) rfl ?_
                    refine .val (v_fieldAddr fl_77_4 rfl) rfl ?_
                    obtain ⟨t150, ⟨xt150, hxt150, hgt150⟩, hh⟩ := hh
                    refine .val (v_ldA (p := p_2) 4 ag_75 rfl hxt150 hgt150 get_77_Block (fun _ => (len_api_Block _)) (fun _ => rfl)) rfl ?_
                    refine .e (e_callP fn_34 rfl rfl hh ?_)
                    intro h t151 hh
                    refine .e (e_callP fn_63 rfl rfl hh ?_)
                    intro h t152 hh
                    refine .nil ?_
                    refine QN.blockN ?_
                    exact QN.thenJ ⟨_, setl_eq ⟨rfl, trivial⟩, hh⟩
                  · have hh := hh.2 hb_8
                    refine CW.join (fun ρ h => ∃ (ρ' : Env) (t153 : Bool), ρ = setl ρ' [(0, reg (c : Pt)), (8, reg (t41 : Int)), (9, .pointer (some p_2)), (10, reg (t48.b : Bool)), (153, reg (t153 : Bool))] ∧ (round_Core_moves.j5 (round_Core_moves.j2 k) k) c t41 p_2 t48.b t153 h) ?_ ?_
                    · refine CW.region ?_
                      refine .val (v_move (v := reg (c : Pt)) rfl) rfl ?_
                      obtain ⟨p_7, hp_7, hh⟩ := hh
                      refine .val (v_nilCheck (congrArg Value.pointer hp_7)) rfl ?_
                      refine .val (v_fieldAddr fl_140_4 rfl) rfl ?_
                      obtain ⟨t157, ⟨xt157, hxt157, hgt157⟩, hh⟩ := hh
                      refine .val (v_ld1 (p := p_7) 5 na_3 rfl hxt157 hgt157 get_140_step) rfl ?_
                      refine .val (v_ieql rfl rfl) rfl ?_
                      refine .val (v_move (v := reg ((t157 == (2 : Int)) : Bool)) rfl) rfl ?_
                      refine ifb_cases hh (fun hb_9 hh => ?_) (fun hb_9 hh => ?_)
                      · refine .yv 159 rfl (congrArg Value.bool hb_9) rfl (v_move (v := reg (c : Pt)) rfl) rfl ?_
                        refine .yv 159 rfl (congrArg Value.bool hb_9) rfl (v_move (v := reg (t41 : Int)) rfl) rfl ?_
                        refine .ye 159 rfl (congrArg Value.bool hb_9) rfl (e_callP fn_64 rfl rfl hh ?_)
                        intro h t162 hh
                        refine .ye 159 rfl (congrArg Value.bool hb_9) rfl (e_callP fn_117 rfl rfl hh ?_)
                        intro h t163 hh
                        refine .val (v_pickT (v := reg (t163 : Bool)) rfl hb_9 rfl) rfl ?_
                        refine .val (v_assign (v := reg (t163 : Bool)) rfl) rfl ?_
                        refine .nil ?_
                        exact QN.thenJ ⟨_, t163, setl_eq ⟨rfl, ⟨rfl, ⟨rfl, ⟨rfl, ⟨rfl, trivial⟩⟩⟩⟩⟩, hh⟩
                      · refine .no 159 rfl (congrArg Value.bool hb_9) rfl rfl ?_
                        refine .no 159 rfl (congrArg Value.bool hb_9) rfl rfl ?_
                        refine .no 159 rfl (congrArg Value.bool hb_9) rfl rfl ?_
                        refine .no 159 rfl (congrArg Value.bool hb_9) rfl rfl ?_
                        refine .val (v_pickF (v := reg (false : Bool)) rfl hb_9 rfl) rfl ?_
                        refine .val (v_assign (v := reg (false : Bool)) rfl) rfl ?_
                        refine .nil ?_
                        exact QN.thenJ ⟨_, false, setl_eq ⟨rfl, ⟨rfl, ⟨rfl, ⟨rfl, ⟨rfl, trivial⟩⟩⟩⟩⟩, hh⟩
                    · rintro ρ h ⟨ρ', t153, rfl, hh⟩
                      unfold round_Core_moves.j5 at hh
                      refine CW.cond t153 rfl (fun hb_10 => ?_) (fun hb_10 => ?_)
                      · have hh := hh.1 hb_10
                        refine CW.region ?_
                        refine .val (v_move (v := reg (c : Pt)) rfl) rfl ?_
                        refine .e (e_callP fn_64 rfl rfl hh ?_)
                        intro h t166 hh
                        refine .e (e_callP fn_63 rfl rfl hh ?_)
                        intro h t167 hh
                        refine .nil ?_
                        refine QN.blockN ?_
                        exact QN.thenJ ⟨_, setl_eq ⟨rfl, trivial⟩, hh⟩
                      · have hh := hh.2 hb_10
                        refine CW.join (fun ρ h => ∃ (ρ' : Env) (t168 : Bool), ρ = setl ρ' [(0, reg (c : Pt)), (8, reg (t41 : Int)), (9, .pointer (some p_2)), (168, reg (t168 : Bool))] ∧ (round_Core_moves.j6 (round_Core_moves.j2 k) k) c t41 p_2 t168 h) ?_ ?_
                        · refine CW.region ?_
                          refine .val (v_move (v := reg (c : Pt)) rfl) rfl ?_
                          obtain ⟨p_9, hp_9, hh⟩ := hh
                          refine .val (v_nilCheck (congrArg Value.pointer hp_9)) rfl ?_
                          refine .val (v_fieldAddr fl_140_4 rfl) rfl ?_
                          obtain ⟨t172, ⟨xt172, hxt172, hgt172⟩, hh⟩ := hh
                          refine .val (v_ld1 (p := p_9) 5 na_3 rfl hxt172 hgt172 get_140_step) rfl ?_
                          refine .val (v_ieql rfl rfl) rfl ?_
                          refine .val (v_move (v := reg ((t172 == (3 : Int)) : Bool)) rfl) rfl ?_
                          refine .tv 174 rfl rfl rfl (fun hb => v_move (v := reg (t48.b : Bool)) rfl) rfl ?_
                          refine .val (v_pick_and rfl (fun hb => gt hb) rfl) rfl ?_
                          refine .val (v_move (v := reg (((t172 == (3 : Int)) && t48.b) : Bool)) rfl) rfl ?_
                          refine ifb_cases hh (fun hb_11 hh => ?_) (fun hb_11 hh => ?_)
                          · refine .yv 177 rfl (congrArg Value.bool hb_11) rfl (v_move (v := reg (c : Pt)) rfl) rfl ?_
                            refine .yv 177 rfl (congrArg Value.bool hb_11) rfl (v_nilCheck (congrArg Value.pointer hp_9)) rfl ?_
                            refine .yv 177 rfl (congrArg Value.bool hb_11) rfl (v_fieldAddr fl_140_7 rfl) rfl ?_
                            refine .yv 177 rfl (congrArg Value.bool hb_11) rfl (v_fieldAddr fl_136_0 rfl) rfl ?_
                            obtain ⟨t182, ⟨xt182, hxt182, hgt182⟩, hh⟩ := hh
                            refine .yv 177 rfl (congrArg Value.bool hb_11) rfl (v_ld1 (p := p_9) 107 na_3 rfl hxt182 hgt182 get_140_valid_round) rfl ?_
                            refine .yv 177 rfl (congrArg Value.bool hb_11) rfl (v_move (v := reg (t41 : Int)) rfl) rfl ?_
                            refine .yv 177 rfl (congrArg Value.bool hb_11) rfl (v_ilss rfl rfl) rfl ?_
                            refine .val (v_pickT (v := reg ((decide (t182 < t41)) : Bool)) rfl hb_11 rfl) rfl ?_
                            refine .val (v_move (v := reg ((decide (t182 < t41)) : Bool)) rfl) rfl ?_
                            refine ifb_cases hh (fun hb_12 hh => ?_) (fun hb_12 hh => ?_)
                            · refine .yv 186 rfl (congrArg Value.bool hb_12) rfl (v_move (v := reg (c : Pt)) rfl) rfl ?_
                              refine .yv 186 rfl (congrArg Value.bool hb_12) rfl (v_move (v := reg (t41 : Int)) rfl) rfl ?_
                              refine .yv 186 rfl (congrArg Value.bool hb_12) rfl (v_fieldAddr fl_77_4 rfl) rfl ?_
                              obtain ⟨t190, ⟨xt190, hxt190, hgt190⟩, hh⟩ := hh
                              refine .yv 186 rfl (congrArg Value.bool hb_12) rfl (v_ldA (p := p_2) 4 ag_75 rfl hxt190 hgt190 get_77_Block (fun _ => (len_api_Block _)) (fun _ => rfl)) rfl ?_
                              refine .ye 186 rfl (congrArg Value.bool hb_12) rfl (e_callP fn_34 rfl rfl hh ?_)
                              intro h t191 hh
                              refine .ye 186 rfl (congrArg Value.bool hb_12) rfl (e_callP fn_117 rfl rfl hh ?_)
                              intro h t192 hh
                              refine .val (v_pickT (v := reg (t192 : Bool)) rfl hb_12 rfl) rfl ?_
                              refine .val (v_assign (v := reg (t192 : Bool)) rfl) rfl ?_
                              refine .nil ?_
                              exact QN.thenJ ⟨_, t192, setl_eq ⟨rfl, ⟨rfl, ⟨rfl, ⟨rfl, trivial⟩⟩⟩⟩, hh⟩
                            · refine .no 186 rfl (congrArg Value.bool hb_12) rfl rfl ?_
                              refine .no 186 rfl (congrArg Value.bool hb_12) rfl rfl ?_
                              refine .no 186 rfl (congrArg Value.bool hb_12) rfl rfl ?_
                              refine .no 186 rfl (congrArg Value.bool hb_12) rfl rfl ?_
                              refine .no 186 rfl (congrArg Value.bool hb_12) rfl rfl ?_
                              refine .no 186 rfl (congrArg Value.bool hb_12) rfl rfl ?_
                              refine .val (v_pickF (v := reg (false : Bool)) rfl hb_12 rfl) rfl ?_
                              refine .val (v_assign (v := reg (false : Bool)) rfl) rfl ?_
                              refine .nil ?_
                              exact QN.thenJ ⟨_, false, setl_eq ⟨rfl, ⟨rfl, ⟨rfl, ⟨rfl, trivial⟩⟩⟩⟩, hh⟩
                          · refine .no 177 rfl (congrArg Value.bool hb_11) rfl rfl ?_
                            refine .no 177 rfl (congrArg Value.bool hb_11) rfl rfl ?_
                            refine .no 177 rfl (congrArg Value.bool hb_11) rfl rfl ?_
                            refine .no 177 rfl (congrArg Value.bool hb_11) rfl rfl ?_
                            refine .no 177 rfl (congrArg Value.bool hb_11) rfl rfl ?_
                            refine .no 177 rfl (congrArg Value.bool hb_11) rfl rfl ?_
                            refine .no 177 rfl (congrArg Value.bool hb_11) rfl rfl ?_
                            refine .val (v_pickF (v := reg (false : Bool)) rfl hb_11 rfl) rfl ?_
                            refine .val (v_move (v := reg (false : Bool)) rfl) rfl ?_
                            refine .no 186 rfl rfl rfl rfl ?_
                            refine .no 186 rfl rfl rfl rfl ?_
                            refine .no 186 rfl rfl rfl rfl ?_
                            refine .no 186 rfl rfl rfl rfl ?_
                            refine .no 186 rfl rfl rfl rfl ?_
                            refine .no 186 rfl rfl rfl rfl ?_
                            refine .val (v_pickF (v := reg (false : Bool)) rfl rfl rfl) rfl ?_
                            refine .val (v_assign (v := reg (false : Bool)) rfl) rfl ?_
                            refine .nil ?_
                            exact QN.thenJ ⟨_, false, setl_eq ⟨rfl, ⟨rfl, ⟨rfl, ⟨rfl, trivial⟩⟩⟩⟩, hh⟩
                        · rintro ρ h ⟨ρ', t168, rfl, hh⟩
                          unfold round_Core_moves.j6 at hh
                          refine CW.cond t168 rfl (fun hb_13 => ?_) (fun hb_13 => ?_)
                          · have hh := hh.1 hb_13
                            refine CW.region ?_
                            refine .val (v_move (v := reg (c : Pt)) rfl) rfl ?_
                            refine .val (v_move (v := reg (t41 : Int)) rfl) rfl ?_
                            refine .val (v_fieldAddr fl_77_4 rfl) rfl ?_
                            obtain ⟨t197, ⟨xt197, hxt197, hgt197⟩, hh⟩ := hh
                            refine .val (v_ldA (p := p_2) 4 ag_75 rfl hxt197 hgt197 get_77_Block (fun _ => (len_api_Block _)) (fun _ => rfl)) rfl ?_
                            refine .val (v_buildT ({ round := t41, block := t197 } : round_mark) zo_136 pl_136 rfl (fill_step rfl rfl (len_i _) (len_round_mark _) rfl (set_136_round _ _) (fill_step rfl rfl (len_api_Block _) (len_round_mark _) rfl (set_136_block _ _) (rfl))) rfl) rfl ?_
                            obtain ⟨p_11, hp_11, hh⟩ := hh
                            refine .val (v_nilCheck (congrArg Value.pointer hp_11)) rfl ?_
                            refine .val (v_fieldAddr fl_140_7 rfl) rfl ?_
                            obtain ⟨xw_9, hxw_9, hwxw_9, hh⟩ := hh
                            refine .e (e_storeN (p := p_11) (nv := enc (({ round := t41, block := t197 } : round_mark) : round_mark)) 107 rfl rfl rfl sz_136 (one_round_mark _) hxw_9 hwxw_9 (len_round_Core _) (len_round_mark _) rfl (set_140_valid xw_9 (({ round := t41, block := t197 } : round_mark) : round_mark)) ?_)
                            refine .nil ?_
                            refine QN.blockN ?_
                            exact QN.thenJ ⟨_, setl_eq ⟨rfl, trivial⟩, hh⟩
                          · have hh := hh.2 hb_13
                            refine CW.seq ?_
                            refine CW.region ?_
                            refine .val (v_assign (v := reg (false : Bool)) rfl) rfl ?_
                            refine .nil ?_
                            refine QN.then_ ?_
                            refine CW.ret ?_
                            refine QN.blockRet ?_
                            refine QN.thenRet ?_
                            exact ret1 rfl rfl ⟨(false : Bool), rfl, hh⟩
    · rintro ρ h ⟨ρ', rfl, hh⟩
      unfold round_Core_moves.j2 at hh
      refine CW.seq ?_
      refine CW.region ?_
      refine .val (v_move (v := reg (c : Pt)) rfl) rfl ?_
      obtain ⟨p_12, hp_12, hh⟩ := hh
      refine .val (v_nilCheck (congrArg Value.pointer hp_12)) rfl ?_
      refine .val (v_fieldAddr fl_140_12 rfl) rfl ?_
      obtain ⟨t204, ⟨xt204, hxt204, hgt204⟩, hh⟩ := hh
      refine .val (v_ld1 (p := p_12) 211 na_4 rfl hxt204 hgt204 get_140_decided) rfl ?_
      refine .val (v_not rfl) rfl ?_
      refine .val (v_assign (v := reg ((!t204) : Bool)) rfl) rfl ?_
      refine .nil ?_
      refine QN.then_ ?_
      refine CW.ret ?_
      exact ret1 rfl rfl ⟨((!t204) : Bool), rfl, hh⟩
end Go.Proofs.YtimmoekliphobaaDoor
namespace Go.Proofs.YtimmoekliphobaaDoor
open Go Go.Sh
open Go.Sh.Ty (reg)
set_option linter.unusedVariables false
set_option maxRecDepth 100000
set_option maxHeartbeats 4000000
theorem round_Core_acts.ok (c : Pt) (k : Sl → H → Prop) (h : H) (hh : round_Core_acts.b c k h) : CallsH Prog 58 [reg c].toArray h fun v h' => ∃ r : Sl, v = reg r ∧ k r h' := by
  unfold round_Core_acts.b at hh
  refine CallsH.of 24 Tryd.func58 rfl Tryd.ntmps58 rfl (fun w0 => ?_)
  refine CW.seq ?_
  refine CW.region ?_
  refine .val (v_assign (v := reg (Sl.nil : Sl)) rfl) rfl ?_
  refine .nil ?_
  refine QN.then_ ?_
  refine CW.join (fun ρ h => ∃ (ρ' : Env), ρ = setl ρ' [(0, reg (c : Pt))] ∧ (round_Core_acts.j1 k) c h) ?_ ?_
  · refine CW.block ?_
    unfold round_Core_acts.l1 at hh
    refine CW.loop (fun (σ0 : Unit) ρ => match σ0 with | _ => ∃ ρ' : Env, ρ = setl ρ' [(0, reg (c : Pt))]) hh ⟨_, setl_eq ⟨rfl, trivial⟩⟩ ?_
    clear hh
    rintro s1 ⟨⟩ ρ h ⟨ρ', rfl⟩ hh
    refine CW.seq ?_
    refine CW.join (fun ρ h => ∃ (ρ' : Env) (t12 : Bool), ρ = setl ρ' [(0, reg (c : Pt)), (12, reg (t12 : Bool))] ∧ (round_Core_acts.j2 (round_Core_acts.j1 k) s1) c t12 h) ?_ ?_
    · refine CW.region ?_
      refine .val (v_move (v := reg (c : Pt)) rfl) rfl ?_
      obtain ⟨p, hp, hh⟩ := hh
      refine .val (v_nilCheck (congrArg Value.pointer hp)) rfl ?_
      refine .val (v_fieldAddr fl_140_12 rfl) rfl ?_
      obtain ⟨t7, ⟨xt7, hxt7, hgt7⟩, hh⟩ := hh
      refine .val (v_ld1 (p := p) 211 na_4 rfl hxt7 hgt7 get_140_decided) rfl ?_
      refine .val (v_not rfl) rfl ?_
      refine .val (v_move (v := reg ((!t7) : Bool)) rfl) rfl ?_
      refine ifb_cases hh (fun hb hh => ?_) (fun hb hh => ?_)
      · refine .yv 9 rfl (congrArg Value.bool hb) rfl (v_move (v := reg (c : Pt)) rfl) rfl ?_
        refine .ye 9 rfl (congrArg Value.bool hb) rfl (e_callP fn_91 rfl rfl hh ?_)
        intro h t11 hh
        refine .val (v_pickT (v := reg (t11 : Bool)) rfl hb rfl) rfl ?_
        refine .nil ?_
        exact QN.thenJ ⟨_, t11, setl_eq ⟨rfl, ⟨rfl, trivial⟩⟩, hh⟩
      · refine .no 9 rfl (congrArg Value.bool hb) rfl rfl ?_
        refine .no 9 rfl (congrArg Value.bool hb) rfl rfl ?_
        refine .val (v_pickF (v := reg (false : Bool)) rfl hb rfl) rfl ?_
        refine .nil ?_
        exact QN.thenJ ⟨_, false, setl_eq ⟨rfl, ⟨rfl, trivial⟩⟩, hh⟩
    · rintro ρ h ⟨ρ', t12, rfl, hh⟩
      unfold round_Core_acts.j2 at hh
      refine CW.cond t12 rfl (fun hb_1 => ?_) (fun hb_1 => ?_)
      · have hh := hh.1 hb_1
        refine CW.skip ?_
        refine QN.then_ ?_
        refine CW.block ?_
        refine CW.skip ?_
        refine QN.blockN ?_
        exact QN.thenJ ⟨(), ⟨_, setl_eq ⟨rfl, trivial⟩⟩, hh⟩
      · have hh := hh.2 hb_1
        refine CW.exit ?_
        refine QN.thenExit ?_
        refine QN.thenExit ?_
        refine QN.blockExit ?_
        exact QN.thenJ ⟨_, setl_eq ⟨rfl, trivial⟩, hh⟩
  · rintro ρ h ⟨ρ', rfl, hh⟩
    unfold round_Core_acts.j1 at hh
    refine CW.seq ?_
    refine CW.region ?_
    refine .val (v_move (v := reg (c : Pt)) rfl) rfl ?_
    obtain ⟨p_1, hp_1, hh⟩ := hh
    refine .val (v_nilCheck (congrArg Value.pointer hp_1)) rfl ?_
    refine .val (v_fieldAddr fl_140_13 rfl) rfl ?_
    obtain ⟨t16, ⟨xt16, hxt16, hgt16⟩, hh⟩ := hh
    refine .val (v_ld1 (p := p_1) 212 na_68 rfl hxt16 hgt16 get_140_out) rfl ?_
    refine .val (v_assign (v := reg (t16 : Sl)) rfl) rfl ?_
    refine .nil ?_
    refine QN.then_ ?_
    refine CW.seq ?_
    refine CW.region ?_
    refine .val (v_move (v := reg (c : Pt)) rfl) rfl ?_
    refine .val (v_move (v := reg (c : Pt)) rfl) rfl ?_
    refine .val (v_nilCheck (congrArg Value.pointer hp_1)) rfl ?_
    refine .val (v_fieldAddr fl_140_13 rfl) rfl ?_
    obtain ⟨xw, hxw, hwxw, hh⟩ := hh
    refine .e (e_storeN (p := p_1) (nv := enc (Sl.nil : Sl)) 212 rfl rfl rfl sz_68 (one_sl _) hxw hwxw (len_round_Core _) (len_sl _) rfl (set_140_out xw (Sl.nil : Sl)) ?_)
    refine .val (v_nilCheck (congrArg Value.pointer hp_1)) rfl ?_
    refine .val (v_fieldAddr fl_140_11 rfl) rfl ?_
    obtain ⟨xw_1, hxw_1, hwxw_1, hh⟩ := hh
    refine .e (e_storeN (p := p_1) (nv := enc (false : Bool)) 210 rfl rfl rfl sz_4 (one_b _) hxw_1 hwxw_1 (len_round_Core _) (len_b _) rfl (set_140_fresh xw_1 (false : Bool)) ?_)
    refine .nil ?_
    refine QN.then_ ?_
    refine CW.seq ?_
    refine CW.region ?_
    refine .val (v_move (v := reg (t16 : Sl)) rfl) rfl ?_
    refine .val (v_assign (v := reg (t16 : Sl)) rfl) rfl ?_
    refine .nil ?_
    refine QN.then_ ?_
    refine CW.ret ?_
    exact ret1 rfl rfl ⟨(t16 : Sl), rfl, hh⟩
end Go.Proofs.YtimmoekliphobaaDoor
namespace Go.Proofs.YtimmoekliphobaaDoor
open Go Go.Sh
open Go.Sh.Ty (reg)
set_option linter.unusedVariables false
set_option maxRecDepth 100000

/-! a core of the rules, and what it owns -/
abbrev Kn := List (Sl × List api_Request)
def kE (K : Kn) : En := ⟨K.flatMap fun q => blk q.1, fun h => ∀ q ∈ K, SV 42 h q.1 q.2⟩
theorem kE_loc (K : Kn) : Go.Sh.Loc (kE K) := fun h h' hb H q hq =>
  rdo_loc 42 q.1 q.2 h h' (fun b hb' => hb b (List.mem_flatMap.2 ⟨q, hq, hb'⟩)) (H q hq)
structure CS where
  p : Addr
  x : round_Core
  ht : Int
  rd : Int
  q : Addr
  vm : Nat
  vts : Vts
  pm : Nat
  pl : List (Int × (api_Plan × List api_Request))
  bm : Nat
  bl : List (Dig × (api_Block × List api_Request))
  lq : List api_Request
  vq : List api_Request
  acts : List (api_Act × List api_Request)
  ms : List api_Member
  K : Kn
  KA : Kn
def rawP (l : List (Int × (api_Plan × List api_Request))) : List (Int × api_Plan) := l.map fun e => (e.1, e.2.1)
def rawB (l : List (Dig × (api_Block × List api_Request))) : List (Dig × api_Block) := l.map fun e => (e.1, e.2.1)
@[reducible] def core (c : CS) : List En := [cel 140 c.p (enc c.x), bxE c.q c.vm c.vts, mpE c.pm (rawP c.pl), mpE c.bm (rawB c.bl), own 80 135 c.x.out (c.acts.map (·.1)), rdo 34 c.x.config.Members c.ms, kE c.K, kE c.KA]
/-- a block's requests can be read through what is known -/
def Cov (K : Kn) (b : api_Block) (qs : List api_Request) : Prop := reqsN qs < 2 ^ 30 ∧ ((b.Requests, qs) ∈ K ∨ (b.Requests.len = 0 ∧ qs = []))
theorem Cov.mono {K K' : Kn} {b : api_Block} {qs : List api_Request} (h : Cov K b qs) (hk : ∀ q ∈ K, q ∈ K') : Cov K' b qs := ⟨h.1, h.2.imp (hk _) id⟩
theorem Cov.zero (K : Kn) : Cov K api_Block.zero [] := ⟨by decide, .inr ⟨rfl, rfl⟩⟩
theorem Cov.svz {K : Kn} {b : api_Block} {qs : List api_Request} {h : H} (hc : Cov K b qs) (hk : (kE K).A h) : SVz 42 h b.Requests qs := by
  rcases hc.2 with h1 | ⟨h1, h2⟩
  · exact SV.z (hk _ h1)
  · exact ⟨by rw [h1, h2]; rfl, fun hne => absurd h2 hne⟩
theorem reqs_len {qs : List api_Request} (h : reqsN qs < 2 ^ 30) : qs.length < 2 ^ 30 := by have := reqsN_ge qs; omega
structure Cok (c : CS) : Prop where
  hp : c.x.plans = ⟨some c.pm⟩
  hb : c.x.blocks = ⟨some c.bm⟩
  hq : c.x.box = some c.q
  at_ : c.x.at_ = cxI c.ht c.rd
  plc : Plc c.ht c.rd
  good : goodC c.x.config.Epoch c.ms = true
  lk : Cov c.K c.x.locked.block c.lq
  vl : Cov c.K c.x.valid.block c.vq
  pc : ∀ e ∈ c.pl, Cov c.K e.2.1.Block e.2.2
  bc : ∀ e ∈ c.bl, Cov c.K e.2.1 e.2.2
  vr : ∀ q ∈ c.vts, 0 ≤ q.1.round ∧ q.1.round ≤ 1024
  st : 0 ≤ c.x.step ∧ c.x.step ≤ 3
  s0 : c.x.step = 0 → c.rd = 0
  nv : c.vts.length < 2 ^ 19
  na : c.acts.length < 2 ^ 19
theorem Cok.len {c : CS} (hc : Cok c) : 1 ≤ c.ms.length ∧ c.ms.length ≤ 10 := by
  have := hc.good
  unfold goodC at this
  simp only [Bool.and_eq_true, decide_eq_true_eq] at this
  obtain ⟨⟨_, _, h1, h2⟩, _⟩ := this
  refine ⟨?_, h2⟩
  cases hm : c.ms with
  | nil => exact absurd hm h1
  | cons a l => simp
section
variable {h0 h : H} {S : List Nat} {L : List En}
theorem none_spec' {k : Dig → H → Prop} {h : H} (hk : ∀ h', Ext h h' → k (fun _ => 0) h') : call (β := Dig) Prog 64 [] k h := by
  refine round_none.ok _ _ ?_
  unfold round_none.b
  refine (Sat.init h).box_ (fun a h1 hs1 _ _ => ?_)
  refine hs1.box_ (fun z h2 hs2 _ _ => ?_)
  refine hs2.ld_ 0 rfl ?_
  refine hs2.st_ 1 rfl arr_len (fun h3 hs3 _ => ?_)
  refine hs3.ld_ 1 rfl ?_
  exact hk _ hs3.fr
theorem _root_.Go.Sh.Sat.perm {L' : List En} (hs : Sat h0 S h L) (hp : L.Perm L') : Sat h0 S h L' :=
  ⟨hs.fr, fun e he => hs.ok e (hp.symm.subset he), (hp.pairwise_iff (fun {a b} hab x hx hx' => hab x hx' hx)).1 hs.dis⟩
/-- some of the things, in another order, and all that stand behind the first n -/
theorem _root_.Go.Sh.Sat.sel (hs : Sat h0 S h L) (n : Nat) (idx : List Nat) (h1 : idx.all (· < n) = true) (h2 : idx.Nodup) : Sat h0 S h (idx.filterMap (fun i => L[i]?) ++ L.drop n) := by
  refine ⟨hs.fr, fun e he => ?_, ?_⟩
  · rcases List.mem_append.1 he with he | he
    · obtain ⟨i, _, hi⟩ := List.mem_filterMap.1 he
      exact hs.ok e (List.mem_of_getElem? hi)
    · exact hs.ok e (List.mem_of_mem_drop he)
  · rw [List.pairwise_append]
    refine ⟨?_, hs.dis.sublist (List.drop_sublist _ _), ?_⟩
    · rw [List.pairwise_filterMap]
      refine List.Pairwise.imp ?_ h2
      intro i j hij a ha b hb
      exact hs.disj ha hb hij
    · intro a ha b hb
      obtain ⟨i, hi, hai⟩ := List.mem_filterMap.1 ha
      obtain ⟨j, hj⟩ := List.mem_iff_getElem?.1 hb
      rw [List.getElem?_drop] at hj
      have : i < n := by have := List.all_eq_true.1 h1 i hi; simpa using this
      exact hs.disj hai hj (by omega)
/-- two things taken as one -/
theorem _root_.Go.Sh.Sat.merge {e1 e2 e : En} (hs : Sat h0 S h (e1 :: e2 :: L)) (hF : ∀ b ∈ e.F, b ∈ e1.F ∨ b ∈ e2.F) (hA : e1.A h → e2.A h → e.A h) (hl : Go.Sh.Loc e) : Sat h0 S h (e :: L) := by
  have h1 := hs.ok e1 (by simp)
  have h2 := hs.ok e2 (by simp)
  refine ⟨hs.fr, fun e' he => ?_, ?_⟩
  · rcases List.mem_cons.1 he with rfl | he
    · exact ⟨hA h1.1 h2.1, hl, fun b hb => (hF b hb).elim (h1.2.2 b) (h2.2.2 b)⟩
    · exact hs.ok e' (by simp [he])
  · have hd := hs.dis
    rw [List.pairwise_cons, List.pairwise_cons] at hd
    rw [List.pairwise_cons]
    refine ⟨fun a ha x hx hx' => ?_, hd.2.2⟩
    rcases hF x hx with h9 | h9
    · exact hd.1 a (by simp [ha]) x h9 hx'
    · exact hd.2.1 a ha x h9 hx'
/-- a new slice of requests, known from now on -/
theorem kE_add {K : Kn} {r : Sl} {qs : List api_Request} {h0 h : H} {S : List Nat} {L : List En} (hs : Sat h0 S h (own 182 42 r qs :: kE K :: L)) : Sat h0 S h (kE (K ++ [(r, qs)]) :: L) := by
  refine hs.merge (fun b hb => ?_) (fun h1 h2 q hq => ?_) (kE_loc _)
  · simp only [kE, List.flatMap_append, List.mem_append, List.flatMap_cons, List.flatMap_nil, List.append_nil] at hb
    exact hb.symm
  · rcases List.mem_append.1 hq with hq | hq
    · exact h2 q hq
    · simp only [List.mem_singleton] at hq
      subst hq
      exact OwnA.sv len_api_Request h1
end
end Go.Proofs.YtimmoekliphobaaDoor
namespace Go.Proofs.YtimmoekliphobaaDoor
open Go Go.Sh
open Go.Sh.Ty (reg)
set_option linter.unusedVariables false
set_option maxRecDepth 100000

section
variable {h0 h : H} {S : List Nat} {L : List En}
/-- an act is said -/
def sayC (c : CS) (a : api_Act) (qs : List api_Request) (r o : Sl) : CS := { c with x := { c.x with out := o }, acts := c.acts ++ [({ a with Block := { a.Block with Requests := r } }, qs)], KA := c.KA ++ [(r, qs)] }
theorem say_spec (c : CS) (a : api_Act) (qs : List api_Request) {k : Unit → H → Prop} (hs : Sat h0 S h (core c ++ L)) (hb : SVz 42 h a.Block.Requests qs) (hq : qs.length < 2 ^ 30) (hn : c.acts.length < 2 ^ 20)
    (hk : ∀ r o h', Sat h0 S h' (core (sayC c a qs r o) ++ L) → k () h') : call (β := Unit) Prog 90 [reg ((some c.p : Pt) : Pt), reg (a : api_Act)] k h := by
  refine round_Core_say.ok _ _ _ _ ?_
  unfold round_Core_say.b
  refine hs.box_ (fun a1 h1 hs1 _ hx1 => ?_)
  refine hs1.ld_ 0 rfl ?_
  refine copied_spec _ qs (hb.ext hx1) hq (fun r h2 hx2 ho2 hb2 => ?_)
  have hs2 := hs1.add (e := own 182 42 r qs) hx2 ho2 (own_loc _ _ _ _) hb2
  refine hs2.st_ 1 rfl len_api_Act (fun h3 hs3 _ => ?_)
  refine nn_i ?_
  refine hs3.ld_ 2 rfl ?_
  refine hs3.ld_ 1 rfl ?_
  refine hs3.mks_ (n := 135) (fun t14 h4 hs4 _ _ => ?_)
  refine hs4.chk_ 3 rfl rfl ?_
  refine hs4.app_ 7 rfl (hs4.ownSV 0 rfl len_api_Act) len_api_Act one_api_Act (len_api_Act _) ?_ ?_ (fun o h5 hs5 _ => ?_)
  · simp only [List.length_map, List.length_cons, List.length_nil, maxBytes]; omega
  · simp only [List.length_map, List.length_cons, List.length_nil]; omega
  refine hs5.st_ 3 rfl len_round_Core (fun h6 hs6 _ => ?_)
  refine hk r o h6 ?_
  have hp : Sat h0 S h6 (own 182 42 r qs :: kE c.KA :: cel 140 c.p (enc { c.x with out := o }) :: bxE c.q c.vm c.vts :: mpE c.pm (rawP c.pl) :: mpE c.bm (rawB c.bl) :: own 80 135 o (c.acts.map (·.1) ++ [{ a with Block := { a.Block with Requests := r } }]) :: rdo 34 c.x.config.Members c.ms :: kE c.K :: L) :=
    hs6.sel 11 [1, 10, 3, 4, 5, 6, 7, 8, 9] (by decide) (by decide)
  have h8 := kE_add hp
  have h9 : Sat h0 S h6 (cel 140 c.p (enc { c.x with out := o }) :: bxE c.q c.vm c.vts :: mpE c.pm (rawP c.pl) :: mpE c.bm (rawB c.bl) :: own 80 135 o (c.acts.map (·.1) ++ [{ a with Block := { a.Block with Requests := r } }]) :: rdo 34 c.x.config.Members c.ms :: kE c.K :: kE (c.KA ++ [(r, qs)]) :: L) :=
    h8.sel 8 [1, 2, 3, 4, 5, 6, 7, 0] (by decide) (by decide)
  have e : (sayC c a qs r o).acts.map (·.1) = c.acts.map (·.1) ++ [{ a with Block := { a.Block with Requests := r } }] := by simp [sayC]
  unfold core
  rw [e]
  exact h9
/-- is the core a member's? -/
def isMem (c : CS) : Bool := (findF c.ms c.x.me).c
theorem member_spec (c : CS) {k : Bool → H → Prop} (hc : Cok c) (hs : Sat h0 S h (core c ++ L)) (hk : ∀ h', Sat h0 S h' (core c ++ L) → k (isMem c) h') : call (β := Bool) Prog 89 [reg ((some c.p : Pt) : Pt)] k h := by
  refine round_Core_member.ok _ _ _ ?_
  unfold round_Core_member.b round_Core_member.j1
  refine nn_i (hs.ld_ 0 rfl (hs.ld_ 0 rfl ⟨?_, ?_⟩))
  · have hms : SV 34 h c.x.config.Members c.ms := hs.rdoSV 5 rfl
    refine config_Find.ok _ _ _ _ (Find_spec c.x.config c.ms c.x.me hms (by have := hc.len; omega) (fun h1 hx1 => ?_))
    have hs1 := hs.ext hx1
    refine hs1.box_ (fun t3 h2 hs2 _ _ => ?_)
    refine hs2.chk_ 1 rfl rfl (hs2.chk_ 1 rfl rfl ?_)
    refine hs2.st_ 0 rfl len_api_Member (fun h3 hs3 _ => ?_)
    exact hk h3 (hs3.drop (List.sublist_cons_self _ _))
  · refine hs.box_ (fun t3 h2 hs2 _ _ => ?_)
    refine hs2.chk_ 1 rfl rfl (hs2.chk_ 1 rfl rfl ?_)
    have hms : SV 34 h2 c.x.config.Members c.ms := hs2.rdoSV 6 rfl
    refine config_Find.ok _ _ _ _ (Find_spec c.x.config c.ms c.x.me hms (by have := hc.len; omega) (fun h1 hx1 => ?_))
    have hs1 := hs2.ext hx1
    refine hs1.st_ 0 rfl len_api_Member (fun h3 hs3 _ => ?_)
    exact hk h3 (hs3.drop (List.sublist_cons_self _ _))
/-- the number of the member that leads at a place -/
def idAt (c : CS) (a b : Int) : Int := (memAt c.ms ((a + b) % c.ms.length).toNat).Id
theorem leader_spec (c : CS) {a b : Int} (hp : Plc a b) {k : Int → H → Prop} (hc : Cok c) (hs : Sat h0 S h (core c ++ L)) (hk : ∀ h', Sat h0 S h' (core c ++ L) → k (idAt c a b) h') : call (β := Int) Prog 70 [reg ((some c.p : Pt) : Pt), reg (cxI a b)] k h := by
  refine round_Core_leader.ok _ _ _ _ ?_
  unfold round_Core_leader.b
  have hlen := hc.len
  have hms : SV 34 h c.x.config.Members c.ms := hs.rdoSV 5 rfl
  have hl : c.x.config.Members.len = c.ms.length := hms.2.1
  refine nn_i (hs.ld_ 0 rfl (hs.ld_ 0 rfl ?_))
  rw [hl]
  refine Leader_spec hp (by omega) ?_
  refine hs.chk_ 0 rfl rfl ?_
  have h1 : 0 ≤ (a + b) % (c.ms.length : Int) := Int.emod_nonneg _ (by omega)
  have h2 : (a + b) % (c.ms.length : Int) < c.ms.length := Int.emod_lt_of_pos _ (by omega)
  refine sidx_ld len_api_Member hms h1 (x := memAt c.ms ((a + b) % c.ms.length).toNat) (by simp [memAt, List.getElem?_eq_getElem (show ((a + b) % (c.ms.length : Int)).toNat < c.ms.length by omega)]) ?_
  exact hk h hs
def stpC (c : CS) (kind : Int) : CS := { c with x := { c.x with step := kind + 1, fresh := true } }
/-- a vote is said, and the step behind it begins -/
def votesC (c : CS) (kind : Int) (d : Dig) (r o : Sl) : CS :=
  if isMem c then sayC (stpC c kind) { api_Act.zero with Act := 2, Round := c.rd, Kind := kind, Digest := d } [] r o else stpC c kind
theorem votes_spec (c : CS) (kind : Int) (d : Dig) {k : Unit → H → Prop} (hkd : 0 ≤ kind ∧ kind ≤ 2) (hc : Cok c) (hs : Sat h0 S h (core c ++ L)) (hk : ∀ r o h', Sat h0 S h' (core (votesC c kind d r o) ++ L) → k () h') :
    call (β := Unit) Prog 63 [reg ((some c.p : Pt) : Pt), reg (kind : Int), reg (d : Dig)] k h := by
  refine round_Core_votes.ok _ _ _ _ _ ?_
  unfold round_Core_votes.b
  have e : iadd kind 1 = kind + 1 := iadd_eq (by omega) (by omega)
  rw [e]
  refine hs.box_ (fun d1 h1 hs1 _ _ => ?_)
  refine nn_i ?_
  refine hs1.st_ 1 rfl len_round_Core (fun h2 hs2 _ => ?_)
  refine hs2.st_ 1 rfl len_round_Core (fun h3 hs3 _ => ?_)
  have hs4 : Sat h0 S h3 (core (stpC c kind) ++ (cel 24 d1 (enc d) :: L)) := hs3.sel 9 [1, 2, 3, 4, 5, 6, 7, 8, 0] (by decide) (by decide)
  have hc1 : Cok (stpC c kind) := { hc with st := (by show 0 ≤ kind + 1 ∧ kind + 1 ≤ 3; omega), s0 := (by intro (h : kind + 1 = 0); omega) }
  refine member_spec (stpC c kind) hc1 hs4 (fun h5 hs5 => ?_)
  refine ifb_i (fun hm => ?_) (fun hm => ?_)
  · refine hs5.ld_ 0 rfl (hs5.ld_ 8 rfl ?_)
    rw [show (stpC c kind).x.at_ = cxI c.ht c.rd from hc.at_]
    refine Round_spec hc.plc ?_
    refine hs5.chk_ 8 rfl rfl ?_
    refine say_spec (stpC c kind) _ [] hs5 ⟨rfl, fun hne => absurd rfl hne⟩ (by decide) (Nat.lt_trans hc.na (by decide)) (fun r o h6 hs6 => ?_)
    have hm' : isMem c = true := hm
    have := hs6.sel 9 [0, 1, 2, 3, 4, 5, 6, 7] (by decide) (by decide)
    refine hk r o h6 ?_
    unfold votesC
    rw [if_pos hm']
    exact this
  · have hm' : isMem c = false := hm
    have := hs5.sel 9 [0, 1, 2, 3, 4, 5, 6, 7] (by decide) (by decide)
    refine hk Sl.nil Sl.nil h5 ?_
    unfold votesC
    rw [if_neg (by rw [hm']; decide)]
    exact this
def rdC (c : CS) (rd : Int) : CS := { c with rd := rd, x := { c.x with at_ := cxI c.ht rd, step := 1, ticks := 0, fresh := true } }
/-- a round begins -/
def enterC (c : CS) (rd : Int) (r o : Sl) : CS :=
  if isMem c && (idAt c c.ht rd == c.x.me) then sayC (rdC c rd) { api_Act.zero with Act := 1, Round := rd, Valid := c.x.valid.round, Block := c.x.valid.block } c.vq r o else rdC c rd
theorem enter_spec (c : CS) (rd : Int) {k : Unit → H → Prop} (hrd : 0 ≤ rd ∧ rd ≤ 1024) (hc : Cok c) (hs : Sat h0 S h (core c ++ L)) (hk : ∀ r o h', Sat h0 S h' (core (enterC c rd r o) ++ L) → k () h') :
    call (β := Unit) Prog 57 [reg ((some c.p : Pt) : Pt), reg (rd : Int)] k h := by
  refine round_Core_enter.ok _ _ _ _ ?_
  unfold round_Core_enter.b
  have hp : Plc c.ht rd := ⟨hc.plc.1, hrd⟩
  refine nn_i (hs.ld_ 0 rfl ?_)
  rw [hc.at_]
  refine Height_spec hc.plc ?_
  refine At_spec _ _ ?_
  refine hs.st_ 0 rfl len_round_Core (fun h1 hs1 _ => ?_)
  refine hs1.st_ 0 rfl len_round_Core (fun h2 hs2 _ => ?_)
  refine hs2.st_ 0 rfl len_round_Core (fun h3 hs3 _ => ?_)
  refine hs3.st_ 0 rfl len_round_Core (fun h4 hs4 _ => ?_)
  have hs5 : Sat h0 S h4 (core (rdC c rd) ++ L) := hs4
  have hc1 : Cok (rdC c rd) := { hc with at_ := rfl, plc := hp, st := (by decide : (0 : Int) ≤ 1 ∧ (1 : Int) ≤ 3), s0 := (by intro (h : (1 : Int) = 0); omega) }
  refine member_spec (rdC c rd) hc1 hs5 (fun h5 hs6 => ?_)
  have hmem : isMem (rdC c rd) = isMem c := rfl
  rw [hmem]
  unfold round_Core_enter.j1
  refine ifb_i (fun hm => ?_) (fun hm => ?_)
  · refine hs6.ld_ 0 rfl (hs6.ld_ 0 rfl ?_)
    refine leader_spec (rdC c rd) hp hc1 hs6 (fun h6 hs7 => ?_)
    refine hs7.chk_ 0 rfl rfl ?_
    have hid : idAt (rdC c rd) c.ht rd = idAt c c.ht rd := rfl
    rw [hid]
    refine ifb_i (fun hl => ?_) (fun hl => ?_)
    · refine nn_i (hs7.ld_ 0 rfl (hs7.ld_ 0 rfl ?_))
      have hcv : SVz 42 h6 c.x.valid.block.Requests c.vq := hc.vl.svz (hs7.at_ (i := 6) rfl)
      refine say_spec (rdC c rd) _ c.vq hs7 hcv (reqs_len hc.vl.1) (by have := hc.na; exact Nat.lt_trans this (by decide)) (fun r o h8 hs8 => ?_)
      refine hk r o h8 ?_
      unfold enterC
      have hl' : (idAt c c.ht rd == c.x.me) = true := hl
      rw [if_pos (by rw [hm, hl']; rfl)]
      exact hs8
    · refine hk Sl.nil Sl.nil h6 ?_
      unfold enterC
      have hl' : (idAt c c.ht rd == c.x.me) = false := hl
      rw [if_neg (by rw [hm, hl']; simp)]
      exact hs7
  · refine ifb_i (fun hl => by cases hl) (fun _ => ?_)
    refine hk Sl.nil Sl.nil h5 ?_
    unfold enterC
    rw [if_neg (by rw [hm]; simp)]
    exact hs6
/-- did a quorum vote first for it? -/
def firstB (c : CS) (rd : Int) (d : Dig) : Bool := decide ((quoN c.ms.length : Int) ≤ ((forF c.vts 1 rd d 63).length : Int))
theorem first_spec (c : CS) (rd : Int) (d : Dig) {k : Bool → H → Prop} (hc : Cok c) (hs : Sat h0 S h (core c ++ L)) (hk : ∀ h', Sat h0 S h' (core c ++ L) → k (firstB c rd d) h') :
    call (β := Bool) Prog 117 [reg ((some c.p : Pt) : Pt), reg (rd : Int), reg (d : Dig)] k h := by
  refine round_Core_first.ok _ _ _ _ _ ?_
  unfold round_Core_first.b
  refine hs.box_ (fun d1 h1 hs1 _ _ => ?_)
  refine nn_i (hs1.ld_ 1 rfl (hs1.ld_ 0 rfl (hs1.ld_ 1 rfl ?_)))
  rw [hc.hq]
  refine vote_Box_Count.ok _ _ _ _ _ _ (Count_spec c.q c.vm c.vts 1 rd d (hs1.at_ (i := 2) rfl) (fun h2 hx2 => ?_))
  have hs2 := hs1.ext hx2
  refine hs2.chk_ 1 rfl rfl ?_
  have hms : SV 34 h2 c.x.config.Members c.ms := hs2.rdoSV 6 rfl
  refine Quorum_spec _ c.ms.length hms.2.1 (by have := hc.len; omega) (fun h3 hx3 => ?_)
  exact hk h3 ((hs2.ext hx3).drop (List.sublist_cons_self _ _))
def nowL (c : CS) : Int := if c.x.step == 0 then -1 else c.rd
def laterV (c : CS) (ks : List (Int × Int)) : Int := if nowL c < reachedF ks (((c.ms.length - 1) / 3 + 1 : Nat) : Int) then reachedF ks (((c.ms.length - 1) / 3 + 1 : Nat) : Int) else -1
theorem later_spec (c : CS) {k : Int → H → Prop} (hc : Cok c) (hs : Sat h0 S h (core c ++ L)) (hk : ∀ ks h', LastOf ks c.vts → Sat h0 S h' (core c ++ L) → k (laterV c ks) h') :
    call (β := Int) Prog 115 [reg ((some c.p : Pt) : Pt)] k h := by
  refine round_Core_later.ok _ _ _ ?_
  unfold round_Core_later.b
  refine nn_i (hs.ld_ 0 rfl ?_)
  rw [hc.at_]
  refine Round_spec hc.plc (hs.ld_ 0 rfl ?_)
  have key : ∀ now, now = nowL c → round_Core_later.j1 k (some c.p) now h := by
    intro now hnow
    unfold round_Core_later.j1
    refine nn_i (hs.ld_ 0 rfl (hs.ld_ 0 rfl ?_))
    have hms : SV 34 h c.x.config.Members c.ms := hs.rdoSV 5 rfl
    refine Weak_spec _ c.ms.length hms.2.1 (by have := hc.len; omega) (fun h1 hx1 => ?_)
    have hs1 := hs.ext hx1
    refine hs1.chk_ 0 rfl rfl ?_
    rw [hc.hq]
    refine vote_Box_Reached.ok _ _ _ _ (Reached_spec c.q c.vm c.vts _ (hs1.at_ (i := 1) rfl) (by have := hc.nv; omega) (fun ks h2 hx2 hL => ?_))
    have hs2 := hs1.ext hx2
    have h3 := hk ks h2 hL hs2
    unfold laterV at h3
    rw [← hnow] at h3
    refine ifb_i (fun hl => ?_) (fun hl => ?_)
    · rw [if_pos (by simpa using hl)] at h3; exact h3
    · rw [if_neg (by simpa using hl)] at h3; exact h3
  refine ifb_i (fun h1 => key _ ?_) (fun h1 => key _ ?_)
  · unfold nowL; rw [if_pos h1]
  · unfold nowL; rw [if_neg (by rw [h1]; decide)]
/-- is a mark of a digest? -/
def isB (m : round_mark) (qs : List api_Request) (d : Dig) : Bool := decide (0 ≤ m.round) && decide (digB m.block qs = d)
theorem is_spec (m : round_mark) (qs : List api_Request) (d : Dig) {k : Bool → H → Prop} {h : H} (hT : Tb h) (hv : SVz 42 h m.block.Requests qs) (hq : reqsN qs < 2 ^ 38) (hk : ∀ h', Ext h h' → k (isB m qs d) h') :
    call (β := Bool) Prog 134 [reg (m : round_mark), reg (d : Dig)] k h := by
  refine round_mark_is.ok _ _ _ _ ?_
  unfold round_mark_is.b round_mark_is.j1
  refine (Sat.init h).box_ (fun m1 h1 hs1 _ _ => ?_)
  refine hs1.box_ (fun d1 h2 hs2 _ _ => ?_)
  refine hs2.ld_ 1 rfl ?_
  refine ifb_i (fun h3 => ?_) (fun h3 => ?_)
  · refine hs2.ld_ 1 rfl (hs2.ld_ 0 rfl ?_)
    refine BDig_spec _ qs (hT.fr hs2.fr (by simp)) (hv.ext hs2.fr) hq (fun h4 hx4 => ?_)
    have hs4 := hs2.ext hx4
    refine hs4.chk_ 0 rfl rfl ?_
    have := hk h4 hs4.fr
    unfold isB at this
    rw [h3] at this
    exact this
  · have := hk h2 hs2.fr
    unfold isB at this
    rw [h3] at this
    exact this
end
end Go.Proofs.YtimmoekliphobaaDoor
namespace Go.Proofs.YtimmoekliphobaaDoor
open Go Go.Sh
open Go.Sh.Ty (reg)
set_option linter.unusedVariables false
set_option maxRecDepth 100000

theorem mfind_rawP (l : List (Int × (api_Plan × List api_Request))) (k : Int) : mfind (rawP l) k = (mfind l k).map (·.1) := by
  induction l with
  | nil => rfl
  | cons e l ih =>
    unfold mfind rawP at *
    simp only [List.map_cons, List.find?_cons]
    by_cases h : k = e.1 <;> simp [h]
    simpa using ih
theorem mfind_rawB (l : List (Dig × (api_Block × List api_Request))) (k : Dig) : mfind (rawB l) k = (mfind l k).map (·.1) := by
  induction l with
  | nil => rfl
  | cons e l ih =>
    unfold mfind rawB at *
    simp only [List.map_cons, List.find?_cons]
    by_cases h : k = e.1 <;> simp [h]
    simpa using ih
theorem mins_rawP (l : List (Int × (api_Plan × List api_Request))) (k : Int) (v : api_Plan × List api_Request) : mins (rawP l) k v.1 = rawP (mins l k v) := by
  induction l with
  | nil => rfl
  | cons e l ih =>
    simp only [rawP, List.map_cons, mins] at ih ⊢
    by_cases h : k = e.1 <;> simp [h]
    simpa using ih
theorem mins_rawB (l : List (Dig × (api_Block × List api_Request))) (k : Dig) (v : api_Block × List api_Request) : mins (rawB l) k v.1 = rawB (mins l k v) := by
  induction l with
  | nil => rfl
  | cons e l ih =>
    simp only [rawB, List.map_cons, mins] at ih ⊢
    by_cases h : k = e.1 <;> simp [h]
    simpa using ih
theorem mins_in {κ ν : Type} [DecidableEq κ] {l : List (κ × ν)} {k : κ} {v : ν} {e : κ × ν} (h : e ∈ mins l k v) : e ∈ l ∨ e = (k, v) := by
  induction l with
  | nil => simp [mins] at h; exact .inr h
  | cons a l ih =>
    unfold mins at h
    split at h
    · rename_i hk
      rcases List.mem_cons.1 h with rfl | h
      · exact .inr (by rw [hk])
      · exact .inl (by simp [h])
    · rcases List.mem_cons.1 h with rfl | h
      · exact .inl (by simp)
      · exact (ih h).imp (by intro h; simp [h]) id
/-- what a plan of a round is voted first for; false: that isn't known yet -/
def planF (c : CS) (pl : api_Plan) (qs : List api_Request) : T2 Dig Bool :=
  if 0 ≤ pl.Valid then
    if firstB c pl.Valid (digB pl.Block qs) then
      ⟨if (decide (c.x.locked.round < 0) || isB c.x.locked c.lq (digB pl.Block qs)) || decide (c.x.locked.round ≤ pl.Valid) then digB pl.Block qs else dz, true⟩
    else ⟨dz, false⟩
  else ⟨if decide (c.x.locked.round < 0) || isB c.x.locked c.lq (digB pl.Block qs) then digB pl.Block qs else dz, true⟩
section
variable {h0 h : H} {S : List Nat} {L : List En}
theorem plan_spec (c : CS) (pl : api_Plan) (qs : List api_Request) {k : T2 Dig Bool → H → Prop} (hT : Tb h0) (hS : 0 ∉ S) (hc : Cok c) (hs : Sat h0 S h (core c ++ L)) (hv : SVz 42 h pl.Block.Requests qs) (hq : reqsN qs < 2 ^ 30)
    (hk : ∀ h', Sat h0 S h' (core c ++ L) → k (planF c pl qs) h') : call (β := T2 Dig Bool) Prog 116 [reg ((some c.p : Pt) : Pt), reg (pl : api_Plan)] k h := by
  refine round_Core_plan.ok _ _ _ _ ?_
  unfold round_Core_plan.b
  refine hs.box_ (fun p1 h1 hs1 _ hx1 => ?_)
  refine hs1.box_ (fun t4 h2 hs2 _ hx2 => ?_)
  refine hs2.ld_ 1 rfl ?_
  refine BDig_spec _ qs (hT.fr hs2.fr hS) (hv.ext (hx1.trans hx2)) (by omega) (fun h3 hx3 => ?_)
  have hs3 := hs2.ext hx3
  refine hs3.box_ (fun d h4 hs4 _ _ => ?_)
  refine hs4.st_ 0 rfl arr_len (fun h5 hs5 _ => ?_)
  have hs6 : Sat h0 S h5 (core c ++ (cel 24 d (enc (digB pl.Block qs)) :: cel 24 t4 (enc ((fun _ => 0) : Dig)) :: cel 77 p1 (enc pl) :: L)) := hs5.sel 11 [3, 4, 5, 6, 7, 8, 9, 10, 0, 1, 2] (by decide) (by decide)
  clear hs1 hs2 hs3 hs4 hs5
  have fin : ∀ {h' : H} {a b e : En}, Sat h0 S h' (core c ++ (a :: b :: e :: L)) → Sat h0 S h' (core c ++ L) := fun hs => by
    have := hs.sel 11 [0, 1, 2, 3, 4, 5, 6, 7] (by decide) (by decide)
    exact this
  have j2 : ∀ (free : Bool) h', Sat h0 S h' (core c ++ (cel 24 d (enc (digB pl.Block qs)) :: cel 24 t4 (enc ((fun _ => 0) : Dig)) :: cel 77 p1 (enc pl) :: L)) → planF c pl qs = ⟨if free then digB pl.Block qs else dz, true⟩ → round_Core_plan.j2 k t4 d free h' := by
    intro free h' hs' he
    unfold round_Core_plan.j2 round_Core_plan.j3
    refine ifb_i (fun hf => ?_) (fun hf => ?_)
    · have hf' : free = false := by simpa using hf
      refine none_spec' (fun h7 hx7 => ?_)
      have hs7 := hs'.ext hx7
      refine hs7.st_ 8 rfl arr_len (fun h8 hs8 _ => ?_)
      refine hs8.ld_ 8 rfl ?_
      refine hs8.st_ 9 rfl arr_len (fun h9 hs9 _ => ?_)
      refine hs9.ld_ 9 rfl ?_
      have := hk h9 (fin hs9)
      rw [he, hf'] at this; exact this
    · have hf' : free = true := by simpa using hf
      refine hs'.ld_ 8 rfl ?_
      refine hs'.st_ 9 rfl arr_len (fun h9 hs9 _ => ?_)
      refine hs9.ld_ 9 rfl ?_
      have := hk h9 (fin hs9)
      rw [he, hf'] at this; exact this
  have j1 : ∀ (free : Bool) h', Sat h0 S h' (core c ++ (cel 24 d (enc (digB pl.Block qs)) :: cel 24 t4 (enc ((fun _ => 0) : Dig)) :: cel 77 p1 (enc pl) :: L)) → free = (decide (c.x.locked.round < 0) || isB c.x.locked c.lq (digB pl.Block qs)) → round_Core_plan.j1 k (some c.p) p1 t4 d free h' := by
    intro free h' hs' hfr
    unfold round_Core_plan.j1
    refine hs'.ld_ 10 rfl ?_
    refine ifb_i (fun hv0 => ?_) (fun hv0 => ?_)
    · have hv0' : 0 ≤ pl.Valid := by simpa using hv0
      refine hs'.ld_ 10 rfl (hs'.ld_ 8 rfl ?_)
      refine first_spec c _ _ hc hs' (fun h7 hs7 => ?_)
      refine ifb_i (fun hf => ?_) (fun hf => ?_)
      · have hf' : firstB c pl.Valid (digB pl.Block qs) = false := by simpa using hf
        refine none_spec' (fun h8 hx8 => ?_)
        have hs8 := hs7.ext hx8
        refine hs8.st_ 9 rfl arr_len (fun h9 hs9 _ => ?_)
        refine hs9.ld_ 9 rfl ?_
        have := hk h9 (fin hs9)
        have he : planF c pl qs = ⟨dz, false⟩ := by unfold planF; rw [if_pos hv0', hf']; rfl
        rw [he] at this; exact this
      · have hf' : firstB c pl.Valid (digB pl.Block qs) = true := by simpa using hf
        refine ifb_i (fun hfree => ?_) (fun hfree => ?_)
        · refine j2 true h7 hs7 ?_
          unfold planF; rw [if_pos hv0', if_pos hf', ← hfr, hfree]; rfl
        · refine nn_i (hs7.ld_ 0 rfl (hs7.ld_ 10 rfl ?_))
          refine j2 _ h7 hs7 ?_
          unfold planF; rw [if_pos hv0', if_pos hf', ← hfr, hfree, Bool.false_or]
    · have hv0' : ¬ 0 ≤ pl.Valid := by simpa using hv0
      refine j2 free h' hs' ?_
      unfold planF; rw [if_neg hv0', ← hfr]
  refine nn_i (hs6.ld_ 0 rfl ?_)
  refine ifb_i (fun hl => ?_) (fun hl => ?_)
  · exact j1 true h5 hs6 (by rw [hl]; rfl)
  · refine hs6.ld_ 0 rfl (hs6.ld_ 8 rfl ?_)
    refine is_spec _ c.lq _ (hT.fr hs6.fr hS) (hc.lk.svz (hs6.at_ (i := 6) rfl)) (by have := hc.lk.1; omega) (fun h7 hx7 => ?_)
    exact j1 _ h7 (hs6.ext hx7) (by rw [hl, Bool.false_or])
end
/-! the moves -/
def Win (c : CS) (d : Dig) (r : Int) (is : Bool) : Prop := ∃ cs, CountOf cs c.vts 2 ∧ WinOf cs (quoN c.ms.length : Int) d r is
/-- nothing is decided here -/
def NW (c : CS) : Prop := ∃ d r is, Win c d r is ∧ (is = true → mfind c.bl d = none)
def NL (c : CS) : Prop := ∃ ks, LastOf ks c.vts ∧ laterV c ks < 0
def decC (c : CS) : CS := { c with x := { c.x with decided := true } }
def lockC (c : CS) (b : api_Block) (qs : List api_Request) : CS := { c with x := { c.x with locked := ⟨c.rd, b⟩, valid := ⟨c.rd, b⟩ }, lq := qs, vq := qs }
def valC (c : CS) (b : api_Block) (qs : List api_Request) : CS := { c with x := { c.x with valid := ⟨c.rd, b⟩ }, vq := qs }
def Stp (c : CS) : Prop :=
  (c.x.step = 0 → c.pl = [] ∧ ∀ q ∈ c.vts, ¬ 0 ≤ q.1.round) ∧ (c.x.step = 1 → mfind c.pl c.rd = none) ∧
  (c.x.step = 2 → (∀ p qs, mfind c.pl c.rd = some (p, qs) → firstB c c.rd (digB p.Block qs) = false) ∧ firstB c c.rd dz = false) ∧
  (c.x.step = 3 → ∀ p qs, mfind c.pl c.rd = some (p, qs) → c.x.valid.round < c.rd → firstB c c.rd (digB p.Block qs) = false)
inductive MV (c : CS) : CS → Bool → Prop
  | dec (d : Dig) (r : Int) (b : api_Block) (qs : List api_Request) (rr o : Sl) : Win c d r true → mfind c.bl d = some (b, qs) → MV c (sayC (decC c) { api_Act.zero with Act := 3, Round := r, Digest := d, Block := b } qs rr o) false
  | next (ks : List (Int × Int)) (rr o : Sl) : NW c → LastOf ks c.vts → 0 ≤ laterV c ks → MV c (enterC c (laterV c ks) rr o) true
  | start (rr o : Sl) : NW c → NL c → c.x.step = 0 → (c.pl ≠ [] ∨ ∃ q ∈ c.vts, 0 ≤ q.1.round) → MV c (enterC c 0 rr o) true
  | wait (p : api_Plan) (qs : List api_Request) : NW c → NL c → c.x.step = 1 → mfind c.pl c.rd = some (p, qs) → (planF c p qs).b = false → MV c c false
  | first (p : api_Plan) (qs : List api_Request) (rr o : Sl) : NW c → NL c → c.x.step = 1 → mfind c.pl c.rd = some (p, qs) → (planF c p qs).b = true → MV c (votesC c 1 (planF c p qs).a rr o) true
  | lock (p : api_Plan) (qs : List api_Request) (rr o : Sl) : NW c → NL c → c.x.step = 2 → mfind c.pl c.rd = some (p, qs) → firstB c c.rd (digB p.Block qs) = true → MV c (votesC (lockC c p.Block qs) 2 (digB p.Block qs) rr o) true
  | nil (rr o : Sl) : NW c → NL c → c.x.step = 2 → (∀ p qs, mfind c.pl c.rd = some (p, qs) → firstB c c.rd (digB p.Block qs) = false) → firstB c c.rd dz = true → MV c (votesC c 2 dz rr o) true
  | val (p : api_Plan) (qs : List api_Request) : NW c → NL c → c.x.step = 3 → mfind c.pl c.rd = some (p, qs) → c.x.valid.round < c.rd → firstB c c.rd (digB p.Block qs) = true → MV c (valC c p.Block qs) true
  | stop : NW c → NL c → Stp c → MV c c false
end Go.Proofs.YtimmoekliphobaaDoor
namespace Go.Proofs.YtimmoekliphobaaDoor
open Go Go.Sh
open Go.Sh.Ty (reg)
set_option linter.unusedVariables false
set_option maxRecDepth 100000
set_option maxHeartbeats 1000000

section
variable {h0 h : H} {S : List Nat} {L : List En}
theorem _root_.Go.Sh.Sat.mgetE {κ ν : Type} [Ty κ] [Ty ν] {α : Type} {r : Nat} {l : List (κ × ν)} [DecidableEq κ] {g : List (κ × ν) → α} {k : α → H → Prop} (i : Nat) (hs : Sat h0 S h L) (hi : L[i]? = some (mpE r l)) {y : α} (hg : g l = y) (hk : k y h) : mget ⟨some r⟩ g k h := by
  subst hg; exact hs.mget_ i hi hk
theorem lookB (c : CS) (dv : Dig) : ∃ bv bk, mlook api_Block.zero (rawB c.bl) dv = ⟨bv, bk⟩ ∧ (bk = true → ∃ qs, mfind c.bl dv = some (bv, qs)) ∧ (bk = false → mfind c.bl dv = none) := by
  unfold mlook
  rw [mfind_rawB]
  cases hm : mfind c.bl dv with
  | none => exact ⟨_, _, rfl, by simp, by simp⟩
  | some e => obtain ⟨b, qs⟩ := e; exact ⟨_, _, rfl, fun _ => ⟨qs, rfl⟩, by simp⟩
theorem lookP (c : CS) (rd : Int) : ∃ pv pk, mlook api_Plan.zero (rawP c.pl) rd = ⟨pv, pk⟩ ∧ (pk = true → ∃ qs, mfind c.pl rd = some (pv, qs)) ∧ (pk = false → mfind c.pl rd = none) := by
  unfold mlook
  rw [mfind_rawP]
  cases hm : mfind c.pl rd with
  | none => exact ⟨_, _, rfl, by simp, by simp⟩
  | some e => obtain ⟨b, qs⟩ := e; exact ⟨_, _, rfl, fun _ => ⟨qs, rfl⟩, by simp⟩
theorem enterC_dec (c : CS) (rd : Int) (r o : Sl) : (enterC c rd r o).x.decided = c.x.decided := by unfold enterC; split <;> rfl
theorem votesC_dec (c : CS) (kd : Int) (d : Dig) (r o : Sl) : (votesC c kd d r o).x.decided = c.x.decided := by unfold votesC; split <;> rfl
theorem reached_le {ks : List (Int × Int)} {l : Vts} (hL : LastOf ks l) {n : Int} (hn : 1 ≤ n) : reachedF ks n = -1 ∨ ∃ q ∈ l, q.1.round = reachedF ks n := by
  unfold reachedF
  split
  · exact .inl rfl
  · rename_i hc
    right
    have hi : ((ks.length : Int) - n).toNat < ((ks.map (·.2)).mergeSort fun x y => decide (x ≤ y)).length := by
      rw [List.length_mergeSort, List.length_map]; omega
    have hm : ((ks.map (·.2)).mergeSort fun x y => decide (x ≤ y)).getD ((ks.length : Int) - n).toNat 0 ∈ ks.map (·.2) := by
      rw [List.getD_eq_getElem?_getD, List.getElem?_eq_getElem hi]
      exact (List.mergeSort_perm _ _).mem_iff.1 (List.getElem_mem hi)
    obtain ⟨e, he, hee⟩ := List.mem_map.1 hm
    obtain ⟨q, hq, _, hr⟩ := (hL.yes e.1 e.2 (mfind_of_mem hL.nodup he)).1
    exact ⟨q, hq, by rw [hr, hee]⟩
theorem later_le {c : CS} (hc : Cok c) {ks : List (Int × Int)} (hL : LastOf ks c.vts) : laterV c ks ≤ 1024 := by
  unfold laterV
  split
  · rcases reached_le hL (n := (((c.ms.length - 1) / 3 + 1 : Nat) : Int)) (by omega) with h | ⟨q, hq, h⟩
    · rw [h]; omega
    · rw [← h]; exact (hc.vr q hq).2
  · omega
/-- the end of a move -/
theorem mv_end {c' : CS} {k : Bool → H → Prop} (hs : Sat h0 S h (core c' ++ L)) (hk : k (!c'.x.decided) h) : round_Core_moves.j2 k (some c'.p) h := by
  unfold round_Core_moves.j2
  exact nn_i (hs.ld_ 0 rfl hk)
theorem moves_j1 (c : CS) {k : Bool → H → Prop} (hT : Tb h0) (hS : 0 ∉ S) (hc : Cok c) (hd : c.x.decided = false) (d : Addr) (dv : Dig) (r : Int) (is : Bool) (hw : Win c dv r is)
    (hs : Sat h0 S h (cel 24 d (enc dv) :: (core c ++ L))) (hk : ∀ c' b h', MV c c' b → Sat h0 S h' (core c' ++ L) → k b h') : round_Core_moves.j1 k (some c.p) d r is h := by
  unfold round_Core_moves.j1
  obtain ⟨bv, bk, hlb, hbs, hbn⟩ := lookB c dv
  obtain ⟨pv, pk, hlp, hps, hpn⟩ := lookP c c.rd
  refine nn_i (hs.ld_ 1 rfl (hs.ld_ 0 rfl ?_))
  rw [hc.hb]
  refine hs.mgetE 4 rfl hlb ?_
  refine hs.box_ (fun b h1 hs1 _ _ => ?_)
  refine hs1.chk_ 2 rfl hc.hb (hs1.chk_ 1 rfl rfl (hs1.mchk_ 5 rfl hlb ?_))
  refine hs1.st_ 0 rfl len_api_Block (fun h2 hs2 _ => ?_)
  refine hs2.ld_ 2 rfl ?_
  rw [hc.at_]
  refine Round_spec hc.plc (hs2.ld_ 2 rfl ?_)
  rw [hc.hp]
  refine hs2.mgetE 4 rfl hlp ?_
  refine hs2.box_ (fun p2 h3 hs3 _ _ => ?_)
  refine hs3.st_ 0 rfl len_api_Plan (fun h4 hs4 _ => ?_)
  have hs5 : Sat h0 S h4 (core c ++ (cel 77 p2 (enc pv) :: cel 75 b (enc bv) :: cel 24 d (enc dv) :: L)) := hs4.sel 11 [3, 4, 5, 6, 7, 8, 9, 10, 0, 1, 2] (by decide) (by decide)
  clear hs hs1 hs2 hs3 hs4
  have fin : ∀ {c' : CS} {h' : H} {a b e : En}, Sat h0 S h' (core c' ++ (a :: b :: e :: L)) → Sat h0 S h' (core c' ++ L) := fun hs => by
    have := hs.sel 11 [0, 1, 2, 3, 4, 5, 6, 7] (by decide) (by decide)
    exact this
  refine later_spec c hc hs5 (fun ks h5 hL hs6 => ?_)
  clear hs5
  refine ifb_i (fun h1 => ?_) (fun h1 => ?_)
  · -- decided
    simp only [Bool.and_eq_true] at h1
    obtain ⟨hi, hb⟩ := h1
    obtain ⟨qs, hm⟩ := hbs hb
    have hcv := hc.bc _ (mfind_mem hm)
    refine hs6.st_ 0 rfl len_round_Core (fun h6 hs7 _ => ?_)
    have hs8 : Sat h0 S h6 (core (decC c) ++ (cel 77 p2 (enc pv) :: cel 75 b (enc bv) :: cel 24 d (enc dv) :: L)) := hs7
    refine hs8.ld_ 10 rfl (hs8.ld_ 9 rfl ?_)
    refine say_spec (decC c) _ qs hs8 (hcv.svz (hs8.at_ (i := 6) rfl)) (reqs_len hcv.1) (Nat.lt_trans hc.na (by decide)) (fun rr o h7 hs9 => ?_)
    refine mv_end (c' := sayC (decC c) { api_Act.zero with Act := 3, Round := r, Digest := dv, Block := bv } qs rr o) hs9 ?_
    exact hk _ _ h7 (MV.dec dv r bv qs rr o (hi ▸ hw) hm) (fin hs9)
  have hNW : NW c := ⟨dv, r, is, hw, fun hi => hbn (by simpa [hi] using h1)⟩
  refine ifb_i (fun h2 => ?_) (fun h2 => ?_)
  · have hn : 0 ≤ laterV c ks := by simpa using h2
    refine enter_spec c _ ⟨hn, later_le hc hL⟩ hc hs6 (fun rr o h7 hs9 => ?_)
    have hp : (enterC c (laterV c ks) rr o).p = c.p := by unfold enterC; split <;> rfl
    rw [← hp]
    refine mv_end hs9 ?_
    rw [enterC_dec, hd]
    exact hk _ _ h7 (MV.next ks rr o hNW hL hn) (fin hs9)
  have hNL : NL c := ⟨ks, hL, by simpa using h2⟩
  -- what a plan of this round lets be done
  have hplan : ∀ h', Sat h0 S h' (core c ++ (cel 77 p2 (enc pv) :: cel 75 b (enc bv) :: cel 24 d (enc dv) :: L)) → ∀ qs, mfind c.pl c.rd = some (pv, qs) → SVz 42 h' pv.Block.Requests qs ∧ reqsN qs < 2 ^ 30 := by
    intro h' hs' qs hm
    have hcv := hc.pc _ (mfind_mem hm)
    exact ⟨hcv.svz (hs'.at_ (i := 6) rfl), hcv.1⟩
  have j6 : ∀ (t : Bool) h', Sat h0 S h' (core c ++ (cel 77 p2 (enc pv) :: cel 75 b (enc bv) :: cel 24 d (enc dv) :: L)) → (t = true → c.x.step = 3 ∧ c.x.valid.round < c.rd ∧ ∃ qs, mfind c.pl c.rd = some (pv, qs) ∧ firstB c c.rd (digB pv.Block qs) = true) → (t = false → Stp c) → round_Core_moves.j6 (round_Core_moves.j2 k) k (some c.p) c.rd p2 t h' := by
    intro t h' hs' ht hf
    unfold round_Core_moves.j6
    refine ifb_i (fun h3 => ?_) (fun h3 => ?_)
    · obtain ⟨a1, a2, qs, a3, a4⟩ := ht h3
      refine hs'.ld_ 8 rfl (nn_i ?_)
      refine hs'.st_ 0 rfl len_round_Core (fun h6 hs7 _ => ?_)
      have hs8 : Sat h0 S h6 (core (valC c pv.Block qs) ++ (cel 77 p2 (enc pv) :: cel 75 b (enc bv) :: cel 24 d (enc dv) :: L)) := hs7
      refine mv_end (c' := valC c pv.Block qs) hs8 ?_
      rw [show (valC c pv.Block qs).x.decided = c.x.decided from rfl, hd]
      exact hk _ _ h6 (MV.val pv qs hNW hNL a1 a3 a2 a4) (fin hs8)
    · exact hk _ _ h' (MV.stop hNW hNL (hf h3)) (fin hs')
  have hun : ∀ p qs, pk = true → mfind c.pl c.rd = some (p, qs) → p = pv ∧ mfind c.pl c.rd = some (pv, qs) := by
    intro p qs hpk hm
    obtain ⟨qs', hm'⟩ := hps hpk
    rw [hm] at hm'
    have := Option.some.inj hm'
    obtain ⟨rfl, rfl⟩ := Prod.mk.inj this
    exact ⟨rfl, hm⟩
  have hno : ∀ p qs, pk = false → mfind c.pl c.rd = some (p, qs) → False := by
    intro p qs hpk hm; rw [hpn hpk] at hm; cases hm
  have j5 : ∀ (t : Bool) h', Sat h0 S h' (core c ++ (cel 77 p2 (enc pv) :: cel 75 b (enc bv) :: cel 24 d (enc dv) :: L)) → (t = true → c.x.step = 2 ∧ firstB c c.rd dz = true ∧ ∀ p qs, mfind c.pl c.rd = some (p, qs) → firstB c c.rd (digB p.Block qs) = false) → (t = false → ∀ (hf3 : c.x.step = 3 → ∀ p qs, mfind c.pl c.rd = some (p, qs) → c.x.valid.round < c.rd → firstB c c.rd (digB p.Block qs) = false), Stp c) → round_Core_moves.j5 (round_Core_moves.j2 k) k (some c.p) c.rd p2 pk t h' := by
    intro t h' hs' ht hf
    unfold round_Core_moves.j5
    refine ifb_i (fun h3 => ?_) (fun h3 => ?_)
    · obtain ⟨a1, a2, a3⟩ := ht h3
      refine none_spec' (fun h6 hx6 => ?_)
      refine votes_spec c 2 _ (by decide) hc (hs'.ext hx6) (fun rr o h7 hs9 => ?_)
      have hp : (votesC c 2 dz rr o).p = c.p := by unfold votesC; split <;> rfl
      rw [← hp]
      refine mv_end (c' := votesC c 2 dz rr o) hs9 ?_
      rw [votesC_dec, hd]
      exact hk _ _ h7 (MV.nil rr o hNW hNL a1 a3 a2) (fin hs9)
    · refine nn_i (hs'.ld_ 0 rfl ?_)
      refine ifb_i (fun h4 => ?_) (fun h4 => ?_)
      · simp only [Bool.and_eq_true, beq_iff_eq] at h4
        obtain ⟨a1, a2⟩ := h4
        obtain ⟨qs, hm⟩ := hps a2
        refine hs'.ld_ 0 rfl ?_
        refine ifb_i (fun h5 => ?_) (fun h5 => ?_)
        · have a3 : c.x.valid.round < c.rd := by simpa using h5
          refine hs'.ld_ 8 rfl ?_
          obtain ⟨b1, b2⟩ := hplan h' hs' qs hm
          refine BDig_spec _ qs (hT.fr hs'.fr hS) b1 (by omega) (fun h6 hx6 => ?_)
          refine first_spec c _ _ hc (hs'.ext hx6) (fun h7 hs8 => ?_)
          refine j6 _ h7 hs8 (fun e => ⟨a1, a3, qs, hm, e⟩) (fun e => hf h3 (fun _ p qs' hm' _ => ?_))
          rw [hm] at hm'
          obtain ⟨rfl, rfl⟩ := Prod.mk.inj (Option.some.inj hm')
          exact e
        · have a3 : ¬ c.x.valid.round < c.rd := by simpa using h5
          exact j6 false h' hs' (fun e => by cases e) (fun _ => hf h3 (fun _ p qs' hm' hlt => absurd hlt a3))
      · refine j6 false h' hs' (fun e => by cases e) (fun _ => hf h3 (fun hst p qs' hm' hlt => ?_))
        exfalso
        have hpk : pk = false := by
          cases hpk : pk with
          | false => rfl
          | true => rw [hst, hpk] at h4; simp at h4
        exact hno _ _ hpk hm'
  have j4 : ∀ (t : Bool) h', Sat h0 S h' (core c ++ (cel 77 p2 (enc pv) :: cel 75 b (enc bv) :: cel 24 d (enc dv) :: L)) → (t = true → c.x.step = 2 ∧ ∃ qs, mfind c.pl c.rd = some (pv, qs) ∧ firstB c c.rd (digB pv.Block qs) = true) →
      (t = false → c.x.step = 2 → ∀ p qs, mfind c.pl c.rd = some (p, qs) → firstB c c.rd (digB p.Block qs) = false) → (∀ (hf2 : c.x.step = 2 → (∀ p qs, mfind c.pl c.rd = some (p, qs) → firstB c c.rd (digB p.Block qs) = false) ∧ firstB c c.rd dz = false) (hf3 : c.x.step = 3 → ∀ p qs, mfind c.pl c.rd = some (p, qs) → c.x.valid.round < c.rd → firstB c c.rd (digB p.Block qs) = false), Stp c) → round_Core_moves.j4 (round_Core_moves.j2 k) k (some c.p) c.rd p2 pk t h' := by
    intro t h' hs' ht hf hst
    unfold round_Core_moves.j4
    refine ifb_i (fun h3 => ?_) (fun h3 => ?_)
    · obtain ⟨a1, qs, a3, a4⟩ := ht h3
      refine hs'.ld_ 8 rfl (hs'.ld_ 8 rfl (nn_i ?_))
      refine hs'.st_ 0 rfl len_round_Core (fun h6 hs7 _ => ?_)
      refine hs7.chk_ 8 rfl rfl ?_
      refine hs7.st_ 0 rfl len_round_Core (fun h8 hs8 _ => ?_)
      have hs9 : Sat h0 S h8 (core (lockC c pv.Block qs) ++ (cel 77 p2 (enc pv) :: cel 75 b (enc bv) :: cel 24 d (enc dv) :: L)) := hs8
      refine hs9.ld_ 8 rfl ?_
      obtain ⟨b1, b2⟩ := hplan h' hs' qs a3
      have hcv := hc.pc _ (mfind_mem a3)
      have hc2 : Cok (lockC c pv.Block qs) := { hc with lk := hcv, vl := hcv }
      refine BDig_spec _ qs (hT.fr hs9.fr hS) (hcv.svz (hs9.at_ (i := 6) rfl)) (by omega) (fun h10 hx10 => ?_)
      refine votes_spec (lockC c pv.Block qs) 2 _ (by decide) hc2 (hs9.ext hx10) (fun rr o h11 hs11 => ?_)
      have hp : (votesC (lockC c pv.Block qs) 2 (digB pv.Block qs) rr o).p = c.p := by unfold votesC; split <;> rfl
      rw [← hp]
      refine mv_end (c' := votesC (lockC c pv.Block qs) 2 (digB pv.Block qs) rr o) hs11 ?_
      rw [votesC_dec, show (lockC c pv.Block qs).x.decided = c.x.decided from rfl, hd]
      exact hk _ _ h11 (MV.lock pv qs rr o hNW hNL a1 a3 a4) (fin hs11)
    · refine nn_i (hs'.ld_ 0 rfl ?_)
      refine ifb_i (fun h4 => ?_) (fun h4 => ?_)
      · have a1 : c.x.step = 2 := by simpa using h4
        refine none_spec' (fun h6 hx6 => ?_)
        refine first_spec c _ _ hc (hs'.ext hx6) (fun h7 hs8 => ?_)
        exact j5 _ h7 hs8 (fun e => ⟨a1, e, hf h3 a1⟩) (fun e hf3 => hst (fun _ => ⟨hf h3 a1, e⟩) hf3)
      · have a1 : ¬ c.x.step = 2 := by simpa using h4
        exact j5 false h' hs' (fun e => by cases e) (fun _ hf3 => hst (fun e => absurd e a1) hf3)
  have j3 : ∀ (t : Bool) h', Sat h0 S h' (core c ++ (cel 77 p2 (enc pv) :: cel 75 b (enc bv) :: cel 24 d (enc dv) :: L)) → (t = true → c.x.step = 0 ∧ (c.pl ≠ [] ∨ ∃ q ∈ c.vts, 0 ≤ q.1.round)) → (t = false → c.x.step = 0 → c.pl = [] ∧ ∀ q ∈ c.vts, ¬ 0 ≤ q.1.round) → round_Core_moves.j3 (round_Core_moves.j2 k) k (some c.p) c.rd p2 pk t h' := by
    intro t h' hs' ht hf
    unfold round_Core_moves.j3
    refine ifb_i (fun h3 => ?_) (fun h3 => ?_)
    · obtain ⟨a1, a2⟩ := ht h3
      refine enter_spec c 0 (by decide) hc hs' (fun rr o h7 hs9 => ?_)
      have hp : (enterC c 0 rr o).p = c.p := by unfold enterC; split <;> rfl
      rw [← hp]
      refine mv_end hs9 ?_
      rw [enterC_dec, hd]
      exact hk _ _ h7 (MV.start rr o hNW hNL a1 a2) (fin hs9)
    · refine nn_i (hs'.ld_ 0 rfl ?_)
      refine ifb_i (fun h4 => ?_) (fun h4 => ?_)
      · simp only [Bool.and_eq_true, beq_iff_eq] at h4
        obtain ⟨a1, a2⟩ := h4
        obtain ⟨qs, hm⟩ := hps a2
        obtain ⟨b1, b2⟩ := hplan h' hs' qs hm
        refine hs'.ld_ 8 rfl ?_
        refine plan_spec c pv qs hT hS hc hs' b1 b2 (fun h7 hs8 => ?_)
        refine hs8.box_ (fun d4 h8 hs9 _ _ => ?_)
        refine hs9.st_ 0 rfl arr_len (fun h9 hs10 _ => ?_)
        have hs11 : Sat h0 S h9 (core c ++ (cel 24 d4 (enc (planF c pv qs).a) :: cel 77 p2 (enc pv) :: cel 75 b (enc bv) :: cel 24 d (enc dv) :: L)) := hs10.sel 12 [1, 2, 3, 4, 5, 6, 7, 8, 0, 9, 10, 11] (by decide) (by decide)
        have fin4 : ∀ {c' : CS} {h' : H}, Sat h0 S h' (core c' ++ (cel 24 d4 (enc (planF c pv qs).a) :: cel 77 p2 (enc pv) :: cel 75 b (enc bv) :: cel 24 d (enc dv) :: L)) → Sat h0 S h' (core c' ++ L) := fun hs => by
          have := hs.sel 12 [0, 1, 2, 3, 4, 5, 6, 7] (by decide) (by decide)
          exact this
        refine ifb_i (fun h5 => ?_) (fun h5 => ?_)
        · exact hk _ _ h9 (MV.wait pv qs hNW hNL a1 hm (by simpa using h5)) (fin4 hs11)
        · refine hs11.ld_ 8 rfl ?_
          refine votes_spec c 1 _ (by decide) hc hs11 (fun rr o h12 hs12 => ?_)
          have hp : (votesC c 1 (planF c pv qs).a rr o).p = c.p := by unfold votesC; split <;> rfl
          rw [← hp]
          refine mv_end (c' := votesC c 1 (planF c pv qs).a rr o) hs12 ?_
          rw [votesC_dec, hd]
          exact hk _ _ h12 (MV.first pv qs rr o hNW hNL a1 hm (by simpa using h5)) (fin4 hs12)
      · have hf1 : c.x.step = 1 → mfind c.pl c.rd = none := by
          intro hst
          cases hpk : pk with
          | false => exact hpn hpk
          | true => rw [hst, hpk] at h4; simp at h4
        refine hs'.ld_ 0 rfl ?_
        refine ifb_i (fun h5 => ?_) (fun h5 => ?_)
        · simp only [Bool.and_eq_true, beq_iff_eq] at h5
          obtain ⟨a1, a2⟩ := h5
          obtain ⟨qs, hm⟩ := hps a2
          obtain ⟨b1, b2⟩ := hplan h' hs' qs hm
          refine hs'.ld_ 8 rfl ?_
          refine BDig_spec _ qs (hT.fr hs'.fr hS) b1 (by omega) (fun h6 hx6 => ?_)
          refine first_spec c _ _ hc (hs'.ext hx6) (fun h7 hs8 => ?_)
          refine j4 _ h7 hs8 (fun e => ⟨a1, qs, hm, e⟩) (fun e _ p qs' hm' => ?_) (fun hf2 hf3 => ⟨hf h3, hf1, hf2, hf3⟩)
          rw [hm] at hm'
          obtain ⟨rfl, rfl⟩ := Prod.mk.inj (Option.some.inj hm')
          exact e
        · refine j4 false h' hs' (fun e => by cases e) (fun _ hst p qs' hm' => ?_) (fun hf2 hf3 => ⟨hf h3, hf1, hf2, hf3⟩)
          exfalso
          have hpk : pk = false := by
            cases hpk : pk with
            | false => rfl
            | true => rw [hst, hpk] at h5; simp at h5
          exact hno _ _ hpk hm'
  refine hs6.ld_ 0 rfl ?_
  refine ifb_i (fun h3 => ?_) (fun h3 => ?_)
  · have a1 : c.x.step = 0 := by simpa using h3
    refine hs6.ld_ 0 rfl ?_
    rw [hc.hp]
    have hlen : ((rawP c.pl).length : Int) = (c.pl.length : Int) := by simp [rawP]
    refine hs6.mgetE 2 rfl hlen ?_
    refine ifb_i (fun h4 => ?_) (fun h4 => ?_)
    · have a2 : 0 < c.pl.length := by have : (0 : Int) < c.pl.length := by simpa using h4
                                      omega
      exact j3 true h5 hs6 (fun _ => ⟨a1, .inl (by intro e; rw [e] at a2; simp at a2)⟩) (fun e => by cases e)
    · have a2 : c.pl = [] := List.eq_nil_of_length_eq_zero (by have : ¬ (0 : Int) < c.pl.length := by simpa using h4
                                                               omega)
      refine hs6.ld_ 0 rfl ?_
      rw [hc.hq]
      refine vote_Box_Voters.ok _ _ _ _ (Voters_spec c.q c.vm c.vts 0 (hs6.at_ (i := 1) rfl) (fun vs h7 hx7 hnd hvs => ?_))
      refine j3 _ h7 (hs6.ext hx7) (fun e => ⟨a1, .inr ?_⟩) (fun e _ => ⟨a2, fun q hq hr => ?_⟩)
      · have : 0 < vs.length := by have : (0 : Int) < vs.length := by simpa using e
                                   omega
        cases vs with
        | nil => simp at this
        | cons v vs => obtain ⟨q, hq, hr, _⟩ := (hvs v).1 (by simp); exact ⟨q, hq, hr⟩
      · have : vs.length = 0 := by have : ¬ (0 : Int) < vs.length := by simpa using e
                                   omega
        have hv0 : vs = [] := List.eq_nil_of_length_eq_zero this
        have := (hvs q.1.from_).2 ⟨q, hq, hr, rfl⟩
        rw [hv0] at this; simp at this
  · have a1 : ¬ c.x.step = 0 := by simpa using h3
    exact j3 false h5 hs6 (fun e => by cases e) (fun _ e => absurd e a1)
theorem moves_spec (c : CS) {k : Bool → H → Prop} (hT : Tb h0) (hS : 0 ∉ S) (hc : Cok c) (hd : c.x.decided = false) (hs : Sat h0 S h (core c ++ L)) (hk : ∀ c' b h', MV c c' b → Sat h0 S h' (core c' ++ L) → k b h') :
    call (β := Bool) Prog 91 [reg ((some c.p : Pt) : Pt)] k h := by
  refine round_Core_moves.ok _ _ _ ?_
  unfold round_Core_moves.b
  have hlen := hc.len
  have hv2 : c.vts.length < 2 ^ 20 := Nat.lt_trans hc.nv (by decide)
  refine nn_i (hs.ld_ 0 rfl (hs.ld_ 0 rfl ⟨?_, ?_⟩))
  · have hms : SV 34 h c.x.config.Members c.ms := hs.rdoSV 5 rfl
    refine Quorum_spec _ c.ms.length hms.2.1 (by omega) (fun h1 hx1 => ?_)
    have hs1 := hs.ext hx1
    refine hs1.chk_ 0 rfl rfl ⟨?_, ?_⟩
    · rw [hc.hq]
      refine vote_Box_Winner.ok _ _ _ _ _ (Winner_spec c.q c.vm c.vts 2 _ (hs1.at_ (i := 1) rfl) hv2 (fun cs best at_ found h2 hx2 hC hW => ?_))
      have hs2 := hs1.ext hx2
      refine hs2.box_ (fun d h3 hs3 _ _ => ?_)
      refine hs3.chk_ 1 rfl hc.hq (hs3.chk_ 1 rfl rfl ?_)
      refine hs3.st_ 0 rfl arr_len (fun h4 hs4 _ => ?_)
      exact moves_j1 c hT hS hc hd d best at_ found ⟨cs, hC, hW⟩ hs4 hk
    · refine hs1.box_ (fun d h3 hs3 _ _ => ?_)
      refine hs3.chk_ 1 rfl rfl (hs3.chk_ 1 rfl rfl ?_)
      rw [hc.hq]
      refine vote_Box_Winner.ok _ _ _ _ _ (Winner_spec c.q c.vm c.vts 2 _ (hs3.at_ (i := 2) rfl) hv2 (fun cs best at_ found h2 hx2 hC hW => ?_))
      have hs2 := hs3.ext hx2
      refine hs2.st_ 0 rfl arr_len (fun h4 hs4 _ => ?_)
      exact moves_j1 c hT hS hc hd d best at_ found ⟨cs, hC, hW⟩ hs4 hk
  · refine hs.box_ (fun d h3 hs3 _ _ => ?_)
    refine hs3.chk_ 1 rfl rfl (hs3.chk_ 1 rfl rfl ?_)
    have hms : SV 34 h3 c.x.config.Members c.ms := hs3.rdoSV 6 rfl
    refine Quorum_spec _ c.ms.length hms.2.1 (by omega) (fun h1 hx1 => ?_)
    have hs1 := hs3.ext hx1
    refine hs1.chk_ 1 rfl rfl ?_
    rw [hc.hq]
    refine vote_Box_Winner.ok _ _ _ _ _ (Winner_spec c.q c.vm c.vts 2 _ (hs1.at_ (i := 2) rfl) hv2 (fun cs best at_ found h2 hx2 hC hW => ?_))
    have hs2 := hs1.ext hx2
    refine hs2.st_ 0 rfl arr_len (fun h4 hs4 _ => ?_)
    exact moves_j1 c hT hS hc hd d best at_ found ⟨cs, hC, hW⟩ hs4 hk
end
end Go.Proofs.YtimmoekliphobaaDoor
namespace Go.Proofs.YtimmoekliphobaaDoor
open Go Go.Sh
open Go.Sh.Ty (reg)
set_option linter.unusedVariables false
set_option maxRecDepth 100000

theorem least {p : Nat → Prop} (h : ∃ n, p n) : ∃ n, p n ∧ ∀ m, p m → n ≤ m := by
  obtain ⟨n, hn⟩ := h
  induction n using Nat.strongRecOn with
  | _ n ih =>
    by_cases hx : ∃ m, m < n ∧ p m
    · obtain ⟨m, hm, hp⟩ := hx; exact ih m hm hp
    · exact ⟨n, hn, fun m hm => by
        by_cases hlt : m < n
        · exact absurd ⟨m, hlt, hm⟩ hx
        · omega⟩
open Classical in
noncomputable def rankOf {σ : Type} (P : Nat → σ → H → Prop) (a : σ) (h : H) : Nat := if hx : ∃ n, P n a h then (least hx).choose else 0
theorem rankOf_le {σ : Type} {P : Nat → σ → H → Prop} {a : σ} {h : H} {n : Nat} (hp : P n a h) : rankOf P a h ≤ n := by
  unfold rankOf
  rw [dif_pos ⟨n, hp⟩]
  exact (least ⟨n, hp⟩).choose_spec.2 n hp
theorem rankOf_is {σ : Type} {P : Nat → σ → H → Prop} {a : σ} {h : H} (hx : ∃ n, P n a h) : P (rankOf P a h) a h := by
  unfold rankOf
  rw [dif_pos hx]
  exact (least hx).choose_spec.1
/-- a loop whose measure is told beside -/
theorem Lp_rank {σ : Type} {body : (σ → H → Prop) → σ → H → Prop} (P : Nat → σ → H → Prop) {n : Nat} {a : σ} {h : H} (h0 : P n a h)
    (step : ∀ n a h (Q : σ → H → Prop), P n a h → (∀ n' a' h', n' < n → P n' a' h' → Q a' h') → body Q a h) : Lp body a h := by
  refine ⟨fun a h => ∃ n, P n a h, rankOf P, ⟨n, h0⟩, fun a h hx => ?_⟩
  refine step _ a h _ (rankOf_is hx) (fun n' a' h' hlt hp => ⟨⟨n', hp⟩, ?_⟩)
  exact Nat.lt_of_le_of_lt (rankOf_le hp) hlt

def mu (c : CS) : Nat := (1024 - c.rd).toNat * 16 + (3 - c.x.step).toNat * 4 + (if c.x.valid.round < c.rd then 1 else 0)
theorem Cok.say {c : CS} (hc : Cok c) (hn : c.acts.length + 1 < 2 ^ 19) (a : api_Act) (qs : List api_Request) (r o : Sl) : Cok (sayC c a qs r o) :=
  { hc with na := (by show (c.acts ++ [_]).length < _; simpa using hn) }
theorem Cok.stp {c : CS} (hc : Cok c) {kind : Int} (hk : 0 ≤ kind ∧ kind ≤ 2) : Cok (stpC c kind) :=
  { hc with st := (by show 0 ≤ kind + 1 ∧ kind + 1 ≤ 3; omega), s0 := (by intro (h : kind + 1 = 0); omega) }
theorem Cok.votes {c : CS} (hc : Cok c) (hn : c.acts.length + 1 < 2 ^ 19) {kind : Int} (hk : 0 ≤ kind ∧ kind ≤ 2) (d : Dig) (r o : Sl) : Cok (votesC c kind d r o) ∧ (votesC c kind d r o).acts.length ≤ c.acts.length + 1 ∧ mu (votesC c kind d r o) = mu (stpC c kind) := by
  unfold votesC
  split
  · exact ⟨(hc.stp hk).say hn _ _ _ _, by simp [sayC, stpC], rfl⟩
  · exact ⟨hc.stp hk, Nat.le_succ _, rfl⟩
theorem Cok.rdc {c : CS} (hc : Cok c) {rd : Int} (hrd : 0 ≤ rd ∧ rd ≤ 1024) : Cok (rdC c rd) :=
  { hc with at_ := rfl, plc := ⟨hc.plc.1, hrd⟩, st := (by decide : (0 : Int) ≤ 1 ∧ (1 : Int) ≤ 3), s0 := (by intro (h : (1 : Int) = 0); omega) }
theorem Cok.enter {c : CS} (hc : Cok c) (hn : c.acts.length + 1 < 2 ^ 19) {rd : Int} (hrd : 0 ≤ rd ∧ rd ≤ 1024) (r o : Sl) : Cok (enterC c rd r o) ∧ (enterC c rd r o).acts.length ≤ c.acts.length + 1 ∧ mu (enterC c rd r o) = mu (rdC c rd) := by
  unfold enterC
  split
  · exact ⟨(hc.rdc hrd).say hn _ _ _ _, by simp [sayC, rdC], rfl⟩
  · exact ⟨hc.rdc hrd, Nat.le_succ _, rfl⟩
theorem mu_stp (c : CS) (hc : Cok c) (kind : Int) (h : c.x.step = kind) (hk : 0 ≤ kind ∧ kind ≤ 2) : mu (stpC c kind) < mu c := by
  unfold mu stpC
  simp only [h]
  have : (3 - (kind + 1)).toNat + 1 = (3 - kind).toNat := by omega
  omega
theorem mu_rd (c : CS) (hc : Cok c) (rd : Int) (hrd : 0 ≤ rd ∧ rd ≤ 1024) (h : c.rd < rd ∨ (c.x.step = 0 ∧ c.rd ≤ rd)) : mu (rdC c rd) < mu c := by
  unfold mu rdC
  simp only
  have h2 := hc.plc.2
  have h3 := hc.st
  have e1 : (3 - (1 : Int)).toNat = 2 := by decide
  rw [e1]
  rcases h with h | ⟨h4, h5⟩
  · have : (1024 - rd).toNat + 1 ≤ (1024 - c.rd).toNat := by omega
    split <;> split <;> omega
  · rw [h4]
    have e2 : (3 - (0 : Int)).toNat = 3 := by decide
    rw [e2]
    have : (1024 - rd).toNat ≤ (1024 - c.rd).toNat := by omega
    split <;> split <;> omega
theorem later_gt {c : CS} {ks : List (Int × Int)} (h : 0 ≤ laterV c ks) : nowL c < laterV c ks := by
  unfold laterV at h ⊢
  split at h
  · rename_i hc; rw [if_pos hc]; exact hc
  · omega
theorem MV.ok {c c' : CS} {b : Bool} (hm : MV c c' b) (hc : Cok c) (hd : c.x.decided = false) (hn : c.acts.length + 1 < 2 ^ 19) : Cok c' ∧ c'.acts.length ≤ c.acts.length + 1 ∧ (b = true → mu c' < mu c ∧ c'.x.decided = false) := by
  cases hm with
  | dec d r bb qs rr o hw hf =>
    have h1 : Cok (decC c) := { hc with }
    exact ⟨h1.say hn _ _ _ _, by simp [sayC, decC], by simp⟩
  | next ks rr o h1 h2 h3 =>
    have hle := later_le hc h2
    obtain ⟨a1, a2, a3⟩ := hc.enter hn ⟨h3, hle⟩ rr o
    refine ⟨a1, a2, fun _ => ⟨?_, by rw [enterC_dec]; exact hd⟩⟩
    rw [a3]
    refine mu_rd c hc _ ⟨h3, hle⟩ ?_
    have hgt := later_gt h3
    unfold nowL at hgt
    split at hgt
    · rename_i hs
      have hs' : c.x.step = 0 := by simpa using hs
      exact .inr ⟨hs', by rw [hc.s0 hs']; exact h3⟩
    · exact .inl hgt
  | start rr o h1 h2 h3 h4 =>
    obtain ⟨a1, a2, a3⟩ := hc.enter hn (show (0 : Int) ≤ 0 ∧ (0 : Int) ≤ 1024 by decide) rr o
    refine ⟨a1, a2, fun _ => ⟨?_, by rw [enterC_dec]; exact hd⟩⟩
    rw [a3]
    exact mu_rd c hc 0 (by decide) (.inr ⟨h3, by rw [hc.s0 h3]; decide⟩)
  | wait p qs _ _ _ _ _ => exact ⟨hc, Nat.le_succ _, by simp⟩
  | first p qs rr o h1 h2 h3 h4 h5 =>
    obtain ⟨a1, a2, a3⟩ := hc.votes hn (show (0 : Int) ≤ 1 ∧ (1 : Int) ≤ 2 by decide) (planF c p qs).a rr o
    refine ⟨a1, a2, fun _ => ⟨?_, by rw [votesC_dec]; exact hd⟩⟩
    rw [a3]; exact mu_stp c hc 1 h3 (by decide)
  | lock p qs rr o h1 h2 h3 h4 h5 =>
    have hcv := hc.pc _ (mfind_mem h4)
    have hc2 : Cok (lockC c p.Block qs) := { hc with lk := hcv, vl := hcv }
    obtain ⟨a1, a2, a3⟩ := hc2.votes hn (show (0 : Int) ≤ 2 ∧ (2 : Int) ≤ 2 by decide) (digB p.Block qs) rr o
    refine ⟨a1, a2, fun _ => ⟨?_, by rw [votesC_dec]; exact hd⟩⟩
    rw [a3]
    have := mu_stp (lockC c p.Block qs) hc2 2 h3 (by decide)
    refine Nat.lt_of_lt_of_le this ?_
    unfold mu lockC
    simp only [Int.lt_irrefl, if_false]
    omega
  | nil rr o h1 h2 h3 h4 h5 =>
    obtain ⟨a1, a2, a3⟩ := hc.votes hn (show (0 : Int) ≤ 2 ∧ (2 : Int) ≤ 2 by decide) dz rr o
    refine ⟨a1, a2, fun _ => ⟨?_, by rw [votesC_dec]; exact hd⟩⟩
    rw [a3]; exact mu_stp c hc 2 h3 (by decide)
  | val p qs h1 h2 h3 h4 h5 h6 =>
    have hcv := hc.pc _ (mfind_mem h4)
    refine ⟨{ hc with vl := hcv }, Nat.le_succ _, fun _ => ⟨?_, hd⟩⟩
    unfold mu valC
    simp only [Int.lt_irrefl, if_false, if_pos h5]
    omega
  | stop _ _ _ => exact ⟨hc, Nat.le_succ _, by simp⟩
/-- moves till there is none -/
inductive Mvs : CS → CS → Prop
  | last {c c' : CS} : MV c c' false → Mvs c c'
  | more {c c1 c' : CS} : MV c c1 true → Mvs c1 c' → Mvs c c'
theorem Mvs.ok {c c' : CS} (hm : Mvs c c') (hc : Cok c) (hd : c.x.decided = false) (hn : c.acts.length + mu c + 2 < 2 ^ 19) : Cok c' := by
  induction hm with
  | last h => exact (h.ok hc hd (by omega)).1
  | more h _ ih =>
    obtain ⟨a1, a2, a3⟩ := h.ok hc hd (by omega)
    obtain ⟨a4, a5⟩ := a3 rfl
    exact ih a1 a5 (by omega)
/-- a core whose acts were handed out -/
def clrC (c : CS) : CS := { c with x := { c.x with out := Sl.nil, fresh := false }, acts := [], KA := [] }
/-- acts that were handed out -/
abbrev hand (c : CS) : List En := [own 80 135 c.x.out (c.acts.map (·.1)), kE c.KA]
theorem Cok.clr {c : CS} (hc : Cok c) : Cok (clrC c) := { hc with na := (by show ([] : List (api_Act × List api_Request)).length < _; decide) }
section
variable {h0 h : H} {S : List Nat} {L : List En}
theorem acts_spec (c : CS) {k : Sl → H → Prop} (hT : Tb h0) (hS : 0 ∉ S) (hc : Cok c) (hd : c.x.decided = false) (hn : c.acts.length + mu c + 2 < 2 ^ 19) (hs : Sat h0 S h (core c ++ L))
    (hk : ∀ c' h', Mvs c c' → Sat h0 S h' (core (clrC c') ++ (hand c' ++ L)) → k c'.x.out h') : call (β := Sl) Prog 58 [reg ((some c.p : Pt) : Pt)] k h := by
  refine round_Core_acts.ok _ _ _ ?_
  unfold round_Core_acts.b round_Core_acts.l1
  have j1 : ∀ c' h', c'.p = c.p → Mvs c c' → Sat h0 S h' (core c' ++ L) → round_Core_acts.j1 k (some c.p) h' := by
    intro c' h' hp hm hs'
    unfold round_Core_acts.j1
    rw [← hp]
    refine nn_i (hs'.ld_ 0 rfl ?_)
    refine hs'.st_ 0 rfl len_round_Core (fun h1 hs1 _ => ?_)
    refine hs1.st_ 0 rfl len_round_Core (fun h2 hs2 _ => ?_)
    have hs3 := (hs2.nilOwn (T := 80) (n := 135) (α := api_Act)).add0 (e := kE []) (by intro q hq; cases hq) (kE_loc _) rfl
    refine hk c' h2 hm ?_
    have := hs3.sel 10 [2, 3, 4, 5, 1, 7, 8, 0, 6, 9] (by decide) (by decide)
    exact this
  refine Lp_rank (fun n (_ : Unit) h' => ∃ c1, c1.p = c.p ∧ (∀ c', Mvs c1 c' → Mvs c c') ∧ Cok c1 ∧ c1.x.decided = false ∧ c1.acts.length + mu c1 + 2 < 2 ^ 19 ∧ Sat h0 S h' (core c1 ++ L) ∧ mu c1 = n)
    ⟨c, rfl, fun _ h => h, hc, hd, hn, hs, rfl⟩ ?_
  rintro n ⟨⟩ h1 Q ⟨c1, hp, hch, hc1, hd1, hn1, hs1, rfl⟩ hQ
  rw [← hp]
  refine nn_i (hs1.ld_ 0 rfl ?_)
  rw [hd1]
  refine ifb_i (fun _ => ?_) (fun e => by cases e)
  refine moves_spec c1 hT hS hc1 hd1 hs1 (fun c2 b h2 hm hs2 => ?_)
  obtain ⟨a1, a2, a3⟩ := hm.ok hc1 hd1 (by omega)
  have hp2 : c2.p = c1.p := by
    cases hm <;> first | rfl | (unfold enterC; split <;> rfl) | (unfold votesC; split <;> rfl)
  unfold round_Core_acts.j2
  refine ifb_i (fun hb => ?_) (fun hb => ?_)
  · subst hb
    obtain ⟨a4, a5⟩ := a3 rfl
    exact hQ _ () h2 a4 ⟨c2, hp2.trans hp, fun c' h => hch c' (.more hm h), a1, a5, by omega, hs2, rfl⟩
  · subst hb
    rw [hp]
    exact j1 c2 h2 (hp2.trans hp) (hch c2 (.last hm)) hs2
end
end Go.Proofs.YtimmoekliphobaaDoor
namespace Go.Proofs.YtimmoekliphobaaDoor
open Go Go.Sh
open Go.Sh.Ty (reg)
set_option linter.unusedVariables false
set_option maxRecDepth 100000
set_option maxHeartbeats 4000000
theorem round_Core_Start.ok (c : Pt) (k : Sl → H → Prop) (h : H) (hh : round_Core_Start.b c k h) : CallsH Prog 32 [reg c].toArray h fun v h' => ∃ r : Sl, v = reg r ∧ k r h' := by
  unfold round_Core_Start.b at hh
  refine CallsH.of 20 Tryd.func32 rfl Tryd.ntmps32 rfl (fun w0 => ?_)
  refine CW.seq ?_
  refine CW.region ?_
  refine .val (v_assign (v := reg (Sl.nil : Sl)) rfl) rfl ?_
  refine .nil ?_
  refine QN.then_ ?_
  refine CW.seq ?_
  refine CW.join (fun ρ h => ∃ (ρ' : Env) (t10 : Bool), ρ = setl ρ' [(0, reg (c : Pt)), (10, reg (t10 : Bool))] ∧ (round_Core_Start.j1 k) c t10 h) ?_ ?_
  · refine CW.region ?_
    refine .val (v_move (v := reg (c : Pt)) rfl) rfl ?_
    refine .val (v_eq_nil pt_62 rfl rfl) rfl ?_
    refine .val (v_move (v := reg (c.isNone : Bool)) rfl) rfl ?_
    refine ifb_cases hh (fun hb hh => ?_) (fun hb hh => ?_)
    · refine .no 5 rfl (congrArg Value.bool hb) rfl rfl ?_
      refine .no 5 rfl (congrArg Value.bool hb) rfl rfl ?_
      refine .no 5 rfl (congrArg Value.bool hb) rfl rfl ?_
      refine .no 5 rfl (congrArg Value.bool hb) rfl rfl ?_
      refine .val (v_pickT (v := reg (true : Bool)) rfl hb rfl) rfl ?_
      refine .nil ?_
      exact QN.thenJ ⟨_, true, setl_eq ⟨rfl, ⟨rfl, trivial⟩⟩, hh⟩
    · refine .yv 5 rfl (congrArg Value.bool hb) rfl (v_move (v := reg (c : Pt)) rfl) rfl ?_
      obtain ⟨p, hp, hh⟩ := hh
      refine .yv 5 rfl (congrArg Value.bool hb) rfl (v_nilCheck (congrArg Value.pointer hp)) rfl ?_
      refine .yv 5 rfl (congrArg Value.bool hb) rfl (v_fieldAddr fl_140_12 rfl) rfl ?_
      obtain ⟨t9, ⟨xt9, hxt9, hgt9⟩, hh⟩ := hh
      refine .yv 5 rfl (congrArg Value.bool hb) rfl (v_ld1 (p := p) 211 na_4 rfl hxt9 hgt9 get_140_decided) rfl ?_
      refine .val (v_pickF (v := reg (t9 : Bool)) rfl hb rfl) rfl ?_
      refine .nil ?_
      exact QN.thenJ ⟨_, t9, setl_eq ⟨rfl, ⟨rfl, trivial⟩⟩, hh⟩
  · rintro ρ h ⟨ρ', t10, rfl, hh⟩
    unfold round_Core_Start.j1 at hh
    refine CW.cond t10 rfl (fun hb_1 => ?_) (fun hb_1 => ?_)
    · have hh := hh.1 hb_1
      refine CW.seq ?_
      refine CW.region ?_
      refine .val (v_assign (v := reg (Sl.nil : Sl)) rfl) rfl ?_
      refine .nil ?_
      refine QN.then_ ?_
      refine CW.ret ?_
      refine QN.thenRet ?_
      exact ret1 rfl rfl ⟨(Sl.nil : Sl), rfl, hh⟩
    · have hh := hh.2 hb_1
      refine CW.skip ?_
      refine QN.then_ ?_
      refine CW.join (fun ρ h => ∃ (ρ' : Env), ρ = setl ρ' [(0, reg (c : Pt))] ∧ (round_Core_Start.j2 k) c h) ?_ ?_
      · refine CW.seq ?_
        refine CW.region ?_
        refine .val (v_move (v := reg (c : Pt)) rfl) rfl ?_
        obtain ⟨p_1, hp_1, hh⟩ := hh
        refine .val (v_nilCheck (congrArg Value.pointer hp_1)) rfl ?_
        refine .val (v_fieldAddr fl_140_4 rfl) rfl ?_
        obtain ⟨t14, ⟨xt14, hxt14, hgt14⟩, hh⟩ := hh
        refine .val (v_ld1 (p := p_1) 5 na_3 rfl hxt14 hgt14 get_140_step) rfl ?_
        refine .val (v_ieql rfl rfl) rfl ?_
        refine .nil ?_
        refine QN.then_ ?_
        refine CW.cond (t14 == (0 : Int)) rfl (fun hb_2 => ?_) (fun hb_2 => ?_)
        · have hh := hh.1 hb_2
          refine CW.region ?_
          refine .val (v_move (v := reg (c : Pt)) rfl) rfl ?_
          refine .e (e_callP fn_57 rfl rfl hh ?_)
          intro h t17 hh
          refine .nil ?_
          exact QN.thenJ ⟨_, setl_eq ⟨rfl, trivial⟩, hh⟩
        · have hh := hh.2 hb_2
          refine CW.skip ?_
          exact QN.thenJ ⟨_, setl_eq ⟨rfl, trivial⟩, hh⟩
      · rintro ρ h ⟨ρ', rfl, hh⟩
        unfold round_Core_Start.j2 at hh
        refine CW.seq ?_
        refine CW.region ?_
        refine .val (v_move (v := reg (c : Pt)) rfl) rfl ?_
        refine .e (e_callP fn_58 rfl rfl hh ?_)
        intro h t19 hh
        refine .val (v_assign (v := reg (t19 : Sl)) rfl) rfl ?_
        refine .nil ?_
        refine QN.then_ ?_
        refine CW.ret ?_
        exact ret1 rfl rfl ⟨(t19 : Sl), rfl, hh⟩
end Go.Proofs.YtimmoekliphobaaDoor
namespace Go.Proofs.YtimmoekliphobaaDoor
open Go Go.Sh
open Go.Sh.Ty (reg)
set_option linter.unusedVariables false
set_option maxRecDepth 100000
set_option maxHeartbeats 4000000
theorem round_Core_Tick.ok (c : Pt) (n : Int) (k : Sl → H → Prop) (h : H) (hh : round_Core_Tick.b c n k h) : CallsH Prog 35 [reg c, reg n].toArray h fun v h' => ∃ r : Sl, v = reg r ∧ k r h' := by
  unfold round_Core_Tick.b at hh
  refine CallsH.of 113 Tryd.func35 rfl Tryd.ntmps35 rfl (fun w0 => ?_)
  refine CW.seq ?_
  refine CW.region ?_
  refine .val (v_assign (v := reg (Sl.nil : Sl)) rfl) rfl ?_
  refine .nil ?_
  refine QN.then_ ?_
  refine CW.seq ?_
  refine CW.join (fun ρ h => ∃ (ρ' : Env) (t25 : Bool), ρ = setl ρ' [(0, reg (c : Pt)), (1, reg (n : Int)), (25, reg (t25 : Bool))] ∧ (round_Core_Tick.j1 k) c n t25 h) ?_ ?_
  · refine CW.region ?_
    refine .val (v_move (v := reg (c : Pt)) rfl) rfl ?_
    refine .val (v_eq_nil pt_62 rfl rfl) rfl ?_
    refine .val (v_move (v := reg (c.isNone : Bool)) rfl) rfl ?_
    refine ifb_cases hh (fun hb hh => ?_) (fun hb hh => ?_)
    · refine .no 9 rfl (congrArg Value.bool hb) rfl rfl ?_
      refine .no 9 rfl (congrArg Value.bool hb) rfl rfl ?_
      refine .no 9 rfl (congrArg Value.bool hb) rfl rfl ?_
      refine .no 9 rfl (congrArg Value.bool hb) rfl rfl ?_
      refine .val (v_pickT (v := reg (true : Bool)) rfl hb rfl) rfl ?_
      refine .val (v_move (v := reg (true : Bool)) rfl) rfl ?_
      refine .no 15 rfl rfl rfl rfl ?_
      refine .no 15 rfl rfl rfl rfl ?_
      refine .no 15 rfl rfl rfl rfl ?_
      refine .no 15 rfl rfl rfl rfl ?_
      refine .no 15 rfl rfl rfl rfl ?_
      refine .val (v_pickT (v := reg (true : Bool)) rfl rfl rfl) rfl ?_
      refine .val (v_move (v := reg (true : Bool)) rfl) rfl ?_
      refine .no 22 rfl rfl rfl rfl ?_
      refine .no 22 rfl rfl rfl rfl ?_
      refine .val (v_pickT (v := reg (true : Bool)) rfl rfl rfl) rfl ?_
      refine .nil ?_
      exact QN.thenJ ⟨_, true, setl_eq ⟨rfl, ⟨rfl, ⟨rfl, trivial⟩⟩⟩, hh⟩
    · refine .yv 9 rfl (congrArg Value.bool hb) rfl (v_move (v := reg (c : Pt)) rfl) rfl ?_
      obtain ⟨p, hp, hh⟩ := hh
      refine .yv 9 rfl (congrArg Value.bool hb) rfl (v_nilCheck (congrArg Value.pointer hp)) rfl ?_
      refine .yv 9 rfl (congrArg Value.bool hb) rfl (v_fieldAddr fl_140_12 rfl) rfl ?_
      obtain ⟨t13, ⟨xt13, hxt13, hgt13⟩, hh⟩ := hh
      refine .yv 9 rfl (congrArg Value.bool hb) rfl (v_ld1 (p := p) 211 na_4 rfl hxt13 hgt13 get_140_decided) rfl ?_
      refine .val (v_pickF (v := reg (t13 : Bool)) rfl hb rfl) rfl ?_
      refine .val (v_move (v := reg (t13 : Bool)) rfl) rfl ?_
      refine ifb_cases hh (fun hb_1 hh => ?_) (fun hb_1 hh => ?_)
      · refine .no 15 rfl (congrArg Value.bool hb_1) rfl rfl ?_
        refine .no 15 rfl (congrArg Value.bool hb_1) rfl rfl ?_
        refine .no 15 rfl (congrArg Value.bool hb_1) rfl rfl ?_
        refine .no 15 rfl (congrArg Value.bool hb_1) rfl rfl ?_
        refine .no 15 rfl (congrArg Value.bool hb_1) rfl rfl ?_
        refine .val (v_pickT (v := reg (true : Bool)) rfl hb_1 rfl) rfl ?_
        refine .val (v_move (v := reg (true : Bool)) rfl) rfl ?_
        refine .no 22 rfl rfl rfl rfl ?_
        refine .no 22 rfl rfl rfl rfl ?_
        refine .val (v_pickT (v := reg (true : Bool)) rfl rfl rfl) rfl ?_
        refine .nil ?_
        exact QN.thenJ ⟨_, true, setl_eq ⟨rfl, ⟨rfl, ⟨rfl, trivial⟩⟩⟩, hh⟩
      · refine .yv 15 rfl (congrArg Value.bool hb_1) rfl (v_move (v := reg (c : Pt)) rfl) rfl ?_
        refine .yv 15 rfl (congrArg Value.bool hb_1) rfl (v_nilCheck (congrArg Value.pointer hp)) rfl ?_
        refine .yv 15 rfl (congrArg Value.bool hb_1) rfl (v_fieldAddr fl_140_4 rfl) rfl ?_
        obtain ⟨t19, ⟨xt19, hxt19, hgt19⟩, hh⟩ := hh
        refine .yv 15 rfl (congrArg Value.bool hb_1) rfl (v_ld1 (p := p) 5 na_3 rfl hxt19 hgt19 get_140_step) rfl ?_
        refine .yv 15 rfl (congrArg Value.bool hb_1) rfl (v_ieql rfl rfl) rfl ?_
        refine .val (v_pickF (v := reg ((t19 == (0 : Int)) : Bool)) rfl hb_1 rfl) rfl ?_
        refine .val (v_move (v := reg ((t19 == (0 : Int)) : Bool)) rfl) rfl ?_
        refine .fv 22 rfl rfl rfl (fun hb => v_move (v := reg (n : Int)) rfl) rfl ?_
        refine .fv 22 rfl rfl rfl (fun hb => v_ilss (gf hb) rfl) rfl ?_
        refine .val (v_pick_or rfl rfl (fun hb => gf hb)) rfl ?_
        refine .nil ?_
        exact QN.thenJ ⟨_, ((t19 == (0 : Int)) || (decide (n < (1 : Int)))), setl_eq ⟨rfl, ⟨rfl, ⟨rfl, trivial⟩⟩⟩, hh⟩
  · rintro ρ h ⟨ρ', t25, rfl, hh⟩
    unfold round_Core_Tick.j1 at hh
    refine CW.cond t25 rfl (fun hb_2 => ?_) (fun hb_2 => ?_)
    · have hh := hh.1 hb_2
      refine CW.seq ?_
      refine CW.region ?_
      refine .val (v_assign (v := reg (Sl.nil : Sl)) rfl) rfl ?_
      refine .nil ?_
      refine QN.then_ ?_
      refine CW.ret ?_
      refine QN.thenRet ?_
      exact ret1 rfl rfl ⟨(Sl.nil : Sl), rfl, hh⟩
    · have hh := hh.2 hb_2
      refine CW.skip ?_
      refine QN.then_ ?_
      refine CW.seq ?_
      refine CW.region ?_
      refine .val (v_move (v := reg (c : Pt)) rfl) rfl ?_
      refine .val (v_move (v := reg (c : Pt)) rfl) rfl ?_
      obtain ⟨p_1, hp_1, hh⟩ := hh
      refine .val (v_nilCheck (congrArg Value.pointer hp_1)) rfl ?_
      refine .val (v_fieldAddr fl_140_5 rfl) rfl ?_
      obtain ⟨t30, ⟨xt30, hxt30, hgt30⟩, hh⟩ := hh
      refine .val (v_ld1 (p := p_1) 6 na_3 rfl hxt30 hgt30 get_140_ticks) rfl ?_
      refine .val (v_move (v := reg (n : Int)) rfl) rfl ?_
      refine .val (v_min rfl rfl) rfl ?_
      refine .val (v_iadd rfl rfl) rfl ?_
      refine .val (v_min rfl rfl) rfl ?_
      refine .val (v_nilCheck (congrArg Value.pointer hp_1)) rfl ?_
      refine .val (v_fieldAddr fl_140_5 rfl) rfl ?_
      obtain ⟨xw, hxw, hwxw, hh⟩ := hh
      refine .e (e_storeN (p := p_1) (nv := enc ((imin (iadd t30 (imin n (1099511627776 : Int))) (1099511627776 : Int)) : Int)) 6 rfl rfl rfl sz_3 (one_i _) hxw hwxw (len_round_Core _) (len_i _) rfl (set_140_ticks xw ((imin (iadd t30 (imin n (1099511627776 : Int))) (1099511627776 : Int)) : Int)) ?_)
      refine .nil ?_
      refine QN.then_ ?_
      refine CW.seq ?_
      refine CW.drawN 10 rfl follows_mixed [0, 1, 2, 3, 4, 5, 6, 7, 9] ?_
      refine .p 0 rfl (by kernel_rfl) (NoPanic.then_ (NoPanic.body)) (fun _ => v_move (v := reg (c : Pt)) rfl) ?_
      refine .p 1 rfl (by kernel_rfl) (NoPanic.then_ (NoPanic.body)) (fun _ => v_nilCheck (congrArg Value.pointer hp_1)) ?_
      refine .p 2 rfl (by kernel_rfl) (NoPanic.then_ (NoPanic.body)) (fun _ => v_fieldAddr fl_140_2 rfl) ?_
      obtain ⟨t40, ⟨xt40, hxt40, hgt40⟩, hh⟩ := hh
      refine .r 3 (fun h' => ∃ x : round_Core, AtH h' p_1 (enc x) ∧ ((fun (x : round_Core) => x.base) : round_Core → Int) x = t40) rfl (by kernel_rfl) (NoPanic.then_ (NoPanic.body)) ⟨xt40, hxt40, hgt40⟩ (fun h' hS => hS.elim fun _ hS => v_ld1 (p := p_1) 3 na_3 rfl hS.1 hS.2 get_140_base) ?_
      refine .p 4 rfl (by kernel_rfl) (NoPanic.then_ (NoPanic.body)) (fun _ => v_move (v := reg (c : Pt)) rfl) ?_
      refine .p 5 rfl (by kernel_rfl) (NoPanic.then_ (NoPanic.body)) (fun _ => v_nilCheck (congrArg Value.pointer hp_1)) ?_
      refine .p 6 rfl (by kernel_rfl) (NoPanic.then_ (NoPanic.body)) (fun _ => v_fieldAddr fl_140_3 rfl) ?_
      obtain ⟨t44, ⟨xt44, hxt44, hgt44⟩, hh⟩ := hh
      refine .r 7 (fun h' => ∃ x : round_Core, AtH h' p_1 (enc x) ∧ ((fun (x : round_Core) => x.at_) : round_Core → Cx) x = t44) rfl (by kernel_rfl) (NoPanic.then_ (NoPanic.body)) ⟨xt44, hxt44, hgt44⟩ (fun h' hS => hS.elim fun _ hS => v_ld1 (p := p_1) 4 na_65 rfl hS.1 hS.2 get_140_at) ?_
      refine .w 8 (by kernel_rfl) rfl (by kernel_rfl) (.e (e_callP fn_62 rfl rfl hh ?_))
      intro h t45 hh
      refine ⟨⟨⟨trivial, .inl (by kernel_rfl)⟩, .inl (by kernel_rfl)⟩, ?_⟩
      refine .p 9 rfl (by kernel_rfl) (NoPanic.then_ (NoPanic.body)) (fun _ => v_assign (v := reg (t45 : Int)) rfl) ?_
      refine .done (by kernel_rfl) ?_
      refine QN.then_ ?_
      refine CW.join (fun ρ h => ∃ (ρ' : Env), ρ = setl ρ' [(0, reg (c : Pt)), (5, reg (t45 : Int))] ∧ (round_Core_Tick.j2 k) c t45 h) ?_ ?_
      · refine CW.join (fun ρ h => ∃ (ρ' : Env) (t58 : Bool), ρ = setl ρ' [(0, reg (c : Pt)), (5, reg (t45 : Int)), (58, reg (t58 : Bool))] ∧ (round_Core_Tick.j3 (round_Core_Tick.j2 k)) c t45 t58 h) ?_ ?_
        · refine CW.region ?_
          refine .val (v_move (v := reg (c : Pt)) rfl) rfl ?_
          refine .val (v_nilCheck (congrArg Value.pointer hp_1)) rfl ?_
          refine .val (v_fieldAddr fl_140_4 rfl) rfl ?_
          obtain ⟨t49, ⟨xt49, hxt49, hgt49⟩, hh⟩ := hh
          refine .val (v_ld1 (p := p_1) 5 na_3 rfl hxt49 hgt49 get_140_step) rfl ?_
          refine .val (v_ieql rfl rfl) rfl ?_
          refine .val (v_move (v := reg ((t49 == (1 : Int)) : Bool)) rfl) rfl ?_
          refine ifb_cases hh (fun hb_3 hh => ?_) (fun hb_3 hh => ?_)
          · refine .yv 51 rfl (congrArg Value.bool hb_3) rfl (v_move (v := reg (c : Pt)) rfl) rfl ?_
            refine .yv 51 rfl (congrArg Value.bool hb_3) rfl (v_nilCheck (congrArg Value.pointer hp_1)) rfl ?_
            refine .yv 51 rfl (congrArg Value.bool hb_3) rfl (v_fieldAddr fl_140_5 rfl) rfl ?_
            obtain ⟨t55, ⟨xt55, hxt55, hgt55⟩, hh⟩ := hh
            refine .yv 51 rfl (congrArg Value.bool hb_3) rfl (v_ld1 (p := p_1) 6 na_3 rfl hxt55 hgt55 get_140_ticks) rfl ?_
            refine .yv 51 rfl (congrArg Value.bool hb_3) rfl (v_move (v := reg (t45 : Int)) rfl) rfl ?_
            refine .yv 51 rfl (congrArg Value.bool hb_3) rfl (v_igeq rfl rfl) rfl ?_
            refine .val (v_pickT (v := reg ((decide (t45 ≤ t55)) : Bool)) rfl hb_3 rfl) rfl ?_
            refine .nil ?_
            exact QN.thenJ ⟨_, (decide (t45 ≤ t55)), setl_eq ⟨rfl, ⟨rfl, ⟨rfl, trivial⟩⟩⟩, hh⟩
          · refine .no 51 rfl (congrArg Value.bool hb_3) rfl rfl ?_
            refine .no 51 rfl (congrArg Value.bool hb_3) rfl rfl ?_
            refine .no 51 rfl (congrArg Value.bool hb_3) rfl rfl ?_
            refine .no 51 rfl (congrArg Value.bool hb_3) rfl rfl ?_
            refine .no 51 rfl (congrArg Value.bool hb_3) rfl rfl ?_
            refine .no 51 rfl (congrArg Value.bool hb_3) rfl rfl ?_
            refine .val (v_pickF (v := reg (false : Bool)) rfl hb_3 rfl) rfl ?_
            refine .nil ?_
            exact QN.thenJ ⟨_, false, setl_eq ⟨rfl, ⟨rfl, ⟨rfl, trivial⟩⟩⟩, hh⟩
        · rintro ρ h ⟨ρ', t58, rfl, hh⟩
          unfold round_Core_Tick.j3 at hh
          refine CW.cond t58 rfl (fun hb_4 => ?_) (fun hb_4 => ?_)
          · have hh := hh.1 hb_4
            refine CW.region ?_
            refine .val (v_move (v := reg (c : Pt)) rfl) rfl ?_
            refine .e (e_callP fn_64 rfl rfl hh ?_)
            intro h t60 hh
            refine .e (e_callP fn_63 rfl rfl hh ?_)
            intro h t61 hh
            refine .nil ?_
            exact QN.thenJ ⟨_, setl_eq ⟨rfl, ⟨rfl, trivial⟩⟩, hh⟩
          · have hh := hh.2 hb_4
            refine CW.skip ?_
            exact QN.thenJ ⟨_, setl_eq ⟨rfl, ⟨rfl, trivial⟩⟩, hh⟩
      · rintro ρ h ⟨ρ', rfl, hh⟩
        unfold round_Core_Tick.j2 at hh
        refine CW.join (fun ρ h => ∃ (ρ' : Env), ρ = setl ρ' [(0, reg (c : Pt)), (5, reg (t45 : Int))] ∧ (round_Core_Tick.j4 k) c t45 h) ?_ ?_
        · refine CW.join (fun ρ h => ∃ (ρ' : Env) (t75 : Bool), ρ = setl ρ' [(0, reg (c : Pt)), (5, reg (t45 : Int)), (75, reg (t75 : Bool))] ∧ (round_Core_Tick.j5 (round_Core_Tick.j4 k)) c t45 t75 h) ?_ ?_
          · refine CW.region ?_
            refine .val (v_move (v := reg (c : Pt)) rfl) rfl ?_
            obtain ⟨p_4, hp_4, hh⟩ := hh
            refine .val (v_nilCheck (congrArg Value.pointer hp_4)) rfl ?_
            refine .val (v_fieldAddr fl_140_4 rfl) rfl ?_
            obtain ⟨t65, ⟨xt65, hxt65, hgt65⟩, hh⟩ := hh
            refine .val (v_ld1 (p := p_4) 5 na_3 rfl hxt65 hgt65 get_140_step) rfl ?_
            refine .val (v_ieql rfl rfl) rfl ?_
            refine .val (v_move (v := reg ((t65 == (2 : Int)) : Bool)) rfl) rfl ?_
            refine ifb_cases hh (fun hb_5 hh => ?_) (fun hb_5 hh => ?_)
            · refine .yv 67 rfl (congrArg Value.bool hb_5) rfl (v_move (v := reg (c : Pt)) rfl) rfl ?_
              refine .yv 67 rfl (congrArg Value.bool hb_5) rfl (v_nilCheck (congrArg Value.pointer hp_4)) rfl ?_
              refine .yv 67 rfl (congrArg Value.bool hb_5) rfl (v_fieldAddr fl_140_5 rfl) rfl ?_
              obtain ⟨t71, ⟨xt71, hxt71, hgt71⟩, hh⟩ := hh
              refine .yv 67 rfl (congrArg Value.bool hb_5) rfl (v_ld1 (p := p_4) 6 na_3 rfl hxt71 hgt71 get_140_ticks) rfl ?_
              refine .yv 67 rfl (congrArg Value.bool hb_5) rfl (v_move (v := reg (t45 : Int)) rfl) rfl ?_
              refine .yv 67 rfl (congrArg Value.bool hb_5) rfl (v_imul rfl rfl) rfl ?_
              refine .yv 67 rfl (congrArg Value.bool hb_5) rfl (v_igeq rfl rfl) rfl ?_
              refine .val (v_pickT (v := reg ((decide ((imul (2 : Int) t45) ≤ t71)) : Bool)) rfl hb_5 rfl) rfl ?_
              refine .nil ?_
              exact QN.thenJ ⟨_, (decide ((imul (2 : Int) t45) ≤ t71)), setl_eq ⟨rfl, ⟨rfl, ⟨rfl, trivial⟩⟩⟩, hh⟩
            · refine .no 67 rfl (congrArg Value.bool hb_5) rfl rfl ?_
              refine .no 67 rfl (congrArg Value.bool hb_5) rfl rfl ?_
              refine .no 67 rfl (congrArg Value.bool hb_5) rfl rfl ?_
              refine .no 67 rfl (congrArg Value.bool hb_5) rfl rfl ?_
              refine .no 67 rfl (congrArg Value.bool hb_5) rfl rfl ?_
              refine .no 67 rfl (congrArg Value.bool hb_5) rfl rfl ?_
              refine .no 67 rfl (congrArg Value.bool hb_5) rfl rfl ?_
              refine .val (v_pickF (v := reg (false : Bool)) rfl hb_5 rfl) rfl ?_
              refine .nil ?_
              exact QN.thenJ ⟨_, false, setl_eq ⟨rfl, ⟨rfl, ⟨rfl, trivial⟩⟩⟩, hh⟩
          · rintro ρ h ⟨ρ', t75, rfl, hh⟩
            unfold round_Core_Tick.j5 at hh
            refine CW.cond t75 rfl (fun hb_6 => ?_) (fun hb_6 => ?_)
            · have hh := hh.1 hb_6
              refine CW.region ?_
              refine .val (v_move (v := reg (c : Pt)) rfl) rfl ?_
              refine .e (e_callP fn_64 rfl rfl hh ?_)
              intro h t77 hh
              refine .e (e_callP fn_63 rfl rfl hh ?_)
              intro h t78 hh
              refine .nil ?_
              exact QN.thenJ ⟨_, setl_eq ⟨rfl, ⟨rfl, trivial⟩⟩, hh⟩
            · have hh := hh.2 hb_6
              refine CW.skip ?_
              exact QN.thenJ ⟨_, setl_eq ⟨rfl, ⟨rfl, trivial⟩⟩, hh⟩
        · rintro ρ h ⟨ρ', rfl, hh⟩
          unfold round_Core_Tick.j4 at hh
          refine CW.join (fun ρ h => ∃ (ρ' : Env), ρ = setl ρ' [(0, reg (c : Pt))] ∧ (round_Core_Tick.j6 k) c h) ?_ ?_
          · refine CW.seq ?_
            refine CW.region ?_
            refine .val (v_move (v := reg (c : Pt)) rfl) rfl ?_
            obtain ⟨p_7, hp_7, hh⟩ := hh
            refine .val (v_nilCheck (congrArg Value.pointer hp_7)) rfl ?_
            refine .val (v_fieldAddr fl_140_3 rfl) rfl ?_
            obtain ⟨t82, ⟨xt82, hxt82, hgt82⟩, hh⟩ := hh
            refine .val (v_ld1 (p := p_7) 4 na_65 rfl hxt82 hgt82 get_140_at) rfl ?_
            refine .e (e_callP fn_65 rfl rfl hh ?_)
            intro h t83 hh
            refine .val (v_assign (v := reg (t83 : Int)) rfl) rfl ?_
            refine .nil ?_
            refine QN.then_ ?_
            refine CW.join (fun ρ h => ∃ (ρ' : Env) (t101 : Bool), ρ = setl ρ' [(0, reg (c : Pt)), (6, reg (t83 : Int)), (101, reg (t101 : Bool))] ∧ (round_Core_Tick.j7 (round_Core_Tick.j6 k)) c t83 t101 h) ?_ ?_
            · refine CW.region ?_
              refine .val (v_move (v := reg (c : Pt)) rfl) rfl ?_
              refine .val (v_nilCheck (congrArg Value.pointer hp_7)) rfl ?_
              refine .val (v_fieldAddr fl_140_4 rfl) rfl ?_
              obtain ⟨t87, ⟨xt87, hxt87, hgt87⟩, hh⟩ := hh
              refine .val (v_ld1 (p := p_7) 5 na_3 rfl hxt87 hgt87 get_140_step) rfl ?_
              refine .val (v_ieql rfl rfl) rfl ?_
              refine .val (v_move (v := reg ((t87 == (3 : Int)) : Bool)) rfl) rfl ?_
              refine ifb_cases hh (fun hb_7 hh => ?_) (fun hb_7 hh => ?_)
              · refine .yv 89 rfl (congrArg Value.bool hb_7) rfl (v_move (v := reg (c : Pt)) rfl) rfl ?_
                refine .yv 89 rfl (congrArg Value.bool hb_7) rfl (v_nilCheck (congrArg Value.pointer hp_7)) rfl ?_
                refine .yv 89 rfl (congrArg Value.bool hb_7) rfl (v_fieldAddr fl_140_5 rfl) rfl ?_
                obtain ⟨t93, ⟨xt93, hxt93, hgt93⟩, hh⟩ := hh
                refine .yv 89 rfl (congrArg Value.bool hb_7) rfl (v_ld1 (p := p_7) 6 na_3 rfl hxt93 hgt93 get_140_ticks) rfl ?_
                refine .yv 89 rfl (congrArg Value.bool hb_7) rfl (v_move (v := reg (t45 : Int)) rfl) rfl ?_
                refine .yv 89 rfl (congrArg Value.bool hb_7) rfl (v_imul rfl rfl) rfl ?_
                refine .yv 89 rfl (congrArg Value.bool hb_7) rfl (v_igeq rfl rfl) rfl ?_
                refine .val (v_pickT (v := reg ((decide ((imul (3 : Int) t45) ≤ t93)) : Bool)) rfl hb_7 rfl) rfl ?_
                refine .val (v_move (v := reg ((decide ((imul (3 : Int) t45) ≤ t93)) : Bool)) rfl) rfl ?_
                refine .tv 98 rfl rfl rfl (fun hb => v_move (v := reg (t83 : Int)) rfl) rfl ?_
                refine .tv 98 rfl rfl rfl (fun hb => v_ilss (gt hb) rfl) rfl ?_
                refine .val (v_pick_and rfl (fun hb => gt hb) rfl) rfl ?_
                refine .nil ?_
                exact QN.thenJ ⟨_, ((decide ((imul (3 : Int) t45) ≤ t93)) && (decide (t83 < (1024 : Int)))), setl_eq ⟨rfl, ⟨rfl, ⟨rfl, trivial⟩⟩⟩, hh⟩
              · refine .no 89 rfl (congrArg Value.bool hb_7) rfl rfl ?_
                refine .no 89 rfl (congrArg Value.bool hb_7) rfl rfl ?_
                refine .no 89 rfl (congrArg Value.bool hb_7) rfl rfl ?_
                refine .no 89 rfl (congrArg Value.bool hb_7) rfl rfl ?_
                refine .no 89 rfl (congrArg Value.bool hb_7) rfl rfl ?_
                refine .no 89 rfl (congrArg Value.bool hb_7) rfl rfl ?_
                refine .no 89 rfl (congrArg Value.bool hb_7) rfl rfl ?_
                refine .val (v_pickF (v := reg (false : Bool)) rfl hb_7 rfl) rfl ?_
                refine .val (v_move (v := reg (false : Bool)) rfl) rfl ?_
                refine .no 98 rfl rfl rfl rfl ?_
                refine .no 98 rfl rfl rfl rfl ?_
                refine .val (v_pickF (v := reg (false : Bool)) rfl rfl rfl) rfl ?_
                refine .nil ?_
                exact QN.thenJ ⟨_, false, setl_eq ⟨rfl, ⟨rfl, ⟨rfl, trivial⟩⟩⟩, hh⟩
            · rintro ρ h ⟨ρ', t101, rfl, hh⟩
              unfold round_Core_Tick.j7 at hh
              refine CW.cond t101 rfl (fun hb_8 => ?_) (fun hb_8 => ?_)
              · have hh := hh.1 hb_8
                refine CW.region ?_
                refine .val (v_move (v := reg (c : Pt)) rfl) rfl ?_
                refine .val (v_move (v := reg (t83 : Int)) rfl) rfl ?_
                refine .val (v_iadd rfl rfl) rfl ?_
                refine .e (e_callP fn_57 rfl rfl hh ?_)
                intro h t105 hh
                refine .nil ?_
                exact QN.thenJ ⟨_, setl_eq ⟨rfl, trivial⟩, hh⟩
              · have hh := hh.2 hb_8
                refine CW.skip ?_
                exact QN.thenJ ⟨_, setl_eq ⟨rfl, trivial⟩, hh⟩
          · rintro ρ h ⟨ρ', rfl, hh⟩
            unfold round_Core_Tick.j6 at hh
            refine CW.seq ?_
            refine CW.seq ?_
            refine CW.region ?_
            refine .val (v_move (v := reg (c : Pt)) rfl) rfl ?_
            obtain ⟨p_8, hp_8, hh⟩ := hh
            refine .val (v_nilCheck (congrArg Value.pointer hp_8)) rfl ?_
            refine .val (v_fieldAddr fl_140_11 rfl) rfl ?_
            obtain ⟨t109, ⟨xt109, hxt109, hgt109⟩, hh⟩ := hh
            refine .val (v_ld1 (p := p_8) 210 na_4 rfl hxt109 hgt109 get_140_fresh) rfl ?_
            refine .val (v_not rfl) rfl ?_
            refine .nil ?_
            refine QN.then_ ?_
            refine CW.cond (!t109) rfl (fun hb_9 => ?_) (fun hb_9 => ?_)
            · have hh := hh.1 hb_9
              refine CW.seq ?_
              refine CW.region ?_
              refine .val (v_assign (v := reg (Sl.nil : Sl)) rfl) rfl ?_
              refine .nil ?_
              refine QN.then_ ?_
              refine CW.ret ?_
              refine QN.thenRet ?_
              exact ret1 rfl rfl ⟨(Sl.nil : Sl), rfl, hh⟩
            · have hh := hh.2 hb_9
              refine CW.skip ?_
              refine QN.then_ ?_
              refine CW.seq ?_
              refine CW.region ?_
              refine .val (v_move (v := reg (c : Pt)) rfl) rfl ?_
              refine .e (e_callP fn_58 rfl rfl hh ?_)
              intro h t112 hh
              refine .val (v_assign (v := reg (t112 : Sl)) rfl) rfl ?_
              refine .nil ?_
              refine QN.then_ ?_
              refine CW.ret ?_
              exact ret1 rfl rfl ⟨(t112 : Sl), rfl, hh⟩
end Go.Proofs.YtimmoekliphobaaDoor
namespace Go.Proofs.YtimmoekliphobaaDoor
open Go Go.Sh
open Go.Sh.Ty (reg)
set_option linter.unusedVariables false
set_option maxRecDepth 100000
set_option maxHeartbeats 4000000
theorem round_Core_At.ok (c : Pt) (k : (T2 Cx Int) → H → Prop) (h : H) (hh : round_Core_At.b c k h) : CallsH Prog 36 [reg c].toArray h fun v h' => ∃ r : T2 Cx Int, v = reg r ∧ k r h' := by
  unfold round_Core_At.b at hh
  refine CallsH.of 14 Tryd.func36 rfl Tryd.ntmps36 rfl (fun w0 => ?_)
  refine CW.seq ?_
  refine CW.region ?_
  refine .val (v_assign (v := reg ((⟨0, 0⟩ : Cx) : Cx)) rfl) rfl ?_
  refine .val (v_assign (v := reg ((0 : Int) : Int)) rfl) rfl ?_
  refine .nil ?_
  refine QN.then_ ?_
  refine CW.seq ?_
  refine CW.seq ?_
  refine CW.region ?_
  refine .val (v_move (v := reg (c : Pt)) rfl) rfl ?_
  refine .val (v_eq_nil pt_62 rfl rfl) rfl ?_
  refine .nil ?_
  refine QN.then_ ?_
  refine CW.cond c.isNone rfl (fun hb => ?_) (fun hb => ?_)
  · have hh := hh.1 hb
    refine CW.seq ?_
    refine CW.region ?_
    refine .val (v_assign (v := reg ((⟨0, 0⟩ : Cx) : Cx)) rfl) rfl ?_
    refine .val (v_assign (v := reg ((0 : Int) : Int)) rfl) rfl ?_
    refine .nil ?_
    refine QN.then_ ?_
    refine CW.ret ?_
    refine QN.thenRet ?_
    exact ret2 rfl rfl rfl ⟨(⟨(⟨0, 0⟩ : Cx), (0 : Int)⟩ : T2 Cx Int), rfl, hh⟩
  · have hh := hh.2 hb
    refine CW.skip ?_
    refine QN.then_ ?_
    refine CW.seq ?_
    refine CW.drawN 10 rfl follows_mixed [0, 1, 2, 3, 4, 5, 6, 7, 8, 9] ?_
    refine .p 0 rfl (by kernel_rfl) (NoPanic.then_ (NoPanic.body)) (fun _ => v_move (v := reg (c : Pt)) rfl) ?_
    obtain ⟨p, hp, hh⟩ := hh
    refine .p 1 rfl (by kernel_rfl) (NoPanic.then_ (NoPanic.body)) (fun _ => v_nilCheck (congrArg Value.pointer hp)) ?_
    refine .p 2 rfl (by kernel_rfl) (NoPanic.then_ (NoPanic.body)) (fun _ => v_fieldAddr fl_140_3 rfl) ?_
    obtain ⟨t9, ⟨xt9, hxt9, hgt9⟩, hh⟩ := hh
    refine .r 3 (fun h' => ∃ x : round_Core, AtH h' p (enc x) ∧ ((fun (x : round_Core) => x.at_) : round_Core → Cx) x = t9) rfl (by kernel_rfl) (NoPanic.then_ (NoPanic.body)) ⟨xt9, hxt9, hgt9⟩ (fun h' hS => hS.elim fun _ hS => v_ld1 (p := p) 4 na_65 rfl hS.1 hS.2 get_140_at) ?_
    refine .p 4 rfl (by kernel_rfl) (NoPanic.then_ (NoPanic.body)) (fun _ => v_move (v := reg (c : Pt)) rfl) ?_
    refine .p 5 rfl (by kernel_rfl) (NoPanic.then_ (NoPanic.body)) (fun _ => v_nilCheck (congrArg Value.pointer hp)) ?_
    refine .p 6 rfl (by kernel_rfl) (NoPanic.then_ (NoPanic.body)) (fun _ => v_fieldAddr fl_140_4 rfl) ?_
    obtain ⟨t13, ⟨xt13, hxt13, hgt13⟩, hh⟩ := hh
    refine .r 7 (fun h' => ∃ x : round_Core, AtH h' p (enc x) ∧ ((fun (x : round_Core) => x.step) : round_Core → Int) x = t13) rfl (by kernel_rfl) (NoPanic.then_ (NoPanic.body)) ⟨xt13, hxt13, hgt13⟩ (fun h' hS => hS.elim fun _ hS => v_ld1 (p := p) 5 na_3 rfl hS.1 hS.2 get_140_step) ?_
    refine .p 8 rfl (by kernel_rfl) (NoPanic.then_ (NoPanic.body)) (fun _ => v_assign (v := reg (t9 : Cx)) rfl) ?_
    refine .p 9 rfl (by kernel_rfl) (NoPanic.then_ (NoPanic.body)) (fun _ => v_assign (v := reg (t13 : Int)) rfl) ?_
    refine .done (by kernel_rfl) ?_
    refine QN.then_ ?_
    refine CW.ret ?_
    exact ret2 rfl rfl rfl ⟨(⟨t9, t13⟩ : T2 Cx Int), rfl, hh⟩
end Go.Proofs.YtimmoekliphobaaDoor
namespace Go.Proofs.YtimmoekliphobaaDoor
open Go Go.Sh
open Go.Sh.Ty (reg)
set_option linter.unusedVariables false
set_option maxRecDepth 100000
set_option maxHeartbeats 4000000
theorem round_New.ok (c : api_Config) (me : Int) (height : Int) (base : Int) (k : Pt → H → Prop) (h : H) (hh : round_New.b c me height base k h) : CallsH Prog 28 [reg c, reg me, reg height, reg base].toArray h fun v h' => ∃ r : Pt, v = reg r ∧ k r h' := by
  unfold round_New.b at hh
  refine CallsH.of 34 Tryd.func28 rfl Tryd.ntmps28 rfl (fun w0 => ?_)
  refine CW.seq ?_
  refine CW.region ?_
  refine box_elim hh (fun c_1 hc_1 hh => ?_)
  refine .e (e_boxP hc_1 rfl rfl rfl ?_)
  refine .val (v_assign (v := reg ((none : Pt) : Pt)) rfl) rfl ?_
  refine .nil ?_
  refine QN.then_ ?_
  refine CW.seq ?_
  refine CW.join (fun ρ h => ∃ (ρ' : Env) (t17 : Bool), ρ = setl ρ' [(1, reg (me : Int)), (2, reg (height : Int)), (3, reg (base : Int)), (4, .pointer (some c_1)), (17, reg (t17 : Bool))] ∧ (round_New.j1 k) me height base c_1 t17 h) ?_ ?_
  · refine CW.region ?_
    obtain ⟨t9, ⟨xt9, hxt9, hgt9⟩, hh⟩ := hh
    refine .val (v_ldA (p := c_1) 0 ag_54 rfl hxt9 hgt9 get_54_all (fun _ => (len_api_Config _)) (fun _ => rfl)) rfl ?_
    refine .e (e_callP fn_54 rfl rfl hh ?_)
    intro h t10 hh
    refine .val (v_not rfl) rfl ?_
    refine .val (v_move (v := reg ((!t10) : Bool)) rfl) rfl ?_
    refine ifb_cases hh (fun hb hh => ?_) (fun hb hh => ?_)
    · refine .no 12 rfl (congrArg Value.bool hb) rfl rfl ?_
      refine .no 12 rfl (congrArg Value.bool hb) rfl rfl ?_
      refine .no 12 rfl (congrArg Value.bool hb) rfl rfl ?_
      refine .no 12 rfl (congrArg Value.bool hb) rfl rfl ?_
      refine .val (v_pickT (v := reg (true : Bool)) rfl hb rfl) rfl ?_
      refine .nil ?_
      exact QN.thenJ ⟨_, true, setl_eq ⟨rfl, ⟨rfl, ⟨rfl, ⟨rfl, ⟨rfl, trivial⟩⟩⟩⟩⟩, hh⟩
    · refine .yv 12 rfl (congrArg Value.bool hb) rfl (v_move (v := reg (height : Int)) rfl) rfl ?_
      refine .ye 12 rfl (congrArg Value.bool hb) rfl (e_callP fn_30 rfl rfl hh ?_)
      intro h t14 hh
      refine .ye 12 rfl (congrArg Value.bool hb) rfl (e_callP fn_55 rfl rfl hh ?_)
      intro h t15 hh
      refine .yv 12 rfl (congrArg Value.bool hb) rfl (v_not rfl) rfl ?_
      refine .val (v_pickF (v := reg ((!t15) : Bool)) rfl hb rfl) rfl ?_
      refine .nil ?_
      exact QN.thenJ ⟨_, (!t15), setl_eq ⟨rfl, ⟨rfl, ⟨rfl, ⟨rfl, ⟨rfl, trivial⟩⟩⟩⟩⟩, hh⟩
  · rintro ρ h ⟨ρ', t17, rfl, hh⟩
    unfold round_New.j1 at hh
    refine CW.cond t17 rfl (fun hb_1 => ?_) (fun hb_1 => ?_)
    · have hh := hh.1 hb_1
      refine CW.seq ?_
      refine CW.region ?_
      refine .val (v_assign (v := reg ((none : Pt) : Pt)) rfl) rfl ?_
      refine .nil ?_
      refine QN.then_ ?_
      refine CW.ret ?_
      refine QN.thenRet ?_
      exact ret1 rfl rfl ⟨((none : Pt) : Pt), rfl, hh⟩
    · have hh := hh.2 hb_1
      refine CW.skip ?_
      refine QN.then_ ?_
      refine CW.seq ?_
      refine CW.region ?_
      refine .val (v_fieldAddr fl_54_1 rfl) rfl ?_
      obtain ⟨t19, ⟨xt19, hxt19, hgt19⟩, hh⟩ := hh
      refine .val (v_ld1 (p := c_1) 1 na_52 rfl hxt19 hgt19 get_54_Members) rfl ?_
      refine .e (e_callP fn_56 rfl rfl hh ?_)
      intro h t20 hh
      refine .val (v_fieldAddr fl_54_1 rfl) rfl ?_
      obtain ⟨xw, hxw, hwxw, hh⟩ := hh
      refine .e (e_storeN (p := c_1) (nv := enc (t20 : Sl)) 1 rfl rfl rfl sz_52 (one_sl _) hxw hwxw (len_api_Config _) (len_sl _) rfl (set_54_Members xw (t20 : Sl)) ?_)
      refine .nil ?_
      refine QN.then_ ?_
      refine CW.join (fun ρ h => ∃ (ρ' : Env) (t8 : Addr), ρ = setl ρ' [(8, .pointer (some t8))] ∧ (round_New.j2 k) t8 h) ?_ ?_
      · refine CW.drawN 13 rfl follows_mixed [0, 1, 2, 3, 5, 6, 10, 12] ?_
        obtain ⟨t22, ⟨xt22, hxt22, hgt22⟩, hh⟩ := hh
        refine .r 0 (fun h' => ∃ x : api_Config, AtH h' c_1 (enc x) ∧ ((fun (x : api_Config) => x) : api_Config → api_Config) x = t22) rfl (by kernel_rfl) (NoPanic.then_ (NoPanic.body)) ⟨xt22, hxt22, hgt22⟩ (fun h' hS => hS.elim fun _ hS => v_ldA (p := c_1) 0 ag_54 rfl hS.1 hS.2 get_54_all (fun _ => (len_api_Config _)) (fun _ => rfl)) ?_
        refine .p 1 rfl (by kernel_rfl) (NoPanic.then_ (NoPanic.body)) (fun _ => v_move (v := reg (me : Int)) rfl) ?_
        refine .p 2 rfl (by kernel_rfl) (NoPanic.then_ (NoPanic.body)) (fun _ => v_move (v := reg (base : Int)) rfl) ?_
        refine .p 3 rfl (by kernel_rfl) (NoPanic.then_ (NoPanic.body)) (fun _ => v_move (v := reg (height : Int)) rfl) ?_
        refine .p 5 rfl (by kernel_rfl) (NoPanic.then_ (NoPanic.body)) (fun _ => v_buildT ({ round_mark.zero with round := (-1 : Int) } : round_mark) zo_136 pl_136 rfl (fill_step rfl rfl (len_i _) (len_round_mark _) rfl (set_136_round _ _) (rfl)) rfl) ?_
        refine .p 6 rfl (by kernel_rfl) (NoPanic.then_ (NoPanic.body)) (fun _ => v_buildT ({ round_mark.zero with round := (-1 : Int) } : round_mark) zo_136 pl_136 rfl (fill_step rfl rfl (len_i _) (len_round_mark _) rfl (set_136_round _ _) (rfl)) rfl) ?_
        refine .w3 4 7 8 (by kernel_rfl) rfl rfl rfl (by kernel_rfl) (by kernel_rfl) (by kernel_rfl) ?_ ?_ ?_
        · have hh := hh.1
          refine .e (e_callP fn_30 rfl rfl hh ?_)
          intro h t26 hh
          obtain ⟨hc, hh⟩ := hh
          refine ⟨⟨trivial, .inr hc⟩, ?_⟩
          refine .w3 7 8 9 (by kernel_rfl) rfl rfl rfl (by kernel_rfl) (by kernel_rfl) (by kernel_rfl) ?_ ?_ ?_
          · have hh := hh.1
            refine .e (e_mkmap rfl hh ?_)
            intro h t29 hh
            obtain ⟨hc_1, hh⟩ := hh
            refine ⟨⟨trivial, .inr hc_1⟩, ?_⟩
            refine .w2 8 9 (by kernel_rfl) rfl rfl (by kernel_rfl) (by kernel_rfl) ?_ ?_
            · have hh := hh.1
              refine .e (e_mkmap rfl hh ?_)
              intro h t30 hh
              obtain ⟨hc_2, hh⟩ := hh
              refine ⟨⟨trivial, .inr hc_2⟩, ?_⟩
              refine .w 9 (by kernel_rfl) rfl (by kernel_rfl) (.e (e_callP fn_9 rfl rfl hh ?_))
              intro h t31 hh
              obtain ⟨hc_3, hh⟩ := hh
              refine ⟨⟨trivial, .inr hc_3⟩, ?_⟩
              refine .p 10 rfl (by kernel_rfl) (NoPanic.then_ (NoPanic.body)) (fun _ => v_buildT ({ round_Core.zero with config := t22, me := me, base := base, at_ := t26, locked := ({ round_mark.zero with round := (-1 : Int) } : round_mark), valid := ({ round_mark.zero with round := (-1 : Int) } : round_mark), plans := t29, blocks := t30, box := t31 } : round_Core) zo_140 pl_140 rfl (fill_step rfl rfl (len_api_Config _) (len_round_Core _) rfl (set_140_config _ _) (fill_step rfl rfl (len_i _) (len_round_Core _) rfl (set_140_me _ _) (fill_step rfl rfl (len_i _) (len_round_Core _) rfl (set_140_base _ _) (fill_step rfl rfl (len_cx _) (len_round_Core _) rfl (set_140_at _ _) (fill_step rfl rfl (len_round_mark _) (len_round_Core _) rfl (set_140_locked _ _) (fill_step rfl rfl (len_round_mark _) (len_round_Core _) rfl (set_140_valid _ _) (fill_step rfl rfl (len_mp _) (len_round_Core _) rfl (set_140_plans _ _) (fill_step rfl rfl (len_mp _) (len_round_Core _) rfl (set_140_blocks _ _) (fill_step rfl rfl (len_pt _) (len_round_Core _) rfl (set_140_box _ _) (rfl)))))))))) rfl) ?_
              refine box_elim hh (fun t33 ht33 hh => ?_)
              refine .w 11 (by kernel_rfl) rfl (by kernel_rfl) (.e (e_boxP ht33 rfl rfl rfl ?_))
              refine ⟨⟨trivial, .inl (by kernel_rfl)⟩, ?_⟩
              refine .p 12 rfl (by kernel_rfl) (NoPanic.then_ (NoPanic.body)) (fun _ => v_assign (v := .pointer (some t33)) rfl) ?_
              refine .done (by kernel_rfl) ?_
              exact QN.thenJ ⟨_, t33, setl_eq ⟨rfl, trivial⟩, hh⟩
            · have hh := hh.2
              refine .e (e_callP fn_9 rfl rfl hh ?_)
              intro h t31_1 hh
              obtain ⟨hc_4, hh⟩ := hh
              refine ⟨⟨trivial, .inr hc_4⟩, ?_⟩
              refine .w 8 (by kernel_rfl) rfl (by kernel_rfl) (.e (e_mkmap rfl hh ?_))
              intro h t30_1 hh
              obtain ⟨hc_5, hh⟩ := hh
              refine ⟨⟨trivial, .inr hc_5⟩, ?_⟩
              refine .p 10 rfl (by kernel_rfl) (NoPanic.then_ (NoPanic.body)) (fun _ => v_buildT ({ round_Core.zero with config := t22, me := me, base := base, at_ := t26, locked := ({ round_mark.zero with round := (-1 : Int) } : round_mark), valid := ({ round_mark.zero with round := (-1 : Int) } : round_mark), plans := t29, blocks := t30_1, box := t31_1 } : round_Core) zo_140 pl_140 rfl (fill_step rfl rfl (len_api_Config _) (len_round_Core _) rfl (set_140_config _ _) (fill_step rfl rfl (len_i _) (len_round_Core _) rfl (set_140_me _ _) (fill_step rfl rfl (len_i _) (len_round_Core _) rfl (set_140_base _ _) (fill_step rfl rfl (len_cx _) (len_round_Core _) rfl (set_140_at _ _) (fill_step rfl rfl (len_round_mark _) (len_round_Core _) rfl (set_140_locked _ _) (fill_step rfl rfl (len_round_mark _) (len_round_Core _) rfl (set_140_valid _ _) (fill_step rfl rfl (len_mp _) (len_round_Core _) rfl (set_140_plans _ _) (fill_step rfl rfl (len_mp _) (len_round_Core _) rfl (set_140_blocks _ _) (fill_step rfl rfl (len_pt _) (len_round_Core _) rfl (set_140_box _ _) (rfl)))))))))) rfl) ?_
              refine box_elim hh (fun t33_1 ht33_1 hh => ?_)
              refine .w 11 (by kernel_rfl) rfl (by kernel_rfl) (.e (e_boxP ht33_1 rfl rfl rfl ?_))
              refine ⟨⟨trivial, .inl (by kernel_rfl)⟩, ?_⟩
              refine .p 12 rfl (by kernel_rfl) (NoPanic.then_ (NoPanic.body)) (fun _ => v_assign (v := .pointer (some t33_1)) rfl) ?_
              refine .done (by kernel_rfl) ?_
              exact QN.thenJ ⟨_, t33_1, setl_eq ⟨rfl, trivial⟩, hh⟩
          · have hh := hh.2.1
            refine .e (e_mkmap rfl hh ?_)
            intro h t30_2 hh
            obtain ⟨hc_6, hh⟩ := hh
            refine ⟨⟨trivial, .inr hc_6⟩, ?_⟩
            refine .w2 7 9 (by kernel_rfl) rfl rfl (by kernel_rfl) (by kernel_rfl) ?_ ?_
            · have hh := hh.1
              refine .e (e_mkmap rfl hh ?_)
              intro h t29_1 hh
              obtain ⟨hc_7, hh⟩ := hh
              refine ⟨⟨trivial, .inr hc_7⟩, ?_⟩
              refine .w 9 (by kernel_rfl) rfl (by kernel_rfl) (.e (e_callP fn_9 rfl rfl hh ?_))
              intro h t31_2 hh
              obtain ⟨hc_8, hh⟩ := hh
              refine ⟨⟨trivial, .inr hc_8⟩, ?_⟩
              refine .p 10 rfl (by kernel_rfl) (NoPanic.then_ (NoPanic.body)) (fun _ => v_buildT ({ round_Core.zero with config := t22, me := me, base := base, at_ := t26, locked := ({ round_mark.zero with round := (-1 : Int) } : round_mark), valid := ({ round_mark.zero with round := (-1 : Int) } : round_mark), plans := t29_1, blocks := t30_2, box := t31_2 } : round_Core) zo_140 pl_140 rfl (fill_step rfl rfl (len_api_Config _) (len_round_Core _) rfl (set_140_config _ _) (fill_step rfl rfl (len_i _) (len_round_Core _) rfl (set_140_me _ _) (fill_step rfl rfl (len_i _) (len_round_Core _) rfl (set_140_base _ _) (fill_step rfl rfl (len_cx _) (len_round_Core _) rfl (set_140_at _ _) (fill_step rfl rfl (len_round_mark _) (len_round_Core _) rfl (set_140_locked _ _) (fill_step rfl rfl (len_round_mark _) (len_round_Core _) rfl (set_140_valid _ _) (fill_step rfl rfl (len_mp _) (len_round_Core _) rfl (set_140_plans _ _) (fill_step rfl rfl (len_mp _) (len_round_Core _) rfl (set_140_blocks _ _) (fill_step rfl rfl (len_pt _) (len_round_Core _) rfl (set_140_box _ _) (rfl)))))))))) rfl) ?_
              refine box_elim hh (fun t33_2 ht33_2 hh => ?_)
              refine .w 11 (by kernel_rfl) rfl (by kernel_rfl) (.e (e_boxP ht33_2 rfl rfl rfl ?_))
              refine ⟨⟨trivial, .inl (by kernel_rfl)⟩, ?_⟩
              refine .p 12 rfl (by kernel_rfl) (NoPanic.then_ (NoPanic.body)) (fun _ => v_assign (v := .pointer (some t33_2)) rfl) ?_
              refine .done (by kernel_rfl) ?_
              exact QN.thenJ ⟨_, t33_2, setl_eq ⟨rfl, trivial⟩, hh⟩
            · have hh := hh.2
              refine .e (e_callP fn_9 rfl rfl hh ?_)
              intro h t31_3 hh
              obtain ⟨hc_9, hh⟩ := hh
              refine ⟨⟨trivial, .inr hc_9⟩, ?_⟩
              refine .w 7 (by kernel_rfl) rfl (by kernel_rfl) (.e (e_mkmap rfl hh ?_))
              intro h t29_2 hh
              obtain ⟨hc_10, hh⟩ := hh
              refine ⟨⟨trivial, .inr hc_10⟩, ?_⟩
              refine .p 10 rfl (by kernel_rfl) (NoPanic.then_ (NoPanic.body)) (fun _ => v_buildT ({ round_Core.zero with config := t22, me := me, base := base, at_ := t26, locked := ({ round_mark.zero with round := (-1 : Int) } : round_mark), valid := ({ round_mark.zero with round := (-1 : Int) } : round_mark), plans := t29_2, blocks := t30_2, box := t31_3 } : round_Core) zo_140 pl_140 rfl (fill_step rfl rfl (len_api_Config _) (len_round_Core _) rfl (set_140_config _ _) (fill_step rfl rfl (len_i _) (len_round_Core _) rfl (set_140_me _ _) (fill_step rfl rfl (len_i _) (len_round_Core _) rfl (set_140_base _ _) (fill_step rfl rfl (len_cx _) (len_round_Core _) rfl (set_140_at _ _) (fill_step rfl rfl (len_round_mark _) (len_round_Core _) rfl (set_140_locked _ _) (fill_step rfl rfl (len_round_mark _) (len_round_Core _) rfl (set_140_valid _ _) (fill_step rfl rfl (len_mp _) (len_round_Core _) rfl (set_140_plans _ _) (fill_step rfl rfl (len_mp _) (len_round_Core _) rfl (set_140_blocks _ _) (fill_step rfl rfl (len_pt _) (len_round_Core _) rfl (set_140_box _ _) (rfl)))))))))) rfl) ?_
              refine box_elim hh (fun t33_3 ht33_3 hh => ?_)
              refine .w 11 (by kernel_rfl) rfl (by kernel_rfl) (.e (e_boxP ht33_3 rfl rfl rfl ?_))
              refine ⟨⟨trivial, .inl (by kernel_rfl)⟩, ?_⟩
              refine .p 12 rfl (by kernel_rfl) (NoPanic.then_ (NoPanic.body)) (fun _ => v_assign (v := .pointer (some t33_3)) rfl) ?_
              refine .done (by kernel_rfl) ?_
              exact QN.thenJ ⟨_, t33_3, setl_eq ⟨rfl, trivial⟩, hh⟩
          · have hh := hh.2.2
            refine .e (e_callP fn_9 rfl rfl hh ?_)
            intro h t31_4 hh
            obtain ⟨hc_11, hh⟩ := hh
            refine ⟨⟨trivial, .inr hc_11⟩, ?_⟩
            refine .w2 7 8 (by kernel_rfl) rfl rfl (by kernel_rfl) (by kernel_rfl) ?_ ?_
            · have hh := hh.1
              refine .e (e_mkmap rfl hh ?_)
              intro h t29_3 hh
              obtain ⟨hc_12, hh⟩ := hh
              refine ⟨⟨trivial, .inr hc_12⟩, ?_⟩
              refine .w 8 (by kernel_rfl) rfl (by kernel_rfl) (.e (e_mkmap rfl hh ?_))
              intro h t30_3 hh
              obtain ⟨hc_13, hh⟩ := hh
              refine ⟨⟨trivial, .inr hc_13⟩, ?_⟩
              refine .p 10 rfl (by kernel_rfl) (NoPanic.then_ (NoPanic.body)) (fun _ => v_buildT ({ round_Core.zero with config := t22, me := me, base := base, at_ := t26, locked := ({ round_mark.zero with round := (-1 : Int) } : round_mark), valid := ({ round_mark.zero with round := (-1 : Int) } : round_mark), plans := t29_3, blocks := t30_3, box := t31_4 } : round_Core) zo_140 pl_140 rfl (fill_step rfl rfl (len_api_Config _) (len_round_Core _) rfl (set_140_config _ _) (fill_step rfl rfl (len_i _) (len_round_Core _) rfl (set_140_me _ _) (fill_step rfl rfl (len_i _) (len_round_Core _) rfl (set_140_base _ _) (fill_step rfl rfl (len_cx _) (len_round_Core _) rfl (set_140_at _ _) (fill_step rfl rfl (len_round_mark _) (len_round_Core _) rfl (set_140_locked _ _) (fill_step rfl rfl (len_round_mark _) (len_round_Core _) rfl (set_140_valid _ _) (fill_step rfl rfl (len_mp _) (len_round_Core _) rfl (set_140_plans _ _) (fill_step rfl rfl (len_mp _) (len_round_Core _) rfl (set_140_blocks _ _) (fill_step rfl rfl (len_pt _) (len_round_Core _) rfl (set_140_box _ _) (rfl)))))))))) rfl) ?_
              refine box_elim hh (fun t33_4 ht33_4 hh => ?_)
              refine .w 11 (by kernel_rfl) rfl (by kernel_rfl) (.e (e_boxP ht33_4 rfl rfl rfl ?_))
              refine ⟨⟨trivial, .inl (by kernel_rfl)⟩, ?_⟩
              refine .p 12 rfl (by kernel_rfl) (NoPanic.then_ (NoPanic.body)) (fun _ => v_assign (v := .pointer (some t33_4)) rfl) ?_
              refine .done (by kernel_rfl) ?_
              exact QN.thenJ ⟨_, t33_4, setl_eq ⟨rfl, trivial⟩, hh⟩
            · have hh := hh.2
              refine .e (e_mkmap rfl hh ?_)
              intro h t30_4 hh
              obtain ⟨hc_14, hh⟩ := hh
              refine ⟨⟨trivial, .inr hc_14⟩, ?_⟩
              refine .w 7 (by kernel_rfl) rfl (by kernel_rfl) (.e (e_mkmap rfl hh ?_))
              intro h t29_4 hh
              obtain ⟨hc_15, hh⟩ := hh
              refine ⟨⟨trivial, .inr hc_15⟩, ?_⟩
              refine .p 10 rfl (by kernel_rfl) (NoPanic.then_ (NoPanic.body)) (fun _ => v_buildT ({ round_Core.zero with config := t22, me := me, base := base, at_ := t26, locked := ({ round_mark.zero with round := (-1 : Int) } : round_mark), valid := ({ round_mark.zero with round := (-1 : Int) } : round_mark), plans := t29_4, blocks := t30_4, box := t31_4 } : round_Core) zo_140 pl_140 rfl (fill_step rfl rfl (len_api_Config _) (len_round_Core _) rfl (set_140_config _ _) (fill_step rfl rfl (len_i _) (len_round_Core _) rfl (set_140_me _ _) (fill_step rfl rfl (len_i _) (len_round_Core _) rfl (set_140_base _ _) (fill_step rfl rfl (len_cx _) (len_round_Core _) rfl (set_140_at _ _) (fill_step rfl rfl (len_round_mark _) (len_round_Core _) rfl (set_140_locked _ _) (fill_step rfl rfl (len_round_mark _) (len_round_Core _) rfl (set_140_valid _ _) (fill_step rfl rfl (len_mp _) (len_round_Core _) rfl (set_140_plans _ _) (fill_step rfl rfl (len_mp _) (len_round_Core _) rfl (set_140_blocks _ _) (fill_step rfl rfl (len_pt _) (len_round_Core _) rfl (set_140_box _ _) (rfl)))))))))) rfl) ?_
              refine box_elim hh (fun t33_5 ht33_5 hh => ?_)
              refine .w 11 (by kernel_rfl) rfl (by kernel_rfl) (.e (e_boxP ht33_5 rfl rfl rfl ?_))
              refine ⟨⟨trivial, .inl (by kernel_rfl)⟩, ?_⟩
              refine .p 12 rfl (by kernel_rfl) (NoPanic.then_ (NoPanic.body)) (fun _ => v_assign (v := .pointer (some t33_5)) rfl) ?_
              refine .done (by kernel_rfl) ?_
              exact QN.thenJ ⟨_, t33_5, setl_eq ⟨rfl, trivial⟩, hh⟩
        · have hh := hh.2.1
          refine .e (e_mkmap rfl hh ?_)
          intro h t29_5 hh
          obtain ⟨hc_16, hh⟩ := hh
          refine ⟨⟨trivial, .inr hc_16⟩, ?_⟩
          refine .w2 4 8 (by kernel_rfl) rfl rfl (by kernel_rfl) (by kernel_rfl) ?_ ?_
          · have hh := hh.1
            refine .e (e_callP fn_30 rfl rfl hh ?_)
            intro h t26_1 hh
            obtain ⟨hc_17, hh⟩ := hh
            refine ⟨⟨trivial, .inr hc_17⟩, ?_⟩
            refine .w2 8 9 (by kernel_rfl) rfl rfl (by kernel_rfl) (by kernel_rfl) ?_ ?_
            · have hh := hh.1
              refine .e (e_mkmap rfl hh ?_)
              intro h t30_5 hh
              obtain ⟨hc_18, hh⟩ := hh
              refine ⟨⟨trivial, .inr hc_18⟩, ?_⟩
              refine .w 9 (by kernel_rfl) rfl (by kernel_rfl) (.e (e_callP fn_9 rfl rfl hh ?_))
              intro h t31_5 hh
              obtain ⟨hc_19, hh⟩ := hh
              refine ⟨⟨trivial, .inr hc_19⟩, ?_⟩
              refine .p 10 rfl (by kernel_rfl) (NoPanic.then_ (NoPanic.body)) (fun _ => v_buildT ({ round_Core.zero with config := t22, me := me, base := base, at_ := t26_1, locked := ({ round_mark.zero with round := (-1 : Int) } : round_mark), valid := ({ round_mark.zero with round := (-1 : Int) } : round_mark), plans := t29_5, blocks := t30_5, box := t31_5 } : round_Core) zo_140 pl_140 rfl (fill_step rfl rfl (len_api_Config _) (len_round_Core _) rfl (set_140_config _ _) (fill_step rfl rfl (len_i _) (len_round_Core _) rfl (set_140_me _ _) (fill_step rfl rfl (len_i _) (len_round_Core _) rfl (set_140_base _ _) (fill_step rfl rfl (len_cx _) (len_round_Core _) rfl (set_140_at _ _) (fill_step rfl rfl (len_round_mark _) (len_round_Core _) rfl (set_140_locked _ _) (fill_step rfl rfl (len_round_mark _) (len_round_Core _) rfl (set_140_valid _ _) (fill_step rfl rfl (len_mp _) (len_round_Core _) rfl (set_140_plans _ _) (fill_step rfl rfl (len_mp _) (len_round_Core _) rfl (set_140_blocks _ _) (fill_step rfl rfl (len_pt _) (len_round_Core _) rfl (set_140_box _ _) (rfl)))))))))) rfl) ?_
              refine box_elim hh (fun t33_6 ht33_6 hh => ?_)
              refine .w 11 (by kernel_rfl) rfl (by kernel_rfl) (.e (e_boxP ht33_6 rfl rfl rfl ?_))
              refine ⟨⟨trivial, .inl (by kernel_rfl)⟩, ?_⟩
              refine .p 12 rfl (by kernel_rfl) (NoPanic.then_ (NoPanic.body)) (fun _ => v_assign (v := .pointer (some t33_6)) rfl) ?_
              refine .done (by kernel_rfl) ?_
              exact QN.thenJ ⟨_, t33_6, setl_eq ⟨rfl, trivial⟩, hh⟩
            · have hh := hh.2
              refine .e (e_callP fn_9 rfl rfl hh ?_)
              intro h t31_6 hh
              obtain ⟨hc_20, hh⟩ := hh
              refine ⟨⟨trivial, .inr hc_20⟩, ?_⟩
              refine .w 8 (by kernel_rfl) rfl (by kernel_rfl) (.e (e_mkmap rfl hh ?_))
              intro h t30_6 hh
              obtain ⟨hc_21, hh⟩ := hh
              refine ⟨⟨trivial, .inr hc_21⟩, ?_⟩
              refine .p 10 rfl (by kernel_rfl) (NoPanic.then_ (NoPanic.body)) (fun _ => v_buildT ({ round_Core.zero with config := t22, me := me, base := base, at_ := t26_1, locked := ({ round_mark.zero with round := (-1 : Int) } : round_mark), valid := ({ round_mark.zero with round := (-1 : Int) } : round_mark), plans := t29_5, blocks := t30_6, box := t31_6 } : round_Core) zo_140 pl_140 rfl (fill_step rfl rfl (len_api_Config _) (len_round_Core _) rfl (set_140_config _ _) (fill_step rfl rfl (len_i _) (len_round_Core _) rfl (set_140_me _ _) (fill_step rfl rfl (len_i _) (len_round_Core _) rfl (set_140_base _ _) (fill_step rfl rfl (len_cx _) (len_round_Core _) rfl (set_140_at _ _) (fill_step rfl rfl (len_round_mark _) (len_round_Core _) rfl (set_140_locked _ _) (fill_step rfl rfl (len_round_mark _) (len_round_Core _) rfl (set_140_valid _ _) (fill_step rfl rfl (len_mp _) (len_round_Core _) rfl (set_140_plans _ _) (fill_step rfl rfl (len_mp _) (len_round_Core _) rfl (set_140_blocks _ _) (fill_step rfl rfl (len_pt _) (len_round_Core _) rfl (set_140_box _ _) (rfl)))))))))) rfl) ?_
              refine box_elim hh (fun t33_7 ht33_7 hh => ?_)
              refine .w 11 (by kernel_rfl) rfl (by kernel_rfl) (.e (e_boxP ht33_7 rfl rfl rfl ?_))
              refine ⟨⟨trivial, .inl (by kernel_rfl)⟩, ?_⟩
              refine .p 12 rfl (by kernel_rfl) (NoPanic.then_ (NoPanic.body)) (fun _ => v_assign (v := .pointer (some t33_7)) rfl) ?_
              refine .done (by kernel_rfl) ?_
              exact QN.thenJ ⟨_, t33_7, setl_eq ⟨rfl, trivial⟩, hh⟩
          · have hh := hh.2
            refine .e (e_mkmap rfl hh ?_)
            intro h t30_7 hh
            obtain ⟨hc_22, hh⟩ := hh
            refine ⟨⟨trivial, .inr hc_22⟩, ?_⟩
            refine .w 4 (by kernel_rfl) rfl (by kernel_rfl) (.e (e_callP fn_30 rfl rfl hh ?_))
            intro h t26_2 hh
            obtain ⟨hc_23, hh⟩ := hh
            refine ⟨⟨trivial, .inr hc_23⟩, ?_⟩
            refine .w 9 (by kernel_rfl) rfl (by kernel_rfl) (.e (e_callP fn_9 rfl rfl hh ?_))
            intro h t31_7 hh
            obtain ⟨hc_24, hh⟩ := hh
            refine ⟨⟨trivial, .inr hc_24⟩, ?_⟩
            refine .p 10 rfl (by kernel_rfl) (NoPanic.then_ (NoPanic.body)) (fun _ => v_buildT ({ round_Core.zero with config := t22, me := me, base := base, at_ := t26_2, locked := ({ round_mark.zero with round := (-1 : Int) } : round_mark), valid := ({ round_mark.zero with round := (-1 : Int) } : round_mark), plans := t29_5, blocks := t30_7, box := t31_7 } : round_Core) zo_140 pl_140 rfl (fill_step rfl rfl (len_api_Config _) (len_round_Core _) rfl (set_140_config _ _) (fill_step rfl rfl (len_i _) (len_round_Core _) rfl (set_140_me _ _) (fill_step rfl rfl (len_i _) (len_round_Core _) rfl (set_140_base _ _) (fill_step rfl rfl (len_cx _) (len_round_Core _) rfl (set_140_at _ _) (fill_step rfl rfl (len_round_mark _) (len_round_Core _) rfl (set_140_locked _ _) (fill_step rfl rfl (len_round_mark _) (len_round_Core _) rfl (set_140_valid _ _) (fill_step rfl rfl (len_mp _) (len_round_Core _) rfl (set_140_plans _ _) (fill_step rfl rfl (len_mp _) (len_round_Core _) rfl (set_140_blocks _ _) (fill_step rfl rfl (len_pt _) (len_round_Core _) rfl (set_140_box _ _) (rfl)))))))))) rfl) ?_
            refine box_elim hh (fun t33_8 ht33_8 hh => ?_)
            refine .w 11 (by kernel_rfl) rfl (by kernel_rfl) (.e (e_boxP ht33_8 rfl rfl rfl ?_))
            refine ⟨⟨trivial, .inl (by kernel_rfl)⟩, ?_⟩
            refine .p 12 rfl (by kernel_rfl) (NoPanic.then_ (NoPanic.body)) (fun _ => v_assign (v := .pointer (some t33_8)) rfl) ?_
            refine .done (by kernel_rfl) ?_
            exact QN.thenJ ⟨_, t33_8, setl_eq ⟨rfl, trivial⟩, hh⟩
        · have hh := hh.2.2
          refine .e (e_mkmap rfl hh ?_)
          intro h t30_8 hh
          obtain ⟨hc_25, hh⟩ := hh
          refine ⟨⟨trivial, .inr hc_25⟩, ?_⟩
          refine .w2 4 7 (by kernel_rfl) rfl rfl (by kernel_rfl) (by kernel_rfl) ?_ ?_
          · have hh := hh.1
            refine .e (e_callP fn_30 rfl rfl hh ?_)
            intro h t26_3 hh
            obtain ⟨hc_26, hh⟩ := hh
            refine ⟨⟨trivial, .inr hc_26⟩, ?_⟩
            refine .w2 7 9 (by kernel_rfl) rfl rfl (by kernel_rfl) (by kernel_rfl) ?_ ?_
            · have hh := hh.1
              refine .e (e_mkmap rfl hh ?_)
              intro h t29_6 hh
              obtain ⟨hc_27, hh⟩ := hh
              refine ⟨⟨trivial, .inr hc_27⟩, ?_⟩
              refine .w 9 (by kernel_rfl) rfl (by kernel_rfl) (.e (e_callP fn_9 rfl rfl hh ?_))
              intro h t31_8 hh
              obtain ⟨hc_28, hh⟩ := hh
              refine ⟨⟨trivial, .inr hc_28⟩, ?_⟩
              refine .p 10 rfl (by kernel_rfl) (NoPanic.then_ (NoPanic.body)) (fun _ => v_buildT ({ round_Core.zero with config := t22, me := me, base := base, at_ := t26_3, locked := ({ round_mark.zero with round := (-1 : Int) } : round_mark), valid := ({ round_mark.zero with round := (-1 : Int) } : round_mark), plans := t29_6, blocks := t30_8, box := t31_8 } : round_Core) zo_140 pl_140 rfl (fill_step rfl rfl (len_api_Config _) (len_round_Core _) rfl (set_140_config _ _) (fill_step rfl rfl (len_i _) (len_round_Core _) rfl (set_140_me _ _) (fill_step rfl rfl (len_i _) (len_round_Core _) rfl (set_140_base _ _) (fill_step rfl rfl (len_cx _) (len_round_Core _) rfl (set_140_at _ _) (fill_step rfl rfl (len_round_mark _) (len_round_Core _) rfl (set_140_locked _ _) (fill_step rfl rfl (len_round_mark _) (len_round_Core _) rfl (set_140_valid _ _) (fill_step rfl rfl (len_mp _) (len_round_Core _) rfl (set_140_plans _ _) (fill_step rfl rfl (len_mp _) (len_round_Core _) rfl (set_140_blocks _ _) (fill_step rfl rfl (len_pt _) (len_round_Core _) rfl (set_140_box _ _) (rfl)))))))))) rfl) ?_
              refine box_elim hh (fun t33_9 ht33_9 hh => ?_)
              refine .w 11 (by kernel_rfl) rfl (by kernel_rfl) (.e (e_boxP ht33_9 rfl rfl rfl ?_))
              refine ⟨⟨trivial, .inl (by kernel_rfl)⟩, ?_⟩
              refine .p 12 rfl (by kernel_rfl) (NoPanic.then_ (NoPanic.body)) (fun _ => v_assign (v := .pointer (some t33_9)) rfl) ?_
              refine .done (by kernel_rfl) ?_
              exact QN.thenJ ⟨_, t33_9, setl_eq ⟨rfl, trivial⟩, hh⟩
            · have hh := hh.2
              refine .e (e_callP fn_9 rfl rfl hh ?_)
              intro h t31_9 hh
              obtain ⟨hc_29, hh⟩ := hh
              refine ⟨⟨trivial, .inr hc_29⟩, ?_⟩
              refine .w 7 (by kernel_rfl) rfl (by kernel_rfl) (.e (e_mkmap rfl hh ?_))
              intro h t29_7 hh
              obtain ⟨hc_30, hh⟩ := hh
              refine ⟨⟨trivial, .inr hc_30⟩, ?_⟩
              refine .p 10 rfl (by kernel_rfl) (NoPanic.then_ (NoPanic.body)) (fun _ => v_buildT ({ round_Core.zero with config := t22, me := me, base := base, at_ := t26_3, locked := ({ round_mark.zero with round := (-1 : Int) } : round_mark), valid := ({ round_mark.zero with round := (-1 : Int) } : round_mark), plans := t29_7, blocks := t30_8, box := t31_9 } : round_Core) zo_140 pl_140 rfl (fill_step rfl rfl (len_api_Config _) (len_round_Core _) rfl (set_140_config _ _) (fill_step rfl rfl (len_i _) (len_round_Core _) rfl (set_140_me _ _) (fill_step rfl rfl (len_i _) (len_round_Core _) rfl (set_140_base _ _) (fill_step rfl rfl (len_cx _) (len_round_Core _) rfl (set_140_at _ _) (fill_step rfl rfl (len_round_mark _) (len_round_Core _) rfl (set_140_locked _ _) (fill_step rfl rfl (len_round_mark _) (len_round_Core _) rfl (set_140_valid _ _) (fill_step rfl rfl (len_mp _) (len_round_Core _) rfl (set_140_plans _ _) (fill_step rfl rfl (len_mp _) (len_round_Core _) rfl (set_140_blocks _ _) (fill_step rfl rfl (len_pt _) (len_round_Core _) rfl (set_140_box _ _) (rfl)))))))))) rfl) ?_
              refine box_elim hh (fun t33_10 ht33_10 hh => ?_)
              refine .w 11 (by kernel_rfl) rfl (by kernel_rfl) (.e (e_boxP ht33_10 rfl rfl rfl ?_))
              refine ⟨⟨trivial, .inl (by kernel_rfl)⟩, ?_⟩
              refine .p 12 rfl (by kernel_rfl) (NoPanic.then_ (NoPanic.body)) (fun _ => v_assign (v := .pointer (some t33_10)) rfl) ?_
              refine .done (by kernel_rfl) ?_
              exact QN.thenJ ⟨_, t33_10, setl_eq ⟨rfl, trivial⟩, hh⟩
          · have hh := hh.2
            refine .e (e_mkmap rfl hh ?_)
            intro h t29_8 hh
            obtain ⟨hc_31, hh⟩ := hh
            refine ⟨⟨trivial, .inr hc_31⟩, ?_⟩
            refine .w 4 (by kernel_rfl) rfl (by kernel_rfl) (.e (e_callP fn_30 rfl rfl hh ?_))
            intro h t26_4 hh
            obtain ⟨hc_32, hh⟩ := hh
            refine ⟨⟨trivial, .inr hc_32⟩, ?_⟩
            refine .w 9 (by kernel_rfl) rfl (by kernel_rfl) (.e (e_callP fn_9 rfl rfl hh ?_))
            intro h t31_10 hh
            obtain ⟨hc_33, hh⟩ := hh
            refine ⟨⟨trivial, .inr hc_33⟩, ?_⟩
            refine .p 10 rfl (by kernel_rfl) (NoPanic.then_ (NoPanic.body)) (fun _ => v_buildT ({ round_Core.zero with config := t22, me := me, base := base, at_ := t26_4, locked := ({ round_mark.zero with round := (-1 : Int) } : round_mark), valid := ({ round_mark.zero with round := (-1 : Int) } : round_mark), plans := t29_8, blocks := t30_8, box := t31_10 } : round_Core) zo_140 pl_140 rfl (fill_step rfl rfl (len_api_Config _) (len_round_Core _) rfl (set_140_config _ _) (fill_step rfl rfl (len_i _) (len_round_Core _) rfl (set_140_me _ _) (fill_step rfl rfl (len_i _) (len_round_Core _) rfl (set_140_base _ _) (fill_step rfl rfl (len_cx _) (len_round_Core _) rfl (set_140_at _ _) (fill_step rfl rfl (len_round_mark _) (len_round_Core _) rfl (set_140_locked _ _) (fill_step rfl rfl (len_round_mark _) (len_round_Core _) rfl (set_140_valid _ _) (fill_step rfl rfl (len_mp _) (len_round_Core _) rfl (set_140_plans _ _) (fill_step rfl rfl (len_mp _) (len_round_Core _) rfl (set_140_blocks _ _) (fill_step rfl rfl (len_pt _) (len_round_Core _) rfl (set_140_box _ _) (rfl)))))))))) rfl) ?_
            refine box_elim hh (fun t33_11 ht33_11 hh => ?_)
            refine .w 11 (by kernel_rfl) rfl (by kernel_rfl) (.e (e_boxP ht33_11 rfl rfl rfl ?_))
            refine ⟨⟨trivial, .inl (by kernel_rfl)⟩, ?_⟩
            refine .p 12 rfl (by kernel_rfl) (NoPanic.then_ (NoPanic.body)) (fun _ => v_assign (v := .pointer (some t33_11)) rfl) ?_
            refine .done (by kernel_rfl) ?_
            exact QN.thenJ ⟨_, t33_11, setl_eq ⟨rfl, trivial⟩, hh⟩
      · rintro ρ h ⟨ρ', t8, rfl, hh⟩
        unfold round_New.j2 at hh
        refine CW.ret ?_
        exact ret1 rfl rfl ⟨((some t8) : Pt), rfl, hh⟩
end Go.Proofs.YtimmoekliphobaaDoor
namespace Go.Proofs.YtimmoekliphobaaDoor
open Go Go.Sh
open Go.Sh.Ty (reg)
set_option linter.unusedVariables false
set_option maxRecDepth 100000
set_option maxHeartbeats 4000000
theorem round_Core_Plan.ok (c : Pt) (p : api_Plan) (k : Sl → H → Prop) (h : H) (hh : round_Core_Plan.b c p k h) : CallsH Prog 38 [reg c, reg p].toArray h fun v h' => ∃ r : Sl, v = reg r ∧ k r h' := by
  unfold round_Core_Plan.b at hh
  refine CallsH.of 71 Tryd.func38 rfl Tryd.ntmps38 rfl (fun w0 => ?_)
  refine CW.seq ?_
  refine CW.region ?_
  refine box_elim hh (fun p_1 hp_1 hh => ?_)
  refine .e (e_boxP hp_1 rfl rfl rfl ?_)
  refine .val (v_assign (v := reg (Sl.nil : Sl)) rfl) rfl ?_
  refine .nil ?_
  refine QN.then_ ?_
  refine CW.seq ?_
  refine CW.join (fun ρ h => ∃ (ρ' : Env) (t24 : Bool), ρ = setl ρ' [(0, reg (c : Pt)), (3, .pointer (some p_1)), (24, reg (t24 : Bool))] ∧ (round_Core_Plan.j1 k) c p_1 t24 h) ?_ ?_
  · refine CW.drawN 18 rfl follows_mixed [0, 1, 2, 3, 4, 5, 6, 7, 8, 9, 10, 11, 12, 13, 14, 16, 17] ?_
    refine .p 0 rfl (by kernel_rfl) (NoPanic.then_ (NoPanic.then_ (NoPanic.body))) (fun _ => v_move (v := reg (c : Pt)) rfl) ?_
    refine .p 1 rfl (by kernel_rfl) (NoPanic.then_ (NoPanic.then_ (NoPanic.body))) (fun _ => v_eq_nil pt_62 rfl rfl) ?_
    refine .p 2 rfl (by kernel_rfl) (NoPanic.then_ (NoPanic.then_ (NoPanic.body))) (fun _ => v_move (v := reg (c.isNone : Bool)) rfl) ?_
    refine ifb_cases hh (fun hb hh => ?_) (fun hb hh => ?_)
    · refine .no' 3 9 rfl rfl (congrArg Value.bool hb) rfl (by kernel_rfl) (NoPanic.then_ (NoPanic.then_ (NoPanic.body))) ?_
      refine .no' 4 9 rfl rfl (congrArg Value.bool hb) rfl (by kernel_rfl) (NoPanic.then_ (NoPanic.then_ (NoPanic.body))) ?_
      refine .no' 5 9 rfl rfl (congrArg Value.bool hb) rfl (by kernel_rfl) (NoPanic.then_ (NoPanic.then_ (NoPanic.body))) ?_
      refine .no' 6 9 rfl rfl (congrArg Value.bool hb) rfl (by kernel_rfl) (NoPanic.then_ (NoPanic.then_ (NoPanic.body))) ?_
      refine .p 7 rfl (by kernel_rfl) (NoPanic.then_ (NoPanic.then_ (NoPanic.body))) (fun _ => v_pickT (v := reg (true : Bool)) rfl hb rfl) ?_
      refine .p 8 rfl (by kernel_rfl) (NoPanic.then_ (NoPanic.then_ (NoPanic.body))) (fun _ => v_move (v := reg (true : Bool)) rfl) ?_
      refine .no' 9 15 rfl rfl rfl rfl (by kernel_rfl) (NoPanic.then_ (NoPanic.then_ (NoPanic.body))) ?_
      refine .no' 10 15 rfl rfl rfl rfl (by kernel_rfl) (NoPanic.then_ (NoPanic.then_ (NoPanic.body))) ?_
      refine .no' 11 15 rfl rfl rfl rfl (by kernel_rfl) (NoPanic.then_ (NoPanic.then_ (NoPanic.body))) ?_
      refine .no' 12 15 rfl rfl rfl rfl (by kernel_rfl) (NoPanic.then_ (NoPanic.then_ (NoPanic.body))) ?_
      refine .no' 13 15 rfl rfl rfl rfl (by kernel_rfl) (NoPanic.then_ (NoPanic.then_ (NoPanic.body))) ?_
      refine .no' 14 15 rfl rfl rfl rfl (by kernel_rfl) (NoPanic.then_ (NoPanic.then_ (NoPanic.body))) ?_
      refine .w 15 (by kernel_rfl) rfl (by kernel_rfl) (.no 15 rfl rfl rfl rfl ⟨trivial, ?_⟩)
      refine .no' 16 15 rfl rfl rfl rfl (by kernel_rfl) (NoPanic.then_ (NoPanic.then_ (NoPanic.body))) ?_
      refine .p 17 rfl (by kernel_rfl) (NoPanic.then_ (NoPanic.then_ (NoPanic.body))) (fun _ => v_pickT (v := reg (true : Bool)) rfl rfl rfl) ?_
      refine .done (by kernel_rfl) ?_
      exact QN.thenJ ⟨_, true, setl_eq ⟨rfl, ⟨rfl, ⟨rfl, trivial⟩⟩⟩, hh⟩
    · refine .yp 3 9 rfl rfl (congrArg Value.bool hb) rfl (by kernel_rfl) (NoPanic.then_ (NoPanic.then_ (NoPanic.body))) (fun _ => v_move (v := reg (c : Pt)) rfl) ?_
      obtain ⟨p_3, hp_3, hh⟩ := hh
      refine .yp 4 9 rfl rfl (congrArg Value.bool hb) rfl (by kernel_rfl) (NoPanic.then_ (NoPanic.then_ (NoPanic.body))) (fun _ => v_nilCheck (congrArg Value.pointer hp_3)) ?_
      refine .yp 5 9 rfl rfl (congrArg Value.bool hb) rfl (by kernel_rfl) (NoPanic.then_ (NoPanic.then_ (NoPanic.body))) (fun _ => v_fieldAddr fl_140_12 rfl) ?_
      obtain ⟨t13, ⟨xt13, hxt13, hgt13⟩, hh⟩ := hh
      refine .yr 6 9 (fun h' => ∃ x : round_Core, AtH h' p_3 (enc x) ∧ ((fun (x : round_Core) => x.decided) : round_Core → Bool) x = t13) rfl rfl (congrArg Value.bool hb) rfl (by kernel_rfl) (NoPanic.then_ (NoPanic.then_ (NoPanic.body))) ⟨xt13, hxt13, hgt13⟩ (fun h' hS => hS.elim fun _ hS => v_ld1 (p := p_3) 211 na_4 rfl hS.1 hS.2 get_140_decided) ?_
      refine .p 7 rfl (by kernel_rfl) (NoPanic.then_ (NoPanic.then_ (NoPanic.body))) (fun _ => v_pickF (v := reg (t13 : Bool)) rfl hb rfl) ?_
      refine .p 8 rfl (by kernel_rfl) (NoPanic.then_ (NoPanic.then_ (NoPanic.body))) (fun _ => v_move (v := reg (t13 : Bool)) rfl) ?_
      refine ifb_cases hh (fun hb_1 hh => ?_) (fun hb_1 hh => ?_)
      · refine .no' 9 15 rfl rfl (congrArg Value.bool hb_1) rfl (by kernel_rfl) (NoPanic.then_ (NoPanic.then_ (NoPanic.body))) ?_
        refine .no' 10 15 rfl rfl (congrArg Value.bool hb_1) rfl (by kernel_rfl) (NoPanic.then_ (NoPanic.then_ (NoPanic.body))) ?_
        refine .no' 11 15 rfl rfl (congrArg Value.bool hb_1) rfl (by kernel_rfl) (NoPanic.then_ (NoPanic.then_ (NoPanic.body))) ?_
        refine .no' 12 15 rfl rfl (congrArg Value.bool hb_1) rfl (by kernel_rfl) (NoPanic.then_ (NoPanic.then_ (NoPanic.body))) ?_
        refine .no' 13 15 rfl rfl (congrArg Value.bool hb_1) rfl (by kernel_rfl) (NoPanic.then_ (NoPanic.then_ (NoPanic.body))) ?_
        refine .no' 14 15 rfl rfl (congrArg Value.bool hb_1) rfl (by kernel_rfl) (NoPanic.then_ (NoPanic.then_ (NoPanic.body))) ?_
        refine .w 15 (by kernel_rfl) rfl (by kernel_rfl) (.no 15 rfl (congrArg Value.bool hb_1) rfl rfl ⟨⟨trivial, .inl (by kernel_rfl)⟩, ?_⟩)
        refine .no' 16 15 rfl rfl (congrArg Value.bool hb_1) rfl (by kernel_rfl) (NoPanic.then_ (NoPanic.then_ (NoPanic.body))) ?_
        refine .p 17 rfl (by kernel_rfl) (NoPanic.then_ (NoPanic.then_ (NoPanic.body))) (fun _ => v_pickT (v := reg (true : Bool)) rfl hb_1 rfl) ?_
        refine .done (by kernel_rfl) ?_
        exact QN.thenJ ⟨_, true, setl_eq ⟨rfl, ⟨rfl, ⟨rfl, trivial⟩⟩⟩, hh⟩
      · refine .yp 9 15 rfl rfl (congrArg Value.bool hb_1) rfl (by kernel_rfl) (NoPanic.then_ (NoPanic.then_ (NoPanic.body))) (fun _ => v_fieldAddr fl_77_1 rfl) ?_
        obtain ⟨t17, ⟨xt17, hxt17, hgt17⟩, hh⟩ := hh
        refine .yr 10 15 (fun h' => ∃ x : api_Plan, AtH h' p_1 (enc x) ∧ ((fun (x : api_Plan) => x.Height) : api_Plan → Int) x = t17) rfl rfl (congrArg Value.bool hb_1) rfl (by kernel_rfl) (NoPanic.then_ (NoPanic.then_ (NoPanic.body))) ⟨xt17, hxt17, hgt17⟩ (fun h' hS => hS.elim fun _ hS => v_ld1 (p := p_1) 1 na_3 rfl hS.1 hS.2 get_77_Height) ?_
        refine .yp 11 15 rfl rfl (congrArg Value.bool hb_1) rfl (by kernel_rfl) (NoPanic.then_ (NoPanic.then_ (NoPanic.body))) (fun _ => v_move (v := reg (c : Pt)) rfl) ?_
        refine .yp 12 15 rfl rfl (congrArg Value.bool hb_1) rfl (by kernel_rfl) (NoPanic.then_ (NoPanic.then_ (NoPanic.body))) (fun _ => v_nilCheck (congrArg Value.pointer hp_3)) ?_
        refine .yp 13 15 rfl rfl (congrArg Value.bool hb_1) rfl (by kernel_rfl) (NoPanic.then_ (NoPanic.then_ (NoPanic.body))) (fun _ => v_fieldAddr fl_140_3 rfl) ?_
        obtain ⟨t21, ⟨xt21, hxt21, hgt21⟩, hh⟩ := hh
        refine .yr 14 15 (fun h' => ∃ x : round_Core, AtH h' p_3 (enc x) ∧ ((fun (x : round_Core) => x.at_) : round_Core → Cx) x = t21) rfl rfl (congrArg Value.bool hb_1) rfl (by kernel_rfl) (NoPanic.then_ (NoPanic.then_ (NoPanic.body))) ⟨xt21, hxt21, hgt21⟩ (fun h' hS => hS.elim fun _ hS => v_ld1 (p := p_3) 4 na_65 rfl hS.1 hS.2 get_140_at) ?_
        refine .w 15 (by kernel_rfl) rfl (by kernel_rfl) (.ye 15 rfl (congrArg Value.bool hb_1) rfl (e_callP fn_68 rfl rfl hh ?_))
        intro h t22 hh
        obtain ⟨hc, hh⟩ := hh
        refine ⟨⟨⟨⟨trivial, .inl (by kernel_rfl)⟩, .inr hc⟩, .inl (by kernel_rfl)⟩, ?_⟩
        refine .yp 16 15 rfl rfl (congrArg Value.bool hb_1) rfl (by kernel_rfl) (NoPanic.then_ (NoPanic.then_ (NoPanic.body))) (fun _ => v_ineq rfl rfl) ?_
        refine .p 17 rfl (by kernel_rfl) (NoPanic.then_ (NoPanic.then_ (NoPanic.body))) (fun _ => v_pickF (v := reg ((t17 != t22) : Bool)) rfl hb_1 rfl) ?_
        refine .done (by kernel_rfl) ?_
        exact QN.thenJ ⟨_, (t17 != t22), setl_eq ⟨rfl, ⟨rfl, ⟨rfl, trivial⟩⟩⟩, hh⟩
  · rintro ρ h ⟨ρ', t24, rfl, hh⟩
    unfold round_Core_Plan.j1 at hh
    refine CW.cond t24 rfl (fun hb_2 => ?_) (fun hb_2 => ?_)
    · have hh := hh.1 hb_2
      refine CW.seq ?_
      refine CW.region ?_
      refine .val (v_assign (v := reg (Sl.nil : Sl)) rfl) rfl ?_
      refine .nil ?_
      refine QN.then_ ?_
      refine CW.ret ?_
      refine QN.thenRet ?_
      exact ret1 rfl rfl ⟨(Sl.nil : Sl), rfl, hh⟩
    · have hh := hh.2 hb_2
      refine CW.skip ?_
      refine QN.then_ ?_
      refine CW.seq ?_
      refine CW.region ?_
      refine .val (v_fieldAddr fl_77_4 rfl) rfl ?_
      obtain ⟨t26, ⟨xt26, hxt26, hgt26⟩, hh⟩ := hh
      refine .val (v_ldA (p := p_1) 4 ag_75 rfl hxt26 hgt26 get_77_Block (fun _ => (len_api_Block _)) (fun _ => rfl)) rfl ?_
      refine .e (e_callP fn_69 rfl rfl hh ?_)
      intro h t27 hh
      refine .val (v_fieldAddr fl_77_4 rfl) rfl ?_
      obtain ⟨xw, hxw, hwxw, hh⟩ := hh
      refine .e (e_storeN (p := p_1) (nv := enc (t27 : api_Block)) 4 rfl rfl rfl sz_75 (one_api_Block _) hxw hwxw (len_api_Plan _) (len_api_Block _) rfl (set_77_Block xw (t27 : api_Block)) ?_)
      refine .nil ?_
      refine QN.then_ ?_
      refine CW.seq ?_
      refine CW.drawN 10 rfl follows_mixed [0, 1, 2, 3, 4, 5, 7, 8] ?_
      refine .p 0 rfl (by kernel_rfl) (NoPanic.then_ (NoPanic.body)) (fun _ => v_move (v := reg (c : Pt)) rfl) ?_
      obtain ⟨p_4, hp_4, hh⟩ := hh
      refine .p 1 rfl (by kernel_rfl) (NoPanic.then_ (NoPanic.body)) (fun _ => v_nilCheck (congrArg Value.pointer hp_4)) ?_
      refine .p 2 rfl (by kernel_rfl) (NoPanic.then_ (NoPanic.body)) (fun _ => v_fieldAddr fl_140_9 rfl) ?_
      obtain ⟨t32, ⟨xt32, hxt32, hgt32⟩, hh⟩ := hh
      refine .r 3 (fun h' => ∃ x : round_Core, AtH h' p_4 (enc x) ∧ ((fun (x : round_Core) => x.blocks) : round_Core → Mp) x = t32) rfl (by kernel_rfl) (NoPanic.then_ (NoPanic.body)) ⟨xt32, hxt32, hgt32⟩ (fun h' hS => hS.elim fun _ hS => v_ld1 (p := p_4) 208 na_138 rfl hS.1 hS.2 get_140_blocks) ?_
      refine .p 4 rfl (by kernel_rfl) (NoPanic.then_ (NoPanic.body)) (fun _ => v_fieldAddr fl_77_4 rfl) ?_
      obtain ⟨t34, ⟨xt34, hxt34, hgt34⟩, hh⟩ := hh
      refine .r 5 (fun h' => ∃ x : api_Plan, AtH h' p_1 (enc x) ∧ ((fun (x : api_Plan) => x.Block) : api_Plan → api_Block) x = t34) rfl (by kernel_rfl) (NoPanic.then_ (NoPanic.body)) ⟨xt34, hxt34, hgt34⟩ (fun h' hS => hS.elim fun _ hS => v_ldA (p := p_1) 4 ag_75 rfl hS.1 hS.2 get_77_Block (fun _ => (len_api_Block _)) (fun _ => rfl)) ?_
      refine .p 7 rfl (by kernel_rfl) (NoPanic.then_ (NoPanic.body)) (fun _ => v_fieldAddr fl_77_4 rfl) ?_
      obtain ⟨t37, ⟨xt37, hxt37, hgt37⟩, hh⟩ := hh
      refine .r 8 (fun h' => ∃ x : api_Plan, AtH h' p_1 (enc x) ∧ ((fun (x : api_Plan) => x.Block) : api_Plan → api_Block) x = t37) rfl (by kernel_rfl) (NoPanic.then_ (NoPanic.body)) ⟨xt37, hxt37, hgt37⟩ (fun h' hS => hS.elim fun _ hS => v_ldA (p := p_1) 4 ag_75 rfl hS.1 hS.2 get_77_Block (fun _ => (len_api_Block _)) (fun _ => rfl)) ?_
      refine .w 6 (by kernel_rfl) rfl (by kernel_rfl) (.e (e_callP fn_34 rfl rfl hh ?_))
      intro h t35 hh
      obtain ⟨hc_1, hh⟩ := hh
      obtain ⟨hc_2, hh⟩ := hh
      refine ⟨⟨⟨⟨trivial, .inr hc_1⟩, .inl (by kernel_rfl)⟩, .inr hc_2⟩, ?_⟩
      refine .w 9 (by kernel_rfl) rfl (by kernel_rfl) (.e (e_mput mt_138 kt_24 rfl rfl rfl hh ?_))
      intro h hh
      refine ⟨⟨⟨⟨trivial, .inl (by kernel_rfl)⟩, .inl (by kernel_rfl)⟩, .inl (by kernel_rfl)⟩, ?_⟩
      refine .done (by kernel_rfl) ?_
      refine QN.then_ ?_
      refine CW.join (fun ρ h => ∃ (ρ' : Env), ρ = setl ρ' [(0, reg (c : Pt))] ∧ (round_Core_Plan.j2 k) c h) ?_ ?_
      · refine CW.seq ?_
        refine CW.drawN 13 rfl follows_mixed [0, 1, 2, 3, 4, 5, 6, 7, 8, 9, 12] ?_
        refine .p 0 rfl (by kernel_rfl) (NoPanic.then_ (NoPanic.then_ (NoPanic.body))) (fun _ => v_move (v := reg (c : Pt)) rfl) ?_
        refine .p 1 rfl (by kernel_rfl) (NoPanic.then_ (NoPanic.then_ (NoPanic.body))) (fun _ => v_nilCheck (congrArg Value.pointer hp_4)) ?_
        refine .p 2 rfl (by kernel_rfl) (NoPanic.then_ (NoPanic.then_ (NoPanic.body))) (fun _ => v_fieldAddr fl_140_8 rfl) ?_
        obtain ⟨t42, ⟨xt42, hxt42, hgt42⟩, hh⟩ := hh
        refine .r 3 (fun h' => ∃ x : round_Core, AtH h' p_4 (enc x) ∧ ((fun (x : round_Core) => x.plans) : round_Core → Mp) x = t42) rfl (by kernel_rfl) (NoPanic.then_ (NoPanic.then_ (NoPanic.body))) ⟨xt42, hxt42, hgt42⟩ (fun h' hS => hS.elim fun _ hS => v_ld1 (p := p_4) 207 na_137 rfl hS.1 hS.2 get_140_plans) ?_
        refine .p 4 rfl (by kernel_rfl) (NoPanic.then_ (NoPanic.then_ (NoPanic.body))) (fun _ => v_fieldAddr fl_77_2 rfl) ?_
        obtain ⟨t44, ⟨xt44, hxt44, hgt44⟩, hh⟩ := hh
        refine .r 5 (fun h' => ∃ x : api_Plan, AtH h' p_1 (enc x) ∧ ((fun (x : api_Plan) => x.Round) : api_Plan → Int) x = t44) rfl (by kernel_rfl) (NoPanic.then_ (NoPanic.then_ (NoPanic.body))) ⟨xt44, hxt44, hgt44⟩ (fun h' hS => hS.elim fun _ hS => v_ld1 (p := p_1) 2 na_3 rfl hS.1 hS.2 get_77_Round) ?_
        obtain ⟨t45, ⟨xt45, hxt45, hgt45⟩, hh⟩ := hh
        refine .r 6 (fun h' => ∃ l : List (Int × api_Plan), MapIs h' t42 l ∧ (fun (l : List (Int × api_Plan)) => mlook (api_Plan.zero : api_Plan) l (t44 : Int)) l = t45) rfl (by kernel_rfl) (NoPanic.then_ (NoPanic.then_ (NoPanic.body))) ⟨xt45, hxt45, hgt45⟩ (fun h' hS => hS.elim fun _ hS => v_lookupOk mt_137 kt_3 zv_77 rfl rfl hS.1 hS.2) ?_
        refine .p 7 rfl (by kernel_rfl) (NoPanic.then_ (NoPanic.then_ (NoPanic.body))) (fun _ => v_move (v := reg (t45 : T2 api_Plan Bool)) rfl) ?_
        refine .p 8 rfl (by kernel_rfl) (NoPanic.then_ (NoPanic.then_ (NoPanic.body))) (fun _ => v_extract (v := reg (t45.a : api_Plan)) rfl rfl) ?_
        refine .p 9 rfl (by kernel_rfl) (NoPanic.then_ (NoPanic.then_ (NoPanic.body))) (fun _ => v_extract (v := reg (t45.b : Bool)) rfl rfl) ?_
        refine box_elim hh (fun t5 ht5 hh => ?_)
        refine .w 10 (by kernel_rfl) rfl (by kernel_rfl) (.e (e_allocP ht5 zo_77 rfl ?_))
        obtain ⟨hc_3, hh⟩ := hh
        obtain ⟨hc_4, hh⟩ := hh
        obtain ⟨hc_5, hh⟩ := hh
        refine ⟨⟨⟨⟨trivial, .inr hc_3⟩, .inr hc_4⟩, .inr hc_5⟩, ?_⟩
        obtain ⟨xw_1, hxw_1, hwxw_1, hh⟩ := hh
        refine .w 11 (by kernel_rfl) rfl (by kernel_rfl) (.e (e_storeN (p := t5) (nv := enc (t45.a : api_Plan)) 0 rfl rfl rfl sz_77 (one_api_Plan _) hxw_1 hwxw_1 (len_api_Plan _) (len_api_Plan _) rfl (set_77_all xw_1 (t45.a : api_Plan)) ?_))
        refine ⟨⟨⟨⟨trivial, .inl (by kernel_rfl)⟩, .inl (by kernel_rfl)⟩, .inl (by kernel_rfl)⟩, ?_⟩
        refine .p 12 rfl (by kernel_rfl) (NoPanic.then_ (NoPanic.then_ (NoPanic.body))) (fun _ => v_assign (v := reg (t45.b : Bool)) rfl) ?_
        refine .done (by kernel_rfl) ?_
        refine QN.then_ ?_
        refine CW.join (fun ρ h => ∃ (ρ' : Env) (t61 : Bool), ρ = setl ρ' [(0, reg (c : Pt)), (3, .pointer (some p_1)), (61, reg (t61 : Bool))] ∧ (round_Core_Plan.j3 (round_Core_Plan.j2 k)) c p_1 t61 h) ?_ ?_
        · refine CW.drawN 14 rfl follows_mixed [0, 1, 2, 3, 4, 5, 6, 7, 10, 11, 12, 13] ?_
          refine .p 0 rfl (by kernel_rfl) (NoPanic.then_ (NoPanic.then_ (NoPanic.body))) (fun _ => v_move (v := reg (t45.b : Bool)) rfl) ?_
          refine .p 1 rfl (by kernel_rfl) (NoPanic.then_ (NoPanic.then_ (NoPanic.body))) (fun _ => v_not rfl) ?_
          refine .p 2 rfl (by kernel_rfl) (NoPanic.then_ (NoPanic.then_ (NoPanic.body))) (fun _ => v_move (v := reg ((!t45.b) : Bool)) rfl) ?_
          refine ifb_cases hh (fun hb_3 hh => ?_) (fun hb_3 hh => ?_)
          · refine .yp 3 50 rfl rfl (congrArg Value.bool hb_3) rfl (by kernel_rfl) (NoPanic.then_ (NoPanic.then_ (NoPanic.body))) (fun _ => v_move (v := reg (c : Pt)) rfl) ?_
            refine .yp 4 50 rfl rfl (congrArg Value.bool hb_3) rfl (by kernel_rfl) (NoPanic.then_ (NoPanic.then_ (NoPanic.body))) (fun _ => v_fieldAddr fl_77_1 rfl) ?_
            obtain ⟨t53, ⟨xt53, hxt53, hgt53⟩, hh⟩ := hh
            refine .yr 5 50 (fun h' => ∃ x : api_Plan, AtH h' p_1 (enc x) ∧ ((fun (x : api_Plan) => x.Height) : api_Plan → Int) x = t53) rfl rfl (congrArg Value.bool hb_3) rfl (by kernel_rfl) (NoPanic.then_ (NoPanic.then_ (NoPanic.body))) ⟨xt53, hxt53, hgt53⟩ (fun h' hS => hS.elim fun _ hS => v_ld1 (p := p_1) 1 na_3 rfl hS.1 hS.2 get_77_Height) ?_
            refine .yp 6 50 rfl rfl (congrArg Value.bool hb_3) rfl (by kernel_rfl) (NoPanic.then_ (NoPanic.then_ (NoPanic.body))) (fun _ => v_fieldAddr fl_77_2 rfl) ?_
            obtain ⟨t55, ⟨xt55, hxt55, hgt55⟩, hh⟩ := hh
            refine .yr 7 50 (fun h' => ∃ x : api_Plan, AtH h' p_1 (enc x) ∧ ((fun (x : api_Plan) => x.Round) : api_Plan → Int) x = t55) rfl rfl (congrArg Value.bool hb_3) rfl (by kernel_rfl) (NoPanic.then_ (NoPanic.then_ (NoPanic.body))) ⟨xt55, hxt55, hgt55⟩ (fun h' hS => hS.elim fun _ hS => v_ld1 (p := p_1) 2 na_3 rfl hS.1 hS.2 get_77_Round) ?_
            refine .yp 10 50 rfl rfl (congrArg Value.bool hb_3) rfl (by kernel_rfl) (NoPanic.then_ (NoPanic.then_ (NoPanic.body))) (fun _ => v_fieldAddr fl_77_5 rfl) ?_
            obtain ⟨t59, ⟨xt59, hxt59, hgt59⟩, hh⟩ := hh
            refine .yr 11 50 (fun h' => ∃ x : api_Plan, AtH h' p_1 (enc x) ∧ ((fun (x : api_Plan) => x.From) : api_Plan → Int) x = t59) rfl rfl (congrArg Value.bool hb_3) rfl (by kernel_rfl) (NoPanic.then_ (NoPanic.then_ (NoPanic.body))) ⟨xt59, hxt59, hgt59⟩ (fun h' hS => hS.elim fun _ hS => v_ld1 (p := p_1) 103 na_3 rfl hS.1 hS.2 get_77_From) ?_
            refine .w 8 (by kernel_rfl) rfl (by kernel_rfl) (.ye 50 rfl (congrArg Value.bool hb_3) rfl (e_callP fn_30 rfl rfl hh ?_))
            intro h t56 hh
            obtain ⟨hc_6, hh⟩ := hh
            refine ⟨⟨⟨⟨trivial, .inl (by kernel_rfl)⟩, .inl (by kernel_rfl)⟩, .inr hc_6⟩, ?_⟩
            refine .w 9 (by kernel_rfl) rfl (by kernel_rfl) (.ye 50 rfl (congrArg Value.bool hb_3) rfl (e_callP fn_70 rfl rfl hh ?_))
            intro h t57 hh
            obtain ⟨hc_7, hh⟩ := hh
            refine ⟨⟨⟨⟨trivial, .inl (by kernel_rfl)⟩, .inl (by kernel_rfl)⟩, .inr hc_7⟩, ?_⟩
            refine .yp 12 50 rfl rfl (congrArg Value.bool hb_3) rfl (by kernel_rfl) (NoPanic.then_ (NoPanic.then_ (NoPanic.body))) (fun _ => v_ieql rfl rfl) ?_
            refine .p 13 rfl (by kernel_rfl) (NoPanic.then_ (NoPanic.then_ (NoPanic.body))) (fun _ => v_pickT (v := reg ((t57 == t59) : Bool)) rfl hb_3 rfl) ?_
            refine .done (by kernel_rfl) ?_
            exact QN.thenJ ⟨_, (t57 == t59), setl_eq ⟨rfl, ⟨rfl, ⟨rfl, trivial⟩⟩⟩, hh⟩
          · refine .no' 3 50 rfl rfl (congrArg Value.bool hb_3) rfl (by kernel_rfl) (NoPanic.then_ (NoPanic.then_ (NoPanic.body))) ?_
            refine .no' 4 50 rfl rfl (congrArg Value.bool hb_3) rfl (by kernel_rfl) (NoPanic.then_ (NoPanic.then_ (NoPanic.body))) ?_
            refine .no' 5 50 rfl rfl (congrArg Value.bool hb_3) rfl (by kernel_rfl) (NoPanic.then_ (NoPanic.then_ (NoPanic.body))) ?_
            refine .no' 6 50 rfl rfl (congrArg Value.bool hb_3) rfl (by kernel_rfl) (NoPanic.then_ (NoPanic.then_ (NoPanic.body))) ?_
            refine .no' 7 50 rfl rfl (congrArg Value.bool hb_3) rfl (by kernel_rfl) (NoPanic.then_ (NoPanic.then_ (NoPanic.body))) ?_
            refine .no' 10 50 rfl rfl (congrArg Value.bool hb_3) rfl (by kernel_rfl) (NoPanic.then_ (NoPanic.then_ (NoPanic.body))) ?_
            refine .no' 11 50 rfl rfl (congrArg Value.bool hb_3) rfl (by kernel_rfl) (NoPanic.then_ (NoPanic.then_ (NoPanic.body))) ?_
            refine .w 8 (by kernel_rfl) rfl (by kernel_rfl) (.no 50 rfl (congrArg Value.bool hb_3) rfl rfl ⟨trivial, ?_⟩)
            refine .w 9 (by kernel_rfl) rfl (by kernel_rfl) (.no 50 rfl (congrArg Value.bool hb_3) rfl rfl ⟨trivial, ?_⟩)
            refine .no' 12 50 rfl rfl (congrArg Value.bool hb_3) rfl (by kernel_rfl) (NoPanic.then_ (NoPanic.then_ (NoPanic.body))) ?_
            refine .p 13 rfl (by kernel_rfl) (NoPanic.then_ (NoPanic.then_ (NoPanic.body))) (fun _ => v_pickF (v := reg (false : Bool)) rfl hb_3 rfl) ?_
            refine .done (by kernel_rfl) ?_
            exact QN.thenJ ⟨_, false, setl_eq ⟨rfl, ⟨rfl, ⟨rfl, trivial⟩⟩⟩, hh⟩
        · rintro ρ h ⟨ρ', t61, rfl, hh⟩
          unfold round_Core_Plan.j3 at hh
          refine CW.cond t61 rfl (fun hb_4 => ?_) (fun hb_4 => ?_)
          · have hh := hh.1 hb_4
            refine CW.drawN 8 rfl follows_mixed [0, 1, 2, 3, 4, 5, 6] ?_
            refine .p 0 rfl (by kernel_rfl) (NoPanic.then_ (NoPanic.body)) (fun _ => v_move (v := reg (c : Pt)) rfl) ?_
            obtain ⟨p_6, hp_6, hh⟩ := hh
            refine .p 1 rfl (by kernel_rfl) (NoPanic.then_ (NoPanic.body)) (fun _ => v_nilCheck (congrArg Value.pointer hp_6)) ?_
            refine .p 2 rfl (by kernel_rfl) (NoPanic.then_ (NoPanic.body)) (fun _ => v_fieldAddr fl_140_8 rfl) ?_
            obtain ⟨t65, ⟨xt65, hxt65, hgt65⟩, hh⟩ := hh
            refine .r 3 (fun h' => ∃ x : round_Core, AtH h' p_6 (enc x) ∧ ((fun (x : round_Core) => x.plans) : round_Core → Mp) x = t65) rfl (by kernel_rfl) (NoPanic.then_ (NoPanic.body)) ⟨xt65, hxt65, hgt65⟩ (fun h' hS => hS.elim fun _ hS => v_ld1 (p := p_6) 207 na_137 rfl hS.1 hS.2 get_140_plans) ?_
            refine .p 4 rfl (by kernel_rfl) (NoPanic.then_ (NoPanic.body)) (fun _ => v_fieldAddr fl_77_2 rfl) ?_
            obtain ⟨t67, ⟨xt67, hxt67, hgt67⟩, hh⟩ := hh
            refine .r 5 (fun h' => ∃ x : api_Plan, AtH h' p_1 (enc x) ∧ ((fun (x : api_Plan) => x.Round) : api_Plan → Int) x = t67) rfl (by kernel_rfl) (NoPanic.then_ (NoPanic.body)) ⟨xt67, hxt67, hgt67⟩ (fun h' hS => hS.elim fun _ hS => v_ld1 (p := p_1) 2 na_3 rfl hS.1 hS.2 get_77_Round) ?_
            obtain ⟨t68, ⟨xt68, hxt68, hgt68⟩, hh⟩ := hh
            refine .r 6 (fun h' => ∃ x : api_Plan, AtH h' p_1 (enc x) ∧ ((fun (x : api_Plan) => x) : api_Plan → api_Plan) x = t68) rfl (by kernel_rfl) (NoPanic.then_ (NoPanic.body)) ⟨xt68, hxt68, hgt68⟩ (fun h' hS => hS.elim fun _ hS => v_ldA (p := p_1) 0 ag_77 rfl hS.1 hS.2 get_77_all (fun _ => (len_api_Plan _)) (fun _ => rfl)) ?_
            refine .w 7 (by kernel_rfl) rfl (by kernel_rfl) (.e (e_mput mt_137 kt_3 rfl rfl rfl hh ?_))
            intro h hh
            refine ⟨⟨⟨⟨trivial, .inl (by kernel_rfl)⟩, .inl (by kernel_rfl)⟩, .inl (by kernel_rfl)⟩, ?_⟩
            refine .done (by kernel_rfl) ?_
            exact QN.thenJ ⟨_, setl_eq ⟨rfl, trivial⟩, hh⟩
          · have hh := hh.2 hb_4
            refine CW.skip ?_
            exact QN.thenJ ⟨_, setl_eq ⟨rfl, trivial⟩, hh⟩
      · rintro ρ h ⟨ρ', rfl, hh⟩
        unfold round_Core_Plan.j2 at hh
        refine CW.seq ?_
        refine CW.region ?_
        refine .val (v_move (v := reg (c : Pt)) rfl) rfl ?_
        refine .e (e_callP fn_58 rfl rfl hh ?_)
        intro h t70 hh
        refine .val (v_assign (v := reg (t70 : Sl)) rfl) rfl ?_
        refine .nil ?_
        refine QN.then_ ?_
        refine CW.ret ?_
        exact ret1 rfl rfl ⟨(t70 : Sl), rfl, hh⟩
end Go.Proofs.YtimmoekliphobaaDoor
namespace Go.Proofs.YtimmoekliphobaaDoor
open Go Go.Sh
open Go.Sh.Ty (reg)
set_option linter.unusedVariables false
set_option maxRecDepth 100000
set_option maxHeartbeats 4000000
theorem round_Core_Vote.ok (c : Pt) (v : api_Vote) (k : Sl → H → Prop) (h : H) (hh : round_Core_Vote.b c v k h) : CallsH Prog 39 [reg c, reg v].toArray h fun v h' => ∃ r : Sl, v = reg r ∧ k r h' := by
  unfold round_Core_Vote.b at hh
  refine CallsH.of 31 Tryd.func39 rfl Tryd.ntmps39 rfl (fun w0 => ?_)
  refine CW.seq ?_
  refine CW.region ?_
  refine box_elim hh (fun v_1 hv_1 hh => ?_)
  refine .e (e_boxP hv_1 rfl rfl rfl ?_)
  refine .val (v_assign (v := reg (Sl.nil : Sl)) rfl) rfl ?_
  refine .nil ?_
  refine QN.then_ ?_
  refine CW.seq ?_
  refine CW.join (fun ρ h => ∃ (ρ' : Env) (t22 : Bool), ρ = setl ρ' [(0, reg (c : Pt)), (3, .pointer (some v_1)), (22, reg (t22 : Bool))] ∧ (round_Core_Vote.j1 k) c v_1 t22 h) ?_ ?_
  · refine CW.drawN 18 rfl follows_mixed [0, 1, 2, 3, 4, 5, 6, 7, 8, 9, 10, 11, 12, 13, 14, 16, 17] ?_
    refine .p 0 rfl (by kernel_rfl) (NoPanic.then_ (NoPanic.then_ (NoPanic.body))) (fun _ => v_move (v := reg (c : Pt)) rfl) ?_
    refine .p 1 rfl (by kernel_rfl) (NoPanic.then_ (NoPanic.then_ (NoPanic.body))) (fun _ => v_eq_nil pt_62 rfl rfl) ?_
    refine .p 2 rfl (by kernel_rfl) (NoPanic.then_ (NoPanic.then_ (NoPanic.body))) (fun _ => v_move (v := reg (c.isNone : Bool)) rfl) ?_
    refine ifb_cases hh (fun hb hh => ?_) (fun hb hh => ?_)
    · refine .no' 3 7 rfl rfl (congrArg Value.bool hb) rfl (by kernel_rfl) (NoPanic.then_ (NoPanic.then_ (NoPanic.body))) ?_
      refine .no' 4 7 rfl rfl (congrArg Value.bool hb) rfl (by kernel_rfl) (NoPanic.then_ (NoPanic.then_ (NoPanic.body))) ?_
      refine .no' 5 7 rfl rfl (congrArg Value.bool hb) rfl (by kernel_rfl) (NoPanic.then_ (NoPanic.then_ (NoPanic.body))) ?_
      refine .no' 6 7 rfl rfl (congrArg Value.bool hb) rfl (by kernel_rfl) (NoPanic.then_ (NoPanic.then_ (NoPanic.body))) ?_
      refine .p 7 rfl (by kernel_rfl) (NoPanic.then_ (NoPanic.then_ (NoPanic.body))) (fun _ => v_pickT (v := reg (true : Bool)) rfl hb rfl) ?_
      refine .p 8 rfl (by kernel_rfl) (NoPanic.then_ (NoPanic.then_ (NoPanic.body))) (fun _ => v_move (v := reg (true : Bool)) rfl) ?_
      refine .no' 9 13 rfl rfl rfl rfl (by kernel_rfl) (NoPanic.then_ (NoPanic.then_ (NoPanic.body))) ?_
      refine .no' 10 13 rfl rfl rfl rfl (by kernel_rfl) (NoPanic.then_ (NoPanic.then_ (NoPanic.body))) ?_
      refine .no' 11 13 rfl rfl rfl rfl (by kernel_rfl) (NoPanic.then_ (NoPanic.then_ (NoPanic.body))) ?_
      refine .no' 12 13 rfl rfl rfl rfl (by kernel_rfl) (NoPanic.then_ (NoPanic.then_ (NoPanic.body))) ?_
      refine .no' 13 13 rfl rfl rfl rfl (by kernel_rfl) (NoPanic.then_ (NoPanic.then_ (NoPanic.body))) ?_
      refine .no' 14 13 rfl rfl rfl rfl (by kernel_rfl) (NoPanic.then_ (NoPanic.then_ (NoPanic.body))) ?_
      refine .w 15 (by kernel_rfl) rfl (by kernel_rfl) (.no 13 rfl rfl rfl rfl ⟨trivial, ?_⟩)
      refine .no' 16 13 rfl rfl rfl rfl (by kernel_rfl) (NoPanic.then_ (NoPanic.then_ (NoPanic.body))) ?_
      refine .p 17 rfl (by kernel_rfl) (NoPanic.then_ (NoPanic.then_ (NoPanic.body))) (fun _ => v_pickT (v := reg (true : Bool)) rfl rfl rfl) ?_
      refine .done (by kernel_rfl) ?_
      exact QN.thenJ ⟨_, true, setl_eq ⟨rfl, ⟨rfl, ⟨rfl, trivial⟩⟩⟩, hh⟩
    · refine .yp 3 7 rfl rfl (congrArg Value.bool hb) rfl (by kernel_rfl) (NoPanic.then_ (NoPanic.then_ (NoPanic.body))) (fun _ => v_move (v := reg (c : Pt)) rfl) ?_
      obtain ⟨p, hp, hh⟩ := hh
      refine .yp 4 7 rfl rfl (congrArg Value.bool hb) rfl (by kernel_rfl) (NoPanic.then_ (NoPanic.then_ (NoPanic.body))) (fun _ => v_nilCheck (congrArg Value.pointer hp)) ?_
      refine .yp 5 7 rfl rfl (congrArg Value.bool hb) rfl (by kernel_rfl) (NoPanic.then_ (NoPanic.then_ (NoPanic.body))) (fun _ => v_fieldAddr fl_140_12 rfl) ?_
      obtain ⟨t11, ⟨xt11, hxt11, hgt11⟩, hh⟩ := hh
      refine .yr 6 7 (fun h' => ∃ x : round_Core, AtH h' p (enc x) ∧ ((fun (x : round_Core) => x.decided) : round_Core → Bool) x = t11) rfl rfl (congrArg Value.bool hb) rfl (by kernel_rfl) (NoPanic.then_ (NoPanic.then_ (NoPanic.body))) ⟨xt11, hxt11, hgt11⟩ (fun h' hS => hS.elim fun _ hS => v_ld1 (p := p) 211 na_4 rfl hS.1 hS.2 get_140_decided) ?_
      refine .p 7 rfl (by kernel_rfl) (NoPanic.then_ (NoPanic.then_ (NoPanic.body))) (fun _ => v_pickF (v := reg (t11 : Bool)) rfl hb rfl) ?_
      refine .p 8 rfl (by kernel_rfl) (NoPanic.then_ (NoPanic.then_ (NoPanic.body))) (fun _ => v_move (v := reg (t11 : Bool)) rfl) ?_
      refine ifb_cases hh (fun hb_1 hh => ?_) (fun hb_1 hh => ?_)
      · refine .no' 9 13 rfl rfl (congrArg Value.bool hb_1) rfl (by kernel_rfl) (NoPanic.then_ (NoPanic.then_ (NoPanic.body))) ?_
        refine .no' 10 13 rfl rfl (congrArg Value.bool hb_1) rfl (by kernel_rfl) (NoPanic.then_ (NoPanic.then_ (NoPanic.body))) ?_
        refine .no' 11 13 rfl rfl (congrArg Value.bool hb_1) rfl (by kernel_rfl) (NoPanic.then_ (NoPanic.then_ (NoPanic.body))) ?_
        refine .no' 12 13 rfl rfl (congrArg Value.bool hb_1) rfl (by kernel_rfl) (NoPanic.then_ (NoPanic.then_ (NoPanic.body))) ?_
        refine .no' 13 13 rfl rfl (congrArg Value.bool hb_1) rfl (by kernel_rfl) (NoPanic.then_ (NoPanic.then_ (NoPanic.body))) ?_
        refine .no' 14 13 rfl rfl (congrArg Value.bool hb_1) rfl (by kernel_rfl) (NoPanic.then_ (NoPanic.then_ (NoPanic.body))) ?_
        refine .w 15 (by kernel_rfl) rfl (by kernel_rfl) (.no 13 rfl (congrArg Value.bool hb_1) rfl rfl ⟨⟨trivial, .inl (by kernel_rfl)⟩, ?_⟩)
        refine .no' 16 13 rfl rfl (congrArg Value.bool hb_1) rfl (by kernel_rfl) (NoPanic.then_ (NoPanic.then_ (NoPanic.body))) ?_
        refine .p 17 rfl (by kernel_rfl) (NoPanic.then_ (NoPanic.then_ (NoPanic.body))) (fun _ => v_pickT (v := reg (true : Bool)) rfl hb_1 rfl) ?_
        refine .done (by kernel_rfl) ?_
        exact QN.thenJ ⟨_, true, setl_eq ⟨rfl, ⟨rfl, ⟨rfl, trivial⟩⟩⟩, hh⟩
      · refine .yp 9 13 rfl rfl (congrArg Value.bool hb_1) rfl (by kernel_rfl) (NoPanic.then_ (NoPanic.then_ (NoPanic.body))) (fun _ => v_fieldAddr fl_37_2 rfl) ?_
        obtain ⟨t15, ⟨xt15, hxt15, hgt15⟩, hh⟩ := hh
        refine .yr 10 13 (fun h' => ∃ x : api_Vote, AtH h' v_1 (enc x) ∧ ((fun (x : api_Vote) => x.Height) : api_Vote → Int) x = t15) rfl rfl (congrArg Value.bool hb_1) rfl (by kernel_rfl) (NoPanic.then_ (NoPanic.then_ (NoPanic.body))) ⟨xt15, hxt15, hgt15⟩ (fun h' hS => hS.elim fun _ hS => v_ld1 (p := v_1) 2 na_3 rfl hS.1 hS.2 get_37_Height) ?_
        refine .yp 11 13 rfl rfl (congrArg Value.bool hb_1) rfl (by kernel_rfl) (NoPanic.then_ (NoPanic.then_ (NoPanic.body))) (fun _ => v_move (v := reg (c : Pt)) rfl) ?_
        refine .yp 12 13 rfl rfl (congrArg Value.bool hb_1) rfl (by kernel_rfl) (NoPanic.then_ (NoPanic.then_ (NoPanic.body))) (fun _ => v_nilCheck (congrArg Value.pointer hp)) ?_
        refine .yp 13 13 rfl rfl (congrArg Value.bool hb_1) rfl (by kernel_rfl) (NoPanic.then_ (NoPanic.then_ (NoPanic.body))) (fun _ => v_fieldAddr fl_140_3 rfl) ?_
        obtain ⟨t19, ⟨xt19, hxt19, hgt19⟩, hh⟩ := hh
        refine .yr 14 13 (fun h' => ∃ x : round_Core, AtH h' p (enc x) ∧ ((fun (x : round_Core) => x.at_) : round_Core → Cx) x = t19) rfl rfl (congrArg Value.bool hb_1) rfl (by kernel_rfl) (NoPanic.then_ (NoPanic.then_ (NoPanic.body))) ⟨xt19, hxt19, hgt19⟩ (fun h' hS => hS.elim fun _ hS => v_ld1 (p := p) 4 na_65 rfl hS.1 hS.2 get_140_at) ?_
        refine .w 15 (by kernel_rfl) rfl (by kernel_rfl) (.ye 13 rfl (congrArg Value.bool hb_1) rfl (e_callP fn_68 rfl rfl hh ?_))
        intro h t20 hh
        obtain ⟨hc, hh⟩ := hh
        refine ⟨⟨⟨⟨trivial, .inl (by kernel_rfl)⟩, .inr hc⟩, .inl (by kernel_rfl)⟩, ?_⟩
        refine .yp 16 13 rfl rfl (congrArg Value.bool hb_1) rfl (by kernel_rfl) (NoPanic.then_ (NoPanic.then_ (NoPanic.body))) (fun _ => v_ineq rfl rfl) ?_
        refine .p 17 rfl (by kernel_rfl) (NoPanic.then_ (NoPanic.then_ (NoPanic.body))) (fun _ => v_pickF (v := reg ((t15 != t20) : Bool)) rfl hb_1 rfl) ?_
        refine .done (by kernel_rfl) ?_
        exact QN.thenJ ⟨_, (t15 != t20), setl_eq ⟨rfl, ⟨rfl, ⟨rfl, trivial⟩⟩⟩, hh⟩
  · rintro ρ h ⟨ρ', t22, rfl, hh⟩
    unfold round_Core_Vote.j1 at hh
    refine CW.cond t22 rfl (fun hb_2 => ?_) (fun hb_2 => ?_)
    · have hh := hh.1 hb_2
      refine CW.seq ?_
      refine CW.region ?_
      refine .val (v_assign (v := reg (Sl.nil : Sl)) rfl) rfl ?_
      refine .nil ?_
      refine QN.then_ ?_
      refine CW.ret ?_
      refine QN.thenRet ?_
      exact ret1 rfl rfl ⟨(Sl.nil : Sl), rfl, hh⟩
    · have hh := hh.2 hb_2
      refine CW.skip ?_
      refine QN.then_ ?_
      refine CW.seq ?_
      refine CW.drawN 6 rfl follows_mixed [0, 1, 2, 3, 4] ?_
      refine .p 0 rfl (by kernel_rfl) (NoPanic.then_ (NoPanic.body)) (fun _ => v_move (v := reg (c : Pt)) rfl) ?_
      obtain ⟨p_1, hp_1, hh⟩ := hh
      refine .p 1 rfl (by kernel_rfl) (NoPanic.then_ (NoPanic.body)) (fun _ => v_nilCheck (congrArg Value.pointer hp_1)) ?_
      refine .p 2 rfl (by kernel_rfl) (NoPanic.then_ (NoPanic.body)) (fun _ => v_fieldAddr fl_140_10 rfl) ?_
      obtain ⟨t26, ⟨xt26, hxt26, hgt26⟩, hh⟩ := hh
      refine .r 3 (fun h' => ∃ x : round_Core, AtH h' p_1 (enc x) ∧ ((fun (x : round_Core) => x.box) : round_Core → Pt) x = t26) rfl (by kernel_rfl) (NoPanic.then_ (NoPanic.body)) ⟨xt26, hxt26, hgt26⟩ (fun h' hS => hS.elim fun _ hS => v_ld1 (p := p_1) 209 na_26 rfl hS.1 hS.2 get_140_box) ?_
      obtain ⟨t27, ⟨xt27, hxt27, hgt27⟩, hh⟩ := hh
      refine .r 4 (fun h' => ∃ x : api_Vote, AtH h' v_1 (enc x) ∧ ((fun (x : api_Vote) => x) : api_Vote → api_Vote) x = t27) rfl (by kernel_rfl) (NoPanic.then_ (NoPanic.body)) ⟨xt27, hxt27, hgt27⟩ (fun h' hS => hS.elim fun _ hS => v_ldA (p := v_1) 0 ag_37 rfl hS.1 hS.2 get_37_all (fun _ => (len_api_Vote _)) (fun _ => rfl)) ?_
      refine .w 5 (by kernel_rfl) rfl (by kernel_rfl) (.e (e_callP fn_12 rfl rfl hh ?_))
      intro h t28 hh
      refine ⟨⟨⟨trivial, .inl (by kernel_rfl)⟩, .inl (by kernel_rfl)⟩, ?_⟩
      refine .done (by kernel_rfl) ?_
      refine QN.then_ ?_
      refine CW.seq ?_
      refine CW.region ?_
      refine .val (v_move (v := reg (c : Pt)) rfl) rfl ?_
      refine .e (e_callP fn_58 rfl rfl hh ?_)
      intro h t30 hh
      refine .val (v_assign (v := reg (t30 : Sl)) rfl) rfl ?_
      refine .nil ?_
      refine QN.then_ ?_
      refine CW.ret ?_
      exact ret1 rfl rfl ⟨(t30 : Sl), rfl, hh⟩
end Go.Proofs.YtimmoekliphobaaDoor
namespace Go.Proofs.YtimmoekliphobaaDoor
open Go Go.Sh
open Go.Sh.Ty (reg)
set_option linter.unusedVariables false
set_option maxRecDepth 100000
set_option maxHeartbeats 1000000

/-- a new core -/
structure Fresh (c : CS) (e : Int) (mm : Sl) (ms : List api_Member) (me ht base : Int) : Prop where
  x : c.x = { round_Core.zero with config := ⟨e, mm⟩, me := me, base := base, at_ := cxI ht 0, locked := { round_mark.zero with round := -1 }, valid := { round_mark.zero with round := -1 }, plans := ⟨some c.pm⟩, blocks := ⟨some c.bm⟩, box := some c.q }
  ht : c.ht = ht
  rd : c.rd = 0
  vts : c.vts = []
  pl : c.pl = []
  bl : c.bl = []
  lq : c.lq = []
  vq : c.vq = []
  acts : c.acts = []
  ms : c.ms = ms
  K : c.K = []
  KA : c.KA = []
theorem Fresh.ok {c : CS} {e : Int} {mm : Sl} {ms : List api_Member} {me ht base : Int} (f : Fresh c e mm ms me ht base) (hg : goodC e ms = true) (hp : Plc ht 0) : Cok c := by
  obtain ⟨hx, h1, h2, h3, h4, h5, h6, h7, h8, h9, h10, h11⟩ := f
  refine ⟨by rw [hx], by rw [hx], by rw [hx], by rw [hx, h1, h2], by rw [h1, h2]; exact hp, by rw [hx, h9]; exact hg, by rw [hx, h6]; exact Cov.zero _, by rw [hx, h7]; exact Cov.zero _, by rw [h4]; simp, by rw [h5]; simp, by rw [h3]; simp, by rw [hx]; exact (by decide : (0 : Int) ≤ 0 ∧ (0 : Int) ≤ 3), fun _ => h2, by rw [h3]; decide, by rw [h8]; decide⟩
section
variable {h0 h : H} {S : List Nat} {L : List En}
theorem own_rdo {α : Type} [Ty α] {T n : Nat} {s : Sl} {l : List α} (i : Nat) (hs : Sat h0 S h L) (hi : L[i]? = some (own T n s l)) (hn : ∀ y : α, (enc y).length = n) : Sat h0 S h (L.set i (rdo n s l)) :=
  hs.upd hi (Fr.refl _ _) (hs.ownSV i hi hn) (rdo_loc _ _ _) (fun b hb => ⟨(hs.ok _ (List.mem_of_getElem? hi)).2.2 b hb |>.1, .inl hb⟩)
theorem New_spec19 (cfg : api_Config) (ms : List api_Member) (me ht base : Int) {k : Pt → H → Prop} (hh : I64 ht) (hs : Sat h0 S h L) (hv : SVz 34 h cfg.Members ms)
    (hk0 : ∀ h', (goodC cfg.Epoch ms && decide (1 ≤ ht ∧ ht ≤ 1024)) = false → Sat h0 S h' L → k none h')
    (hk : ∀ c mm h', (goodC cfg.Epoch ms && decide (1 ≤ ht ∧ ht ≤ 1024)) = true → Fresh c cfg.Epoch mm ms me ht base → Sat h0 S h' (core c ++ L) → k (some c.p) h') :
    call (β := Pt) Prog 28 [reg (cfg : api_Config), reg (me : Int), reg (ht : Int), reg (base : Int)] k h := by
  refine round_New.ok _ _ _ _ _ _ ?_
  unfold round_New.b
  refine hs.box_ (fun c1 h1 hs1 _ hx1 => ?_)
  refine hs1.ld_ 0 rfl ?_
  refine CGood_spec cfg ms (hv.ext hx1) (fun h2 hx2 => ?_)
  have hs2 := hs1.ext hx2
  have j0 : ∀ h', Sat h0 S h' (cel 54 c1 (enc cfg) :: L) → (goodC cfg.Epoch ms && decide (1 ≤ ht ∧ ht ≤ 1024)) = false → round_New.j1 k me ht base c1 true h' := by
    intro h' hs' hf
    unfold round_New.j1
    exact ifb_i (fun _ => hk0 h' hf (hs'.drop (List.sublist_cons_self _ _))) (fun e => by cases e)
  refine ifb_i (fun hg => ?_) (fun hg => ?_)
  · exact j0 h2 hs2 (by rw [show goodC cfg.Epoch ms = false by simpa using hg]; rfl)
  have hg' : goodC cfg.Epoch ms = true := by simpa using hg
  refine At_spec _ _ ?_
  refine RkGood_spec ht 0 hh (by unfold I64; omega) ?_
  have e0 : decide ((1 ≤ ht ∧ ht ≤ 1024) ∧ (0 : Int) ≤ 0 ∧ (0 : Int) ≤ 1024) = decide (1 ≤ ht ∧ ht ≤ 1024) := by
    rw [Bool.eq_iff_iff]; simp
  rw [e0]
  by_cases hp : 1 ≤ ht ∧ ht ≤ 1024
  · rw [decide_eq_true hp]
    unfold round_New.j1 round_New.j2
    refine ifb_i (fun e => by cases e) (fun _ => ?_)
    refine hs2.ld_ 0 rfl ?_
    refine CloneM_spec _ ms (hv.ext (hx1.trans hx2)) (by
      unfold goodC at hg'; simp only [Bool.and_eq_true, decide_eq_true_eq] at hg'; omega) (fun mm h3 hx3 ho3 hb3 => ?_)
    have hs3 := hs2.add (e := own 110 34 mm ms) hx3 ho3 (own_loc _ _ _ _) hb3
    refine hs3.st_ 1 rfl len_api_Config (fun h4 hs4 _ => ?_)
    refine hs4.ld_ 1 rfl ?_
    have hs5 := own_rdo 0 hs4 rfl len_api_Member
    have hz : Sat h0 S h4 (own 80 135 Sl.nil ([] : List api_Act) :: kE [] :: kE [] :: rdo 34 mm ms :: cel 54 c1 (enc ({ cfg with Members := mm } : api_Config)) :: L) :=
      ((hs5.add0 (e := kE []) (by intro q hq; cases hq) (kE_loc _) rfl).add0 (e := kE []) (by intro q hq; cases hq) (kE_loc _) rfl).nilOwn
    have fin : ∀ (p q : Addr) (vm pm bm : Nat) g, Sat h0 S g ([cel 140 p (enc ({ round_Core.zero with config := { cfg with Members := mm }, me := me, base := base, at_ := cxI ht 0, locked := { round_mark.zero with round := -1 }, valid := { round_mark.zero with round := -1 }, plans := ⟨some pm⟩, blocks := ⟨some bm⟩, box := some q } : round_Core)), bxE q vm [], mpE pm ([] : List (Int × api_Plan)), mpE bm ([] : List (Dig × api_Block)), own 80 135 Sl.nil ([] : List api_Act), rdo 34 mm ms, kE [], kE []] ++ L) → k (some p) g := by
      intro p q vm pm bm g hg9
      exact hk ⟨p, { round_Core.zero with config := { cfg with Members := mm }, me := me, base := base, at_ := cxI ht 0, locked := { round_mark.zero with round := -1 }, valid := { round_mark.zero with round := -1 }, plans := ⟨some pm⟩, blocks := ⟨some bm⟩, box := some q }, ht, 0, q, vm, [], pm, [], bm, [], [], [], [], ms, [], []⟩ mm g (by rw [hg', decide_eq_true hp]; rfl) ⟨rfl, rfl, rfl, rfl, rfl, rfl, rfl, rfl, rfl, rfl, rfl, rfl⟩ hg9
    refine ⟨?_, ?_⟩
    · refine At_spec _ _ ?_
      refine hz.chk_ 4 rfl rfl ?_
      refine ⟨?_, ?_⟩
      · refine Sat.mkmap_ (κ := Int) (ν := api_Plan) hz (fun pm g2 hs2 _ => ?_)
        refine hs2.chk_ 5 rfl rfl ?_
        refine ⟨?_, ?_⟩
        · refine Sat.mkmap_ (κ := Dig) (ν := api_Block) hs2 (fun bm g3 hs3 _ => ?_)
          refine hs3.chk_ 6 rfl rfl ?_
          refine vote_NewBox.ok _ _ (NewBox_spec (fun q vm g4 hx4 hB4 hb4 => ?_))
          have hs4 := hs3.add (e := bxE q vm []) hx4 hB4 (bxE_loc _ _ _) hb4
          refine hs4.chk_ 7 rfl rfl ?_
          refine hs4.box_ (fun p g5 hs5 _ _ => ?_)
          exact fin p q vm pm bm g5 (hs5.sel 9 [0, 1, 3, 2, 4, 7, 5, 6] (by decide) (by decide))
        · refine vote_NewBox.ok _ _ (NewBox_spec (fun q vm g6 hx6 hB6 hb6 => ?_))
          have hs6 := hs2.add (e := bxE q vm []) hx6 hB6 (bxE_loc _ _ _) hb6
          refine hs6.chk_ 6 rfl rfl ?_
          refine Sat.mkmap_ (κ := Dig) (ν := api_Block) hs6 (fun bm g7 hs7 _ => ?_)
          refine hs7.chk_ 7 rfl rfl ?_
          refine hs7.box_ (fun p g8 hs8 _ _ => ?_)
          exact fin p q vm pm bm g8 (hs8.sel 9 [0, 2, 3, 1, 4, 7, 5, 6] (by decide) (by decide))
      · refine ⟨?_, ?_⟩
        · refine Sat.mkmap_ (κ := Dig) (ν := api_Block) hz (fun bm g9 hs9 _ => ?_)
          refine hs9.chk_ 5 rfl rfl ?_
          refine ⟨?_, ?_⟩
          · refine Sat.mkmap_ (κ := Int) (ν := api_Plan) hs9 (fun pm g10 hs10 _ => ?_)
            refine hs10.chk_ 6 rfl rfl ?_
            refine vote_NewBox.ok _ _ (NewBox_spec (fun q vm g11 hx11 hB11 hb11 => ?_))
            have hs11 := hs10.add (e := bxE q vm []) hx11 hB11 (bxE_loc _ _ _) hb11
            refine hs11.chk_ 7 rfl rfl ?_
            refine hs11.box_ (fun p g12 hs12 _ _ => ?_)
            exact fin p q vm pm bm g12 (hs12.sel 9 [0, 1, 2, 3, 4, 7, 5, 6] (by decide) (by decide))
          · refine vote_NewBox.ok _ _ (NewBox_spec (fun q vm g13 hx13 hB13 hb13 => ?_))
            have hs13 := hs9.add (e := bxE q vm []) hx13 hB13 (bxE_loc _ _ _) hb13
            refine hs13.chk_ 6 rfl rfl ?_
            refine Sat.mkmap_ (κ := Int) (ν := api_Plan) hs13 (fun pm g14 hs14 _ => ?_)
            refine hs14.chk_ 7 rfl rfl ?_
            refine hs14.box_ (fun p g15 hs15 _ _ => ?_)
            exact fin p q vm pm bm g15 (hs15.sel 9 [0, 2, 1, 3, 4, 7, 5, 6] (by decide) (by decide))
        · refine vote_NewBox.ok _ _ (NewBox_spec (fun q vm g16 hx16 hB16 hb16 => ?_))
          have hs16 := hz.add (e := bxE q vm []) hx16 hB16 (bxE_loc _ _ _) hb16
          refine hs16.chk_ 5 rfl rfl ?_
          refine ⟨?_, ?_⟩
          · refine Sat.mkmap_ (κ := Int) (ν := api_Plan) hs16 (fun pm g17 hs17 _ => ?_)
            refine hs17.chk_ 6 rfl rfl ?_
            refine Sat.mkmap_ (κ := Dig) (ν := api_Block) hs17 (fun bm g18 hs18 _ => ?_)
            refine hs18.chk_ 7 rfl rfl ?_
            refine hs18.box_ (fun p g19 hs19 _ _ => ?_)
            exact fin p q vm pm bm g19 (hs19.sel 9 [0, 3, 2, 1, 4, 7, 5, 6] (by decide) (by decide))
          · refine Sat.mkmap_ (κ := Dig) (ν := api_Block) hs16 (fun bm g20 hs20 _ => ?_)
            refine hs20.chk_ 6 rfl rfl ?_
            refine Sat.mkmap_ (κ := Int) (ν := api_Plan) hs20 (fun pm g21 hs21 _ => ?_)
            refine hs21.chk_ 7 rfl rfl ?_
            refine hs21.box_ (fun p g22 hs22 _ _ => ?_)
            exact fin p q vm pm bm g22 (hs22.sel 9 [0, 3, 1, 2, 4, 7, 5, 6] (by decide) (by decide))
    · refine ⟨?_, ?_⟩
      · refine Sat.mkmap_ (κ := Int) (ν := api_Plan) hz (fun pm g23 hs23 _ => ?_)
        refine hs23.chk_ 5 rfl rfl ?_
        refine ⟨?_, ?_⟩
        · refine At_spec _ _ ?_
          refine hs23.chk_ 5 rfl rfl ?_
          refine ⟨?_, ?_⟩
          · refine Sat.mkmap_ (κ := Dig) (ν := api_Block) hs23 (fun bm g25 hs25 _ => ?_)
            refine hs25.chk_ 6 rfl rfl ?_
            refine vote_NewBox.ok _ _ (NewBox_spec (fun q vm g26 hx26 hB26 hb26 => ?_))
            have hs26 := hs25.add (e := bxE q vm []) hx26 hB26 (bxE_loc _ _ _) hb26
            refine hs26.chk_ 7 rfl rfl ?_
            refine hs26.box_ (fun p g27 hs27 _ _ => ?_)
            exact fin p q vm pm bm g27 (hs27.sel 9 [0, 1, 3, 2, 4, 7, 5, 6] (by decide) (by decide))
          · refine vote_NewBox.ok _ _ (NewBox_spec (fun q vm g28 hx28 hB28 hb28 => ?_))
            have hs28 := hs23.add (e := bxE q vm []) hx28 hB28 (bxE_loc _ _ _) hb28
            refine hs28.chk_ 6 rfl rfl ?_
            refine Sat.mkmap_ (κ := Dig) (ν := api_Block) hs28 (fun bm g29 hs29 _ => ?_)
            refine hs29.chk_ 7 rfl rfl ?_
            refine hs29.box_ (fun p g30 hs30 _ _ => ?_)
            exact fin p q vm pm bm g30 (hs30.sel 9 [0, 2, 3, 1, 4, 7, 5, 6] (by decide) (by decide))
        · refine Sat.mkmap_ (κ := Dig) (ν := api_Block) hs23 (fun bm g31 hs31 _ => ?_)
          refine hs31.chk_ 6 rfl rfl ?_
          refine At_spec _ _ ?_
          refine hs31.chk_ 6 rfl rfl ?_
          refine vote_NewBox.ok _ _ (NewBox_spec (fun q vm g33 hx33 hB33 hb33 => ?_))
          have hs33 := hs31.add (e := bxE q vm []) hx33 hB33 (bxE_loc _ _ _) hb33
          refine hs33.chk_ 7 rfl rfl ?_
          refine hs33.box_ (fun p g34 hs34 _ _ => ?_)
          exact fin p q vm pm bm g34 (hs34.sel 9 [0, 1, 3, 2, 4, 7, 5, 6] (by decide) (by decide))
      · refine Sat.mkmap_ (κ := Dig) (ν := api_Block) hz (fun bm g35 hs35 _ => ?_)
        refine hs35.chk_ 5 rfl rfl ?_
        refine ⟨?_, ?_⟩
        · refine At_spec _ _ ?_
          refine hs35.chk_ 5 rfl rfl ?_
          refine ⟨?_, ?_⟩
          · refine Sat.mkmap_ (κ := Int) (ν := api_Plan) hs35 (fun pm g37 hs37 _ => ?_)
            refine hs37.chk_ 6 rfl rfl ?_
            refine vote_NewBox.ok _ _ (NewBox_spec (fun q vm g38 hx38 hB38 hb38 => ?_))
            have hs38 := hs37.add (e := bxE q vm []) hx38 hB38 (bxE_loc _ _ _) hb38
            refine hs38.chk_ 7 rfl rfl ?_
            refine hs38.box_ (fun p g39 hs39 _ _ => ?_)
            exact fin p q vm pm bm g39 (hs39.sel 9 [0, 1, 2, 3, 4, 7, 5, 6] (by decide) (by decide))
          · refine vote_NewBox.ok _ _ (NewBox_spec (fun q vm g40 hx40 hB40 hb40 => ?_))
            have hs40 := hs35.add (e := bxE q vm []) hx40 hB40 (bxE_loc _ _ _) hb40
            refine hs40.chk_ 6 rfl rfl ?_
            refine Sat.mkmap_ (κ := Int) (ν := api_Plan) hs40 (fun pm g41 hs41 _ => ?_)
            refine hs41.chk_ 7 rfl rfl ?_
            refine hs41.box_ (fun p g42 hs42 _ _ => ?_)
            exact fin p q vm pm bm g42 (hs42.sel 9 [0, 2, 1, 3, 4, 7, 5, 6] (by decide) (by decide))
        · refine Sat.mkmap_ (κ := Int) (ν := api_Plan) hs35 (fun pm g43 hs43 _ => ?_)
          refine hs43.chk_ 6 rfl rfl ?_
          refine At_spec _ _ ?_
          refine hs43.chk_ 6 rfl rfl ?_
          refine vote_NewBox.ok _ _ (NewBox_spec (fun q vm g45 hx45 hB45 hb45 => ?_))
          have hs45 := hs43.add (e := bxE q vm []) hx45 hB45 (bxE_loc _ _ _) hb45
          refine hs45.chk_ 7 rfl rfl ?_
          refine hs45.box_ (fun p g46 hs46 _ _ => ?_)
          exact fin p q vm pm bm g46 (hs46.sel 9 [0, 1, 2, 3, 4, 7, 5, 6] (by decide) (by decide))
  · rw [decide_eq_false hp]
    exact j0 h2 hs2 (by rw [decide_eq_false hp, Bool.and_false])
theorem _root_.Go.Sh.Sat.bxAdd' {p : Addr} {r : Nat} {l : Vts} {v : api_Vote} {k : Bool → H → Prop} (i : Nat) (hs : Sat h0 S h L) (hi : L[i]? = some (bxE p r l))
    (hk1 : ∀ h', mfind l (placeOf v) ≠ none → Sat h0 S h' L → k false h') (hk2 : ∀ h', mfind l (placeOf v) = none → Sat h0 S h' (L.set i (bxE p r (mins l (placeOf v) v))) → k true h') : call (β := Bool) Prog 12 [reg ((some p : Pt) : Pt), reg (v : api_Vote)] k h := by
  refine vote_Box_Add.ok _ _ _ _ (Add_spec p r l v (hs.at_ hi) (fun u h' hm hx => hk1 h' (by rw [hm]; simp) (hs.ext hx)) (fun h' hm hf hB => hk2 h' hm (hs.upd hi hf hB (bxE_loc _ _ _) ?_)))
  intro b hb
  refine ⟨?_, .inl hb⟩
  simp only [bxE, List.mem_cons, List.not_mem_nil, or_false] at hb
  rcases hb with rfl | rfl
  · exact hB.1.lt
  · exact mpE_lt hB.2.1
theorem At_spec19 (c : CS) {k : T2 Cx Int → H → Prop} (hc : Cok c) (hs : Sat h0 S h (core c ++ L)) (hk : k ⟨cxI c.ht c.rd, c.x.step⟩ h) : call (β := T2 Cx Int) Prog 36 [reg ((some c.p : Pt) : Pt)] k h := by
  refine round_Core_At.ok _ _ _ ?_
  unfold round_Core_At.b
  refine ifb_i (fun e => by cases e) (fun _ => ?_)
  refine nn_i (hs.ld_ 0 rfl (hs.ld_ 0 rfl ?_))
  rw [hc.at_]; exact hk
/-- how a start begins -/
def StartR (c c1 : CS) : Prop := (c.x.step = 0 ∧ ∃ r o, c1 = enterC c 0 r o) ∨ (c.x.step ≠ 0 ∧ c1 = c)
theorem Start_spec (c : CS) {k : Sl → H → Prop} (hT : Tb h0) (hS : 0 ∉ S) (hc : Cok c) (hn : c.acts.length + mu c + 3 < 2 ^ 19) (hs : Sat h0 S h (core c ++ L))
    (hk0 : c.x.decided = true → k Sl.nil h) (hk : ∀ c1 c' h', c.x.decided = false → StartR c c1 → Mvs c1 c' → Sat h0 S h' (core (clrC c') ++ (hand c' ++ L)) → k c'.x.out h') :
    call (β := Sl) Prog 32 [reg ((some c.p : Pt) : Pt)] k h := by
  refine round_Core_Start.ok _ _ _ ?_
  unfold round_Core_Start.b
  refine ifb_i (fun e => by cases e) (fun _ => ?_)
  refine nn_i (hs.ld_ 0 rfl ?_)
  unfold round_Core_Start.j1
  refine ifb_i (fun hd => hk0 hd) (fun hd => ?_)
  refine nn_i (hs.ld_ 0 rfl ?_)
  unfold round_Core_Start.j2
  refine ifb_i (fun h1 => ?_) (fun h1 => ?_)
  · have h1' : c.x.step = 0 := by simpa using h1
    refine enter_spec c 0 (by decide) hc hs (fun r o h2 hs2 => ?_)
    obtain ⟨a1, a2, a3⟩ := hc.enter (by omega) (show (0 : Int) ≤ 0 ∧ (0 : Int) ≤ 1024 by decide) r o
    have hm := mu_rd c hc 0 (by decide) (.inr ⟨h1', by rw [hc.s0 h1']; decide⟩)
    have hp : (enterC c 0 r o).p = c.p := by unfold enterC; split <;> rfl
    rw [← hp]
    refine acts_spec _ hT hS a1 (by rw [enterC_dec]; exact hd) (by omega) hs2 (fun c' h3 hm3 hs3 => ?_)
    exact hk _ c' h3 hd (.inl ⟨h1', r, o, rfl⟩) hm3 hs3
  · refine acts_spec c hT hS hc hd (by omega) hs (fun c' h3 hm3 hs3 => ?_)
    exact hk c c' h3 hd (.inr ⟨by simpa using h1, rfl⟩) hm3 hs3
def voteC (c : CS) (v : api_Vote) : CS := if mfind c.vts (placeOf v) = none then { c with vts := mins c.vts (placeOf v) v } else c
theorem Cok.vote {c : CS} (hc : Cok c) {v : api_Vote} (hr : 0 ≤ v.Round ∧ v.Round ≤ 1024) (hn : c.vts.length + 1 < 2 ^ 19) : Cok (voteC c v) := by
  unfold voteC
  split
  · refine { hc with vr := fun q hq => ?_, nv := Nat.lt_of_le_of_lt (mins_len _ _ _) hn }
    rcases mins_in hq with h | h
    · exact hc.vr q h
    · subst h; exact hr
  · exact hc
theorem Vote_spec (c : CS) (v : api_Vote) {k : Sl → H → Prop} (hT : Tb h0) (hS : 0 ∉ S) (hc : Cok c) (hr : 0 ≤ v.Round ∧ v.Round ≤ 1024) (hv : c.vts.length + 1 < 2 ^ 19) (hn : c.acts.length + mu c + 3 < 2 ^ 19) (hs : Sat h0 S h (core c ++ L))
    (hk0 : ∀ h', c.x.decided = true ∨ v.Height ≠ c.ht → Sat h0 S h' (core c ++ L) → k Sl.nil h') (hk : ∀ c' h', c.x.decided = false → v.Height = c.ht → Mvs (voteC c v) c' → Sat h0 S h' (core (clrC c') ++ (hand c' ++ L)) → k c'.x.out h') :
    call (β := Sl) Prog 39 [reg ((some c.p : Pt) : Pt), reg (v : api_Vote)] k h := by
  refine round_Core_Vote.ok _ _ _ _ ?_
  unfold round_Core_Vote.b
  refine hs.box_ (fun v1 h1 hs1 _ _ => ?_)
  have fin : ∀ {h' : H} {a : En}, Sat h0 S h' (a :: (core c ++ L)) → Sat h0 S h' (core c ++ L) := fun hs => hs.drop (List.sublist_cons_self _ _)
  unfold round_Core_Vote.j1
  refine ifb_i (fun e => by cases e) (fun _ => ?_)
  refine nn_i (hs1.ld_ 1 rfl ?_)
  refine ifb_i (fun hd => ?_) (fun hd => ?_)
  · exact ifb_i (fun _ => hk0 h1 (.inl hd) (fin hs1)) (fun e => by cases e)
  refine hs1.ld_ 0 rfl (hs1.ld_ 1 rfl ?_)
  rw [hc.at_]
  refine Height_spec hc.plc (hs1.chk_ 0 rfl rfl ?_)
  refine ifb_i (fun hh => ?_) (fun hh => ?_)
  · exact hk0 h1 (.inr (by simpa using hh)) (fin hs1)
  have hh' : v.Height = c.ht := by simpa using hh
  refine nn_i (hs1.ld_ 1 rfl (hs1.ld_ 0 rfl ?_))
  rw [hc.hq]
  have fin2 : ∀ {h' : H} {c' : CS} {a : En}, Sat h0 S h' (a :: (core c' ++ L)) → Sat h0 S h' (core c' ++ L) := fun hs => hs.drop (List.sublist_cons_self _ _)
  refine hs1.bxAdd' 2 rfl (fun h2 hm hs2 => ?_) (fun h2 hm hs2 => ?_)
  · have e : voteC c v = c := by unfold voteC; rw [if_neg hm]
    refine acts_spec c hT hS hc hd (by omega) (fin hs2) (fun c' h3 hm3 hs3 => ?_)
    exact hk c' h3 hd hh' (by rw [e]; exact hm3) hs3
  · have e : voteC c v = { c with vts := mins c.vts (placeOf v) v } := by unfold voteC; rw [if_pos hm]
    have hc2 := hc.vote hr hv
    have hs4 : Sat h0 S h2 (core (voteC c v) ++ L) := by rw [e]; exact fin2 (c' := { c with vts := mins c.vts (placeOf v) v }) hs2
    have e1 : (voteC c v).x = c.x ∧ (voteC c v).p = c.p ∧ (voteC c v).acts = c.acts ∧ mu (voteC c v) = mu c := by rw [e]; exact ⟨rfl, rfl, rfl, rfl⟩
    rw [← e1.2.1]
    refine acts_spec (voteC c v) hT hS hc2 (by rw [e1.1]; exact hd) (by rw [e1.2.2.1, e1.2.2.2]; omega) hs4 (fun c' h3 hm3 hs3 => ?_)
    exact hk c' h3 hd hh' hm3 hs3
end
end Go.Proofs.YtimmoekliphobaaDoor

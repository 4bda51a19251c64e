/-
  THE CARD OF wapentakelaw19.RoundOnce: for every input that the row lets in, RoundOnce returns true and its arguments read as they did. Part 6 of 14. No condition stands ahead of the statement. Parts of this text were printed by a program of ours.
-/
import Derived.Test.YtimmoekliphobaaDoorO05
set_option linter.all false
namespace Go.Proofs.YtimmoekliphobaaDoor
open Go Go.Sh
open Go.Sh.Ty (reg)
set_option linter.unusedVariables false
set_option maxRecDepth 100000
set_option maxHeartbeats 4000000
theorem code_Writer_Text.ok (w : Pt) (list : Sl) (k : Unit → H → Prop) (h : H) (hh : code_Writer_Text.b w list k h) : CallsH Prog 118 [reg w, reg list].toArray h fun v h' => ∃ r : Unit, v = reg r ∧ k r h' := by
  unfold code_Writer_Text.b at hh
  refine CallsH.of 47 Tryd.func118 rfl Tryd.ntmps118 rfl (fun w0 => ?_)
  refine CW.seq ?_
  refine CW.seq ?_
  refine CW.region ?_
  refine .val (v_move (v := reg (w : Pt)) rfl) rfl ?_
  refine .val (v_eq_nil pt_143 rfl rfl) rfl ?_
  refine .nil ?_
  refine QN.then_ ?_
  refine CW.cond w.isNone rfl (fun hb => ?_) (fun hb => ?_)
  · have hh := hh.1 hb
    refine CW.ret ?_
    refine QN.thenRet ?_
    exact ret0 rfl ⟨(), rfl, hh⟩
  · have hh := hh.2 hb
    refine CW.skip ?_
    refine QN.then_ ?_
    refine CW.seq ?_
    refine CW.region ?_
    refine .val (v_move (v := reg (list : Sl)) rfl) rfl ?_
    refine .val (v_len_sl (sl_231).1 rfl) rfl ?_
    refine .val (v_move (v := reg ((0 : Int) : Int)) rfl) rfl ?_
    refine .nil ?_
    refine QN.then_ ?_
    refine CW.block ?_
    unfold code_Writer_Text.l1 at hh
    refine CW.loop (fun (σ0 : Int) ρ => match σ0 with | t11 => ∃ ρ' : Env, ρ = setl ρ' [(0, reg (w : Pt)), (9, reg (list : Sl)), (10, reg ((list.len : Int) : Int)), (11, reg (t11 : Int))]) hh ⟨_, setl_eq ⟨rfl, ⟨rfl, ⟨rfl, ⟨rfl, trivial⟩⟩⟩⟩⟩ ?_
    clear hh
    rintro s1 t11 ρ h ⟨ρ', rfl⟩ hh
    refine CW.seq ?_
    refine CW.region ?_
    refine .val (v_ilss rfl rfl) rfl ?_
    refine .nil ?_
    refine QN.then_ ?_
    refine CW.seq ?_
    refine CW.cond (decide (t11 < (list.len : Int))) rfl (fun hb_1 => ?_) (fun hb_1 => ?_)
    · have hh := hh.1 hb_1
      refine CW.skip ?_
      refine QN.then_ ?_
      refine CW.seq ?_
      refine CW.block ?_
      refine CW.seq ?_
      refine CW.region ?_
      obtain ⟨t13, ht13, hh⟩ := hh
      refine .val (v_idx_slP sl_231 rfl rfl ht13.1 ht13.2.1 ht13.2.2) rfl ?_
      obtain ⟨t14, ⟨xt14, hxt14, hgt14⟩, hh⟩ := hh
      refine .val (v_ld1 (p := t13) 0 na_9 rfl hxt14 hgt14 get_9_all) rfl ?_
      refine .val (v_assign (v := reg (t14 : ByteArray)) rfl) rfl ?_
      refine .nil ?_
      refine QN.then_ ?_
      refine CW.seq ?_
      refine CW.region ?_
      refine .val (v_move (v := reg (t14 : ByteArray)) rfl) rfl ?_
      refine .val (v_len_str un_9 rfl) rfl ?_
      refine .val (v_assign (v := reg ((t14.size : Int) : Int)) rfl) rfl ?_
      refine .nil ?_
      refine QN.then_ ?_
      refine CW.seq ?_
      refine CW.region ?_
      refine .val (v_move (v := reg (w : Pt)) rfl) rfl ?_
      refine .val (v_move (v := reg (w : Pt)) rfl) rfl ?_
      obtain ⟨p, hp, hh⟩ := hh
      refine .val (v_nilCheck (congrArg Value.pointer hp)) rfl ?_
      refine .val (v_fieldAddr fl_145_0 rfl) rfl ?_
      obtain ⟨t21, ⟨xt21, hxt21, hgt21⟩, hh⟩ := hh
      refine .val (v_ld1 (p := p) 0 na_130 rfl hxt21 hgt21 get_145_b) rfl ?_
      refine .val (v_move (v := reg ((t14.size : Int) : Int)) rfl) rfl ?_
      refine .val (v_ishr (a := (t14.size : Int)) (b := 24) rfl rfl (by decide)) rfl ?_
      refine .val (v_conv_u8 un_3 un_5 rfl) rfl ?_
      refine .val (v_move (v := reg ((t14.size : Int) : Int)) rfl) rfl ?_
      refine .val (v_ishr (a := (t14.size : Int)) (b := 16) rfl rfl (by decide)) rfl ?_
      refine .val (v_conv_u8 un_3 un_5 rfl) rfl ?_
      refine .val (v_move (v := reg ((t14.size : Int) : Int)) rfl) rfl ?_
      refine .val (v_ishr (a := (t14.size : Int)) (b := 8) rfl rfl (by decide)) rfl ?_
      refine .val (v_conv_u8 un_3 un_5 rfl) rfl ?_
      refine .val (v_move (v := reg ((t14.size : Int) : Int)) rfl) rfl ?_
      refine .val (v_conv_u8 un_3 un_5 rfl) rfl ?_
      refine mks_elim hh (fun pt33 t33 hpt33 ht33 hh => ?_)
      refine .e (e_mks [((toU8 (ishr (t14.size : Int) 24)) : UInt8), ((toU8 (ishr (t14.size : Int) 16)) : UInt8), ((toU8 (ishr (t14.size : Int) 8)) : UInt8), ((toU8 (t14.size : Int)) : UInt8)] hpt33 ht33 zo_5 sl_130 rfl rfl rfl rfl rfl ?_)
      refine .e (e_app sl_130 zo_5 by_5 rfl rfl rfl hh ?_)
      intro h t34 hh
      refine .val (v_nilCheck (congrArg Value.pointer hp)) rfl ?_
      refine .val (v_fieldAddr fl_145_0 rfl) rfl ?_
      obtain ⟨xw_2, hxw_2, hwxw_2, hh⟩ := hh
      refine .e (e_storeN (p := p) (nv := enc (t34 : Sl)) 0 rfl rfl rfl sz_130 (one_sl _) hxw_2 hwxw_2 (len_code_Writer _) (len_sl _) rfl (set_145_b xw_2 (t34 : Sl)) ?_)
      refine .nil ?_
      refine QN.then_ ?_
      refine CW.region ?_
      refine .val (v_move (v := reg (w : Pt)) rfl) rfl ?_
      refine .val (v_move (v := reg (w : Pt)) rfl) rfl ?_
      refine .val (v_nilCheck (congrArg Value.pointer hp)) rfl ?_
      refine .val (v_fieldAddr fl_145_0 rfl) rfl ?_
      obtain ⟨t41, ⟨xt41, hxt41, hgt41⟩, hh⟩ := hh
      refine .val (v_ld1 (p := p) 0 na_130 rfl hxt41 hgt41 get_145_b) rfl ?_
      refine .val (v_move (v := reg (t14 : ByteArray)) rfl) rfl ?_
      refine .e (e_apps sl_130 un_9 zo_5 by_5 rfl rfl rfl hh ?_)
      intro h t43 hh
      refine .val (v_nilCheck (congrArg Value.pointer hp)) rfl ?_
      refine .val (v_fieldAddr fl_145_0 rfl) rfl ?_
      obtain ⟨xw_3, hxw_3, hwxw_3, hh⟩ := hh
      refine .e (e_storeN (p := p) (nv := enc (t43 : Sl)) 0 rfl rfl rfl sz_130 (one_sl _) hxw_3 hwxw_3 (len_code_Writer _) (len_sl _) rfl (set_145_b xw_3 (t43 : Sl)) ?_)
      refine .nil ?_
      refine QN.blockN ?_
      refine QN.then_ ?_
      refine CW.region ?_
      refine .val (v_iadd rfl rfl) rfl ?_
      refine .val (v_move (v := reg ((iadd t11 (1 : Int)) : Int)) rfl) rfl ?_
      refine .nil ?_
      exact QN.thenJ ⟨(iadd t11 (1 : Int)), ⟨_, setl_eq ⟨rfl, ⟨rfl, ⟨rfl, ⟨rfl, trivial⟩⟩⟩⟩⟩, hh⟩
    · have hh := hh.2 hb_1
      refine CW.exit ?_
      refine QN.thenExit ?_
      refine QN.thenExit ?_
      refine QN.blockExit ?_
      exact ret0n rfl ⟨(), rfl, hh⟩
end Go.Proofs.YtimmoekliphobaaDoor
namespace Go.Proofs.YtimmoekliphobaaDoor
open Go Go.Sh
open Go.Sh.Ty (reg)
set_option linter.unusedVariables false
set_option maxRecDepth 100000
set_option maxHeartbeats 4000000
theorem request_Write.ok (w : Pt) (q : api_Request) (k : Unit → H → Prop) (h : H) (hh : request_Write.b w q k h) : CallsH Prog 94 [reg w, reg q].toArray h fun v h' => ∃ r : Unit, v = reg r ∧ k r h' := by
  unfold request_Write.b at hh
  refine CallsH.of 48 Tryd.func94 rfl Tryd.ntmps94 rfl (fun w0 => ?_)
  refine CW.seq ?_
  refine CW.region ?_
  refine box_elim hh (fun q_1 hq_1 hh => ?_)
  refine .e (e_boxP hq_1 rfl rfl rfl ?_)
  refine .nil ?_
  refine QN.then_ ?_
  refine CW.seq ?_
  refine CW.region ?_
  refine .val (v_fieldAddr fl_182_2 rfl) rfl ?_
  refine .val (v_fieldAddr fl_180_4 rfl) rfl ?_
  obtain ⟨t7, ⟨xt7, hxt7, hgt7⟩, hh⟩ := hh
  refine .val (v_ldA (p := q_1) 6 ag_178 rfl hxt7 hgt7 get_182_Op_Change (fun _ => (len_api_Change _)) (fun _ => rfl)) rfl ?_
  refine box_elim hh (fun x hx hh => ?_)
  refine .e (e_allocP hx zo_178 rfl ?_)
  obtain ⟨xw_1, hxw_1, hwxw_1, hh⟩ := hh
  refine .e (e_storeN (p := x) (nv := enc (t7 : api_Change)) 0 rfl rfl rfl sz_178 (one_api_Change _) hxw_1 hwxw_1 (len_api_Change _) (len_api_Change _) rfl (set_178_all xw_1 (t7 : api_Change)) ?_)
  refine .nil ?_
  refine QN.then_ ?_
  refine CW.seq ?_
  refine CW.region ?_
  refine .val (v_move (v := reg (w : Pt)) rfl) rfl ?_
  refine .val (v_fieldAddr fl_182_0 rfl) rfl ?_
  obtain ⟨t10, ⟨xt10, hxt10, hgt10⟩, hh⟩ := hh
  refine .val (v_ld1 (p := q_1) 0 na_3 rfl hxt10 hgt10 get_182_Client) rfl ?_
  refine .val (v_fieldAddr fl_182_1 rfl) rfl ?_
  obtain ⟨t12, ⟨xt12, hxt12, hgt12⟩, hh⟩ := hh
  refine .val (v_ld1 (p := q_1) 1 na_3 rfl hxt12 hgt12 get_182_Num) rfl ?_
  refine .val (v_fieldAddr fl_182_2 rfl) rfl ?_
  refine .val (v_fieldAddr fl_180_0 rfl) rfl ?_
  obtain ⟨t15, ⟨xt15, hxt15, hgt15⟩, hh⟩ := hh
  refine .val (v_ld1 (p := q_1) 2 na_3 rfl hxt15 hgt15 get_182_Op_Kind) rfl ?_
  refine mks_elim hh (fun pt16 t16 hpt16 ht16 hh => ?_)
  refine .e (e_mks [(t10 : Int), (t12 : Int), (t15 : Int)] hpt16 ht16 zo_3 sl_49 rfl rfl rfl rfl rfl ?_)
  refine .e (e_callP fn_92 rfl rfl hh ?_)
  intro h t17 hh
  refine .nil ?_
  refine QN.then_ ?_
  refine CW.seq ?_
  refine CW.region ?_
  refine .val (v_move (v := reg (w : Pt)) rfl) rfl ?_
  refine .val (v_fieldAddr fl_182_2 rfl) rfl ?_
  refine .val (v_fieldAddr fl_180_1 rfl) rfl ?_
  obtain ⟨t21, ⟨xt21, hxt21, hgt21⟩, hh⟩ := hh
  refine .val (v_ld1 (p := q_1) 3 na_9 rfl hxt21 hgt21 get_182_Op_Key) rfl ?_
  refine .val (v_fieldAddr fl_182_2 rfl) rfl ?_
  refine .val (v_fieldAddr fl_180_2 rfl) rfl ?_
  obtain ⟨t24, ⟨xt24, hxt24, hgt24⟩, hh⟩ := hh
  refine .val (v_ld1 (p := q_1) 4 na_9 rfl hxt24 hgt24 get_182_Op_Val) rfl ?_
  refine .val (v_fieldAddr fl_182_2 rfl) rfl ?_
  refine .val (v_fieldAddr fl_180_3 rfl) rfl ?_
  obtain ⟨t27, ⟨xt27, hxt27, hgt27⟩, hh⟩ := hh
  refine .val (v_ld1 (p := q_1) 5 na_9 rfl hxt27 hgt27 get_182_Op_Old) rfl ?_
  refine mks_elim hh (fun pt28 t28 hpt28 ht28 hh => ?_)
  refine .e (e_mks [(t21 : ByteArray), (t24 : ByteArray), (t27 : ByteArray)] hpt28 ht28 zo_9 sl_231 rfl rfl rfl rfl rfl ?_)
  refine .e (e_callP fn_118 rfl rfl hh ?_)
  intro h t29 hh
  refine .nil ?_
  refine QN.then_ ?_
  refine CW.seq ?_
  refine CW.region ?_
  refine .val (v_move (v := reg (w : Pt)) rfl) rfl ?_
  refine .val (v_fieldAddr fl_178_0 rfl) rfl ?_
  obtain ⟨t32, ⟨xt32, hxt32, hgt32⟩, hh⟩ := hh
  refine .val (v_ld1 (p := x) 0 na_3 rfl hxt32 hgt32 get_178_Kind) rfl ?_
  refine .val (v_fieldAddr fl_178_1 rfl) rfl ?_
  obtain ⟨t34, ⟨xt34, hxt34, hgt34⟩, hh⟩ := hh
  refine .val (v_ld1 (p := x) 1 na_3 rfl hxt34 hgt34 get_178_Id) rfl ?_
  refine .val (v_fieldAddr fl_178_2 rfl) rfl ?_
  obtain ⟨t36, ⟨xt36, hxt36, hgt36⟩, hh⟩ := hh
  refine .val (v_ld1 (p := x) 2 na_3 rfl hxt36 hgt36 get_178_New) rfl ?_
  refine .val (v_fieldAddr fl_178_3 rfl) rfl ?_
  refine .val (v_fieldAddr fl_107_1 rfl) rfl ?_
  obtain ⟨t39, ⟨xt39, hxt39, hgt39⟩, hh⟩ := hh
  refine .val (v_ld1 (p := x) 35 na_3 rfl hxt39 hgt39 get_178_Key_Height) rfl ?_
  refine mks_elim hh (fun pt40 t40 hpt40 ht40 hh => ?_)
  refine .e (e_mks [(t32 : Int), (t34 : Int), (t36 : Int), (t39 : Int)] hpt40 ht40 zo_3 sl_49 rfl rfl rfl rfl rfl ?_)
  refine .e (e_callP fn_92 rfl rfl hh ?_)
  intro h t41 hh
  refine .nil ?_
  refine QN.then_ ?_
  refine CW.region ?_
  refine .val (v_move (v := reg (w : Pt)) rfl) rfl ?_
  refine .val (v_fieldAddr fl_178_3 rfl) rfl ?_
  refine .val (v_fieldAddr fl_107_0 rfl) rfl ?_
  obtain ⟨t45, ⟨xt45, hxt45, hgt45⟩, hh⟩ := hh
  refine .val (v_ldA (p := x) 3 ag_24 rfl hxt45 hgt45 get_178_Key_Root (fun _ => (arr_len (n := 32) _)) (fun _ => rfl)) rfl ?_
  refine mks_elim hh (fun pt46 t46 hpt46 ht46 hh => ?_)
  refine .e (e_mks [(t45 : Arr 32 UInt8)] hpt46 ht46 zo_24 sl_31 rfl rfl rfl rfl rfl ?_)
  refine .e (e_callP fn_93 rfl rfl hh ?_)
  intro h t47 hh
  refine .nil ?_
  exact ret0n rfl ⟨(), rfl, hh⟩
end Go.Proofs.YtimmoekliphobaaDoor
namespace Go.Proofs.YtimmoekliphobaaDoor
open Go Go.Sh
open Go.Sh.Ty (reg)
set_option linter.unusedVariables false
set_option maxRecDepth 100000
set_option maxHeartbeats 4000000
theorem block_Write.ok (w : Pt) (b : api_Block) (k : Unit → H → Prop) (h : H) (hh : block_Write.b w b k h) : CallsH Prog 59 [reg w, reg b].toArray h fun v h' => ∃ r : Unit, v = reg r ∧ k r h' := by
  unfold block_Write.b at hh
  refine CallsH.of 39 Tryd.func59 rfl Tryd.ntmps59 rfl (fun w0 => ?_)
  refine CW.seq ?_
  refine CW.region ?_
  refine box_elim hh (fun b_1 hb_1 hh => ?_)
  refine .e (e_boxP hb_1 rfl rfl rfl ?_)
  refine .nil ?_
  refine QN.then_ ?_
  refine CW.seq ?_
  refine CW.region ?_
  refine .val (v_move (v := reg (w : Pt)) rfl) rfl ?_
  refine .val (v_fieldAddr fl_75_0 rfl) rfl ?_
  obtain ⟨t8, ⟨xt8, hxt8, hgt8⟩, hh⟩ := hh
  refine .val (v_ld1 (p := b_1) 0 na_3 rfl hxt8 hgt8 get_75_Epoch) rfl ?_
  refine .val (v_fieldAddr fl_75_1 rfl) rfl ?_
  obtain ⟨t10, ⟨xt10, hxt10, hgt10⟩, hh⟩ := hh
  refine .val (v_ld1 (p := b_1) 1 na_3 rfl hxt10 hgt10 get_75_Height) rfl ?_
  refine mks_elim hh (fun pt11 t11 hpt11 ht11 hh => ?_)
  refine .e (e_mks [(t8 : Int), (t10 : Int)] hpt11 ht11 zo_3 sl_49 rfl rfl rfl rfl rfl ?_)
  refine .e (e_callP fn_92 rfl rfl hh ?_)
  intro h t12 hh
  refine .nil ?_
  refine QN.then_ ?_
  refine CW.seq ?_
  refine CW.region ?_
  refine .val (v_move (v := reg (w : Pt)) rfl) rfl ?_
  refine .val (v_fieldAddr fl_75_2 rfl) rfl ?_
  obtain ⟨t15, ⟨xt15, hxt15, hgt15⟩, hh⟩ := hh
  refine .val (v_ldA (p := b_1) 2 ag_24 rfl hxt15 hgt15 get_75_Prev (fun _ => (arr_len (n := 32) _)) (fun _ => rfl)) rfl ?_
  refine .val (v_fieldAddr fl_75_3 rfl) rfl ?_
  obtain ⟨t17, ⟨xt17, hxt17, hgt17⟩, hh⟩ := hh
  refine .val (v_ldA (p := b_1) 34 ag_24 rfl hxt17 hgt17 get_75_State (fun _ => (arr_len (n := 32) _)) (fun _ => rfl)) rfl ?_
  refine .val (v_fieldAddr fl_75_4 rfl) rfl ?_
  obtain ⟨t19, ⟨xt19, hxt19, hgt19⟩, hh⟩ := hh
  refine .val (v_ldA (p := b_1) 66 ag_24 rfl hxt19 hgt19 get_75_Next (fun _ => (arr_len (n := 32) _)) (fun _ => rfl)) rfl ?_
  refine mks_elim hh (fun pt20 t20 hpt20 ht20 hh => ?_)
  refine .e (e_mks [(t15 : Arr 32 UInt8), (t17 : Arr 32 UInt8), (t19 : Arr 32 UInt8)] hpt20 ht20 zo_24 sl_31 rfl rfl rfl rfl rfl ?_)
  refine .e (e_callP fn_93 rfl rfl hh ?_)
  intro h t21 hh
  refine .nil ?_
  refine QN.then_ ?_
  refine CW.seq ?_
  refine CW.region ?_
  refine .val (v_move (v := reg (w : Pt)) rfl) rfl ?_
  refine .val (v_fieldAddr fl_75_5 rfl) rfl ?_
  obtain ⟨t24, ⟨xt24, hxt24, hgt24⟩, hh⟩ := hh
  refine .val (v_ld1 (p := b_1) 98 na_73 rfl hxt24 hgt24 get_75_Requests) rfl ?_
  refine .val (v_len_sl (sl_73).1 rfl) rfl ?_
  refine mks_elim hh (fun pt26 t26 hpt26 ht26 hh => ?_)
  refine .e (e_mks [((t24.len : Int) : Int)] hpt26 ht26 zo_3 sl_49 rfl rfl rfl rfl rfl ?_)
  refine .e (e_callP fn_92 rfl rfl hh ?_)
  intro h t27 hh
  refine .nil ?_
  refine QN.then_ ?_
  refine CW.seq ?_
  refine CW.region ?_
  refine .val (v_fieldAddr fl_75_5 rfl) rfl ?_
  obtain ⟨t29, ⟨xt29, hxt29, hgt29⟩, hh⟩ := hh
  refine .val (v_ld1 (p := b_1) 98 na_73 rfl hxt29 hgt29 get_75_Requests) rfl ?_
  refine .val (v_len_sl (sl_73).1 rfl) rfl ?_
  refine .val (v_move (v := reg ((0 : Int) : Int)) rfl) rfl ?_
  refine .nil ?_
  refine QN.then_ ?_
  refine CW.block ?_
  unfold block_Write.l1 at hh
  refine CW.loop (fun (σ0 : Int) ρ => match σ0 with | t31 => ∃ ρ' : Env, ρ = setl ρ' [(0, reg (w : Pt)), (29, reg (t29 : Sl)), (30, reg ((t29.len : Int) : Int)), (31, reg (t31 : Int))]) hh ⟨_, setl_eq ⟨rfl, ⟨rfl, ⟨rfl, ⟨rfl, trivial⟩⟩⟩⟩⟩ ?_
  clear hh
  rintro s1 t31 ρ h ⟨ρ', rfl⟩ hh
  refine CW.seq ?_
  refine CW.region ?_
  refine .val (v_ilss rfl rfl) rfl ?_
  refine .nil ?_
  refine QN.then_ ?_
  refine CW.seq ?_
  refine CW.cond (decide (t31 < (t29.len : Int))) rfl (fun hb => ?_) (fun hb => ?_)
  · have hh := hh.1 hb
    refine CW.skip ?_
    refine QN.then_ ?_
    refine CW.seq ?_
    refine CW.block ?_
    refine CW.seq ?_
    refine CW.region ?_
    obtain ⟨t33, ht33, hh⟩ := hh
    refine .val (v_idx_slP sl_73 rfl rfl ht33.1 ht33.2.1 ht33.2.2) rfl ?_
    obtain ⟨t34, ⟨xt34, hxt34, hgt34⟩, hh⟩ := hh
    refine .val (v_ldA (p := t33) 0 ag_182 rfl hxt34 hgt34 get_182_all (fun _ => (len_api_Request _)) (fun _ => rfl)) rfl ?_
    refine box_elim hh (fun q hq hh => ?_)
    refine .e (e_allocP hq zo_182 rfl ?_)
    obtain ⟨xw_2, hxw_2, hwxw_2, hh⟩ := hh
    refine .e (e_storeN (p := q) (nv := enc (t34 : api_Request)) 0 rfl rfl rfl sz_182 (one_api_Request _) hxw_2 hwxw_2 (len_api_Request _) (len_api_Request _) rfl (set_182_all xw_2 (t34 : api_Request)) ?_)
    refine .nil ?_
    refine QN.then_ ?_
    refine CW.region ?_
    refine .val (v_move (v := reg (w : Pt)) rfl) rfl ?_
    obtain ⟨t36, ⟨xt36, hxt36, hgt36⟩, hh⟩ := hh
    refine .val (v_ldA (p := q) 0 ag_182 rfl hxt36 hgt36 get_182_all (fun _ => (len_api_Request _)) (fun _ => rfl)) rfl ?_
    refine .e (e_callP fn_94 rfl rfl hh ?_)
    intro h t37 hh
    refine .nil ?_
    refine QN.blockN ?_
    refine QN.then_ ?_
    refine CW.region ?_
    refine .val (v_iadd rfl rfl) rfl ?_
    refine .val (v_move (v := reg ((iadd t31 (1 : Int)) : Int)) rfl) rfl ?_
    refine .nil ?_
    exact QN.thenJ ⟨(iadd t31 (1 : Int)), ⟨_, setl_eq ⟨rfl, ⟨rfl, ⟨rfl, ⟨rfl, trivial⟩⟩⟩⟩⟩, hh⟩
  · have hh := hh.2 hb
    refine CW.exit ?_
    refine QN.thenExit ?_
    refine QN.thenExit ?_
    refine QN.blockExit ?_
    exact ret0n rfl ⟨(), rfl, hh⟩
end Go.Proofs.YtimmoekliphobaaDoor
namespace Go.Proofs.YtimmoekliphobaaDoor
open Go Go.Sh
open Go.Sh.Ty (reg)
set_option linter.unusedVariables false
set_option maxRecDepth 100000
set_option maxHeartbeats 4000000
theorem block_Digest.ok (b : api_Block) (k : (Arr 32 UInt8) → H → Prop) (h : H) (hh : block_Digest.b b k h) : CallsH Prog 34 [reg b].toArray h fun v h' => ∃ r : Arr 32 UInt8, v = reg r ∧ k r h' := by
  unfold block_Digest.b at hh
  refine CallsH.of 15 Tryd.func34 rfl Tryd.ntmps34 rfl (fun w0 => ?_)
  refine CW.seq ?_
  refine CW.region ?_
  refine box_elim hh (fun b_1 hb_1 hh => ?_)
  refine .e (e_boxP hb_1 rfl rfl rfl ?_)
  refine box_elim hh (fun t2 ht2 hh => ?_)
  refine .e (e_allocP ht2 zo_24 rfl ?_)
  refine .nil ?_
  refine QN.then_ ?_
  refine CW.seq ?_
  refine CW.region ?_
  refine .val (v_buildT code_Writer.zero zo_145 pl_145 rfl (rfl) rfl) rfl ?_
  refine box_elim hh (fun t5 ht5 hh => ?_)
  refine .e (e_boxP ht5 rfl rfl rfl ?_)
  refine .val (v_assign (v := .pointer (some t5)) rfl) rfl ?_
  refine .nil ?_
  refine QN.then_ ?_
  refine CW.seq ?_
  refine CW.region ?_
  refine .val (v_move (v := .pointer (some t5)) rfl) rfl ?_
  obtain ⟨t7, ⟨xt7, hxt7, hgt7⟩, hh⟩ := hh
  refine .val (v_ldA (p := b_1) 0 ag_75 rfl hxt7 hgt7 get_75_all (fun _ => (len_api_Block _)) (fun _ => rfl)) rfl ?_
  refine .e (e_callP fn_59 rfl rfl hh ?_)
  intro h t8 hh
  refine .nil ?_
  refine QN.then_ ?_
  refine CW.seq ?_
  refine CW.region ?_
  refine mks_elim hh (fun pt9 t9 hpt9 ht9 hh => ?_)
  refine .e (e_mks [((98 : UInt8) : UInt8), ((108 : UInt8) : UInt8), ((111 : UInt8) : UInt8), ((99 : UInt8) : UInt8), ((107 : UInt8) : UInt8)] hpt9 ht9 zo_5 sl_130 rfl rfl rfl rfl rfl ?_)
  refine .e (e_strish sl_130 un_5 rfl rfl hh ?_)
  intro h t10 hh
  refine .val (v_move (v := .pointer (some t5)) rfl) rfl ?_
  refine .e (e_callP fn_61 rfl rfl hh ?_)
  intro h t12 hh
  refine mks_elim hh (fun pt13 t13 hpt13 ht13 hh => ?_)
  refine .e (e_mks [(t10 : Sl), (t12 : Sl)] hpt13 ht13 zo_130 sl_184 rfl rfl rfl rfl rfl ?_)
  refine .e (e_callP fn_60 rfl rfl hh ?_)
  intro h t14 hh
  obtain ⟨xw, hxw, hwxw, hh⟩ := hh
  refine .e (e_storeN (p := t2) (nv := enc (t14 : Arr 32 UInt8)) 0 rfl rfl rfl sz_24 (one_arr (n := 32) (fun _ => rfl) _) hxw hwxw (arr_len (n := 32) _) (arr_len (n := 32) _) rfl (set_24_all xw (t14 : Arr 32 UInt8)) ?_)
  refine .nil ?_
  refine QN.then_ ?_
  refine CW.ret ?_
  obtain ⟨r2, ⟨xr2, hxr2, hgr2⟩, hh⟩ := hh
  have hr2 := ld_id hxr2 hgr2
  exact retc rfl rfl ag_24 hr2 (arr_len (n := 32) _) ⟨(r2 : Arr 32 UInt8), rfl, hh⟩
end Go.Proofs.YtimmoekliphobaaDoor
namespace Go.Proofs.YtimmoekliphobaaDoor
open Go Go.Sh
open Go.Sh.Ty (reg)
set_option linter.unusedVariables false
set_option maxRecDepth 100000

theorem strC_map (x : ByteArray) : strC x = (x.data.toList.map enc).flatten := by
  rw [map_enc8]; rfl
theorem strL (x : ByteArray) : x.data.toList.length = x.size := by rw [Array.length_toList]; rfl
section
variable {h0 h : H} {S : List Nat} {L : List En} {T : Nat}
theorem _root_.Go.Sh.Sat.apps_ {s : Sl} {l : List UInt8} {x : ByteArray} {bytes : Nat} {z : List Value} {k : Sl → H → Prop} (i : Nat) (hs : Sat h0 S h L) (hi : L[i]? = some (own T 1 s l)) (hz : z.length = 1)
    (hbig : (l.length + x.size) * bytes ≤ maxBytes) (hlen : l.length + x.size ≤ 9223372036854775807) (hk : ∀ r h', Sat h0 S h' (L.set i (own T 1 r (l ++ x.data.toList))) → r.len = l.length + x.size → k r h') : apps T bytes z s x k h := by
  have ho : OwnA T 1 s l h := hs.at_ hi
  have hn : ∀ y : UInt8, (enc y).length = 1 := len_u8
  have hsl : s.len = l.length := (ho.sv hn).2.1
  refine ⟨(l.map enc).flatten, (ho.sv hn).1, fun hroom => ?_, fun hgrow => ⟨by rw [hsl]; exact hbig, by omega, fun p cap r hp hcap hr => ?_⟩⟩
  · rcases ho with ⟨ha, hl0, hc0, hl⟩ | ⟨b, spare, ha, hc, h2, h3, h4⟩
    · have hx0 : x.data.toList = [] := List.eq_nil_of_length_eq_zero (by rw [strL]; omega)
      have hx1 : x.size = 0 := by omega
      subst hl
      refine ⟨fun a h => (by rw [ha] at h; cases h), fun r hr => ?_⟩
      rw [ha]
      refine hk r h ?_ (by subst hr; simp only; omega)
      have : own T 1 r (([] : List UInt8) ++ x.data.toList) = own T 1 s ([] : List UInt8) := by
        have : r = s := by subst hr; cases s; simp only at hl0 hc0 ha hx1 ⊢; simp_all
        rw [this, hx0]; rfl
      rw [this]
      have : L.set i (own T 1 s ([] : List UInt8)) = L := by
        apply List.ext_getElem?
        intro j
        rw [List.getElem?_set]
        split
        · rename_i h; subst h; split <;> simp_all
        · rfl
      rw [this]; exact hs
    · have hput := hc.put (s.len * 1) (strC x) (by
        rw [List.length_append, enc_flat_len hn, strC_len, h4, hsl]; omega)
      obtain ⟨p1, p2, p3⟩ := hput
      rw [strC_len] at p3
      refine ⟨fun a h => (by rw [ha] at h; obtain rfl := Option.some.inj h; exact p3), fun r hr => ?_⟩
      rw [ha]
      refine hk r _ (hs.upd hi (by simp only [own]; rw [blk_some ha]; exact p2) (.inr ⟨b, spare.drop x.size, by subst hr; exact ha, ?_, by subst hr; simp [hsl, strL], by subst hr; simp [strL]; omega, ?_⟩) (own_loc _ _ _ _) ?_) (by subst hr; simp [hsl])
      · have e1 : ((l.map enc).flatten ++ spare).take (s.len * 1) = (l.map enc).flatten := List.take_left' (by rw [enc_flat_len hn, hsl])
        have e2 : ((l.map enc).flatten ++ spare).drop (s.len * 1 + (strC x).length) = spare.drop x.size := by
          rw [← List.drop_drop, List.drop_left' (by rw [enc_flat_len hn, hsl]), strC_len]
        rw [e1, e2] at p1
        rw [strC_map] at p1 ⊢
        simpa using p1
      · subst hr
        simp only [List.length_drop, h4, List.length_append, strL]
        omega
      · subst hr
        intro b' hb'
        simp only [own] at hb' ⊢
        have e : blk (⟨s.a, s.len + x.size, s.cap⟩ : Sl) = blk s := rfl
        rw [e] at hb'
        refine ⟨?_, .inl hb'⟩
        rw [blk_some ha] at hb'
        simp only [List.mem_singleton] at hb'
        subst hb'
        exact Nat.lt_of_lt_of_le hc.lt p2.size
  · subst hp
    have hnew := Cel.new h T ((l.map enc).flatten ++ strC x ++ (List.replicate (cap - (s.len + x.size)) z).flatten)
    refine hk r _ (hs.upd hi ((Fr.push _ _).mono (by simp)) (.inr ⟨h.size, (List.replicate (cap - (s.len + x.size)) z).flatten, by subst hr; rfl, ?_, by subst hr; simp [hsl, strL], by subst hr; simp [strL]; omega, ?_⟩) (own_loc _ _ _ _) ?_) (by subst hr; simp [hsl])
    · rw [strC_map] at hnew
      rw [strC_map]
      simpa using hnew
    · subst hr
      rw [flatten_len 1 _ (by intro y hy; simp only [List.mem_replicate] at hy; rw [hy.2]; exact hz)]
      simp only [List.length_replicate, List.length_append, hsl, strL]
    · subst hr
      intro b' hb'
      simp only [own, blk, List.mem_singleton] at hb'
      subst hb'
      exact ⟨by simp [newC], .inr (Nat.le_refl _)⟩
end
def textB (x : ByteArray) : List UInt8 := [toU8 (ishr (x.size : Int) 24), toU8 (ishr (x.size : Int) 16), toU8 (ishr (x.size : Int) 8), toU8 (x.size : Int)] ++ x.data.toList
theorem textB_len (x : ByteArray) : (textB x).length = 4 + x.size := by simp [textB, strL]; omega
def sizes (xs : List ByteArray) : Nat := (xs.map fun x => 4 + x.size).sum
theorem textBs_len (xs : List ByteArray) : (xs.map textB).flatten.length = sizes xs := by
  induction xs with
  | nil => rfl
  | cons x xs ih => simp only [List.map_cons, List.flatten_cons, List.length_append, ih, textB_len, sizes, List.sum_cons]
theorem sizes_take (xs : List ByteArray) (i : Nat) : sizes (xs.take i) ≤ sizes xs := by
  induction xs generalizing i with
  | nil => simp [sizes]
  | cons x xs ih =>
    cases i with
    | zero => simp [sizes]
    | succ i => have := ih i; simp only [sizes, List.take_succ_cons, List.map_cons, List.sum_cons] at this ⊢; omega
theorem Text_spec (p : Addr) (sl : Sl) (bs : List UInt8) (s : Sl) (xs : List ByteArray) {k : Unit → H → Prop} {h : H} (hw : WrA p sl bs h) (hv : SV 1 h s xs) (hd : ∀ b ∈ blk s, b ∉ p.block :: blk sl) (hbig : bs.length + sizes xs < 2 ^ 40) (hcnt : xs.length < 2 ^ 40)
    (hk : ∀ sl' h', Fr (p.block :: blk sl) h h' → WrA p sl' (bs ++ (xs.map textB).flatten) h' → (∀ b ∈ blk sl', b < h'.size ∧ (b ∈ p.block :: blk sl ∨ h.size ≤ b)) → k () h') : code_Writer_Text.b (some p) s k h := by
  unfold code_Writer_Text.b
  refine ifb_i (fun hc => by cases hc) (fun _ => ?_)
  unfold code_Writer_Text.l1
  have hsl : s.len = xs.length := hv.2.1
  refine ⟨fun (t : Int) h' => ∃ i : Nat, t = i ∧ i ≤ xs.length ∧ ∃ sl', Sat h (p.block :: blk sl) h' [cel 145 p (enc (⟨sl'⟩ : code_Writer)), own 5 1 sl' (bs ++ ((xs.take i).map textB).flatten)], fun t _ => (xs.length - t).toNat, ⟨0, rfl, Nat.zero_le _, sl, by simpa using Sat.initW hw⟩, ?_⟩
  rintro t h2 ⟨i, rfl, hi, sl', hs⟩
  refine ifb_i (fun hc => ?_) (fun hc => ?_)
  · have hi' : i < xs.length := by have : (i : Int) < s.len := by simpa using hc
                                   omega
    have hgi : xs[i]? = some xs[i] := List.getElem?_eq_getElem hi'
    refine sidx_ld (n := 1) (fun _ => rfl) (hv.fr' hs.fr hd) (Int.natCast_nonneg _) (by rw [Int.toNat_natCast]; exact hgi) ?_
    have hsz := sizes_take xs (i + 1)
    have ht : xs.take (i + 1) = xs.take i ++ [xs[i]] := by rw [List.take_add_one, hgi]; rfl
    rw [ht] at hsz
    have hsz2 : sizes (xs.take i) + (4 + (xs[i]).size) ≤ sizes xs := by
      have e : sizes (xs.take i ++ [xs[i]]) = sizes (xs.take i) + (4 + (xs[i]).size) := by unfold sizes; rw [List.map_append, List.sum_append]; simp
      omega
    generalize hni : xs[i] = x at *
    refine nn_i ?_
    refine hs.ld_ 0 rfl ?_
    refine hs.mks_ (n := 1) (fun t33 h3 hs3 _ _ => ?_)
    have hl4 : (bs ++ ((xs.take i).map textB).flatten).length = bs.length + sizes (xs.take i) := by rw [List.length_append, textBs_len]
    refine hs3.app_ 2 rfl (hs3.ownSV 0 rfl len_u8) len_u8 one_u8 rfl ?_ ?_ (fun r h5 hs5 hl5 => ?_)
    · rw [hl4]; simp only [List.length_cons, List.length_nil, maxBytes]; omega
    · rw [hl4]; simp only [List.length_cons, List.length_nil]; omega
    refine hs5.st_ 1 rfl len_wr (fun h6 hs6 _ => ?_)
    refine hs6.ld_ 1 rfl ?_
    refine hs6.apps_ 2 rfl rfl ?_ ?_ (fun r2 h7 hs7 hl7 => ?_)
    · rw [List.length_append, hl4]; simp only [List.length_cons, List.length_nil, maxBytes]; omega
    · rw [List.length_append, hl4]; simp only [List.length_cons, List.length_nil]; omega
    refine hs7.st_ 1 rfl len_wr (fun h8 hs8 _ => ?_)
    have e : iadd (i : Int) 1 = ((i + 1 : Nat) : Int) := by rw [iadd_eq (by omega) (by omega)]; omega
    rw [e]
    refine ⟨⟨i + 1, rfl, hi', r2, ?_⟩, by dsimp only; omega⟩
    rw [ht]
    have := hs8.drop (L' := [cel 145 p (enc (⟨r2⟩ : code_Writer)), own 5 1 r2 (bs ++ ((xs.take i).map textB).flatten ++ [toU8 (ishr (x.size : Int) 24), toU8 (ishr (x.size : Int) 16), toU8 (ishr (x.size : Int) 8), toU8 (x.size : Int)] ++ x.data.toList)]) (List.sublist_cons_self _ _)
    simpa only [textB, List.map_append, List.flatten_append, List.map_cons, List.map_nil, List.flatten_cons, List.flatten_nil, List.append_nil, List.append_assoc] using this
  · have hi' : i = xs.length := by
      have : ¬ (i : Int) < s.len := by simpa using hc
      omega
    subst hi'
    rw [List.take_length] at hs
    obtain ⟨h1, h3⟩ := Sat.toW 0 1 hs rfl rfl (by decide)
    exact hk sl' _ hs.fr h1 h3
section
variable {h0 h : H} {S : List Nat} {L : List En}
theorem _root_.Go.Sh.Sat.text_ {p : Addr} {sl s : Sl} {bs : List UInt8} {xs : List ByteArray} {k : Unit → H → Prop} (i : Nat) (hs : Sat h0 S h L) (hi : L[i]? = some (wrt p sl bs)) (hv : SV 1 h s xs) (hd : ∀ b ∈ blk s, b ∉ p.block :: blk sl) (hbig : bs.length + sizes xs < 2 ^ 40) (hcnt : xs.length < 2 ^ 40)
    (hk : ∀ sl' h', Sat h0 S h' (L.set i (wrt p sl' (bs ++ (xs.map textB).flatten))) → k () h') : call (β := Unit) Prog 118 [reg ((some p : Pt) : Pt), reg (s : Sl)] k h := by
  have hw : WrA p sl bs h := hs.at_ hi
  refine code_Writer_Text.ok _ _ _ _ (Text_spec p sl bs s xs hw hv hd hbig hcnt (fun sl' h3 hf3 hw3 hb3 => ?_))
  refine hk sl' h3 (hs.upd hi hf3 hw3 (wrt_loc _ _ _) ?_)
  intro b hb
  simp only [wrt, List.mem_cons] at hb ⊢
  rcases hb with rfl | hb
  · exact ⟨hw3.1.lt, .inl (.inl rfl)⟩
  · simpa using hb3 b hb
end
/-- a request's bytes -/
def reqB (q : api_Request) : List UInt8 := ([q.Client, q.Num, q.Op.Kind].map numB).flatten ++ ([q.Op.Key, q.Op.Val, q.Op.Old].map textB).flatten ++ ([q.Op.Change.Kind, q.Op.Change.Id, q.Op.Change.New, q.Op.Change.Key.Height].map numB).flatten ++ List.ofFn q.Op.Change.Key.Root
def reqN (q : api_Request) : Nat := 100 + q.Op.Key.size + q.Op.Val.size + q.Op.Old.size
theorem reqB_len (q : api_Request) : (reqB q).length = reqN q := by
  unfold reqB
  simp only [List.length_append, textBs_len, List.length_ofFn]
  rw [flatten_len 8 _ (by intro x hx; simp only [List.mem_map] at hx; obtain ⟨y, _, rfl⟩ := hx; rfl), flatten_len 8 _ (by intro x hx; simp only [List.mem_map] at hx; obtain ⟨y, _, rfl⟩ := hx; rfl)]
  simp [sizes, reqN]; omega
theorem Req_spec (p : Addr) (sl : Sl) (bs : List UInt8) (q : api_Request) {k : Unit → H → Prop} {h : H} (hw : WrA p sl bs h) (hbig : bs.length + reqN q < 2 ^ 39)
    (hk : ∀ sl' h', Fr (p.block :: blk sl) h h' → WrA p sl' (bs ++ reqB q) h' → (∀ b ∈ blk sl', b < h'.size ∧ (b ∈ p.block :: blk sl ∨ h.size ≤ b)) → k () h') : request_Write.b (some p) q k h := by
  unfold request_Write.b
  have hs : Sat h (p.block :: blk sl) h [wrt p sl bs] := Sat.init1 (e := wrt p sl bs) hw (wrt_loc _ _ _) hw.lt
  unfold reqN at hbig
  refine hs.box_ (fun t1 h1 hs1 _ _ => ?_)
  refine hs1.ld_ 0 rfl ?_
  refine hs1.box_ (fun x h2 hs2 _ _ => ?_)
  refine hs2.st_ 0 rfl len_api_Change (fun h3 hs3 _ => ?_)
  refine hs3.ld_ 1 rfl (hs3.ld_ 1 rfl (hs3.ld_ 1 rfl ?_))
  refine hs3.mks_ (n := 1) (fun s1 h4 hs4 _ _ => ?_)
  refine hs4.num_ 3 rfl (hs4.ownSV 0 rfl len_i) (hs4.disj (i := 0) (j := 3) rfl rfl (by decide)) (by simp; omega) (fun sl1 h5 hs5 => ?_)
  refine hs5.ld_ 2 rfl (hs5.ld_ 2 rfl (hs5.ld_ 2 rfl ?_))
  refine hs5.mks_ (n := 1) (fun s2 h6 hs6 _ _ => ?_)
  refine hs6.text_ 4 rfl (hs6.ownSV 0 rfl (fun _ => rfl)) (hs6.disj (i := 0) (j := 4) rfl rfl (by decide)) (by simp [sizes, numB]; omega) (by simp) (fun sl2 h7 hs7 => ?_)
  refine hs7.ld_ 2 rfl (hs7.ld_ 2 rfl (hs7.ld_ 2 rfl (hs7.ld_ 2 rfl ?_)))
  refine hs7.mks_ (n := 1) (fun s3 h8 hs8 _ _ => ?_)
  refine hs8.num_ 5 rfl (hs8.ownSV 0 rfl len_i) (hs8.disj (i := 0) (j := 5) rfl rfl (by decide)) (by simp [numB, textB, strL]; omega) (fun sl3 h9 hs9 => ?_)
  refine hs9.ld_ 3 rfl ?_
  refine hs9.mks_ (n := 32) (fun s4 h10 hs10 _ _ => ?_)
  refine hs10.dig_ 6 rfl (hs10.ownSV 0 rfl arr_len) (hs10.disj (i := 0) (j := 6) rfl rfl (by decide)) (by simp [numB, textB, strL]; omega) (fun sl4 h11 hs11 => ?_)
  have hw11 : WrA p sl4 _ h11 := hs11.at_ (i := 6) rfl
  refine hk sl4 h11 hs11.fr ?_ ?_
  · have e : ∀ a b : List UInt8, a = b → WrA p sl4 a h11 → WrA p sl4 b h11 := fun a b e H => e ▸ H
    refine e _ _ ?_ hw11
    simp [reqB]
  · intro b hb
    exact (hs11.ok _ (List.mem_of_getElem? (i := 6) rfl)).2.2 b (by simp [wrt, hb])
end Go.Proofs.YtimmoekliphobaaDoor
namespace Go.Proofs.YtimmoekliphobaaDoor
open Go Go.Sh
open Go.Sh.Ty (reg)
set_option linter.unusedVariables false
set_option maxRecDepth 100000

def reqsN (qs : List api_Request) : Nat := (qs.map reqN).sum
theorem reqsB_len (qs : List api_Request) : (qs.map reqB).flatten.length = reqsN qs := by
  induction qs with
  | nil => rfl
  | cons x xs ih => simp only [List.map_cons, List.flatten_cons, List.length_append, ih, reqB_len, reqsN, List.sum_cons]
theorem reqsN_take (xs : List api_Request) (i : Nat) (x : api_Request) (hi : xs[i]? = some x) : reqsN (xs.take i) + reqN x ≤ reqsN xs := by
  induction xs generalizing i with
  | nil => simp at hi
  | cons y xs ih =>
    cases i with
    | zero => simp at hi; subst hi; simp [reqsN]
    | succ i =>
      have := ih i (by simpa using hi)
      simp only [reqsN, List.take_succ_cons, List.map_cons, List.sum_cons] at this ⊢; omega
theorem reqsN_ge (qs : List api_Request) : 100 * qs.length ≤ reqsN qs := by
  induction qs with
  | nil => simp
  | cons x xs ih =>
    have h1 : 100 ≤ reqN x := by unfold reqN; omega
    simp only [reqsN, List.map_cons, List.sum_cons, List.length_cons] at ih ⊢; omega
/-- a block's bytes -/
def headN (b : api_Block) (n : Nat) : List UInt8 := ([b.Epoch, b.Height].map numB).flatten ++ ([b.Prev, b.State, b.Next].map List.ofFn).flatten ++ numB (n : Int)
theorem headN_len (b : api_Block) (n : Nat) : (headN b n).length = 120 := by simp [headN, numB]
def blkB (b : api_Block) (qs : List api_Request) : List UInt8 := headN b qs.length ++ (qs.map reqB).flatten
theorem blkB_len (b : api_Block) (qs : List api_Request) : (blkB b qs).length = 120 + reqsN qs := by rw [blkB, List.length_append, headN_len, reqsB_len]
/-- a block's digest -/
def digB (b : api_Block) (qs : List api_Request) : Dig := shaF ([98, 108, 111, 99, 107] ++ blkB b qs)
theorem BWrite_spec (p : Addr) (b : api_Block) (qs : List api_Request) {k : Unit → H → Prop} {h : H} (hw : WrA p Sl.nil [] h) (hv : SVz 42 h b.Requests qs) (hd : qs ≠ [] → ∀ x ∈ blk b.Requests, x ≠ p.block) (hbig : reqsN qs < 2 ^ 38)
    (hk : ∀ sl' h', Fr [p.block] h h' → WrA p sl' (blkB b qs) h' → (∀ b ∈ blk sl', b < h'.size ∧ (b ∈ [p.block] ∨ h.size ≤ b)) → k () h') : block_Write.b (some p) b k h := by
  unfold block_Write.b
  have hs : Sat h [p.block] h [wrt p Sl.nil []] := Sat.init1 (e := wrt p Sl.nil []) hw (wrt_loc _ _ _) hw.lt
  have hlen : b.Requests.len = qs.length := hv.1
  have hge := reqsN_ge qs
  refine hs.box_ (fun b1 h1 hs1 _ _ => ?_)
  refine hs1.ld_ 0 rfl (hs1.ld_ 0 rfl ?_)
  refine hs1.mks_ (n := 1) (fun s1 h2 hs2 _ _ => ?_)
  refine hs2.num_ 2 rfl (hs2.ownSV 0 rfl len_i) (hs2.disj (i := 0) (j := 2) rfl rfl (by decide)) (by simp) (fun sl1 h3 hs3 => ?_)
  refine hs3.ld_ 1 rfl (hs3.ld_ 1 rfl (hs3.ld_ 1 rfl ?_))
  refine hs3.mks_ (n := 32) (fun s2 h4 hs4 _ _ => ?_)
  refine hs4.dig_ 3 rfl (hs4.ownSV 0 rfl arr_len) (hs4.disj (i := 0) (j := 3) rfl rfl (by decide)) (by simp [numB]) (fun sl2 h5 hs5 => ?_)
  refine hs5.ld_ 2 rfl ?_
  refine hs5.mks_ (n := 1) (fun s3 h6 hs6 _ _ => ?_)
  refine hs6.num_ 4 rfl (hs6.ownSV 0 rfl len_i) (hs6.disj (i := 0) (j := 4) rfl rfl (by decide)) (by simp [numB]) (fun sl3 h7 hs7 => ?_)
  refine hs7.ld_ 3 rfl ?_
  have hs8 : Sat h [p.block] h7 [wrt p sl3 (headN b qs.length)] := by
    have := hs7.drop (L' := [wrt p sl3 ([] ++ List.flatten (List.map numB [b.Epoch, b.Height]) ++ (List.map List.ofFn [b.Prev, b.State, b.Next]).flatten ++ (List.map numB [(b.Requests.len : Int)]).flatten)]) (by
      refine List.Sublist.trans ?_ (List.sublist_cons_self _ _)
      refine List.Sublist.trans ?_ (List.sublist_cons_self _ _)
      refine List.Sublist.trans ?_ (List.sublist_cons_self _ _)
      exact List.sublist_cons_self _ _)
    rw [hlen] at this
    simpa [headN] using this
  unfold block_Write.l1
  refine ⟨fun (t : Int) h' => ∃ i : Nat, t = i ∧ i ≤ qs.length ∧ ∃ sl', Sat h [p.block] h' [wrt p sl' (headN b qs.length ++ ((qs.take i).map reqB).flatten)], fun t _ => (qs.length - t).toNat, ⟨0, rfl, Nat.zero_le _, sl3, by simpa using hs8⟩, ?_⟩
  clear hs hs1 hs2 hs3 hs4 hs5 hs6 hs7 hs8
  rintro t h2 ⟨i, rfl, hi, sl', hs⟩
  refine ifb_i (fun hc => ?_) (fun hc => ?_)
  · have hi' : i < qs.length := by have : (i : Int) < b.Requests.len := by simpa using hc
                                   omega
    have hne : qs ≠ [] := by rintro rfl; simp at hi'
    have hgi : qs[i]? = some qs[i] := List.getElem?_eq_getElem hi'
    have hv2 : SVz 42 h2 b.Requests qs := ⟨hv.1, fun _ => (hv.2 hne).fr' hs.fr (fun x hx => by simpa using hd hne x hx)⟩
    refine sidx_ldz len_api_Request hv2 (Int.natCast_nonneg _) (by rw [Int.toNat_natCast]; exact hgi) ?_
    have hsz := reqsN_take qs i _ hgi
    have ht : qs.take (i + 1) = qs.take i ++ [qs[i]] := by rw [List.take_add_one, hgi]; rfl
    generalize qs[i] = q at *
    refine hs.box_ (fun q1 h3 hs3 _ _ => ?_)
    refine hs3.st_ 0 rfl len_api_Request (fun h4 hs4 _ => ?_)
    refine hs4.ld_ 0 rfl ?_
    have hw4 : WrA p sl' (headN b qs.length ++ ((qs.take i).map reqB).flatten) h4 := hs4.at_ (i := 1) rfl
    refine request_Write.ok _ _ _ _ (Req_spec p sl' _ q hw4 (by rw [List.length_append, headN_len, reqsB_len]; omega) (fun sl2 h5 hf5 hw5 hb5 => ?_))
    have hs5 := hs4.upd (i := 1) (e := wrt p sl' (headN b qs.length ++ ((qs.take i).map reqB).flatten)) (e' := wrt p sl2 (headN b qs.length ++ ((qs.take i).map reqB).flatten ++ reqB q)) rfl hf5 hw5 (wrt_loc _ _ _) (by
      intro b hb
      simp only [wrt, List.mem_cons] at hb ⊢
      rcases hb with rfl | hb
      · exact ⟨hw5.1.lt, .inl (.inl rfl)⟩
      · simpa using hb5 b hb)
    have e : iadd (i : Int) 1 = ((i + 1 : Nat) : Int) := by rw [iadd_eq (by omega) (by omega)]; omega
    rw [e]
    refine ⟨⟨i + 1, rfl, hi', sl2, ?_⟩, by dsimp only; omega⟩
    rw [ht]
    have := hs5.drop (L' := [wrt p sl2 (headN b qs.length ++ ((qs.take i).map reqB).flatten ++ reqB q)]) (List.sublist_cons_self _ _)
    simpa only [List.map_append, List.flatten_append, List.map_cons, List.map_nil, List.flatten_cons, List.flatten_nil, List.append_nil, List.append_assoc] using this
  · have hi' : i = qs.length := by
      have : ¬ (i : Int) < b.Requests.len := by simpa using hc
      omega
    subst hi'
    rw [List.take_length] at hs
    have hw2 : WrA p sl' _ h2 := hs.at_ (i := 0) rfl
    refine hk sl' _ hs.fr hw2 (fun x hx => ?_)
    exact (hs.ok _ (List.mem_of_getElem? (i := 0) rfl)).2.2 x (by simp [wrt, hx])
theorem BDig_spec (b : api_Block) (qs : List api_Request) {k : Dig → H → Prop} {h : H} (hT : Tb h) (hv : SVz 42 h b.Requests qs) (hbig : reqsN qs < 2 ^ 38) (hk : ∀ h', Ext h h' → k (digB b qs) h') : call (β := Dig) Prog 34 [reg (b : api_Block)] k h := by
  refine block_Digest.ok _ _ _ ?_
  unfold block_Digest.b
  refine (Sat.init h).box_ (fun a h1 hs1 _ _ => ?_)
  refine hs1.box_ (fun t h2 hs2 _ _ => ?_)
  refine hs2.newW (fun w h3 hs3 => ?_)
  refine hs3.ld_ 2 rfl ?_
  have hw : WrA w Sl.nil [] h3 := hs3.at_ (i := 0) rfl
  have hwf : h.size ≤ w.block := by
    have := (hs3.ok _ (List.mem_of_getElem? (i := 0) rfl)).2.2 w.block (by simp [wrt])
    simpa using this.2
  refine block_Write.ok _ _ _ _ (BWrite_spec w b qs hw (hv.ext hs3.fr) (fun hne x hx => ?_) hbig (fun sl' h4 hf4 hw4 hb4 => ?_))
  · have := (hv.2 hne).lt x hx
    omega
  have hs4 := hs3.upd (i := 0) (e := wrt w Sl.nil []) (e' := wrt w sl' (blkB b qs)) rfl (hf4.mono (by simp [wrt])) hw4 (wrt_loc _ _ _) (by
    intro x hx
    simp only [wrt, List.mem_cons] at hx ⊢
    rcases hx with rfl | hx
    · exact ⟨hw4.1.lt, .inl (.inl rfl)⟩
    · have := hb4 x hx
      simp only [List.mem_singleton] at this
      exact ⟨this.1, this.2.elim (fun e => .inl (.inl e)) .inr⟩)
  refine hs4.mks_ (n := 1) (fun s1 h5 hs5 _ _ => ?_)
  refine hs5.strish_ 0 rfl (by simp) (fun h6 hs6 => ?_)
  have hlen := blkB_len b qs
  have hne : blkB b qs ≠ [] := by intro h0; rw [h0] at hlen; simp at hlen; omega
  refine hs6.bytes_ 1 rfl hne (by rw [hlen]; omega) (fun r h7 hs7 => ?_)
  refine hs7.mks_ (n := 1) (fun sl h8 hs8 _ _ => ?_)
  refine sha_Of.ok _ _ _ (Of_spec sl [[98, 108, 111, 99, 107], blkB b qs] (hT.fr hs8.fr (by simp)) (.of (hs8.ownSV 0 rfl len_sl) (.cons (hs8.rdoSV 2 rfl) (.cons (hs8.ownSV 1 rfl len_u8) .nil))) (by simp [hlen]; omega) (by simp) (fun h9 hx9 => ?_))
  have hs9 := hs8.ext hx9
  refine hs9.st_ 4 rfl arr_len (fun h10 hs10 _ => ?_)
  refine hs10.ld_ 4 rfl ?_
  have := hk h10 hs10.fr
  simpa only [digB, List.flatten_cons, List.flatten_nil, List.append_nil] using this
end Go.Proofs.YtimmoekliphobaaDoor
namespace Go.Proofs.YtimmoekliphobaaDoor
open Go Go.Sh
open Go.Sh.Ty (reg)
set_option linter.unusedVariables false
set_option maxRecDepth 100000
set_option maxHeartbeats 4000000
theorem slices_Clone_Member.ok (s : Sl) (k : Sl → H → Prop) (h : H) (hh : slices_Clone_Member.b s k h) : CallsH Prog 56 [reg s].toArray h fun v h' => ∃ r : Sl, v = reg r ∧ k r h' := by
  unfold slices_Clone_Member.b at hh
  refine CallsH.of 8 Tryd.func56 rfl Tryd.ntmps56 rfl (fun w0 => ?_)
  refine CW.seq ?_
  refine CW.region ?_
  refine .val (v_assign (v := reg (Sl.nil : Sl)) rfl) rfl ?_
  refine .nil ?_
  refine QN.then_ ?_
  refine CW.seq ?_
  refine CW.seq ?_
  refine CW.region ?_
  refine .val (v_move (v := reg (s : Sl)) rfl) rfl ?_
  refine .val (v_eq_slnil (sl_52).1 rfl rfl) rfl ?_
  refine .nil ?_
  refine QN.then_ ?_
  refine CW.cond s.a.isNone rfl (fun hb => ?_) (fun hb => ?_)
  · have hh := hh.1 hb
    refine CW.seq ?_
    refine CW.region ?_
    refine .val (v_assign (v := reg (Sl.nil : Sl)) rfl) rfl ?_
    refine .nil ?_
    refine QN.then_ ?_
    refine CW.ret ?_
    refine QN.thenRet ?_
    exact ret1 rfl rfl ⟨(Sl.nil : Sl), rfl, hh⟩
  · have hh := hh.2 hb
    refine CW.skip ?_
    refine QN.then_ ?_
    refine CW.seq ?_
    refine CW.region ?_
    refine mks_elim hh (fun pt5 t5 hpt5 ht5 hh => ?_)
    refine .e (e_mks ([] : List api_Member) hpt5 ht5 zo_110 sl_52 rfl rfl rfl rfl rfl ?_)
    refine .val (v_move (v := reg (s : Sl)) rfl) rfl ?_
    refine .e (e_app sl_52 zo_110 by_110 rfl rfl rfl hh ?_)
    intro h t7 hh
    refine .val (v_assign (v := reg (t7 : Sl)) rfl) rfl ?_
    refine .nil ?_
    refine QN.then_ ?_
    refine CW.ret ?_
    exact ret1 rfl rfl ⟨(t7 : Sl), rfl, hh⟩
end Go.Proofs.YtimmoekliphobaaDoor
namespace Go.Proofs.YtimmoekliphobaaDoor
open Go Go.Sh
open Go.Sh.Ty (reg)
set_option linter.unusedVariables false
set_option maxRecDepth 100000
set_option maxHeartbeats 4000000
theorem slices_Clone_Request.ok (s : Sl) (k : Sl → H → Prop) (h : H) (hh : slices_Clone_Request.b s k h) : CallsH Prog 97 [reg s].toArray h fun v h' => ∃ r : Sl, v = reg r ∧ k r h' := by
  unfold slices_Clone_Request.b at hh
  refine CallsH.of 8 Tryd.func97 rfl Tryd.ntmps97 rfl (fun w0 => ?_)
  refine CW.seq ?_
  refine CW.region ?_
  refine .val (v_assign (v := reg (Sl.nil : Sl)) rfl) rfl ?_
  refine .nil ?_
  refine QN.then_ ?_
  refine CW.seq ?_
  refine CW.seq ?_
  refine CW.region ?_
  refine .val (v_move (v := reg (s : Sl)) rfl) rfl ?_
  refine .val (v_eq_slnil (sl_73).1 rfl rfl) rfl ?_
  refine .nil ?_
  refine QN.then_ ?_
  refine CW.cond s.a.isNone rfl (fun hb => ?_) (fun hb => ?_)
  · have hh := hh.1 hb
    refine CW.seq ?_
    refine CW.region ?_
    refine .val (v_assign (v := reg (Sl.nil : Sl)) rfl) rfl ?_
    refine .nil ?_
    refine QN.then_ ?_
    refine CW.ret ?_
    refine QN.thenRet ?_
    exact ret1 rfl rfl ⟨(Sl.nil : Sl), rfl, hh⟩
  · have hh := hh.2 hb
    refine CW.skip ?_
    refine QN.then_ ?_
    refine CW.seq ?_
    refine CW.region ?_
    refine mks_elim hh (fun pt5 t5 hpt5 ht5 hh => ?_)
    refine .e (e_mks ([] : List api_Request) hpt5 ht5 zo_182 sl_73 rfl rfl rfl rfl rfl ?_)
    refine .val (v_move (v := reg (s : Sl)) rfl) rfl ?_
    refine .e (e_app sl_73 zo_182 by_182 rfl rfl rfl hh ?_)
    intro h t7 hh
    refine .val (v_assign (v := reg (t7 : Sl)) rfl) rfl ?_
    refine .nil ?_
    refine QN.then_ ?_
    refine CW.ret ?_
    exact ret1 rfl rfl ⟨(t7 : Sl), rfl, hh⟩
end Go.Proofs.YtimmoekliphobaaDoor
namespace Go.Proofs.YtimmoekliphobaaDoor
open Go Go.Sh
open Go.Sh.Ty (reg)
set_option linter.unusedVariables false
set_option maxRecDepth 100000
set_option maxHeartbeats 4000000
theorem round_copied.ok (b : api_Block) (k : api_Block → H → Prop) (h : H) (hh : round_copied.b b k h) : CallsH Prog 69 [reg b].toArray h fun v h' => ∃ r : api_Block, v = reg r ∧ k r h' := by
  unfold round_copied.b at hh
  refine CallsH.of 8 Tryd.func69 rfl Tryd.ntmps69 rfl (fun w0 => ?_)
  refine CW.seq ?_
  refine CW.region ?_
  refine box_elim hh (fun b_1 hb_1 hh => ?_)
  refine .e (e_boxP hb_1 rfl rfl rfl ?_)
  refine box_elim hh (fun t2 ht2 hh => ?_)
  refine .e (e_allocP ht2 zo_75 rfl ?_)
  refine .nil ?_
  refine QN.then_ ?_
  refine CW.seq ?_
  refine CW.region ?_
  refine .val (v_fieldAddr fl_75_5 rfl) rfl ?_
  obtain ⟨t4, ⟨xt4, hxt4, hgt4⟩, hh⟩ := hh
  refine .val (v_ld1 (p := b_1) 98 na_73 rfl hxt4 hgt4 get_75_Requests) rfl ?_
  refine .e (e_callP fn_97 rfl rfl hh ?_)
  intro h t5 hh
  refine .val (v_fieldAddr fl_75_5 rfl) rfl ?_
  obtain ⟨xw, hxw, hwxw, hh⟩ := hh
  refine .e (e_storeN (p := b_1) (nv := enc (t5 : Sl)) 98 rfl rfl rfl sz_73 (one_sl _) hxw hwxw (len_api_Block _) (len_sl _) rfl (set_75_Requests xw (t5 : Sl)) ?_)
  refine .nil ?_
  refine QN.then_ ?_
  refine CW.seq ?_
  refine CW.region ?_
  obtain ⟨t7, ⟨xt7, hxt7, hgt7⟩, hh⟩ := hh
  refine .val (v_ldA (p := b_1) 0 ag_75 rfl hxt7 hgt7 get_75_all (fun _ => (len_api_Block _)) (fun _ => rfl)) rfl ?_
  obtain ⟨xw_1, hxw_1, hwxw_1, hh⟩ := hh
  refine .e (e_storeN (p := t2) (nv := enc (t7 : api_Block)) 0 rfl rfl rfl sz_75 (one_api_Block _) hxw_1 hwxw_1 (len_api_Block _) (len_api_Block _) rfl (set_75_all xw_1 (t7 : api_Block)) ?_)
  refine .nil ?_
  refine QN.then_ ?_
  refine CW.ret ?_
  obtain ⟨r2, ⟨xr2, hxr2, hgr2⟩, hh⟩ := hh
  have hr2 := ld_id hxr2 hgr2
  exact retc rfl rfl ag_75 hr2 (len_api_Block _) ⟨(r2 : api_Block), rfl, hh⟩
end Go.Proofs.YtimmoekliphobaaDoor
namespace Go.Proofs.YtimmoekliphobaaDoor
open Go Go.Sh
open Go.Sh.Ty (reg)
set_option linter.unusedVariables false
set_option maxRecDepth 100000

theorem SVz.r {α : Type} [Ty α] {n : Nat} {h : H} {s : Sl} {l : List α} (hv : SVz n h s l) : SlR h s n (l.map enc).flatten := by
  by_cases hl : l = []
  · subst hl; exact .inr ⟨hv.1, rfl⟩
  · exact .inl (hv.2 hl).1
theorem CloneR_spec (s : Sl) (qs : List api_Request) {k : Sl → H → Prop} {h : H} (hv : SVz 42 h s qs) (hb : qs.length < 2 ^ 30)
    (hk : ∀ r h', Ext h h' → OwnA 182 42 r qs h' → (∀ b ∈ blk r, h.size ≤ b ∧ b < h'.size) → k r h') : call (β := Sl) Prog 97 [reg (s : Sl)] k h := by
  refine slices_Clone_Request.ok _ _ _ ?_
  unfold slices_Clone_Request.b
  refine ifb_i (fun hc => ?_) (fun hc => ?_)
  · have hl : qs = [] := by
      by_cases hl : qs = []
      · exact hl
      · rcases (hv.2 hl).1 with ⟨_, h0, _⟩ | ⟨a, ha, _⟩
        · exact List.eq_nil_of_length_eq_zero (by rw [← hv.1]; exact h0)
        · rw [ha] at hc; cases hc
    subst hl
    exact hk _ _ (Fr.refl _ _) (.inl ⟨rfl, rfl, rfl, rfl⟩) (by simp [blk, Sl.nil])
  · refine (Sat.init h).mks_ (n := 42) (fun t h1 hs1 _ hx1 => ?_)
    refine hs1.appR_ 0 rfl (hv.ext hx1).r hv.1 len_api_Request one_api_Request (len_api_Request _) ?_ ?_ (fun r h2 hs2 _ => ?_)
    · simp only [List.length_nil, maxBytes]; omega
    · simp only [List.length_nil]; omega
    refine hk r h2 hs2.fr (hs2.at_ (i := 0) rfl) (fun b hb' => ?_)
    have := (hs2.ok _ (List.mem_of_getElem? (i := 0) rfl)).2.2 b hb'
    simpa using And.intro this.2 this.1
theorem CloneM_spec (s : Sl) (ms : List api_Member) {k : Sl → H → Prop} {h : H} (hv : SVz 34 h s ms) (hb : ms.length < 2 ^ 30)
    (hk : ∀ r h', Ext h h' → OwnA 110 34 r ms h' → (∀ b ∈ blk r, h.size ≤ b ∧ b < h'.size) → k r h') : call (β := Sl) Prog 56 [reg (s : Sl)] k h := by
  refine slices_Clone_Member.ok _ _ _ ?_
  unfold slices_Clone_Member.b
  refine ifb_i (fun hc => ?_) (fun hc => ?_)
  · have hl : ms = [] := by
      by_cases hl : ms = []
      · exact hl
      · rcases (hv.2 hl).1 with ⟨_, h0, _⟩ | ⟨a, ha, _⟩
        · exact List.eq_nil_of_length_eq_zero (by rw [← hv.1]; exact h0)
        · rw [ha] at hc; cases hc
    subst hl
    exact hk _ _ (Fr.refl _ _) (.inl ⟨rfl, rfl, rfl, rfl⟩) (by simp [blk, Sl.nil])
  · refine (Sat.init h).mks_ (n := 34) (fun t h1 hs1 _ hx1 => ?_)
    refine hs1.appR_ 0 rfl (hv.ext hx1).r hv.1 len_api_Member one_api_Member (len_api_Member _) ?_ ?_ (fun r h2 hs2 _ => ?_)
    · simp only [List.length_nil, maxBytes]; omega
    · simp only [List.length_nil]; omega
    refine hk r h2 hs2.fr (hs2.at_ (i := 0) rfl) (fun b hb' => ?_)
    have := (hs2.ok _ (List.mem_of_getElem? (i := 0) rfl)).2.2 b hb'
    simpa using And.intro this.2 this.1
theorem copied_spec (b : api_Block) (qs : List api_Request) {k : api_Block → H → Prop} {h : H} (hv : SVz 42 h b.Requests qs) (hb : qs.length < 2 ^ 30)
    (hk : ∀ r h', Ext h h' → OwnA 182 42 r qs h' → (∀ x ∈ blk r, h.size ≤ x ∧ x < h'.size) → k { b with Requests := r } h') : call (β := api_Block) Prog 69 [reg (b : api_Block)] k h := by
  refine round_copied.ok _ _ _ ?_
  unfold round_copied.b
  refine (Sat.init h).box_ (fun p h1 hs1 _ _ => ?_)
  refine hs1.box_ (fun t h2 hs2 _ _ => ?_)
  refine hs2.ld_ 1 rfl ?_
  refine CloneR_spec _ qs (hv.ext hs2.fr) hb (fun r h3 hx3 ho3 hb3 => ?_)
  have hs3 := hs2.add (e := own 182 42 r qs) hx3 ho3 (own_loc _ _ _ _) hb3
  refine hs3.st_ 2 rfl len_api_Block (fun h4 hs4 _ => ?_)
  refine hs4.ld_ 2 rfl ?_
  refine hs4.st_ 1 rfl len_api_Block (fun h5 hs5 _ => ?_)
  refine hs5.ld_ 1 rfl ?_
  refine hk r h5 hs5.fr (hs5.at_ (i := 0) rfl) (fun x hx => ?_)
  have := (hs5.ok _ (List.mem_of_getElem? (i := 0) rfl)).2.2 x hx
  simpa using And.intro this.2 this.1
end Go.Proofs.YtimmoekliphobaaDoor
namespace Go.Proofs.YtimmoekliphobaaDoor
open Go Go.Sh
open Go.Sh.Ty (reg)
set_option linter.unusedVariables false
set_option maxRecDepth 100000
set_option maxHeartbeats 4000000
theorem config_Faults.ok (c : api_Config) (k : Int → H → Prop) (h : H) (hh : config_Faults.b c k h) : CallsH Prog 53 [reg c].toArray h fun v h' => ∃ r : Int, v = reg r ∧ k r h' := by
  unfold config_Faults.b at hh
  refine CallsH.of 9 Tryd.func53 rfl Tryd.ntmps53 rfl (fun w0 => ?_)
  refine CW.seq ?_
  refine CW.region ?_
  refine box_elim hh (fun c_1 hc_1 hh => ?_)
  refine .e (e_boxP hc_1 rfl rfl rfl ?_)
  refine .val (v_assign (v := reg ((0 : Int) : Int)) rfl) rfl ?_
  refine .nil ?_
  refine QN.then_ ?_
  refine CW.seq ?_
  refine CW.region ?_
  refine .val (v_fieldAddr fl_54_1 rfl) rfl ?_
  obtain ⟨t4, ⟨xt4, hxt4, hgt4⟩, hh⟩ := hh
  refine .val (v_ld1 (p := c_1) 1 na_52 rfl hxt4 hgt4 get_54_Members) rfl ?_
  refine .val (v_len_sl (sl_52).1 rfl) rfl ?_
  refine .val (v_isub rfl rfl) rfl ?_
  refine .val (v_max rfl rfl) rfl ?_
  refine .val (v_iquo rfl rfl (by decide)) rfl ?_
  refine .val (v_assign (v := reg ((iquo (imax (isub (t4.len : Int) (1 : Int)) (0 : Int)) (3 : Int)) : Int)) rfl) rfl ?_
  refine .nil ?_
  refine QN.then_ ?_
  refine CW.ret ?_
  exact ret1 rfl rfl ⟨((iquo (imax (isub (t4.len : Int) (1 : Int)) (0 : Int)) (3 : Int)) : Int), rfl, hh⟩
end Go.Proofs.YtimmoekliphobaaDoor
namespace Go.Proofs.YtimmoekliphobaaDoor
open Go Go.Sh
open Go.Sh.Ty (reg)
set_option linter.unusedVariables false
set_option maxRecDepth 100000
set_option maxHeartbeats 4000000
theorem config_Good.ok (c : api_Config) (k : Bool → H → Prop) (h : H) (hh : config_Good.b c k h) : CallsH Prog 54 [reg c].toArray h fun v h' => ∃ r : Bool, v = reg r ∧ k r h' := by
  unfold config_Good.b at hh
  refine CallsH.of 53 Tryd.func54 rfl Tryd.ntmps54 rfl (fun w0 => ?_)
  refine CW.seq ?_
  refine CW.region ?_
  refine box_elim hh (fun c_1 hc_1 hh => ?_)
  refine .e (e_boxP hc_1 rfl rfl rfl ?_)
  refine .val (v_assign (v := reg (false : Bool)) rfl) rfl ?_
  refine .nil ?_
  refine QN.then_ ?_
  refine CW.seq ?_
  refine CW.seq ?_
  refine CW.region ?_
  refine .val (v_fieldAddr fl_54_0 rfl) rfl ?_
  obtain ⟨t6, ⟨xt6, hxt6, hgt6⟩, hh⟩ := hh
  refine .val (v_ld1 (p := c_1) 0 na_3 rfl hxt6 hgt6 get_54_Epoch) rfl ?_
  refine .val (v_ilss rfl rfl) rfl ?_
  refine .val (v_move (v := reg ((decide (t6 < (0 : Int))) : Bool)) rfl) rfl ?_
  refine .fv 8 rfl rfl rfl (fun hb => v_fieldAddr fl_54_0 rfl) rfl ?_
  obtain ⟨t10, ⟨xt10, hxt10, hgt10⟩, hh⟩ := hh
  refine .fv 8 rfl rfl rfl (fun hb => v_ld1 (p := c_1) 0 na_3 (gf hb) hxt10 hgt10 get_54_Epoch) rfl ?_
  refine .fv 8 rfl rfl rfl (fun hb => v_igtr (gf hb) rfl) rfl ?_
  refine .val (v_pick_or rfl rfl (fun hb => gf hb)) rfl ?_
  refine .val (v_move (v := reg (((decide (t6 < (0 : Int))) || (decide ((1073741824 : Int) < t10))) : Bool)) rfl) rfl ?_
  refine .fv 13 rfl rfl rfl (fun hb => v_fieldAddr fl_54_1 rfl) rfl ?_
  obtain ⟨t15, ⟨xt15, hxt15, hgt15⟩, hh⟩ := hh
  refine .fv 13 rfl rfl rfl (fun hb => v_ld1 (p := c_1) 1 na_52 (gf hb) hxt15 hgt15 get_54_Members) rfl ?_
  refine .fv 13 rfl rfl rfl (fun hb => v_len_sl (sl_52).1 (gf hb)) rfl ?_
  refine .fv 13 rfl rfl rfl (fun hb => v_ieql (gf hb) rfl) rfl ?_
  refine .val (v_pick_or rfl rfl (fun hb => gf hb)) rfl ?_
  refine .val (v_move (v := reg ((((decide (t6 < (0 : Int))) || (decide ((1073741824 : Int) < t10))) || ((t15.len : Int) == (0 : Int))) : Bool)) rfl) rfl ?_
  refine .fv 19 rfl rfl rfl (fun hb => v_fieldAddr fl_54_1 rfl) rfl ?_
  obtain ⟨t21, ⟨xt21, hxt21, hgt21⟩, hh⟩ := hh
  refine .fv 19 rfl rfl rfl (fun hb => v_ld1 (p := c_1) 1 na_52 (gf hb) hxt21 hgt21 get_54_Members) rfl ?_
  refine .fv 19 rfl rfl rfl (fun hb => v_len_sl (sl_52).1 (gf hb)) rfl ?_
  refine .fv 19 rfl rfl rfl (fun hb => v_igtr (gf hb) rfl) rfl ?_
  refine .val (v_pick_or rfl rfl (fun hb => gf hb)) rfl ?_
  refine .nil ?_
  refine QN.then_ ?_
  refine CW.cond ((((decide (t6 < (0 : Int))) || (decide ((1073741824 : Int) < t10))) || ((t15.len : Int) == (0 : Int))) || (decide ((10 : Int) < (t21.len : Int)))) rfl (fun hb => ?_) (fun hb => ?_)
  · have hh := hh.1 hb
    refine CW.seq ?_
    refine CW.region ?_
    refine .val (v_assign (v := reg (false : Bool)) rfl) rfl ?_
    refine .nil ?_
    refine QN.then_ ?_
    refine CW.ret ?_
    refine QN.thenRet ?_
    exact ret1 rfl rfl ⟨(false : Bool), rfl, hh⟩
  · have hh := hh.2 hb
    refine CW.skip ?_
    refine QN.then_ ?_
    refine CW.join (fun ρ h => ∃ (ρ' : Env), ρ = setl ρ' [] ∧ (config_Good.j1 k)  h) ?_ ?_
    · refine CW.seq ?_
      refine CW.region ?_
      refine .val (v_fieldAddr fl_54_1 rfl) rfl ?_
      obtain ⟨t26, ⟨xt26, hxt26, hgt26⟩, hh⟩ := hh
      refine .val (v_ld1 (p := c_1) 1 na_52 rfl hxt26 hgt26 get_54_Members) rfl ?_
      refine .val (v_len_sl (sl_52).1 rfl) rfl ?_
      refine .val (v_move (v := reg ((0 : Int) : Int)) rfl) rfl ?_
      refine .nil ?_
      refine QN.then_ ?_
      refine CW.block ?_
      unfold config_Good.l1 at hh
      refine CW.loop (fun (σ0 : Int) ρ => match σ0 with | t28 => ∃ ρ' : Env, ρ = setl ρ' [(1, .pointer (some c_1)), (26, reg (t26 : Sl)), (27, reg ((t26.len : Int) : Int)), (28, reg (t28 : Int))]) hh ⟨_, setl_eq ⟨rfl, ⟨rfl, ⟨rfl, ⟨rfl, trivial⟩⟩⟩⟩⟩ ?_
      clear hh
      rintro s1 t28 ρ h ⟨ρ', rfl⟩ hh
      refine CW.seq ?_
      refine CW.region ?_
      refine .val (v_ilss rfl rfl) rfl ?_
      refine .nil ?_
      refine QN.then_ ?_
      refine CW.seq ?_
      refine CW.cond (decide (t28 < (t26.len : Int))) rfl (fun hb_1 => ?_) (fun hb_1 => ?_)
      · have hh := hh.1 hb_1
        refine CW.skip ?_
        refine QN.then_ ?_
        refine CW.seq ?_
        refine CW.block ?_
        refine CW.seq ?_
        refine CW.region ?_
        refine .val (v_move (v := reg (t28 : Int)) rfl) rfl ?_
        obtain ⟨t31, ht31, hh⟩ := hh
        refine .val (v_idx_slP sl_52 rfl rfl ht31.1 ht31.2.1 ht31.2.2) rfl ?_
        obtain ⟨t32, ⟨xt32, hxt32, hgt32⟩, hh⟩ := hh
        refine .val (v_ldA (p := t31) 0 ag_110 rfl hxt32 hgt32 get_110_all (fun _ => (len_api_Member _)) (fun _ => rfl)) rfl ?_
        refine box_elim hh (fun m hm hh => ?_)
        refine .e (e_allocP hm zo_110 rfl ?_)
        refine .val (v_assign (v := reg (t28 : Int)) rfl) rfl ?_
        obtain ⟨xw, hxw, hwxw, hh⟩ := hh
        refine .e (e_storeN (p := m) (nv := enc (t32 : api_Member)) 0 rfl rfl rfl sz_110 (one_api_Member _) hxw hwxw (len_api_Member _) (len_api_Member _) rfl (set_110_all xw (t32 : api_Member)) ?_)
        refine .nil ?_
        refine QN.then_ ?_
        refine CW.join (fun ρ h => ∃ (ρ' : Env) (t51 : Bool), ρ = setl ρ' [(1, .pointer (some c_1)), (26, reg (t26 : Sl)), (27, reg ((t26.len : Int) : Int)), (28, reg (t28 : Int)), (51, reg (t51 : Bool))] ∧ (config_Good.j2 k s1) c_1 t26 (t26.len : Int) t28 t51 h) ?_ ?_
        · refine CW.drawN 19 rfl follows_mixed [0, 2, 3, 4, 5, 6, 7, 8, 9, 10, 11, 12, 13, 14, 15, 16, 17, 18] ?_
          obtain ⟨t33, ⟨xt33, hxt33, hgt33⟩, hh⟩ := hh
          refine .r 0 (fun h' => ∃ x : api_Member, AtH h' m (enc x) ∧ ((fun (x : api_Member) => x) : api_Member → api_Member) x = t33) rfl (by kernel_rfl) (NoPanic.then_ (NoPanic.block (NoPanic.then_ (NoPanic.then_ (NoPanic.block (NoPanic.then_ (NoPanic.body))))))) ⟨xt33, hxt33, hgt33⟩ (fun h' hS => hS.elim fun _ hS => v_ldA (p := m) 0 ag_110 rfl hS.1 hS.2 get_110_all (fun _ => (len_api_Member _)) (fun _ => rfl)) ?_
          refine .w 1 (by kernel_rfl) rfl (by kernel_rfl) (.e (e_callP fn_87 rfl rfl hh ?_))
          intro h t34 hh
          refine ⟨⟨trivial, .inl (by kernel_rfl)⟩, ?_⟩
          refine .p 2 rfl (by kernel_rfl) (NoPanic.then_ (NoPanic.block (NoPanic.then_ (NoPanic.then_ (NoPanic.block (NoPanic.then_ (NoPanic.body))))))) (fun _ => v_not rfl) ?_
          refine .p 3 rfl (by kernel_rfl) (NoPanic.then_ (NoPanic.block (NoPanic.then_ (NoPanic.then_ (NoPanic.block (NoPanic.then_ (NoPanic.body))))))) (fun _ => v_move (v := reg ((!t34) : Bool)) rfl) ?_
          refine ifb_cases hh (fun hb_2 hh => ?_) (fun hb_2 hh => ?_)
          · refine .no' 4 36 rfl rfl (congrArg Value.bool hb_2) rfl (by kernel_rfl) (NoPanic.then_ (NoPanic.block (NoPanic.then_ (NoPanic.then_ (NoPanic.block (NoPanic.then_ (NoPanic.body))))))) ?_
            refine .no' 5 36 rfl rfl (congrArg Value.bool hb_2) rfl (by kernel_rfl) (NoPanic.then_ (NoPanic.block (NoPanic.then_ (NoPanic.then_ (NoPanic.block (NoPanic.then_ (NoPanic.body))))))) ?_
            refine .no' 6 36 rfl rfl (congrArg Value.bool hb_2) rfl (by kernel_rfl) (NoPanic.then_ (NoPanic.block (NoPanic.then_ (NoPanic.then_ (NoPanic.block (NoPanic.then_ (NoPanic.body))))))) ?_
            refine .nu 7 39 rfl rfl rfl rfl (by kernel_rfl) (NoPanic.then_ (NoPanic.block (NoPanic.then_ (NoPanic.then_ (NoPanic.block (NoPanic.then_ (NoPanic.body))))))) ?_
            refine .nu 8 39 rfl rfl rfl rfl (by kernel_rfl) (NoPanic.then_ (NoPanic.block (NoPanic.then_ (NoPanic.then_ (NoPanic.block (NoPanic.then_ (NoPanic.body))))))) ?_
            refine .nu 9 39 rfl rfl rfl rfl (by kernel_rfl) (NoPanic.then_ (NoPanic.block (NoPanic.then_ (NoPanic.then_ (NoPanic.block (NoPanic.then_ (NoPanic.body))))))) ?_
            refine .nu 10 39 rfl rfl rfl rfl (by kernel_rfl) (NoPanic.then_ (NoPanic.block (NoPanic.then_ (NoPanic.then_ (NoPanic.block (NoPanic.then_ (NoPanic.body))))))) ?_
            refine .nu 11 39 rfl rfl rfl rfl (by kernel_rfl) (NoPanic.then_ (NoPanic.block (NoPanic.then_ (NoPanic.then_ (NoPanic.block (NoPanic.then_ (NoPanic.body))))))) ?_
            refine .nu 12 39 rfl rfl rfl rfl (by kernel_rfl) (NoPanic.then_ (NoPanic.block (NoPanic.then_ (NoPanic.then_ (NoPanic.block (NoPanic.then_ (NoPanic.body))))))) ?_
            refine .nu 13 39 rfl rfl rfl rfl (by kernel_rfl) (NoPanic.then_ (NoPanic.block (NoPanic.then_ (NoPanic.then_ (NoPanic.block (NoPanic.then_ (NoPanic.body))))))) ?_
            refine .nu 14 39 rfl rfl rfl rfl (by kernel_rfl) (NoPanic.then_ (NoPanic.block (NoPanic.then_ (NoPanic.then_ (NoPanic.block (NoPanic.then_ (NoPanic.body))))))) ?_
            refine .nu 15 39 rfl rfl rfl rfl (by kernel_rfl) (NoPanic.then_ (NoPanic.block (NoPanic.then_ (NoPanic.then_ (NoPanic.block (NoPanic.then_ (NoPanic.body))))))) ?_
            refine .nu 16 39 rfl rfl rfl rfl (by kernel_rfl) (NoPanic.then_ (NoPanic.block (NoPanic.then_ (NoPanic.then_ (NoPanic.block (NoPanic.then_ (NoPanic.body))))))) ?_
            refine .no' 17 36 rfl rfl (congrArg Value.bool hb_2) rfl (by kernel_rfl) (NoPanic.then_ (NoPanic.block (NoPanic.then_ (NoPanic.then_ (NoPanic.block (NoPanic.then_ (NoPanic.body))))))) ?_
            refine .p 18 rfl (by kernel_rfl) (NoPanic.then_ (NoPanic.block (NoPanic.then_ (NoPanic.then_ (NoPanic.block (NoPanic.then_ (NoPanic.body))))))) (fun _ => v_pickT (v := reg (true : Bool)) rfl hb_2 rfl) ?_
            refine .done (by kernel_rfl) ?_
            exact QN.thenJ ⟨_, true, setl_eq ⟨rfl, ⟨rfl, ⟨rfl, ⟨rfl, ⟨rfl, trivial⟩⟩⟩⟩⟩, hh⟩
          · refine .yp 4 36 rfl rfl (congrArg Value.bool hb_2) rfl (by kernel_rfl) (NoPanic.then_ (NoPanic.block (NoPanic.then_ (NoPanic.then_ (NoPanic.block (NoPanic.then_ (NoPanic.body))))))) (fun _ => v_move (v := reg (t28 : Int)) rfl) ?_
            refine .yp 5 36 rfl rfl (congrArg Value.bool hb_2) rfl (by kernel_rfl) (NoPanic.then_ (NoPanic.block (NoPanic.then_ (NoPanic.then_ (NoPanic.block (NoPanic.then_ (NoPanic.body))))))) (fun _ => v_igtr rfl rfl) ?_
            refine .yp 6 36 rfl rfl (congrArg Value.bool hb_2) rfl (by kernel_rfl) (NoPanic.then_ (NoPanic.block (NoPanic.then_ (NoPanic.then_ (NoPanic.block (NoPanic.then_ (NoPanic.body))))))) (fun _ => v_move (v := reg ((decide ((0 : Int) < t28)) : Bool)) rfl) ?_
            refine ifb_cases hh (fun hb_3 hh => ?_) (fun hb_3 hh => ?_)
            · refine .yp 7 39 rfl rfl (congrArg Value.bool hb_3) rfl (by kernel_rfl) (NoPanic.then_ (NoPanic.block (NoPanic.then_ (NoPanic.then_ (NoPanic.block (NoPanic.then_ (NoPanic.body))))))) (fun _ => v_fieldAddr fl_54_1 rfl) ?_
              obtain ⟨t41, ⟨xt41, hxt41, hgt41⟩, hh⟩ := hh
              refine .yr 8 39 (fun h' => ∃ x : api_Config, AtH h' c_1 (enc x) ∧ ((fun (x : api_Config) => x.Members) : api_Config → Sl) x = t41) rfl rfl (congrArg Value.bool hb_3) rfl (by kernel_rfl) (NoPanic.then_ (NoPanic.block (NoPanic.then_ (NoPanic.then_ (NoPanic.block (NoPanic.then_ (NoPanic.body))))))) ⟨xt41, hxt41, hgt41⟩ (fun h' hS => hS.elim fun _ hS => v_ld1 (p := c_1) 1 na_52 rfl hS.1 hS.2 get_54_Members) ?_
              refine .yp 9 39 rfl rfl (congrArg Value.bool hb_3) rfl (by kernel_rfl) (NoPanic.then_ (NoPanic.block (NoPanic.then_ (NoPanic.then_ (NoPanic.block (NoPanic.then_ (NoPanic.body))))))) (fun _ => v_move (v := reg (t28 : Int)) rfl) ?_
              refine .yp 10 39 rfl rfl (congrArg Value.bool hb_3) rfl (by kernel_rfl) (NoPanic.then_ (NoPanic.block (NoPanic.then_ (NoPanic.then_ (NoPanic.block (NoPanic.then_ (NoPanic.body))))))) (fun _ => v_isub rfl rfl) ?_
              obtain ⟨t44, ht44, hh⟩ := hh
              refine .yp 11 39 rfl rfl (congrArg Value.bool hb_3) rfl (by kernel_rfl) (NoPanic.then_ (NoPanic.block (NoPanic.then_ (NoPanic.then_ (NoPanic.block (NoPanic.then_ (NoPanic.body))))))) (fun _ => v_idx_slP sl_52 rfl rfl ht44.1 ht44.2.1 ht44.2.2) ?_
              refine .yp 12 39 rfl rfl (congrArg Value.bool hb_3) rfl (by kernel_rfl) (NoPanic.then_ (NoPanic.block (NoPanic.then_ (NoPanic.then_ (NoPanic.block (NoPanic.then_ (NoPanic.body))))))) (fun _ => v_fieldAddr fl_110_0 rfl) ?_
              obtain ⟨t46, ⟨xt46, hxt46, hgt46⟩, hh⟩ := hh
              refine .yr 13 39 (fun h' => ∃ x : api_Member, AtH h' t44 (enc x) ∧ ((fun (x : api_Member) => x.Id) : api_Member → Int) x = t46) rfl rfl (congrArg Value.bool hb_3) rfl (by kernel_rfl) (NoPanic.then_ (NoPanic.block (NoPanic.then_ (NoPanic.then_ (NoPanic.block (NoPanic.then_ (NoPanic.body))))))) ⟨xt46, hxt46, hgt46⟩ (fun h' hS => hS.elim fun _ hS => v_ld1 (p := t44) 0 na_3 rfl hS.1 hS.2 get_110_Id) ?_
              refine .yp 14 39 rfl rfl (congrArg Value.bool hb_3) rfl (by kernel_rfl) (NoPanic.then_ (NoPanic.block (NoPanic.then_ (NoPanic.then_ (NoPanic.block (NoPanic.then_ (NoPanic.body))))))) (fun _ => v_fieldAddr fl_110_0 rfl) ?_
              obtain ⟨t48, ⟨xt48, hxt48, hgt48⟩, hh⟩ := hh
              refine .yr 15 39 (fun h' => ∃ x : api_Member, AtH h' m (enc x) ∧ ((fun (x : api_Member) => x.Id) : api_Member → Int) x = t48) rfl rfl (congrArg Value.bool hb_3) rfl (by kernel_rfl) (NoPanic.then_ (NoPanic.block (NoPanic.then_ (NoPanic.then_ (NoPanic.block (NoPanic.then_ (NoPanic.body))))))) ⟨xt48, hxt48, hgt48⟩ (fun h' hS => hS.elim fun _ hS => v_ld1 (p := m) 0 na_3 rfl hS.1 hS.2 get_110_Id) ?_
              refine .yp 16 39 rfl rfl (congrArg Value.bool hb_3) rfl (by kernel_rfl) (NoPanic.then_ (NoPanic.block (NoPanic.then_ (NoPanic.then_ (NoPanic.block (NoPanic.then_ (NoPanic.body))))))) (fun _ => v_igeq rfl rfl) ?_
              refine .yp 17 36 rfl rfl (congrArg Value.bool hb_2) rfl (by kernel_rfl) (NoPanic.then_ (NoPanic.block (NoPanic.then_ (NoPanic.then_ (NoPanic.block (NoPanic.then_ (NoPanic.body))))))) (fun _ => v_pickT (v := reg ((decide (t48 ≤ t46)) : Bool)) rfl hb_3 rfl) ?_
              refine .p 18 rfl (by kernel_rfl) (NoPanic.then_ (NoPanic.block (NoPanic.then_ (NoPanic.then_ (NoPanic.block (NoPanic.then_ (NoPanic.body))))))) (fun _ => v_pickF (v := reg ((decide (t48 ≤ t46)) : Bool)) rfl hb_2 rfl) ?_
              refine .done (by kernel_rfl) ?_
              exact QN.thenJ ⟨_, (decide (t48 ≤ t46)), setl_eq ⟨rfl, ⟨rfl, ⟨rfl, ⟨rfl, ⟨rfl, trivial⟩⟩⟩⟩⟩, hh⟩
            · refine .no' 7 39 rfl rfl (congrArg Value.bool hb_3) rfl (by kernel_rfl) (NoPanic.then_ (NoPanic.block (NoPanic.then_ (NoPanic.then_ (NoPanic.block (NoPanic.then_ (NoPanic.body))))))) ?_
              refine .no' 8 39 rfl rfl (congrArg Value.bool hb_3) rfl (by kernel_rfl) (NoPanic.then_ (NoPanic.block (NoPanic.then_ (NoPanic.then_ (NoPanic.block (NoPanic.then_ (NoPanic.body))))))) ?_
              refine .no' 9 39 rfl rfl (congrArg Value.bool hb_3) rfl (by kernel_rfl) (NoPanic.then_ (NoPanic.block (NoPanic.then_ (NoPanic.then_ (NoPanic.block (NoPanic.then_ (NoPanic.body))))))) ?_
              refine .no' 10 39 rfl rfl (congrArg Value.bool hb_3) rfl (by kernel_rfl) (NoPanic.then_ (NoPanic.block (NoPanic.then_ (NoPanic.then_ (NoPanic.block (NoPanic.then_ (NoPanic.body))))))) ?_
              refine .no' 11 39 rfl rfl (congrArg Value.bool hb_3) rfl (by kernel_rfl) (NoPanic.then_ (NoPanic.block (NoPanic.then_ (NoPanic.then_ (NoPanic.block (NoPanic.then_ (NoPanic.body))))))) ?_
              refine .no' 12 39 rfl rfl (congrArg Value.bool hb_3) rfl (by kernel_rfl) (NoPanic.then_ (NoPanic.block (NoPanic.then_ (NoPanic.then_ (NoPanic.block (NoPanic.then_ (NoPanic.body))))))) ?_
              refine .no' 13 39 rfl rfl (congrArg Value.bool hb_3) rfl (by kernel_rfl) (NoPanic.then_ (NoPanic.block (NoPanic.then_ (NoPanic.then_ (NoPanic.block (NoPanic.then_ (NoPanic.body))))))) ?_
              refine .no' 14 39 rfl rfl (congrArg Value.bool hb_3) rfl (by kernel_rfl) (NoPanic.then_ (NoPanic.block (NoPanic.then_ (NoPanic.then_ (NoPanic.block (NoPanic.then_ (NoPanic.body))))))) ?_
              refine .no' 15 39 rfl rfl (congrArg Value.bool hb_3) rfl (by kernel_rfl) (NoPanic.then_ (NoPanic.block (NoPanic.then_ (NoPanic.then_ (NoPanic.block (NoPanic.then_ (NoPanic.body))))))) ?_
              refine .no' 16 39 rfl rfl (congrArg Value.bool hb_3) rfl (by kernel_rfl) (NoPanic.then_ (NoPanic.block (NoPanic.then_ (NoPanic.then_ (NoPanic.block (NoPanic.then_ (NoPanic.body))))))) ?_
              refine .yp 17 36 rfl rfl (congrArg Value.bool hb_2) rfl (by kernel_rfl) (NoPanic.then_ (NoPanic.block (NoPanic.then_ (NoPanic.then_ (NoPanic.block (NoPanic.then_ (NoPanic.body))))))) (fun _ => v_pickF (v := reg (false : Bool)) rfl hb_3 rfl) ?_
              refine .p 18 rfl (by kernel_rfl) (NoPanic.then_ (NoPanic.block (NoPanic.then_ (NoPanic.then_ (NoPanic.block (NoPanic.then_ (NoPanic.body))))))) (fun _ => v_pickF (v := reg (false : Bool)) rfl hb_2 rfl) ?_
              refine .done (by kernel_rfl) ?_
              exact QN.thenJ ⟨_, false, setl_eq ⟨rfl, ⟨rfl, ⟨rfl, ⟨rfl, ⟨rfl, trivial⟩⟩⟩⟩⟩, hh⟩
        · rintro ρ h ⟨ρ', t51, rfl, hh⟩
          unfold config_Good.j2 at hh
          refine CW.cond t51 rfl (fun hb_4 => ?_) (fun hb_4 => ?_)
          · have hh := hh.1 hb_4
            refine CW.seq ?_
            refine CW.region ?_
            refine .val (v_assign (v := reg (false : Bool)) rfl) rfl ?_
            refine .nil ?_
            refine QN.then_ ?_
            refine CW.ret ?_
            refine QN.blockRet ?_
            refine QN.thenRet ?_
            refine QN.thenRet ?_
            refine QN.blockRet ?_
            refine QN.thenRet ?_
            exact ret1 rfl rfl ⟨(false : Bool), rfl, hh⟩
          · have hh := hh.2 hb_4
            refine CW.skip ?_
            refine QN.blockN ?_
            refine QN.then_ ?_
            refine CW.region ?_
            refine .val (v_iadd rfl rfl) rfl ?_
            refine .val (v_move (v := reg ((iadd t28 (1 : Int)) : Int)) rfl) rfl ?_
            refine .nil ?_
            exact QN.thenJ ⟨(iadd t28 (1 : Int)), ⟨_, setl_eq ⟨rfl, ⟨rfl, ⟨rfl, ⟨rfl, trivial⟩⟩⟩⟩⟩, hh⟩
      · have hh := hh.2 hb_1
        refine CW.exit ?_
        refine QN.thenExit ?_
        refine QN.thenExit ?_
        refine QN.blockExit ?_
        exact QN.thenJ ⟨_, setl_eq trivial, hh⟩
    · rintro ρ h ⟨ρ', rfl, hh⟩
      unfold config_Good.j1 at hh
      refine CW.seq ?_
      refine CW.region ?_
      refine .val (v_assign (v := reg (true : Bool)) rfl) rfl ?_
      refine .nil ?_
      refine QN.then_ ?_
      refine CW.ret ?_
      exact ret1 rfl rfl ⟨(true : Bool), rfl, hh⟩
end Go.Proofs.YtimmoekliphobaaDoor
namespace Go.Proofs.YtimmoekliphobaaDoor
open Go Go.Sh
open Go.Sh.Ty (reg)
set_option linter.unusedVariables false
set_option maxRecDepth 100000
set_option maxHeartbeats 4000000
theorem config_right.ok (m : api_Member) (k : Bool → H → Prop) (h : H) (hh : config_right.b m k h) : CallsH Prog 87 [reg m].toArray h fun v h' => ∃ r : Bool, v = reg r ∧ k r h' := by
  unfold config_right.b at hh
  refine CallsH.of 23 Tryd.func87 rfl Tryd.ntmps87 rfl (fun w0 => ?_)
  refine CW.seq ?_
  refine CW.region ?_
  refine box_elim hh (fun m_1 hm_1 hh => ?_)
  refine .e (e_boxP hm_1 rfl rfl rfl ?_)
  refine .val (v_assign (v := reg (false : Bool)) rfl) rfl ?_
  refine .nil ?_
  refine QN.then_ ?_
  refine CW.seq ?_
  refine CW.region ?_
  refine .val (v_fieldAddr fl_110_0 rfl) rfl ?_
  obtain ⟨t4, ⟨xt4, hxt4, hgt4⟩, hh⟩ := hh
  refine .val (v_ld1 (p := m_1) 0 na_3 rfl hxt4 hgt4 get_110_Id) rfl ?_
  refine .val (v_igeq rfl rfl) rfl ?_
  refine .val (v_move (v := reg ((decide ((1 : Int) ≤ t4)) : Bool)) rfl) rfl ?_
  refine .tv 6 rfl rfl rfl (fun hb => v_fieldAddr fl_110_0 rfl) rfl ?_
  obtain ⟨t8, ⟨xt8, hxt8, hgt8⟩, hh⟩ := hh
  refine .tv 6 rfl rfl rfl (fun hb => v_ld1 (p := m_1) 0 na_3 (gt hb) hxt8 hgt8 get_110_Id) rfl ?_
  refine .tv 6 rfl rfl rfl (fun hb => v_ileq (gt hb) rfl) rfl ?_
  refine .val (v_pick_and rfl (fun hb => gt hb) rfl) rfl ?_
  refine .val (v_move (v := reg (((decide ((1 : Int) ≤ t4)) && (decide (t8 ≤ (63 : Int)))) : Bool)) rfl) rfl ?_
  refine .tv 11 rfl rfl rfl (fun hb => v_fieldAddr fl_110_1 rfl) rfl ?_
  refine .tv 11 rfl rfl rfl (fun hb => v_fieldAddr fl_107_1 (gt hb)) rfl ?_
  obtain ⟨t14, ⟨xt14, hxt14, hgt14⟩, hh⟩ := hh
  refine .tv 11 rfl rfl rfl (fun hb => v_ld1 (p := m_1) 33 na_3 (gt hb) hxt14 hgt14 get_110_Key_Height) rfl ?_
  refine .tv 11 rfl rfl rfl (fun hb => v_igeq (gt hb) rfl) rfl ?_
  refine .val (v_pick_and rfl (fun hb => gt hb) rfl) rfl ?_
  refine .val (v_move (v := reg ((((decide ((1 : Int) ≤ t4)) && (decide (t8 ≤ (63 : Int)))) && (decide ((0 : Int) ≤ t14))) : Bool)) rfl) rfl ?_
  refine .tv 17 rfl rfl rfl (fun hb => v_fieldAddr fl_110_1 rfl) rfl ?_
  refine .tv 17 rfl rfl rfl (fun hb => v_fieldAddr fl_107_1 (gt hb)) rfl ?_
  obtain ⟨t20, ⟨xt20, hxt20, hgt20⟩, hh⟩ := hh
  refine .tv 17 rfl rfl rfl (fun hb => v_ld1 (p := m_1) 33 na_3 (gt hb) hxt20 hgt20 get_110_Key_Height) rfl ?_
  refine .tv 17 rfl rfl rfl (fun hb => v_ileq (gt hb) rfl) rfl ?_
  refine .val (v_pick_and rfl (fun hb => gt hb) rfl) rfl ?_
  refine .val (v_assign (v := reg (((((decide ((1 : Int) ≤ t4)) && (decide (t8 ≤ (63 : Int)))) && (decide ((0 : Int) ≤ t14))) && (decide (t20 ≤ (6 : Int)))) : Bool)) rfl) rfl ?_
  refine .nil ?_
  refine QN.then_ ?_
  refine CW.ret ?_
  exact ret1 rfl rfl ⟨(((((decide ((1 : Int) ≤ t4)) && (decide (t8 ≤ (63 : Int)))) && (decide ((0 : Int) ≤ t14))) && (decide (t20 ≤ (6 : Int)))) : Bool), rfl, hh⟩
end Go.Proofs.YtimmoekliphobaaDoor
namespace Go.Proofs.YtimmoekliphobaaDoor
open Go Go.Sh
open Go.Sh.Ty (reg)
set_option linter.unusedVariables false
set_option maxRecDepth 100000
set_option maxHeartbeats 4000000
theorem config_Quorum.ok (c : api_Config) (k : Int → H → Prop) (h : H) (hh : config_Quorum.b c k h) : CallsH Prog 114 [reg c].toArray h fun v h' => ∃ r : Int, v = reg r ∧ k r h' := by
  unfold config_Quorum.b at hh
  refine CallsH.of 11 Tryd.func114 rfl Tryd.ntmps114 rfl (fun w0 => ?_)
  refine CW.seq ?_
  refine CW.region ?_
  refine box_elim hh (fun c_1 hc_1 hh => ?_)
  refine .e (e_boxP hc_1 rfl rfl rfl ?_)
  refine .val (v_assign (v := reg ((0 : Int) : Int)) rfl) rfl ?_
  refine .nil ?_
  refine QN.then_ ?_
  refine CW.seq ?_
  refine CW.drawN 9 rfl follows_mixed [0, 1, 2, 3, 5, 6, 7, 8] ?_
  refine .p 0 rfl (by kernel_rfl) (NoPanic.then_ (NoPanic.body)) (fun _ => v_fieldAddr fl_54_1 rfl) ?_
  obtain ⟨t4, ⟨xt4, hxt4, hgt4⟩, hh⟩ := hh
  refine .r 1 (fun h' => ∃ x : api_Config, AtH h' c_1 (enc x) ∧ ((fun (x : api_Config) => x.Members) : api_Config → Sl) x = t4) rfl (by kernel_rfl) (NoPanic.then_ (NoPanic.body)) ⟨xt4, hxt4, hgt4⟩ (fun h' hS => hS.elim fun _ hS => v_ld1 (p := c_1) 1 na_52 rfl hS.1 hS.2 get_54_Members) ?_
  refine .p 2 rfl (by kernel_rfl) (NoPanic.then_ (NoPanic.body)) (fun _ => v_len_sl (sl_52).1 rfl) ?_
  obtain ⟨t6, ⟨xt6, hxt6, hgt6⟩, hh⟩ := hh
  refine .r 3 (fun h' => ∃ x : api_Config, AtH h' c_1 (enc x) ∧ ((fun (x : api_Config) => x) : api_Config → api_Config) x = t6) rfl (by kernel_rfl) (NoPanic.then_ (NoPanic.body)) ⟨xt6, hxt6, hgt6⟩ (fun h' hS => hS.elim fun _ hS => v_ldA (p := c_1) 0 ag_54 rfl hS.1 hS.2 get_54_all (fun _ => (len_api_Config _)) (fun _ => rfl)) ?_
  refine .w 4 (by kernel_rfl) rfl (by kernel_rfl) (.e (e_callP fn_53 rfl rfl hh ?_))
  intro h t7 hh
  obtain ⟨hc, hh⟩ := hh
  refine ⟨⟨⟨trivial, .inr hc⟩, .inl (by kernel_rfl)⟩, ?_⟩
  refine .p 5 rfl (by kernel_rfl) (NoPanic.then_ (NoPanic.body)) (fun _ => v_iadd rfl rfl) ?_
  refine .p 6 rfl (by kernel_rfl) (NoPanic.then_ (NoPanic.body)) (fun _ => v_iquo rfl rfl (by decide)) ?_
  refine .p 7 rfl (by kernel_rfl) (NoPanic.then_ (NoPanic.body)) (fun _ => v_iadd rfl rfl) ?_
  refine .p 8 rfl (by kernel_rfl) (NoPanic.then_ (NoPanic.body)) (fun _ => v_assign (v := reg ((iadd (iquo (iadd (t4.len : Int) t7) (2 : Int)) (1 : Int)) : Int)) rfl) ?_
  refine .done (by kernel_rfl) ?_
  refine QN.then_ ?_
  refine CW.ret ?_
  exact ret1 rfl rfl ⟨((iadd (iquo (iadd (t4.len : Int) t7) (2 : Int)) (1 : Int)) : Int), rfl, hh⟩
end Go.Proofs.YtimmoekliphobaaDoor
namespace Go.Proofs.YtimmoekliphobaaDoor
open Go Go.Sh
open Go.Sh.Ty (reg)
set_option linter.unusedVariables false
set_option maxRecDepth 100000
set_option maxHeartbeats 4000000
theorem config_Weak.ok (c : api_Config) (k : Int → H → Prop) (h : H) (hh : config_Weak.b c k h) : CallsH Prog 133 [reg c].toArray h fun v h' => ∃ r : Int, v = reg r ∧ k r h' := by
  unfold config_Weak.b at hh
  refine CallsH.of 6 Tryd.func133 rfl Tryd.ntmps133 rfl (fun w0 => ?_)
  refine CW.seq ?_
  refine CW.region ?_
  refine box_elim hh (fun c_1 hc_1 hh => ?_)
  refine .e (e_boxP hc_1 rfl rfl rfl ?_)
  refine .val (v_assign (v := reg ((0 : Int) : Int)) rfl) rfl ?_
  refine .nil ?_
  refine QN.then_ ?_
  refine CW.seq ?_
  refine CW.region ?_
  obtain ⟨t3, ⟨xt3, hxt3, hgt3⟩, hh⟩ := hh
  refine .val (v_ldA (p := c_1) 0 ag_54 rfl hxt3 hgt3 get_54_all (fun _ => (len_api_Config _)) (fun _ => rfl)) rfl ?_
  refine .e (e_callP fn_53 rfl rfl hh ?_)
  intro h t4 hh
  refine .val (v_iadd rfl rfl) rfl ?_
  refine .val (v_assign (v := reg ((iadd t4 (1 : Int)) : Int)) rfl) rfl ?_
  refine .nil ?_
  refine QN.then_ ?_
  refine CW.ret ?_
  exact ret1 rfl rfl ⟨((iadd t4 (1 : Int)) : Int), rfl, hh⟩
end Go.Proofs.YtimmoekliphobaaDoor
namespace Go.Proofs.YtimmoekliphobaaDoor
open Go Go.Sh
open Go.Sh.Ty (reg)
set_option linter.unusedVariables false
set_option maxRecDepth 100000

theorem Faults_spec (c : api_Config) (n : Nat) (hl : c.Members.len = n) (hn : n < 2 ^ 40) {k : Int → H → Prop} {h : H} (hk : ∀ h', Ext h h' → k (((n - 1) / 3 : Nat) : Int) h') : call (β := Int) Prog 53 [reg (c : api_Config)] k h := by
  refine config_Faults.ok _ _ _ ?_
  unfold config_Faults.b
  refine (Sat.init h).box_ (fun p h1 hs1 _ _ => ?_)
  refine hs1.ld_ 0 rfl ?_
  have e : iquo (imax (isub (c.Members.len : Int) 1) 0) 3 = (((n - 1) / 3 : Nat) : Int) := by
    rw [hl, isub_eq (by omega) (by omega)]
    have e1 : imax ((n : Int) - 1) 0 = ((n - 1 : Nat) : Int) := by unfold imax; split <;> omega
    rw [e1, iquo_eq (by omega) (by omega) (by omega)]
    omega
  rw [e]
  exact hk _ hs1.fr
def quoN (n : Nat) : Nat := (n + (n - 1) / 3) / 2 + 1
theorem Quorum_spec (c : api_Config) (n : Nat) (hl : c.Members.len = n) (hn : n < 2 ^ 40) {k : Int → H → Prop} {h : H} (hk : ∀ h', Ext h h' → k ((quoN n : Nat) : Int) h') : call (β := Int) Prog 114 [reg (c : api_Config)] k h := by
  refine config_Quorum.ok _ _ _ ?_
  unfold config_Quorum.b
  refine (Sat.init h).box_ (fun p h1 hs1 _ _ => ?_)
  refine hs1.ld_ 0 rfl ?_
  refine hs1.ld_ 0 rfl ?_
  refine Faults_spec c n hl hn (fun h2 hx2 => ?_)
  have hs2 := hs1.ext hx2
  refine hs2.chk_ 0 rfl rfl ?_
  have e : iadd (iquo (iadd (c.Members.len : Int) (((n - 1) / 3 : Nat) : Int)) 2) 1 = ((quoN n : Nat) : Int) := by
    rw [hl, iadd_eq (a := (n : Int)) (b := (((n - 1) / 3 : Nat) : Int)) (by omega) (by omega), iquo_eq (a := (n : Int) + (((n - 1) / 3 : Nat) : Int)) (by omega) (by omega) (by omega), iadd_eq (by omega) (by omega)]
    unfold quoN; omega
  rw [e]
  exact hk _ hs2.fr
theorem Weak_spec (c : api_Config) (n : Nat) (hl : c.Members.len = n) (hn : n < 2 ^ 40) {k : Int → H → Prop} {h : H} (hk : ∀ h', Ext h h' → k (((n - 1) / 3 + 1 : Nat) : Int) h') : call (β := Int) Prog 133 [reg (c : api_Config)] k h := by
  refine config_Weak.ok _ _ _ ?_
  unfold config_Weak.b
  refine (Sat.init h).box_ (fun p h1 hs1 _ _ => ?_)
  refine hs1.ld_ 0 rfl ?_
  refine Faults_spec c n hl hn (fun h2 hx2 => ?_)
  have hs2 := hs1.ext hx2
  have e : iadd (((n - 1) / 3 : Nat) : Int) 1 = (((n - 1) / 3 + 1 : Nat) : Int) := by rw [iadd_eq (by omega) (by omega)]; omega
  rw [e]
  exact hk _ hs2.fr
def rightM (m : api_Member) : Bool := (((decide ((1 : Int) ≤ m.Id)) && (decide (m.Id ≤ (63 : Int)))) && (decide ((0 : Int) ≤ m.Key.Height))) && (decide (m.Key.Height ≤ (6 : Int)))
theorem right_spec (m : api_Member) {k : Bool → H → Prop} {h : H} (hk : ∀ h', Ext h h' → k (rightM m) h') : call (β := Bool) Prog 87 [reg (m : api_Member)] k h := by
  refine config_right.ok _ _ _ ?_
  unfold config_right.b
  refine (Sat.init h).box_ (fun p h1 hs1 _ _ => ?_)
  refine hs1.ld_ 0 rfl (hs1.ld_ 0 rfl (hs1.ld_ 0 rfl (hs1.ld_ 0 rfl ?_)))
  exact hk _ hs1.fr
def memAt (ms : List api_Member) (i : Nat) : api_Member := ms.getD i api_Member.zero
def goodAt (ms : List api_Member) (i : Nat) : Bool := rightM (memAt ms i) && (decide (i = 0) || decide ((memAt ms (i - 1)).Id < (memAt ms i).Id))
def goodC (e : Int) (ms : List api_Member) : Bool := decide (0 ≤ e ∧ e ≤ 1073741824 ∧ ms ≠ [] ∧ ms.length ≤ 10) && (List.range ms.length).all (goodAt ms)
theorem CGood_spec (c : api_Config) (ms : List api_Member) {k : Bool → H → Prop} {h : H} (hv : SVz 34 h c.Members ms) (hk : ∀ h', Ext h h' → k (goodC c.Epoch ms) h') : call (β := Bool) Prog 54 [reg (c : api_Config)] k h := by
  refine config_Good.ok _ _ _ ?_
  unfold config_Good.b
  refine (Sat.init h).box_ (fun p h1 hs1 _ _ => ?_)
  refine hs1.ld_ 0 rfl (hs1.ld_ 0 rfl (hs1.ld_ 0 rfl (hs1.ld_ 0 rfl ?_)))
  have hlen : c.Members.len = ms.length := hv.1
  have hne : ms = [] ↔ ms.length = 0 := by cases ms <;> simp
  refine ifb_i (fun hc => ?_) (fun hc => ?_)
  · have e : goodC c.Epoch ms = false := by
      unfold goodC
      rw [decide_eq_false, Bool.false_and]
      simp only [Bool.or_eq_true, decide_eq_true_eq, beq_iff_eq] at hc
      rw [ne_eq, hne]
      omega
    have := hk _ hs1.fr
    rw [e] at this; exact this
  · have hgd : 0 ≤ c.Epoch ∧ c.Epoch ≤ 1073741824 ∧ ms ≠ [] ∧ ms.length ≤ 10 := by
      simp only [Bool.or_eq_false_iff, decide_eq_false_iff_not, beq_eq_false_iff_ne] at hc
      rw [ne_eq, hne]
      omega
    refine hs1.ld_ 0 rfl ?_
    unfold config_Good.l1
    refine ⟨fun (t : Int) h' => ∃ i : Nat, t = i ∧ i ≤ ms.length ∧ Sat h [] h' [cel 54 p (enc c)] ∧ (List.range i).all (goodAt ms) = true, fun t _ => (ms.length - t).toNat, ⟨0, rfl, Nat.zero_le _, hs1, rfl⟩, ?_⟩
    clear hs1
    rintro t h2 ⟨i, rfl, hi, hs2, hall⟩
    refine ifb_i (fun hc1 => ?_) (fun hc1 => ?_)
    · have hi' : i < ms.length := by have : (i : Int) < c.Members.len := by simpa using hc1
                                     omega
      have hgi : ms[i]? = some (memAt ms i) := by simp [memAt, List.getElem?_eq_getElem hi']
      have hbad : goodAt ms i = false → goodC c.Epoch ms = false := by
        intro hb
        unfold goodC
        rw [show (List.range ms.length).all (goodAt ms) = false from ?_, Bool.and_false]
        rw [List.all_eq_false]
        exact ⟨i, by simpa using hi', by rw [hb]; decide⟩
      have hok : goodAt ms i = true → (List.range (i + 1)).all (goodAt ms) = true := by
        intro hb
        rw [List.range_succ, List.all_append, hall]
        simp [hb]
      have e3 : iadd (i : Int) 1 = ((i + 1 : Nat) : Int) := by rw [iadd_eq (by omega) (by omega)]; omega
      refine sidx_ldz len_api_Member (hv.ext hs2.fr) (Int.natCast_nonneg _) (by rw [Int.toNat_natCast]; exact hgi) ?_
      refine hs2.box_ (fun m h3 hs3 _ _ => ?_)
      refine hs3.st_ 0 rfl len_api_Member (fun h4 hs4 _ => ?_)
      refine hs4.ld_ 0 rfl ?_
      refine right_spec _ (fun h5 hx5 => ?_)
      have hs5 := hs4.ext hx5
      unfold config_Good.j2
      have hback : ∀ {h' L'}, Sat h [] h' (L' :: [cel 54 p (enc c)]) → Sat h [] h' [cel 54 p (enc c)] := fun hs => hs.drop (List.sublist_cons_self _ _)
      refine ifb_i (fun hr => ?_) (fun hr => ?_)
      · refine ifb_i (fun _ => ?_) (fun hc => by cases hc)
        have hb : goodAt ms i = false := by unfold goodAt; rw [show rightM (memAt ms i) = false by simpa using hr]; rfl
        have := hk _ hs5.fr
        rw [hbad hb] at this; exact this
      · have hr' : rightM (memAt ms i) = true := by simpa using hr
        refine ifb_i (fun h0 => ?_) (fun h0 => ?_)
        · have h0' : 0 < i := by have : (0 : Int) < i := by simpa using h0
                                 omega
          refine hs5.ld_ 1 rfl ?_
          have e1 : isub (i : Int) 1 = ((i - 1 : Nat) : Int) := by rw [isub_eq (by omega) (by omega)]; omega
          rw [e1]
          refine sidx_ldz len_api_Member (hv.ext hs5.fr) (Int.natCast_nonneg _) (x := memAt ms (i - 1)) (by rw [Int.toNat_natCast]; simp [memAt, List.getElem?_eq_getElem (show i - 1 < ms.length by omega)]) ?_
          refine hs5.ld_ 0 rfl ?_
          have eg : goodAt ms i = decide ((memAt ms (i - 1)).Id < (memAt ms i).Id) := by
            unfold goodAt; rw [hr', decide_eq_false (show ¬ i = 0 by omega)]; simp
          refine ifb_i (fun hb => ?_) (fun hb => ?_)
          · have := hk _ hs5.fr
            rw [hbad (by rw [eg]; simp only [decide_eq_true_eq] at hb; exact decide_eq_false (by omega))] at this; exact this
          · rw [e3]
            refine ⟨⟨i + 1, rfl, hi', hback hs5, hok (by rw [eg]; simp only [decide_eq_false_iff_not] at hb; exact decide_eq_true (by omega))⟩, by dsimp only; omega⟩
        · have h0' : i = 0 := by have : ¬ (0 : Int) < i := by simpa using h0
                                 omega
          refine ifb_i (fun hc => by cases hc) (fun _ => ?_)
          rw [e3]
          refine ⟨⟨i + 1, rfl, hi', hback hs5, hok (by unfold goodAt; rw [hr', h0']; rfl)⟩, by dsimp only; omega⟩
    · have hi' : i = ms.length := by
        have : ¬ (i : Int) < c.Members.len := by simpa using hc1
        omega
      subst hi'
      unfold config_Good.j1
      have e : goodC c.Epoch ms = true := by unfold goodC; rw [decide_eq_true hgd, hall]; rfl
      have := hk _ hs2.fr
      rw [e] at this; exact this
end Go.Proofs.YtimmoekliphobaaDoor
namespace Go.Proofs.YtimmoekliphobaaDoor
open Go Go.Sh
open Go.Sh.Ty (reg)
set_option linter.unusedVariables false
set_option maxRecDepth 100000
set_option maxHeartbeats 4000000
theorem rank_At.ok (height : Int) (round : Int) (k : Cx → H → Prop) (h : H) (hh : rank_At.b height round k h) : CallsH Prog 30 [reg height, reg round].toArray h fun v h' => ∃ r : Cx, v = reg r ∧ k r h' := by
  unfold rank_At.b at hh
  refine CallsH.of 10 Tryd.func30 rfl Tryd.ntmps30 rfl (fun w0 => ?_)
  refine CW.seq ?_
  refine CW.region ?_
  refine .val (v_assign (v := reg ((⟨0, 0⟩ : Cx) : Cx)) rfl) rfl ?_
  refine .nil ?_
  refine QN.then_ ?_
  refine CW.seq ?_
  refine CW.region ?_
  refine .val (v_move (v := reg (height : Int)) rfl) rfl ?_
  refine .val (v_conv_fl un_3 un_141 rfl) rfl ?_
  refine .val (v_move (v := reg (round : Int)) rfl) rfl ?_
  refine .val (v_conv_fl un_3 un_141 rfl) rfl ?_
  refine .val (v_complex rfl rfl) rfl ?_
  refine .val (v_assign (v := reg ((⟨(fnear height).b, (fnear round).b⟩ : Cx) : Cx)) rfl) rfl ?_
  refine .nil ?_
  refine QN.then_ ?_
  refine CW.ret ?_
  exact ret1 rfl rfl ⟨((⟨(fnear height).b, (fnear round).b⟩ : Cx) : Cx), rfl, hh⟩
end Go.Proofs.YtimmoekliphobaaDoor
namespace Go.Proofs.YtimmoekliphobaaDoor
open Go Go.Sh
open Go.Sh.Ty (reg)
set_option linter.unusedVariables false
set_option maxRecDepth 100000
set_option maxHeartbeats 4000000
theorem rank_whole.ok (x : Fl) (lo : Int) (hi : Int) (k : Bool → H → Prop) (h : H) (hh : rank_whole.b x lo hi k h) : CallsH Prog 88 [reg x, reg lo, reg hi].toArray h fun v h' => ∃ r : Bool, v = reg r ∧ k r h' := by
  unfold rank_whole.b at hh
  refine CallsH.of 24 Tryd.func88 rfl Tryd.ntmps88 rfl (fun w0 => ?_)
  refine CW.seq ?_
  refine CW.region ?_
  refine .val (v_assign (v := reg (false : Bool)) rfl) rfl ?_
  refine .nil ?_
  refine QN.then_ ?_
  refine CW.join (fun ρ h => ∃ (ρ' : Env) (t6 : Bool), ρ = setl ρ' [(6, reg (t6 : Bool))] ∧ (rank_whole.j1 k) t6 h) ?_ ?_
  · refine CW.region ?_
    refine .val (v_move (v := reg (x : Fl)) rfl) rfl ?_
    refine .val (v_move (v := reg (lo : Int)) rfl) rfl ?_
    refine .val (v_conv_fl un_3 un_141 rfl) rfl ?_
    refine .val (v_fgeq rfl rfl) rfl ?_
    refine .val (v_move (v := reg ((fge x (fnear lo)) : Bool)) rfl) rfl ?_
    refine .tv 11 rfl rfl rfl (fun hb => v_move (v := reg (x : Fl)) rfl) rfl ?_
    refine .tv 11 rfl rfl rfl (fun hb => v_move (v := reg (hi : Int)) rfl) rfl ?_
    refine .tv 11 rfl rfl rfl (fun hb => v_conv_fl un_3 un_141 (gt hb)) rfl ?_
    refine .tv 11 rfl rfl rfl (fun hb => v_fleq (gt hb) (gt hb)) rfl ?_
    refine .val (v_pick_and rfl (fun hb => gt hb) rfl) rfl ?_
    refine .val (v_move (v := reg (((fge x (fnear lo)) && (fle x (fnear hi))) : Bool)) rfl) rfl ?_
    refine ifb_cases hh (fun hb hh => ?_) (fun hb hh => ?_)
    · refine .yv 17 rfl (congrArg Value.bool hb) rfl (v_move (v := reg (x : Fl)) rfl) rfl ?_
      refine .yv 17 rfl (congrArg Value.bool hb) rfl (v_move (v := reg (x : Fl)) rfl) rfl ?_
      obtain ⟨t20, ht20, hh⟩ := hh
      refine .yv 17 rfl (congrArg Value.bool hb) rfl (v_conv_cut un_141 un_3 rfl ht20) rfl ?_
      refine .yv 17 rfl (congrArg Value.bool hb) rfl (v_conv_fl un_3 un_141 rfl) rfl ?_
      refine .yv 17 rfl (congrArg Value.bool hb) rfl (v_feql rfl rfl) rfl ?_
      refine .val (v_pickT (v := reg ((feq x (fnear t20)) : Bool)) rfl hb rfl) rfl ?_
      refine .val (v_assign (v := reg ((feq x (fnear t20)) : Bool)) rfl) rfl ?_
      refine .nil ?_
      exact QN.thenJ ⟨_, (feq x (fnear t20)), setl_eq ⟨rfl, trivial⟩, hh⟩
    · refine .no 17 rfl (congrArg Value.bool hb) rfl rfl ?_
      refine .no 17 rfl (congrArg Value.bool hb) rfl rfl ?_
      refine .no 17 rfl (congrArg Value.bool hb) rfl rfl ?_
      refine .no 17 rfl (congrArg Value.bool hb) rfl rfl ?_
      refine .no 17 rfl (congrArg Value.bool hb) rfl rfl ?_
      refine .val (v_pickF (v := reg (false : Bool)) rfl hb rfl) rfl ?_
      refine .val (v_assign (v := reg (false : Bool)) rfl) rfl ?_
      refine .nil ?_
      exact QN.thenJ ⟨_, false, setl_eq ⟨rfl, trivial⟩, hh⟩
  · rintro ρ h ⟨ρ', t6, rfl, hh⟩
    unfold rank_whole.j1 at hh
    refine CW.ret ?_
    exact ret1 rfl rfl ⟨(t6 : Bool), rfl, hh⟩
end Go.Proofs.YtimmoekliphobaaDoor
namespace Go.Proofs.YtimmoekliphobaaDoor
open Go Go.Sh
open Go.Sh.Ty (reg)
set_option linter.unusedVariables false
set_option maxRecDepth 100000
set_option maxHeartbeats 4000000
theorem rank_Good.ok (r : Cx) (k : Bool → H → Prop) (h : H) (hh : rank_Good.b r k h) : CallsH Prog 55 [reg r].toArray h fun v h' => ∃ r : Bool, v = reg r ∧ k r h' := by
  unfold rank_Good.b at hh
  refine CallsH.of 11 Tryd.func55 rfl Tryd.ntmps55 rfl (fun w0 => ?_)
  refine CW.seq ?_
  refine CW.region ?_
  refine .val (v_assign (v := reg (false : Bool)) rfl) rfl ?_
  refine .nil ?_
  refine QN.then_ ?_
  refine CW.join (fun ρ h => ∃ (ρ' : Env) (t2 : Bool), ρ = setl ρ' [(2, reg (t2 : Bool))] ∧ (rank_Good.j1 k) t2 h) ?_ ?_
  · refine CW.region ?_
    refine .val (v_move (v := reg (r : Cx)) rfl) rfl ?_
    refine .val (v_real rfl) rfl ?_
    refine .e (e_callP fn_88 rfl rfl hh ?_)
    intro h t5 hh
    refine .val (v_move (v := reg (t5 : Bool)) rfl) rfl ?_
    refine ifb_cases hh (fun hb hh => ?_) (fun hb hh => ?_)
    · refine .yv 6 rfl (congrArg Value.bool hb) rfl (v_move (v := reg (r : Cx)) rfl) rfl ?_
      refine .yv 6 rfl (congrArg Value.bool hb) rfl (v_imag rfl) rfl ?_
      refine .ye 6 rfl (congrArg Value.bool hb) rfl (e_callP fn_88 rfl rfl hh ?_)
      intro h t9 hh
      refine .val (v_pickT (v := reg (t9 : Bool)) rfl hb rfl) rfl ?_
      refine .val (v_assign (v := reg (t9 : Bool)) rfl) rfl ?_
      refine .nil ?_
      exact QN.thenJ ⟨_, t9, setl_eq ⟨rfl, trivial⟩, hh⟩
    · refine .no 6 rfl (congrArg Value.bool hb) rfl rfl ?_
      refine .no 6 rfl (congrArg Value.bool hb) rfl rfl ?_
      refine .no 6 rfl (congrArg Value.bool hb) rfl rfl ?_
      refine .val (v_pickF (v := reg (false : Bool)) rfl hb rfl) rfl ?_
      refine .val (v_assign (v := reg (false : Bool)) rfl) rfl ?_
      refine .nil ?_
      exact QN.thenJ ⟨_, false, setl_eq ⟨rfl, trivial⟩, hh⟩
  · rintro ρ h ⟨ρ', t2, rfl, hh⟩
    unfold rank_Good.j1 at hh
    refine CW.ret ?_
    exact ret1 rfl rfl ⟨(t2 : Bool), rfl, hh⟩
end Go.Proofs.YtimmoekliphobaaDoor
namespace Go.Proofs.YtimmoekliphobaaDoor
open Go Go.Sh
open Go.Sh.Ty (reg)
set_option linter.unusedVariables false
set_option maxRecDepth 100000
set_option maxHeartbeats 4000000
theorem rank_Round.ok (r : Cx) (k : Int → H → Prop) (h : H) (hh : rank_Round.b r k h) : CallsH Prog 65 [reg r].toArray h fun v h' => ∃ r : Int, v = reg r ∧ k r h' := by
  unfold rank_Round.b at hh
  refine CallsH.of 9 Tryd.func65 rfl Tryd.ntmps65 rfl (fun w0 => ?_)
  refine CW.seq ?_
  refine CW.region ?_
  refine .val (v_assign (v := reg ((0 : Int) : Int)) rfl) rfl ?_
  refine .nil ?_
  refine QN.then_ ?_
  refine CW.seq ?_
  refine CW.seq ?_
  refine CW.region ?_
  refine .val (v_move (v := reg (r : Cx)) rfl) rfl ?_
  refine .e (e_callP fn_55 rfl rfl hh ?_)
  intro h t4 hh
  refine .val (v_not rfl) rfl ?_
  refine .nil ?_
  refine QN.then_ ?_
  refine CW.cond (!t4) rfl (fun hb => ?_) (fun hb => ?_)
  · have hh := hh.1 hb
    refine CW.seq ?_
    refine CW.region ?_
    refine .val (v_assign (v := reg ((0 : Int) : Int)) rfl) rfl ?_
    refine .nil ?_
    refine QN.then_ ?_
    refine CW.ret ?_
    refine QN.thenRet ?_
    exact ret1 rfl rfl ⟨((0 : Int) : Int), rfl, hh⟩
  · have hh := hh.2 hb
    refine CW.skip ?_
    refine QN.then_ ?_
    refine CW.seq ?_
    refine CW.region ?_
    refine .val (v_move (v := reg (r : Cx)) rfl) rfl ?_
    refine .val (v_imag rfl) rfl ?_
    obtain ⟨t8, ht8, hh⟩ := hh
    refine .val (v_conv_cut un_141 un_3 rfl ht8) rfl ?_
    refine .val (v_assign (v := reg (t8 : Int)) rfl) rfl ?_
    refine .nil ?_
    refine QN.then_ ?_
    refine CW.ret ?_
    exact ret1 rfl rfl ⟨(t8 : Int), rfl, hh⟩
end Go.Proofs.YtimmoekliphobaaDoor
namespace Go.Proofs.YtimmoekliphobaaDoor
open Go Go.Sh
open Go.Sh.Ty (reg)
set_option linter.unusedVariables false
set_option maxRecDepth 100000
set_option maxHeartbeats 4000000
theorem rank_Height.ok (r : Cx) (k : Int → H → Prop) (h : H) (hh : rank_Height.b r k h) : CallsH Prog 68 [reg r].toArray h fun v h' => ∃ r : Int, v = reg r ∧ k r h' := by
  unfold rank_Height.b at hh
  refine CallsH.of 9 Tryd.func68 rfl Tryd.ntmps68 rfl (fun w0 => ?_)
  refine CW.seq ?_
  refine CW.region ?_
  refine .val (v_assign (v := reg ((0 : Int) : Int)) rfl) rfl ?_
  refine .nil ?_
  refine QN.then_ ?_
  refine CW.seq ?_
  refine CW.seq ?_
  refine CW.region ?_
  refine .val (v_move (v := reg (r : Cx)) rfl) rfl ?_
  refine .e (e_callP fn_55 rfl rfl hh ?_)
  intro h t4 hh
  refine .val (v_not rfl) rfl ?_
  refine .nil ?_
  refine QN.then_ ?_
  refine CW.cond (!t4) rfl (fun hb => ?_) (fun hb => ?_)
  · have hh := hh.1 hb
    refine CW.seq ?_
    refine CW.region ?_
    refine .val (v_assign (v := reg ((0 : Int) : Int)) rfl) rfl ?_
    refine .nil ?_
    refine QN.then_ ?_
    refine CW.ret ?_
    refine QN.thenRet ?_
    exact ret1 rfl rfl ⟨((0 : Int) : Int), rfl, hh⟩
  · have hh := hh.2 hb
    refine CW.skip ?_
    refine QN.then_ ?_
    refine CW.seq ?_
    refine CW.region ?_
    refine .val (v_move (v := reg (r : Cx)) rfl) rfl ?_
    refine .val (v_real rfl) rfl ?_
    obtain ⟨t8, ht8, hh⟩ := hh
    refine .val (v_conv_cut un_141 un_3 rfl ht8) rfl ?_
    refine .val (v_assign (v := reg (t8 : Int)) rfl) rfl ?_
    refine .nil ?_
    refine QN.then_ ?_
    refine CW.ret ?_
    exact ret1 rfl rfl ⟨(t8 : Int), rfl, hh⟩
end Go.Proofs.YtimmoekliphobaaDoor
namespace Go.Proofs.YtimmoekliphobaaDoor
open Go Go.Sh
open Go.Sh.Ty (reg)
set_option linter.unusedVariables false
set_option maxRecDepth 100000
set_option maxHeartbeats 4000000
theorem rank_Leader.ok (n : Int) (r : Cx) (k : Int → H → Prop) (h : H) (hh : rank_Leader.b n r k h) : CallsH Prog 29 [reg n, reg r].toArray h fun v h' => ∃ r : Int, v = reg r ∧ k r h' := by
  unfold rank_Leader.b at hh
  refine CallsH.of 22 Tryd.func29 rfl Tryd.ntmps29 rfl (fun w0 => ?_)
  refine CW.seq ?_
  refine CW.region ?_
  refine .val (v_assign (v := reg ((0 : Int) : Int)) rfl) rfl ?_
  refine .nil ?_
  refine QN.then_ ?_
  refine CW.seq ?_
  refine CW.join (fun ρ h => ∃ (ρ' : Env) (t12 : Bool), ρ = setl ρ' [(0, reg (n : Int)), (1, reg (r : Cx)), (12, reg (t12 : Bool))] ∧ (rank_Leader.j1 k) n r t12 h) ?_ ?_
  · refine CW.region ?_
    refine .val (v_move (v := reg (n : Int)) rfl) rfl ?_
    refine .val (v_ilss rfl rfl) rfl ?_
    refine .val (v_move (v := reg ((decide (n < (1 : Int))) : Bool)) rfl) rfl ?_
    refine ifb_cases hh (fun hb hh => ?_) (fun hb hh => ?_)
    · refine .no 8 rfl (congrArg Value.bool hb) rfl rfl ?_
      refine .no 8 rfl (congrArg Value.bool hb) rfl rfl ?_
      refine .no 8 rfl (congrArg Value.bool hb) rfl rfl ?_
      refine .val (v_pickT (v := reg (true : Bool)) rfl hb rfl) rfl ?_
      refine .nil ?_
      exact QN.thenJ ⟨_, true, setl_eq ⟨rfl, ⟨rfl, ⟨rfl, trivial⟩⟩⟩, hh⟩
    · refine .yv 8 rfl (congrArg Value.bool hb) rfl (v_move (v := reg (r : Cx)) rfl) rfl ?_
      refine .ye 8 rfl (congrArg Value.bool hb) rfl (e_callP fn_55 rfl rfl hh ?_)
      intro h t10 hh
      refine .yv 8 rfl (congrArg Value.bool hb) rfl (v_not rfl) rfl ?_
      refine .val (v_pickF (v := reg ((!t10) : Bool)) rfl hb rfl) rfl ?_
      refine .nil ?_
      exact QN.thenJ ⟨_, (!t10), setl_eq ⟨rfl, ⟨rfl, ⟨rfl, trivial⟩⟩⟩, hh⟩
  · rintro ρ h ⟨ρ', t12, rfl, hh⟩
    unfold rank_Leader.j1 at hh
    refine CW.cond t12 rfl (fun hb_1 => ?_) (fun hb_1 => ?_)
    · have hh := hh.1 hb_1
      refine CW.seq ?_
      refine CW.region ?_
      refine .val (v_assign (v := reg ((0 : Int) : Int)) rfl) rfl ?_
      refine .nil ?_
      refine QN.then_ ?_
      refine CW.ret ?_
      refine QN.thenRet ?_
      exact ret1 rfl rfl ⟨((0 : Int) : Int), rfl, hh⟩
    · have hh := hh.2 hb_1
      refine CW.skip ?_
      refine QN.then_ ?_
      refine CW.seq ?_
      refine CW.region ?_
      refine .val (v_move (v := reg (r : Cx)) rfl) rfl ?_
      refine .val (v_real rfl) rfl ?_
      refine .val (v_move (v := reg (r : Cx)) rfl) rfl ?_
      refine .val (v_imag rfl) rfl ?_
      obtain ⟨t17, ht17, hh⟩ := hh
      refine .val (v_fadd rfl rfl ht17) rfl ?_
      refine .val (v_assign (v := reg (t17 : Fl)) rfl) rfl ?_
      refine .nil ?_
      refine QN.then_ ?_
      refine CW.seq ?_
      refine CW.region ?_
      refine .val (v_move (v := reg (t17 : Fl)) rfl) rfl ?_
      obtain ⟨t19, ht19, hh⟩ := hh
      refine .val (v_conv_cut un_141 un_3 rfl ht19) rfl ?_
      refine .val (v_move (v := reg (n : Int)) rfl) rfl ?_
      obtain ⟨hm, hh⟩ := hh
      refine .val (v_irem rfl rfl hm) rfl ?_
      refine .val (v_assign (v := reg ((irem t19 n) : Int)) rfl) rfl ?_
      refine .nil ?_
      refine QN.then_ ?_
      refine CW.ret ?_
      exact ret1 rfl rfl ⟨((irem t19 n) : Int), rfl, hh⟩
end Go.Proofs.YtimmoekliphobaaDoor
namespace Go.Proofs.YtimmoekliphobaaDoor
open Go Go.Sh
open Go.Sh.Ty (reg)
set_option linter.unusedVariables false
set_option maxRecDepth 100000
set_option maxHeartbeats 4000000
theorem rank_Patience.ok (base : Int) (r : Cx) (k : Int → H → Prop) (h : H) (hh : rank_Patience.b base r k h) : CallsH Prog 62 [reg base, reg r].toArray h fun v h' => ∃ r : Int, v = reg r ∧ k r h' := by
  unfold rank_Patience.b at hh
  refine CallsH.of 14 Tryd.func62 rfl Tryd.ntmps62 rfl (fun w0 => ?_)
  refine CW.seq ?_
  refine CW.region ?_
  refine .val (v_assign (v := reg ((0 : Int) : Int)) rfl) rfl ?_
  refine .nil ?_
  refine QN.then_ ?_
  refine CW.seq ?_
  refine CW.region ?_
  refine .val (v_move (v := reg (base : Int)) rfl) rfl ?_
  refine .val (v_max rfl rfl) rfl ?_
  refine .val (v_min rfl rfl) rfl ?_
  refine .val (v_assign (v := reg ((imin (imax base (1 : Int)) (1048576 : Int)) : Int)) rfl) rfl ?_
  refine .nil ?_
  refine QN.then_ ?_
  refine CW.seq ?_
  refine CW.region ?_
  refine .val (v_move (v := reg ((imin (imax base (1 : Int)) (1048576 : Int)) : Int)) rfl) rfl ?_
  refine .val (v_move (v := reg (r : Cx)) rfl) rfl ?_
  refine .e (e_callP fn_65 rfl rfl hh ?_)
  intro h t11 hh
  refine .val (v_min rfl rfl) rfl ?_
  obtain ⟨hm, hh⟩ := hh
  refine .val (v_ishl (a := (imin (imax base (1 : Int)) (1048576 : Int))) rfl rfl hm) rfl ?_
  refine .val (v_assign (v := reg ((ishl (imin (imax base (1 : Int)) (1048576 : Int)) (imin t11 (10 : Int)).toNat) : Int)) rfl) rfl ?_
  refine .nil ?_
  refine QN.then_ ?_
  refine CW.ret ?_
  exact ret1 rfl rfl ⟨((ishl (imin (imax base (1 : Int)) (1048576 : Int)) (imin t11 (10 : Int)).toNat) : Int), rfl, hh⟩
end Go.Proofs.YtimmoekliphobaaDoor
namespace Go.Proofs.YtimmoekliphobaaDoor
open Go Go.Sh
open Go.Sh.Ty (reg)
set_option linter.unusedVariables false
set_option maxRecDepth 100000

/-! floats of whole numbers -/
abbrev D64 : Ieee.Format := Ieee.double
theorem d64 : FloatKind.f64.format = D64 := rfl
theorem lp64 : D64.leastPlace = -1074 := by decide
theorem bn64 : D64.binade = 2 ^ 52 := rfl
theorem inf64 : D64.infRung = 2047 * 2 ^ 52 := rfl
theorem sw64 : D64.signWeight = 2 ^ 63 := rfl
theorem log2_scaled (c s : Nat) (h0 : 0 < c) : (c * 2 ^ s).log2 = c.log2 + s := by
  have hp : 0 < 2 ^ s := Nat.two_pow_pos s
  have h1 : c * 2 ^ s ≠ 0 := Nat.ne_of_gt (Nat.mul_pos h0 hp)
  have l1 := Nat.log2_self_le (Nat.ne_of_gt h0)
  have l2 := Nat.lt_log2_self (n := c)
  apply Nat.le_antisymm
  · apply Nat.le_of_lt_succ
    rw [Nat.log2_lt h1]
    rw [show (c.log2 + s).succ = (c.log2 + 1) + s by omega, Nat.pow_add]
    exact (Nat.mul_lt_mul_right hp).2 l2
  · rw [Nat.le_log2 h1, Nat.pow_add]
    exact Nat.mul_le_mul_right _ l1
theorem cut_exact (n : Nat) (d : Nat) (hn : 0 < n) : Ieee.Toward.even.cut false (n * 2 ^ d) d = n := by
  unfold Ieee.Toward.cut
  have hl : min d ((n * 2 ^ d).log2 + 2) = d := by rw [log2_scaled n d hn]; omega
  simp only [hl]
  rw [Nat.shiftLeft_eq, Nat.one_mul]
  have hp : 0 < 2 ^ d := Nat.two_pow_pos d
  rw [Nat.mul_mod_left, Nat.mul_div_cancel _ hp]
  have : ¬ (2 ^ d < 2 * 0) := by omega
  have h2 : (2 ^ d == 2 * 0) = false := by rw [beq_eq_false_iff_ne]; omega
  simp
theorem log2_le (c : Nat) (h0 : 0 < c) (h1 : c < 2 ^ 53) : c.log2 ≤ 52 := by
  have := (Nat.log2_lt (k := 53) (Nat.ne_of_gt h0)).2 h1
  omega
theorem near_scaled (c s : Nat) (h0 : 0 < c) (h1 : c < 2 ^ 53) : D64.nearest false (c * 2 ^ s) (-(s : Int)) = (1022 + c.log2) * 2 ^ 52 + c * 2 ^ (52 - c.log2) := by
  have hL := log2_le c h0 h1
  have hp : 0 < 2 ^ s := Nat.two_pow_pos s
  unfold Ieee.Format.nearest
  rw [if_neg (Nat.ne_of_gt (Nat.mul_pos h0 hp)), log2_scaled c s h0, lp64, bn64, inf64]
  have hlast : max (-(s : Int) + ((c.log2 + s : Nat) : Int) - (D64.fractionBits : Int)) (-1074) = (c.log2 : Int) - 52 := by
    rw [show (D64.fractionBits : Int) = 52 from rfl]; omega
  simp only [hlast]
  have hk : Ieee.Toward.even.cut false ((c * 2 ^ s) <<< (-(s : Int) - ((c.log2 : Int) - 52)).toNat) (((c.log2 : Int) - 52) - -(s : Int)).toNat = c * 2 ^ (52 - c.log2) := by
    rw [Nat.shiftLeft_eq, Nat.mul_assoc, ← Nat.pow_add]
    have e : s + (-(s : Int) - ((c.log2 : Int) - 52)).toNat = (52 - c.log2) + (((c.log2 : Int) - 52) - -(s : Int)).toNat := by omega
    rw [e, Nat.pow_add, ← Nat.mul_assoc]
    exact cut_exact _ _ (Nat.mul_pos h0 (Nat.two_pow_pos _))
  rw [hk]
  have e2 : ((c.log2 : Int) - 52 - -1074).toNat = 1022 + c.log2 := by omega
  rw [e2]
  have hlt : c * 2 ^ (52 - c.log2) < 2 ^ 53 := by
    have l2 := Nat.lt_log2_self (n := c)
    calc c * 2 ^ (52 - c.log2) < 2 ^ (c.log2 + 1) * 2 ^ (52 - c.log2) := (Nat.mul_lt_mul_right (Nat.two_pow_pos _)).2 l2
      _ = 2 ^ 53 := by rw [← Nat.pow_add]; congr 1; omega
  have : min ((1022 + c.log2) * 2 ^ 52 + c * 2 ^ (52 - c.log2)) (2047 * 2 ^ 52) = (1022 + c.log2) * 2 ^ 52 + c * 2 ^ (52 - c.log2) := by omega
  rw [this]
  rfl
theorem read_scaled (c : Nat) (h0 : 0 < c) (h1 : c < 2 ^ 53) : D64.read ((1022 + c.log2) * 2 ^ 52 + c * 2 ^ (52 - c.log2)) = .number false (c * 2 ^ (52 - c.log2)) (-((52 - c.log2 : Nat) : Int)) := by
  have hL := log2_le c h0 h1
  have hlt : c * 2 ^ (52 - c.log2) < 2 ^ 53 := by
    have l2 := Nat.lt_log2_self (n := c)
    calc c * 2 ^ (52 - c.log2) < 2 ^ (c.log2 + 1) * 2 ^ (52 - c.log2) := (Nat.mul_lt_mul_right (Nat.two_pow_pos _)).2 l2
      _ = 2 ^ 53 := by rw [← Nat.pow_add]; congr 1; omega
  have hge : 2 ^ 52 ≤ c * 2 ^ (52 - c.log2) := by
    have l1 := Nat.log2_self_le (Nat.ne_of_gt h0)
    calc 2 ^ 52 = 2 ^ c.log2 * 2 ^ (52 - c.log2) := by rw [← Nat.pow_add]; congr 1; omega
      _ ≤ c * 2 ^ (52 - c.log2) := Nat.mul_le_mul_right _ l1
  generalize hM : c * 2 ^ (52 - c.log2) = M at *
  generalize c.log2 = L at *
  unfold Ieee.Format.read
  rw [lp64, bn64, inf64, sw64]
  have hw : ((1022 + L) * 2 ^ 52 + M) / 2 ^ 63 = 0 := Nat.div_eq_of_lt (by omega)
  have hr : ((1022 + L) * 2 ^ 52 + M) % 2 ^ 63 = (1022 + L) * 2 ^ 52 + M := Nat.mod_eq_of_lt (by omega)
  simp only [hw, hr]
  rw [if_neg (by omega), if_pos (by omega)]
  have hd : ((1022 + L) * 2 ^ 52 + M) / 2 ^ 52 = 1023 + L := by omega
  have hm : ((1022 + L) * 2 ^ 52 + M) % 2 ^ 52 = M - 2 ^ 52 := by omega
  rw [hd, hm]
  have e1 : 2 ^ 52 + (M - 2 ^ 52) = M := by omega
  have e2 : (-1074 : Int) + ((1023 + L - 1 : Nat) : Int) = -((52 - L : Nat) : Int) := by omega
  rw [e1, e2]
  rfl
/-- a word that stands for the whole number c -/
def FlIs (w c : Nat) : Prop := ∃ s : Nat, D64.read w = .number false (c * 2 ^ s) (-(s : Int))
theorem flIs_near (c s : Nat) (h1 : c < 2 ^ 53) : FlIs (D64.nearest false (c * 2 ^ s) (-(s : Int))) c := by
  rcases Nat.eq_zero_or_pos c with rfl | h0
  · rw [Nat.zero_mul]
    have e : D64.nearest false 0 (-(s : Int)) = 0 := rfl
    rw [e]
    obtain ⟨u, hu⟩ : ∃ u : Nat, u = 1074 := ⟨_, rfl⟩
    refine ⟨u, ?_⟩
    rw [Nat.zero_mul, hu]; decide
  · rw [near_scaled c s h0 h1]
    exact ⟨_, read_scaled c h0 h1⟩
theorem fnear_is (n : Nat) (h : n < 2 ^ 53) : FlIs (fnear (n : Int)).b n := by
  have := flIs_near n 0 h
  simp only [Nat.pow_zero, Nat.mul_one] at this
  show FlIs (D64.nearest _ _ _) n
  have e : decide ((n : Int) < 0) = false := by simp
  rw [e]
  simpa using this
theorem signed_pos (m u : Nat) : Ieee.signed false m u = ((m * 2 ^ u : Nat) : Int) := by simp [Ieee.signed, Nat.shiftLeft_eq]
theorem order_is {w v a b : Nat} (hw : FlIs w a) (hv : FlIs v b) : D64.order w v = some (compare (a : Int) (b : Int)) := by
  obtain ⟨s, hs⟩ := hw
  obtain ⟨t, ht⟩ := hv
  unfold Ieee.Format.order
  rw [hs, ht]
  simp only [Ieee.Datum.order, signed_pos]
  congr 1
  rw [Nat.mul_assoc, Nat.mul_assoc, ← Nat.pow_add, ← Nat.pow_add]
  have e1 : s + (-(s : Int) - min (-(s : Int)) (-(t : Int))).toNat = max s t := by omega
  have e2 : t + (-(t : Int) - min (-(s : Int)) (-(t : Int))).toNat = max s t := by omega
  rw [e1, e2]
  have hp : 0 < 2 ^ max s t := Nat.two_pow_pos _
  generalize 2 ^ max s t = q at *
  have hq : (0 : Int) < q := by omega
  simp only [compare, compareOfLessAndEq]
  have c1 : ((a : Int) * q < b * q) ↔ ((a : Int) < b) := Int.mul_lt_mul_right hq
  have c2 : ((a : Int) * q = b * q) ↔ ((a : Int) = b) := Int.mul_eq_mul_right_iff (by omega)
  simp only [Int.natCast_mul, c1, c2]
theorem fcut_is {f : Fl} {a : Nat} (hf : FlIs f.b a) (h : a < 2 ^ 63) : fcut f = some (a : Int) := by
  obtain ⟨s, hs⟩ := hf
  unfold fcut
  have e : FloatKind.f64.decode f.b = .number false (a * 2 ^ s) (-(s : Int)) := hs
  rw [e]
  have e2 : Ieee.Datum.toInt .zero (.number false (a * 2 ^ s) (-(s : Int))) = some (a : Int) := by
    unfold Ieee.Datum.toInt Ieee.Datum.integral
    simp only [signed_pos, Nat.pow_zero, Nat.mul_one, Int.neg_neg]
    congr 2
    have h0 : (-(s : Int)).toNat = 0 := by omega
    have h1 : ((s : Int)).toNat = s := by omega
    rw [h0, h1, Nat.shiftLeft_zero]
    unfold Ieee.Toward.cut
    rcases Nat.eq_zero_or_pos a with rfl | ha
    · simp
    · have hl : min s ((a * 2 ^ s).log2 + 2) = s := by rw [log2_scaled a s ha]; omega
      simp only [hl]
      rw [Nat.shiftLeft_eq, Nat.one_mul, Nat.mul_div_cancel _ (Nat.two_pow_pos s)]
      simp
  rw [e2]
  simp only
  rw [if_pos ?_]
  simp only [IntKind.min, IntKind.max, IntKind.signed, IntKind.bits]
  constructor <;> (first | (simp; done) | (simp; omega) | omega)
theorem fadd_is {f g : Fl} {a b : Nat} (hf : FlIs f.b a) (hg : FlIs g.b b) (h : a + b < 2 ^ 53) : ∃ r, fadd f g = some r ∧ FlIs r.b (a + b) := by
  obtain ⟨s, hs⟩ := hf
  obtain ⟨t, ht⟩ := hg
  have key : D64.add f.b g.b = some (D64.nearest false ((a + b) * 2 ^ max s t) (-((max s t : Nat) : Int))) := by
    unfold Ieee.Format.add
    rw [hs, ht]
    simp only [Ieee.Datum.sum, signed_pos, Option.map_some]
    have e0 : min (-(s : Int)) (-(t : Int)) = -((max s t : Nat) : Int) := by omega
    rw [e0]
    rw [Nat.mul_assoc, Nat.mul_assoc, ← Nat.pow_add, ← Nat.pow_add]
    have e1 : s + (-(s : Int) - -((max s t : Nat) : Int)).toNat = max s t := by omega
    have e2 : t + (-(t : Int) - -((max s t : Nat) : Int)).toNat = max s t := by omega
    rw [e1, e2]
    have e3 : ((a * 2 ^ max s t : Nat) : Int) + ((b * 2 ^ max s t : Nat) : Int) = (((a + b) * 2 ^ max s t : Nat) : Int) := by rw [Nat.add_mul, Int.natCast_add]
    rw [e3]
    have e4 : (if (((a + b) * 2 ^ max s t : Nat) : Int) = 0 then (false && false) else decide ((((a + b) * 2 ^ max s t : Nat) : Int) < 0)) = false := by
      split
      · rfl
      · exact decide_eq_false (by omega)
    rw [e4, Int.natAbs_natCast]
    rfl
  refine ⟨⟨_⟩, by unfold fadd; rw [d64, key]; rfl, flIs_near _ _ h⟩
theorem cmp_of {a b : Int} : (compare a b = .lt ↔ a < b) ∧ (compare a b = .eq ↔ a = b) ∧ (compare a b = .gt ↔ b < a) := by
  simp only [compare, compareOfLessAndEq]
  split
  · simp; omega
  · split
    · simp; omega
    · simp; omega
section
variable {x y : Fl} {a b : Nat}
theorem flt_is (hx : FlIs x.b a) (hy : FlIs y.b b) : flt x y = decide (a < b) := by
  unfold flt; rw [d64, order_is hx hy, Bool.eq_iff_iff]; simp [cmp_of.1]
theorem feq_is (hx : FlIs x.b a) (hy : FlIs y.b b) : feq x y = decide (a = b) := by
  unfold feq; rw [d64, order_is hx hy, Bool.eq_iff_iff]; simp [cmp_of.2.1]; omega
theorem fge_is (hx : FlIs x.b a) (hy : FlIs y.b b) : fge x y = decide (b ≤ a) := by
  unfold fge; rw [d64, order_is hx hy, Bool.eq_iff_iff]; simp [cmp_of.2.1, cmp_of.2.2]; omega
theorem fle_is (hx : FlIs x.b a) (hy : FlIs y.b b) : fle x y = decide (a ≤ b) := by
  unfold fle; rw [d64, order_is hx hy, Bool.eq_iff_iff]; simp [cmp_of.2.1, cmp_of.1]; omega
end
theorem cut_near (c d : Nat) (hd : d ≤ c.log2 + 2) (h1 : 2 ^ 52 ≤ c / 2 ^ d) (h2 : c / 2 ^ d < 2 ^ 53) : ∃ k, Ieee.Toward.even.cut false c d = k ∧ 2 ^ 52 ≤ k ∧ k ≤ 2 ^ 53 := by
  refine ⟨_, rfl, ?_⟩
  unfold Ieee.Toward.cut
  rw [Nat.min_eq_left hd]
  simp only [Nat.shiftLeft_eq, Nat.one_mul]
  generalize (decide (2 ^ d < 2 * (c % 2 ^ d)) || (2 ^ d == 2 * (c % 2 ^ d) && c / 2 ^ d % 2 == 1)) = bb
  have : bb.toNat ≤ 1 := Bool.toNat_le bb
  generalize 2 ^ 52 = q at *
  omega
theorem min_inf {L k : Nat} (hL : L < 64) (hk : k ≤ 2 ^ 53) : min ((1022 + L) * 2 ^ 52 + k) (2047 * 2 ^ 52) = (1022 + L) * 2 ^ 52 + k := by omega
theorem read_big {L k : Nat} (hL1 : 53 ≤ L) (hL : L < 64) (hk1 : 2 ^ 52 ≤ k) (hk2 : k ≤ 2 ^ 53) : ∃ m p : Nat, (1022 + L) * 2 ^ 52 + k < 2 ^ 63 ∧ D64.read ((1022 + L) * 2 ^ 52 + k) = .number false m (p : Int) ∧ 2 ^ 52 ≤ m := by
  unfold Ieee.Format.read
  rw [lp64, bn64, inf64, sw64]
  have hlt : (1022 + L) * 2 ^ 52 + k < 2 ^ 63 := by omega
  have hw : ((1022 + L) * 2 ^ 52 + k) / 2 ^ 63 = 0 := Nat.div_eq_of_lt hlt
  have hr : ((1022 + L) * 2 ^ 52 + k) % 2 ^ 63 = (1022 + L) * 2 ^ 52 + k := Nat.mod_eq_of_lt hlt
  simp only [hw, hr]
  rw [if_neg (by omega), if_pos (by omega)]
  have hd : ∃ q, ((1022 + L) * 2 ^ 52 + k) / 2 ^ 52 = q ∧ 1075 ≤ q := ⟨_, rfl, by omega⟩
  obtain ⟨q, hq, hq1⟩ := hd
  rw [hq]
  generalize ((1022 + L) * 2 ^ 52 + k) % 2 ^ 52 = r
  refine ⟨2 ^ 52 + r, q - 1 - 1074, hlt, ?_, Nat.le_add_right _ _⟩
  have e : (-1074 : Int) + ((q - 1 : Nat) : Int) = ((q - 1 - 1074 : Nat) : Int) := by omega
  rw [e]
  have e0 : ((0 : Nat) % 2 == 1) = false := by decide
  rw [e0]
theorem near_big (c : Nat) (h0 : 2 ^ 53 ≤ c) (h1 : c < 2 ^ 64) : ∃ m p : Nat, D64.nearest false c 0 < 2 ^ 63 ∧ D64.read (D64.nearest false c 0) = .number false m (p : Int) ∧ 2 ^ 52 ≤ m := by
  have hc : c ≠ 0 := by omega
  have hL1 : 53 ≤ c.log2 := (Nat.le_log2 hc).2 h0
  have hL2 : c.log2 < 64 := (Nat.log2_lt hc).2 h1
  have l1 := Nat.log2_self_le hc
  have l2 := Nat.lt_log2_self (n := c)
  obtain ⟨k, hk1, hk2, hk⟩ : ∃ k, 2 ^ 52 ≤ k ∧ k ≤ 2 ^ 53 ∧ D64.nearest false c 0 = (1022 + c.log2) * 2 ^ 52 + k := by
    unfold Ieee.Format.nearest
    rw [if_neg hc, lp64, bn64, inf64]
    have hlast : max ((0 : Int) + (c.log2 : Int) - (D64.fractionBits : Int)) (-1074) = (c.log2 : Int) - 52 := by
      rw [show (D64.fractionBits : Int) = 52 from rfl]; omega
    simp only [hlast]
    have e1 : ((0 : Int) - ((c.log2 : Int) - 52)).toNat = 0 := by omega
    have e2 : (((c.log2 : Int) - 52) - 0).toNat = c.log2 - 52 := by omega
    have e3 : ((c.log2 : Int) - 52 - -1074).toNat = 1022 + c.log2 := by omega
    rw [e1, e2, e3, Nat.shiftLeft_zero]
    have hlo : 2 ^ 52 ≤ c / 2 ^ (c.log2 - 52) ∧ c / 2 ^ (c.log2 - 52) < 2 ^ 53 := by
      constructor
      · rw [Nat.le_div_iff_mul_le (Nat.two_pow_pos _), ← Nat.pow_add, show 52 + (c.log2 - 52) = c.log2 by omega]; exact l1
      · rw [Nat.div_lt_iff_lt_mul (Nat.two_pow_pos _), ← Nat.pow_add, show 53 + (c.log2 - 52) = c.log2 + 1 by omega]; exact l2
    obtain ⟨k, hk, hk1, hk2⟩ := cut_near c (c.log2 - 52) (by omega) hlo.1 hlo.2
    refine ⟨k, hk1, hk2, ?_⟩
    rw [hk]
    have : min ((1022 + c.log2) * 2 ^ 52 + k) (2047 * 2 ^ 52) = (1022 + c.log2) * 2 ^ 52 + k := min_inf hL2 hk2
    rw [this]
    simp only [Ieee.Format.word, Bool.false_eq_true, if_false]
  rw [hk]
  exact read_big hL1 hL2 hk1 hk2
theorem read_neg {r m : Nat} {p : Int} (h : r < 2 ^ 63) (hr : D64.read r = .number false m p) : D64.read (2 ^ 63 + r) = .number true m p := by
  unfold Ieee.Format.read at hr ⊢
  rw [lp64, bn64, inf64, sw64] at hr ⊢
  have h1 : r / 2 ^ 63 = 0 := Nat.div_eq_of_lt h
  have h2 : r % 2 ^ 63 = r := Nat.mod_eq_of_lt h
  have h3 : (2 ^ 63 + r) / 2 ^ 63 = 1 := by omega
  have h4 : (2 ^ 63 + r) % 2 ^ 63 = r := by omega
  simp only [h1, h2] at hr
  simp only [h3, h4]
  split at hr
  · rename_i hc
    rw [if_pos hc]
    injection hr with _ a b
    rw [a, b]; rfl
  · rename_i hc
    rw [if_neg hc]
    split at hr
    · rename_i hc2
      rw [if_pos hc2]
      injection hr with _ a b
      rw [a, b]; rfl
    · split at hr <;> cases hr
/-- a number that isn't negative, and not nought: as it is read -/
theorem near_pos (c : Nat) (h0 : 0 < c) (h1 : c < 2 ^ 64) : ∃ (m : Nat) (p : Int), D64.nearest false c 0 < 2 ^ 63 ∧ D64.read (D64.nearest false c 0) = .number false m p ∧ 0 < m := by
  by_cases h : c < 2 ^ 53
  · have := near_scaled c 0 h0 h
    simp only [Nat.pow_zero, Nat.mul_one] at this
    have hz : (-((0 : Nat) : Int)) = 0 := rfl
    rw [hz] at this
    have hL := log2_le c h0 h
    have hlt : c * 2 ^ (52 - c.log2) < 2 ^ 53 := by
      have l2 := Nat.lt_log2_self (n := c)
      calc c * 2 ^ (52 - c.log2) < 2 ^ (c.log2 + 1) * 2 ^ (52 - c.log2) := (Nat.mul_lt_mul_right (Nat.two_pow_pos _)).2 l2
        _ = 2 ^ 53 := by rw [← Nat.pow_add]; congr 1; omega
    rw [this]
    exact ⟨_, _, by omega, read_scaled c h0 h, Nat.mul_pos h0 (Nat.two_pow_pos _)⟩
  · obtain ⟨m, p, a, b, c⟩ := near_big c (by omega) h1
    exact ⟨m, p, a, b, by omega⟩
theorem near_neg (c : Nat) (h0 : 0 < c) : D64.nearest true c 0 = 2 ^ 63 + D64.nearest false c 0 := by
  unfold Ieee.Format.nearest
  rw [if_neg (by omega), if_neg (by omega)]
  have hcut : ∀ a b, Ieee.Toward.even.cut true a b = Ieee.Toward.even.cut false a b := fun a b => rfl
  simp only [Ieee.Format.word, if_true, Bool.false_eq_true, if_false, sw64, hcut]
/-- is an int from lo to 1024? asked of its float -/
theorem whole_flt (n : Int) (hn : -9223372036854775808 ≤ n ∧ n ≤ 9223372036854775807) (lo : Nat) (hlo : lo ≤ 1024) :
    (fge (fnear n) (fnear (lo : Int)) && fle (fnear n) (fnear ((1024 : Nat) : Int))) = decide ((lo : Int) ≤ n ∧ n ≤ 1024) := by
  have hL := fnear_is lo (by omega)
  have hH := fnear_is 1024 (by omega)
  rcases Int.lt_or_le n 0 with hneg | hpos
  · have e0 : decide ((lo : Int) ≤ n ∧ n ≤ 1024) = false := decide_eq_false (by omega)
    rw [e0]
    obtain ⟨m, p, a, b, hm⟩ := near_pos n.natAbs (by omega) (by omega)
    have hw : (fnear n).b = 2 ^ 63 + D64.nearest false n.natAbs 0 := by
      show D64.nearest (decide (n < 0)) n.natAbs 0 = _
      rw [decide_eq_true hneg]; exact near_neg _ (by omega)
    have hr := read_neg a b
    obtain ⟨t, ht⟩ := hL
    have ho : D64.order (fnear n).b (fnear (lo : Int)).b = some .lt := by
      unfold Ieee.Format.order
      rw [hw, hr, ht]
      simp only [Ieee.Datum.order, signed_pos]
      congr 1
      rw [cmp_of.1]
      have h1 : Ieee.signed true m (p - min p (-(t : Int))).toNat = -((m * 2 ^ (p - min p (-(t : Int))).toNat : Nat) : Int) := by simp [Ieee.signed, Nat.shiftLeft_eq]
      rw [h1]
      have h2 : 0 < m * 2 ^ (p - min p (-(t : Int))).toNat := Nat.mul_pos hm (Nat.two_pow_pos _)
      omega
    have : fge (fnear n) (fnear (lo : Int)) = false := by unfold fge; rw [d64, ho]; rfl
    rw [this]; rfl
  · obtain ⟨c, rfl⟩ := Int.eq_ofNat_of_zero_le hpos
    by_cases hc : c < 2 ^ 53
    · have hC := fnear_is c hc
      rw [fge_is hC hL, fle_is hC hH, Bool.eq_iff_iff]
      simp; omega
    · have e0 : decide ((lo : Int) ≤ (c : Int) ∧ (c : Int) ≤ 1024) = false := decide_eq_false (by omega)
      rw [e0]
      obtain ⟨m, p, a, b, hm⟩ := near_big c (by omega) (by omega)
      obtain ⟨t, ht⟩ := hH
      have hw : (fnear (c : Int)).b = D64.nearest false c 0 := by
        show D64.nearest (decide ((c : Int) < 0)) ((c : Int)).natAbs 0 = _
        rw [decide_eq_false (by omega)]; rfl
      have ho : D64.order (fnear (c : Int)).b (fnear ((1024 : Nat) : Int)).b = some .gt := by
        unfold Ieee.Format.order
        rw [hw, b, ht]
        simp only [Ieee.Datum.order, signed_pos]
        congr 1
        rw [cmp_of.2.2]
        have e1 : ((p : Int) - min (p : Int) (-(t : Int))).toNat = t + p := by omega
        have e2 : (-(t : Int) - min (p : Int) (-(t : Int))).toNat = 0 := by omega
        rw [e1, e2, Nat.pow_zero, Nat.mul_one, Nat.pow_add]
        have h3 : 0 < 2 ^ t := Nat.two_pow_pos t
        have h4 : 0 < 2 ^ p := Nat.two_pow_pos p
        have h5 : 1024 * 2 ^ t < m * (2 ^ t * 2 ^ p) := by
          calc 1024 * 2 ^ t < m * 2 ^ t := (Nat.mul_lt_mul_right h3).2 (by omega)
            _ = m * (2 ^ t * 1) := by rw [Nat.mul_one]
            _ ≤ m * (2 ^ t * 2 ^ p) := Nat.mul_le_mul_left _ (Nat.mul_le_mul_left _ h4)
        omega
      have : fle (fnear (c : Int)) (fnear ((1024 : Nat) : Int)) = false := by unfold fle; rw [d64, ho]; rfl
      rw [this]; simp
end Go.Proofs.YtimmoekliphobaaDoor
namespace Go.Proofs.YtimmoekliphobaaDoor
open Go Go.Sh
open Go.Sh.Ty (reg)
set_option linter.unusedVariables false
set_option maxRecDepth 100000
set_option maxHeartbeats 4000000
theorem rank_Less.ok (a : Cx) (b : Cx) (k : Bool → H → Prop) (h : H) (hh : rank_Less.b a b k h) : CallsH Prog 40 [reg a, reg b].toArray h fun v h' => ∃ r : Bool, v = reg r ∧ k r h' := by
  unfold rank_Less.b at hh
  refine CallsH.of 32 Tryd.func40 rfl Tryd.ntmps40 rfl (fun w0 => ?_)
  refine CW.seq ?_
  refine CW.region ?_
  refine .val (v_assign (v := reg (false : Bool)) rfl) rfl ?_
  refine .nil ?_
  refine QN.then_ ?_
  refine CW.seq ?_
  refine CW.join (fun ρ h => ∃ (ρ' : Env) (t12 : Bool), ρ = setl ρ' [(0, reg (a : Cx)), (1, reg (b : Cx)), (12, reg (t12 : Bool))] ∧ (rank_Less.j1 k) a b t12 h) ?_ ?_
  · refine CW.region ?_
    refine .val (v_move (v := reg (a : Cx)) rfl) rfl ?_
    refine .e (e_callP fn_55 rfl rfl hh ?_)
    intro h t6 hh
    refine .val (v_not rfl) rfl ?_
    refine .val (v_move (v := reg ((!t6) : Bool)) rfl) rfl ?_
    refine ifb_cases hh (fun hb hh => ?_) (fun hb hh => ?_)
    · refine .no 8 rfl (congrArg Value.bool hb) rfl rfl ?_
      refine .no 8 rfl (congrArg Value.bool hb) rfl rfl ?_
      refine .no 8 rfl (congrArg Value.bool hb) rfl rfl ?_
      refine .val (v_pickT (v := reg (true : Bool)) rfl hb rfl) rfl ?_
      refine .nil ?_
      exact QN.thenJ ⟨_, true, setl_eq ⟨rfl, ⟨rfl, ⟨rfl, trivial⟩⟩⟩, hh⟩
    · refine .yv 8 rfl (congrArg Value.bool hb) rfl (v_move (v := reg (b : Cx)) rfl) rfl ?_
      refine .ye 8 rfl (congrArg Value.bool hb) rfl (e_callP fn_55 rfl rfl hh ?_)
      intro h t10 hh
      refine .yv 8 rfl (congrArg Value.bool hb) rfl (v_not rfl) rfl ?_
      refine .val (v_pickF (v := reg ((!t10) : Bool)) rfl hb rfl) rfl ?_
      refine .nil ?_
      exact QN.thenJ ⟨_, (!t10), setl_eq ⟨rfl, ⟨rfl, ⟨rfl, trivial⟩⟩⟩, hh⟩
  · rintro ρ h ⟨ρ', t12, rfl, hh⟩
    unfold rank_Less.j1 at hh
    refine CW.cond t12 rfl (fun hb_1 => ?_) (fun hb_1 => ?_)
    · have hh := hh.1 hb_1
      refine CW.seq ?_
      refine CW.region ?_
      refine .val (v_assign (v := reg (false : Bool)) rfl) rfl ?_
      refine .nil ?_
      refine QN.then_ ?_
      refine CW.ret ?_
      refine QN.thenRet ?_
      exact ret1 rfl rfl ⟨(false : Bool), rfl, hh⟩
    · have hh := hh.2 hb_1
      refine CW.skip ?_
      refine QN.then_ ?_
      refine CW.join (fun ρ h => ∃ (ρ' : Env) (t4 : Bool), ρ = setl ρ' [(4, reg (t4 : Bool))] ∧ (rank_Less.j2 k) t4 h) ?_ ?_
      · refine CW.region ?_
        refine .val (v_move (v := reg (a : Cx)) rfl) rfl ?_
        refine .val (v_real rfl) rfl ?_
        refine .val (v_move (v := reg (b : Cx)) rfl) rfl ?_
        refine .val (v_real rfl) rfl ?_
        refine .val (v_flss rfl rfl) rfl ?_
        refine .val (v_move (v := reg ((flt (⟨a.re⟩ : Fl) (⟨b.re⟩ : Fl)) : Bool)) rfl) rfl ?_
        refine ifb_cases hh (fun hb_2 hh => ?_) (fun hb_2 hh => ?_)
        · refine .no 18 rfl (congrArg Value.bool hb_2) rfl rfl ?_
          refine .no 18 rfl (congrArg Value.bool hb_2) rfl rfl ?_
          refine .no 18 rfl (congrArg Value.bool hb_2) rfl rfl ?_
          refine .no 18 rfl (congrArg Value.bool hb_2) rfl rfl ?_
          refine .no 18 rfl (congrArg Value.bool hb_2) rfl rfl ?_
          refine .no 18 rfl (congrArg Value.bool hb_2) rfl rfl ?_
          refine .nu 24 rfl rfl rfl rfl ?_
          refine .nu 24 rfl rfl rfl rfl ?_
          refine .nu 24 rfl rfl rfl rfl ?_
          refine .nu 24 rfl rfl rfl rfl ?_
          refine .nu 24 rfl rfl rfl rfl ?_
          refine .no 18 rfl (congrArg Value.bool hb_2) rfl rfl ?_
          refine .val (v_pickT (v := reg (true : Bool)) rfl hb_2 rfl) rfl ?_
          refine .val (v_assign (v := reg (true : Bool)) rfl) rfl ?_
          refine .nil ?_
          exact QN.thenJ ⟨_, true, setl_eq ⟨rfl, trivial⟩, hh⟩
        · refine .yv 18 rfl (congrArg Value.bool hb_2) rfl (v_move (v := reg (a : Cx)) rfl) rfl ?_
          refine .yv 18 rfl (congrArg Value.bool hb_2) rfl (v_real rfl) rfl ?_
          refine .yv 18 rfl (congrArg Value.bool hb_2) rfl (v_move (v := reg (b : Cx)) rfl) rfl ?_
          refine .yv 18 rfl (congrArg Value.bool hb_2) rfl (v_real rfl) rfl ?_
          refine .yv 18 rfl (congrArg Value.bool hb_2) rfl (v_feql rfl rfl) rfl ?_
          refine .yv 18 rfl (congrArg Value.bool hb_2) rfl (v_move (v := reg ((feq (⟨a.re⟩ : Fl) (⟨b.re⟩ : Fl)) : Bool)) rfl) rfl ?_
          refine .tv 24 rfl rfl rfl (fun hb => v_move (v := reg (a : Cx)) rfl) rfl ?_
          refine .tv 24 rfl rfl rfl (fun hb => v_imag (gt hb)) rfl ?_
          refine .tv 24 rfl rfl rfl (fun hb => v_move (v := reg (b : Cx)) rfl) rfl ?_
          refine .tv 24 rfl rfl rfl (fun hb => v_imag (gt hb)) rfl ?_
          refine .tv 24 rfl rfl rfl (fun hb => v_flss (gt hb) (gt hb)) rfl ?_
          refine .yv 18 rfl (congrArg Value.bool hb_2) rfl (v_pick_and rfl (fun hb => gt hb) rfl) rfl ?_
          refine .val (v_pickF (v := reg (((feq (⟨a.re⟩ : Fl) (⟨b.re⟩ : Fl)) && (flt (⟨a.im⟩ : Fl) (⟨b.im⟩ : Fl))) : Bool)) rfl hb_2 rfl) rfl ?_
          refine .val (v_assign (v := reg (((feq (⟨a.re⟩ : Fl) (⟨b.re⟩ : Fl)) && (flt (⟨a.im⟩ : Fl) (⟨b.im⟩ : Fl))) : Bool)) rfl) rfl ?_
          refine .nil ?_
          exact QN.thenJ ⟨_, ((feq (⟨a.re⟩ : Fl) (⟨b.re⟩ : Fl)) && (flt (⟨a.im⟩ : Fl) (⟨b.im⟩ : Fl))), setl_eq ⟨rfl, trivial⟩, hh⟩
      · rintro ρ h ⟨ρ', t4, rfl, hh⟩
        unfold rank_Less.j2 at hh
        refine CW.ret ?_
        exact ret1 rfl rfl ⟨(t4 : Bool), rfl, hh⟩
end Go.Proofs.YtimmoekliphobaaDoor
namespace Go.Proofs.YtimmoekliphobaaDoor
open Go Go.Sh
open Go.Sh.Ty (reg)
set_option linter.unusedVariables false
set_option maxRecDepth 100000

def cxI (h r : Int) : Cx := ⟨(fnear h).b, (fnear r).b⟩
def I64 (n : Int) : Prop := -9223372036854775808 ≤ n ∧ n ≤ 9223372036854775807
theorem rkWhole_spec (n : Int) (lo : Nat) (hn : I64 n) (hlo : lo ≤ 1024) {k : Bool → H → Prop} {h : H} (hk : k (decide ((lo : Int) ≤ n ∧ n ≤ 1024)) h) :
    call (β := Bool) Prog 88 [reg (⟨(fnear n).b⟩ : Fl), reg ((lo : Int) : Int), reg ((1024 : Int) : Int)] k h := by
  refine rank_whole.ok _ _ _ _ _ ?_
  unfold rank_whole.b
  have e := whole_flt n hn lo hlo
  have e1 : (⟨(fnear n).b⟩ : Fl) = fnear n := rfl
  rw [e1]
  have e2 : (fge (fnear n) (fnear (lo : Int)) && fle (fnear n) (fnear (1024 : Int))) = decide ((lo : Int) ≤ n ∧ n ≤ 1024) := e
  rw [e2]
  unfold rank_whole.j1
  refine ifb_i (fun hc => ?_) (fun hc => ?_)
  · have hc' : (lo : Int) ≤ n ∧ n ≤ 1024 := by simpa using hc
    obtain ⟨c, rfl⟩ := Int.eq_ofNat_of_zero_le (show 0 ≤ n by omega)
    have hC := fnear_is c (by omega)
    refine ⟨(c : Int), fcut_is hC (by omega), ?_⟩
    show k (feq (fnear (c : Int)) (fnear (c : Int))) h
    rw [feq_is hC hC]
    rw [hc] at hk
    simpa using hk
  · rw [hc] at hk; exact hk
theorem RkGood_spec (a b : Int) (ha : I64 a) (hb : I64 b) {k : Bool → H → Prop} {h : H} (hk : k (decide ((1 ≤ a ∧ a ≤ 1024) ∧ 0 ≤ b ∧ b ≤ 1024)) h) : call (β := Bool) Prog 55 [reg (cxI a b)] k h := by
  refine rank_Good.ok _ _ _ ?_
  unfold rank_Good.b rank_Good.j1
  refine rkWhole_spec a 1 ha (by decide) ?_
  refine ifb_i (fun hc => ?_) (fun hc => ?_)
  · refine rkWhole_spec b 0 hb (by decide) ?_
    have hc' : ((1 : Nat) : Int) ≤ a ∧ a ≤ 1024 := by simpa using hc
    have e : decide (((0 : Nat) : Int) ≤ b ∧ b ≤ 1024) = decide ((1 ≤ a ∧ a ≤ 1024) ∧ 0 ≤ b ∧ b ≤ 1024) := by
      rw [Bool.eq_iff_iff]; simp; omega
    rw [e]; exact hk
  · have hc' : ¬ (((1 : Nat) : Int) ≤ a ∧ a ≤ 1024) := by simpa using hc
    have e : decide ((1 ≤ a ∧ a ≤ 1024) ∧ 0 ≤ b ∧ b ≤ 1024) = false := decide_eq_false (by omega)
    rw [e] at hk; exact hk
/-- a place -/
def Plc (a b : Int) : Prop := (1 ≤ a ∧ a ≤ 1024) ∧ 0 ≤ b ∧ b ≤ 1024
theorem Plc.i {a b : Int} (h : Plc a b) : I64 a ∧ I64 b := by unfold Plc at h; unfold I64; omega
theorem RkGoodP {a b : Int} (hp : Plc a b) {k : Bool → H → Prop} {h : H} (hk : k true h) : call (β := Bool) Prog 55 [reg (cxI a b)] k h := by
  refine RkGood_spec a b hp.i.1 hp.i.2 ?_
  rw [decide_eq_true (show (1 ≤ a ∧ a ≤ 1024) ∧ 0 ≤ b ∧ b ≤ 1024 from hp)]; exact hk
theorem At_spec (a b : Int) {k : Cx → H → Prop} {h : H} (hk : k (cxI a b) h) : call (β := Cx) Prog 30 [reg (a : Int), reg (b : Int)] k h := rank_At.ok _ _ _ _ hk
theorem Height_spec {a b : Int} (hp : Plc a b) {k : Int → H → Prop} {h : H} (hk : k a h) : call (β := Int) Prog 68 [reg (cxI a b)] k h := by
  refine rank_Height.ok _ _ _ ?_
  unfold rank_Height.b
  refine RkGoodP hp (ifb_i (fun hc => by cases hc) (fun _ => ?_))
  obtain ⟨c, rfl⟩ := Int.eq_ofNat_of_zero_le (show 0 ≤ a by have := hp.1; omega)
  exact ⟨_, fcut_is (fnear_is c (by have := hp.1; omega)) (by have := hp.1; omega), hk⟩
theorem Round_spec {a b : Int} (hp : Plc a b) {k : Int → H → Prop} {h : H} (hk : k b h) : call (β := Int) Prog 65 [reg (cxI a b)] k h := by
  refine rank_Round.ok _ _ _ ?_
  unfold rank_Round.b
  refine RkGoodP hp (ifb_i (fun hc => by cases hc) (fun _ => ?_))
  obtain ⟨c, rfl⟩ := Int.eq_ofNat_of_zero_le hp.2.1
  exact ⟨_, fcut_is (fnear_is c (by have := hp.2; omega)) (by have := hp.2; omega), hk⟩
theorem Less_spec {a b c d : Int} (hp : Plc a b) (hq : Plc c d) {k : Bool → H → Prop} {h : H} (hk : k (decide (a < c ∨ a = c ∧ b < d)) h) : call (β := Bool) Prog 40 [reg (cxI a b), reg (cxI c d)] k h := by
  refine rank_Less.ok _ _ _ _ ?_
  unfold rank_Less.b rank_Less.j1 rank_Less.j2
  refine RkGoodP hp (ifb_i (fun hc => by cases hc) (fun _ => ?_))
  refine RkGoodP hq (ifb_i (fun hc => by cases hc) (fun _ => ?_))
  obtain ⟨⟨h1, h2⟩, h3, h4⟩ := hp
  obtain ⟨⟨h5, h6⟩, h7, h8⟩ := hq
  obtain ⟨a, rfl⟩ := Int.eq_ofNat_of_zero_le (show 0 ≤ a by omega)
  obtain ⟨b, rfl⟩ := Int.eq_ofNat_of_zero_le h3
  obtain ⟨c, rfl⟩ := Int.eq_ofNat_of_zero_le (show 0 ≤ c by omega)
  obtain ⟨d, rfl⟩ := Int.eq_ofNat_of_zero_le h7
  have fa := fnear_is a (by omega); have fb := fnear_is b (by omega); have fc := fnear_is c (by omega); have fd := fnear_is d (by omega)
  show ifb (flt (fnear (a : Int)) (fnear (c : Int))) _ (k (feq (fnear (a : Int)) (fnear (c : Int)) && flt (fnear (b : Int)) (fnear (d : Int)))) h
  rw [flt_is fa fc, feq_is fa fc, flt_is fb fd]
  refine ifb_i (fun hc => ?_) (fun hc => ?_)
  · have hc' : a < c := by simpa using hc
    rw [decide_eq_true (show (a : Int) < c ∨ (a : Int) = c ∧ (b : Int) < d by omega)] at hk; exact hk
  · have hc' : ¬ a < c := by simpa using hc
    have e : (decide (a = c) && decide (b < d)) = decide ((a : Int) < c ∨ (a : Int) = c ∧ (b : Int) < d) := by
      rw [Bool.eq_iff_iff]; simp; omega
    rw [e]; exact hk
theorem Leader_spec {a b n : Int} (hp : Plc a b) (hn : 1 ≤ n) {k : Int → H → Prop} {h : H} (hk : k ((a + b) % n) h) : call (β := Int) Prog 29 [reg (n : Int), reg (cxI a b)] k h := by
  refine rank_Leader.ok _ _ _ _ ?_
  unfold rank_Leader.b rank_Leader.j1
  refine ifb_i (fun hc => by simp at hc; omega) (fun _ => ?_)
  refine RkGoodP hp (ifb_i (fun hc => by cases hc) (fun _ => ?_))
  obtain ⟨⟨h1, h2⟩, h3, h4⟩ := hp
  obtain ⟨a, rfl⟩ := Int.eq_ofNat_of_zero_le (show 0 ≤ a by omega)
  obtain ⟨b, rfl⟩ := Int.eq_ofNat_of_zero_le h3
  obtain ⟨r, hr, hf⟩ := fadd_is (f := fnear (a : Int)) (g := fnear (b : Int)) (fnear_is a (by omega)) (fnear_is b (by omega)) (by omega)
  refine ⟨r, hr, _, fcut_is hf (by omega), by omega, ?_⟩
  have e : irem ((a + b : Nat) : Int) n = ((a : Int) + b) % n := by
    rw [show ((a + b : Nat) : Int) = (a : Int) + b by omega]
    exact Int.tmod_eq_emod_of_nonneg (by omega)
  rw [e]; exact hk
def patF (base b : Int) : Int := ishl (imin (imax base 1) 1048576) (imin b 10).toNat
theorem Patience_spec {a b base : Int} (hp : Plc a b) {k : Int → H → Prop} {h : H} (hk : k (patF base b) h) : call (β := Int) Prog 62 [reg (base : Int), reg (cxI a b)] k h := by
  refine rank_Patience.ok _ _ _ _ ?_
  unfold rank_Patience.b
  refine Round_spec hp ⟨?_, hk⟩
  have := hp.2
  unfold imin
  split <;> omega
end Go.Proofs.YtimmoekliphobaaDoor
namespace Go.Proofs.YtimmoekliphobaaDoor
open Go Go.Sh
open Go.Sh.Ty (reg)
set_option linter.unusedVariables false
set_option maxRecDepth 100000
set_option maxHeartbeats 4000000
theorem round_none.ok (k : (Arr 32 UInt8) → H → Prop) (h : H) (hh : round_none.b k h) : CallsH Prog 64 ([] : List Value).toArray h fun v h' => ∃ r : Arr 32 UInt8, v = reg r ∧ k r h' := by
  unfold round_none.b at hh
  refine CallsH.of 3 Tryd.func64 rfl Tryd.ntmps64 rfl (fun w0 => ?_)
  refine CW.seq ?_
  refine CW.region ?_
  refine box_elim hh (fun t0 ht0 hh => ?_)
  refine .e (e_allocP ht0 zo_24 rfl ?_)
  refine .nil ?_
  refine QN.then_ ?_
  refine CW.seq ?_
  refine CW.region ?_
  refine box_elim hh (fun z hz hh => ?_)
  refine .e (e_allocP hz zo_24 rfl ?_)
  refine .nil ?_
  refine QN.then_ ?_
  refine CW.seq ?_
  refine CW.region ?_
  obtain ⟨t2, ⟨xt2, hxt2, hgt2⟩, hh⟩ := hh
  refine .val (v_ldA (p := z) 0 ag_24 rfl hxt2 hgt2 get_24_all (fun _ => (arr_len (n := 32) _)) (fun _ => rfl)) rfl ?_
  obtain ⟨xw, hxw, hwxw, hh⟩ := hh
  refine .e (e_storeN (p := t0) (nv := enc (t2 : Arr 32 UInt8)) 0 rfl rfl rfl sz_24 (one_arr (n := 32) (fun _ => rfl) _) hxw hwxw (arr_len (n := 32) _) (arr_len (n := 32) _) rfl (set_24_all xw (t2 : Arr 32 UInt8)) ?_)
  refine .nil ?_
  refine QN.then_ ?_
  refine CW.ret ?_
  obtain ⟨r0, ⟨xr0, hxr0, hgr0⟩, hh⟩ := hh
  have hr0 := ld_id hxr0 hgr0
  exact retc rfl rfl ag_24 hr0 (arr_len (n := 32) _) ⟨(r0 : Arr 32 UInt8), rfl, hh⟩
end Go.Proofs.YtimmoekliphobaaDoor
namespace Go.Proofs.YtimmoekliphobaaDoor
open Go Go.Sh
open Go.Sh.Ty (reg)
set_option linter.unusedVariables false
set_option maxRecDepth 100000
set_option maxHeartbeats 4000000
theorem round_Core_leader.ok (c : Pt) (at_ : Cx) (k : Int → H → Prop) (h : H) (hh : round_Core_leader.b c at_ k h) : CallsH Prog 70 [reg c, reg at_].toArray h fun v h' => ∃ r : Int, v = reg r ∧ k r h' := by
  unfold round_Core_leader.b at hh
  refine CallsH.of 21 Tryd.func70 rfl Tryd.ntmps70 rfl (fun w0 => ?_)
  refine CW.seq ?_
  refine CW.region ?_
  refine .val (v_assign (v := reg ((0 : Int) : Int)) rfl) rfl ?_
  refine .nil ?_
  refine QN.then_ ?_
  refine CW.seq ?_
  refine CW.drawN 17 rfl follows_mixed [0, 1, 2, 3, 4, 5, 6, 7, 8, 9, 10, 11, 13, 14, 15, 16] ?_
  refine .p 0 rfl (by kernel_rfl) (NoPanic.then_ (NoPanic.body)) (fun _ => v_move (v := reg (c : Pt)) rfl) ?_
  obtain ⟨p, hp, hh⟩ := hh
  refine .p 1 rfl (by kernel_rfl) (NoPanic.then_ (NoPanic.body)) (fun _ => v_nilCheck (congrArg Value.pointer hp)) ?_
  refine .p 2 rfl (by kernel_rfl) (NoPanic.then_ (NoPanic.body)) (fun _ => v_fieldAddr fl_140_0 rfl) ?_
  refine .p 3 rfl (by kernel_rfl) (NoPanic.then_ (NoPanic.body)) (fun _ => v_fieldAddr fl_54_1 rfl) ?_
  obtain ⟨t9, ⟨xt9, hxt9, hgt9⟩, hh⟩ := hh
  refine .r 4 (fun h' => ∃ x : round_Core, AtH h' p (enc x) ∧ ((fun (x : round_Core) => x.config.Members) : round_Core → Sl) x = t9) rfl (by kernel_rfl) (NoPanic.then_ (NoPanic.body)) ⟨xt9, hxt9, hgt9⟩ (fun h' hS => hS.elim fun _ hS => v_ld1 (p := p) 1 na_52 rfl hS.1 hS.2 get_140_config_Members) ?_
  refine .p 5 rfl (by kernel_rfl) (NoPanic.then_ (NoPanic.body)) (fun _ => v_move (v := reg (c : Pt)) rfl) ?_
  refine .p 6 rfl (by kernel_rfl) (NoPanic.then_ (NoPanic.body)) (fun _ => v_nilCheck (congrArg Value.pointer hp)) ?_
  refine .p 7 rfl (by kernel_rfl) (NoPanic.then_ (NoPanic.body)) (fun _ => v_fieldAddr fl_140_0 rfl) ?_
  refine .p 8 rfl (by kernel_rfl) (NoPanic.then_ (NoPanic.body)) (fun _ => v_fieldAddr fl_54_1 rfl) ?_
  obtain ⟨t14, ⟨xt14, hxt14, hgt14⟩, hh⟩ := hh
  refine .r 9 (fun h' => ∃ x : round_Core, AtH h' p (enc x) ∧ ((fun (x : round_Core) => x.config.Members) : round_Core → Sl) x = t14) rfl (by kernel_rfl) (NoPanic.then_ (NoPanic.body)) ⟨xt14, hxt14, hgt14⟩ (fun h' hS => hS.elim fun _ hS => v_ld1 (p := p) 1 na_52 rfl hS.1 hS.2 get_140_config_Members) ?_
  refine .p 10 rfl (by kernel_rfl) (NoPanic.then_ (NoPanic.body)) (fun _ => v_len_sl (sl_52).1 rfl) ?_
  refine .p 11 rfl (by kernel_rfl) (NoPanic.then_ (NoPanic.body)) (fun _ => v_move (v := reg (at_ : Cx)) rfl) ?_
  refine .w 12 (by kernel_rfl) rfl (by kernel_rfl) (.e (e_callP fn_29 rfl rfl hh ?_))
  intro h t17 hh
  obtain ⟨hc, hh⟩ := hh
  refine ⟨⟨⟨trivial, .inr hc⟩, .inl (by kernel_rfl)⟩, ?_⟩
  obtain ⟨t18, ht18, hh⟩ := hh
  refine .p 13 rfl (by kernel_rfl) (NoPanic.then_ (NoPanic.body)) (fun _ => v_idx_slP sl_52 rfl rfl ht18.1 ht18.2.1 ht18.2.2) ?_
  refine .p 14 rfl (by kernel_rfl) (NoPanic.then_ (NoPanic.body)) (fun _ => v_fieldAddr fl_110_0 rfl) ?_
  obtain ⟨t20, ⟨xt20, hxt20, hgt20⟩, hh⟩ := hh
  refine .r 15 (fun h' => ∃ x : api_Member, AtH h' t18 (enc x) ∧ ((fun (x : api_Member) => x.Id) : api_Member → Int) x = t20) rfl (by kernel_rfl) (NoPanic.then_ (NoPanic.body)) ⟨xt20, hxt20, hgt20⟩ (fun h' hS => hS.elim fun _ hS => v_ld1 (p := t18) 0 na_3 rfl hS.1 hS.2 get_110_Id) ?_
  refine .p 16 rfl (by kernel_rfl) (NoPanic.then_ (NoPanic.body)) (fun _ => v_assign (v := reg (t20 : Int)) rfl) ?_
  refine .done (by kernel_rfl) ?_
  refine QN.then_ ?_
  refine CW.ret ?_
  exact ret1 rfl rfl ⟨(t20 : Int), rfl, hh⟩
end Go.Proofs.YtimmoekliphobaaDoor
namespace Go.Proofs.YtimmoekliphobaaDoor
open Go Go.Sh
open Go.Sh.Ty (reg)
set_option linter.unusedVariables false
set_option maxRecDepth 100000
set_option maxHeartbeats 4000000
theorem round_Core_member.ok (c : Pt) (k : Bool → H → Prop) (h : H) (hh : round_Core_member.b c k h) : CallsH Prog 89 [reg c].toArray h fun v h' => ∃ r : Bool, v = reg r ∧ k r h' := by
  unfold round_Core_member.b at hh
  refine CallsH.of 20 Tryd.func89 rfl Tryd.ntmps89 rfl (fun w0 => ?_)
  refine CW.seq ?_
  refine CW.region ?_
  refine .val (v_assign (v := reg (false : Bool)) rfl) rfl ?_
  refine .nil ?_
  refine QN.then_ ?_
  refine CW.join (fun ρ h => ∃ (ρ' : Env) (is : Bool), ρ = setl ρ' [(5, reg (is : Bool))] ∧ (round_Core_member.j1 k) is h) ?_ ?_
  · refine CW.drawN 17 rfl follows_mixed [0, 1, 2, 3, 4, 5, 6, 7, 9, 10, 11, 12, 15, 16] ?_
    refine .p 0 rfl (by kernel_rfl) (NoPanic.then_ (NoPanic.body)) (fun _ => v_move (v := reg (c : Pt)) rfl) ?_
    obtain ⟨p, hp, hh⟩ := hh
    refine .p 1 rfl (by kernel_rfl) (NoPanic.then_ (NoPanic.body)) (fun _ => v_nilCheck (congrArg Value.pointer hp)) ?_
    refine .p 2 rfl (by kernel_rfl) (NoPanic.then_ (NoPanic.body)) (fun _ => v_fieldAddr fl_140_0 rfl) ?_
    obtain ⟨t10, ⟨xt10, hxt10, hgt10⟩, hh⟩ := hh
    refine .r 3 (fun h' => ∃ x : round_Core, AtH h' p (enc x) ∧ ((fun (x : round_Core) => x.config) : round_Core → api_Config) x = t10) rfl (by kernel_rfl) (NoPanic.then_ (NoPanic.body)) ⟨xt10, hxt10, hgt10⟩ (fun h' hS => hS.elim fun _ hS => v_ldA (p := p) 0 ag_54 rfl hS.1 hS.2 get_140_config (fun _ => (len_api_Config _)) (fun _ => rfl)) ?_
    refine .p 4 rfl (by kernel_rfl) (NoPanic.then_ (NoPanic.body)) (fun _ => v_move (v := reg (c : Pt)) rfl) ?_
    refine .p 5 rfl (by kernel_rfl) (NoPanic.then_ (NoPanic.body)) (fun _ => v_nilCheck (congrArg Value.pointer hp)) ?_
    refine .p 6 rfl (by kernel_rfl) (NoPanic.then_ (NoPanic.body)) (fun _ => v_fieldAddr fl_140_1 rfl) ?_
    obtain ⟨t14, ⟨xt14, hxt14, hgt14⟩, hh⟩ := hh
    refine .r 7 (fun h' => ∃ x : round_Core, AtH h' p (enc x) ∧ ((fun (x : round_Core) => x.me) : round_Core → Int) x = t14) rfl (by kernel_rfl) (NoPanic.then_ (NoPanic.body)) ⟨xt14, hxt14, hgt14⟩ (fun h' hS => hS.elim fun _ hS => v_ld1 (p := p) 2 na_3 rfl hS.1 hS.2 get_140_me) ?_
    refine .w2 8 13 (by kernel_rfl) rfl rfl (by kernel_rfl) (by kernel_rfl) ?_ ?_
    · have hh := hh.1
      refine .e (e_callP fn_77 rfl rfl hh ?_)
      intro h t15 hh
      refine ⟨⟨⟨trivial, .inl (by kernel_rfl)⟩, .inl (by kernel_rfl)⟩, ?_⟩
      refine .p 9 rfl (by kernel_rfl) (NoPanic.then_ (NoPanic.body)) (fun _ => v_move (v := reg (t15 : T3 api_Member Int Bool)) rfl) ?_
      refine .p 10 rfl (by kernel_rfl) (NoPanic.then_ (NoPanic.body)) (fun _ => v_extract (v := reg (t15.a : api_Member)) rfl rfl) ?_
      refine .p 11 rfl (by kernel_rfl) (NoPanic.then_ (NoPanic.body)) (fun _ => v_extract (v := reg (t15.b : Int)) rfl rfl) ?_
      refine .p 12 rfl (by kernel_rfl) (NoPanic.then_ (NoPanic.body)) (fun _ => v_extract (v := reg (t15.c : Bool)) rfl rfl) ?_
      refine box_elim hh (fun t3 ht3 hh => ?_)
      refine .w 13 (by kernel_rfl) rfl (by kernel_rfl) (.e (e_allocP ht3 zo_110 rfl ?_))
      obtain ⟨hc, hh⟩ := hh
      obtain ⟨hc_1, hh⟩ := hh
      refine ⟨⟨⟨trivial, .inr hc⟩, .inr hc_1⟩, ?_⟩
      obtain ⟨xw, hxw, hwxw, hh⟩ := hh
      refine .w 14 (by kernel_rfl) rfl (by kernel_rfl) (.e (e_storeN (p := t3) (nv := enc (t15.a : api_Member)) 0 rfl rfl rfl sz_110 (one_api_Member _) hxw hwxw (len_api_Member _) (len_api_Member _) rfl (set_110_all xw (t15.a : api_Member)) ?_))
      refine ⟨⟨⟨trivial, .inl (by kernel_rfl)⟩, .inl (by kernel_rfl)⟩, ?_⟩
      refine .p 15 rfl (by kernel_rfl) (NoPanic.then_ (NoPanic.body)) (fun _ => v_assign (v := reg (t15.b : Int)) rfl) ?_
      refine .p 16 rfl (by kernel_rfl) (NoPanic.then_ (NoPanic.body)) (fun _ => v_assign (v := reg (t15.c : Bool)) rfl) ?_
      refine .done (by kernel_rfl) ?_
      exact QN.thenJ ⟨_, t15.c, setl_eq ⟨rfl, trivial⟩, hh⟩
    · have hh := hh.2
      refine box_elim hh (fun t3_1 ht3_1 hh => ?_)
      refine .e (e_allocP ht3_1 zo_110 rfl ?_)
      obtain ⟨hc_2, hh⟩ := hh
      obtain ⟨hc_3, hh⟩ := hh
      refine ⟨⟨⟨trivial, .inr hc_2⟩, .inr hc_3⟩, ?_⟩
      refine .w 8 (by kernel_rfl) rfl (by kernel_rfl) (.e (e_callP fn_77 rfl rfl hh ?_))
      intro h t15_1 hh
      refine ⟨⟨⟨trivial, .inl (by kernel_rfl)⟩, .inl (by kernel_rfl)⟩, ?_⟩
      refine .p 9 rfl (by kernel_rfl) (NoPanic.then_ (NoPanic.body)) (fun _ => v_move (v := reg (t15_1 : T3 api_Member Int Bool)) rfl) ?_
      refine .p 10 rfl (by kernel_rfl) (NoPanic.then_ (NoPanic.body)) (fun _ => v_extract (v := reg (t15_1.a : api_Member)) rfl rfl) ?_
      refine .p 11 rfl (by kernel_rfl) (NoPanic.then_ (NoPanic.body)) (fun _ => v_extract (v := reg (t15_1.b : Int)) rfl rfl) ?_
      refine .p 12 rfl (by kernel_rfl) (NoPanic.then_ (NoPanic.body)) (fun _ => v_extract (v := reg (t15_1.c : Bool)) rfl rfl) ?_
      obtain ⟨xw_1, hxw_1, hwxw_1, hh⟩ := hh
      refine .w 14 (by kernel_rfl) rfl (by kernel_rfl) (.e (e_storeN (p := t3_1) (nv := enc (t15_1.a : api_Member)) 0 rfl rfl rfl sz_110 (one_api_Member _) hxw_1 hwxw_1 (len_api_Member _) (len_api_Member _) rfl (set_110_all xw_1 (t15_1.a : api_Member)) ?_))
      refine ⟨⟨⟨trivial, .inl (by kernel_rfl)⟩, .inl (by kernel_rfl)⟩, ?_⟩
      refine .p 15 rfl (by kernel_rfl) (NoPanic.then_ (NoPanic.body)) (fun _ => v_assign (v := reg (t15_1.b : Int)) rfl) ?_
      refine .p 16 rfl (by kernel_rfl) (NoPanic.then_ (NoPanic.body)) (fun _ => v_assign (v := reg (t15_1.c : Bool)) rfl) ?_
      refine .done (by kernel_rfl) ?_
      exact QN.thenJ ⟨_, t15_1.c, setl_eq ⟨rfl, trivial⟩, hh⟩
  · rintro ρ h ⟨ρ', is, rfl, hh⟩
    unfold round_Core_member.j1 at hh
    refine CW.seq ?_
    refine CW.region ?_
    refine .val (v_move (v := reg (is : Bool)) rfl) rfl ?_
    refine .val (v_assign (v := reg (is : Bool)) rfl) rfl ?_
    refine .nil ?_
    refine QN.then_ ?_
    refine CW.ret ?_
    exact ret1 rfl rfl ⟨(is : Bool), rfl, hh⟩
end Go.Proofs.YtimmoekliphobaaDoor
namespace Go.Proofs.YtimmoekliphobaaDoor
open Go Go.Sh
open Go.Sh.Ty (reg)
set_option linter.unusedVariables false
set_option maxRecDepth 100000
set_option maxHeartbeats 4000000
theorem round_Core_say.ok (c : Pt) (a : api_Act) (k : Unit → H → Prop) (h : H) (hh : round_Core_say.b c a k h) : CallsH Prog 90 [reg c, reg a].toArray h fun v h' => ∃ r : Unit, v = reg r ∧ k r h' := by
  unfold round_Core_say.b at hh
  refine CallsH.of 18 Tryd.func90 rfl Tryd.ntmps90 rfl (fun w0 => ?_)
  refine CW.seq ?_
  refine CW.region ?_
  refine box_elim hh (fun a_1 ha_1 hh => ?_)
  refine .e (e_boxP ha_1 rfl rfl rfl ?_)
  refine .nil ?_
  refine QN.then_ ?_
  refine CW.seq ?_
  refine CW.region ?_
  refine .val (v_fieldAddr fl_80_5 rfl) rfl ?_
  obtain ⟨t5, ⟨xt5, hxt5, hgt5⟩, hh⟩ := hh
  refine .val (v_ldA (p := a_1) 36 ag_75 rfl hxt5 hgt5 get_80_Block (fun _ => (len_api_Block _)) (fun _ => rfl)) rfl ?_
  refine .e (e_callP fn_69 rfl rfl hh ?_)
  intro h t6 hh
  refine .val (v_fieldAddr fl_80_5 rfl) rfl ?_
  obtain ⟨xw, hxw, hwxw, hh⟩ := hh
  refine .e (e_storeN (p := a_1) (nv := enc (t6 : api_Block)) 36 rfl rfl rfl sz_75 (one_api_Block _) hxw hwxw (len_api_Act _) (len_api_Block _) rfl (set_80_Block xw (t6 : api_Block)) ?_)
  refine .nil ?_
  refine QN.then_ ?_
  refine CW.drawN 11 rfl follows_mixed [0, 1, 2, 3, 4, 5, 8, 9] ?_
  refine .p 0 rfl (by kernel_rfl) (NoPanic.body) (fun _ => v_move (v := reg (c : Pt)) rfl) ?_
  refine .p 1 rfl (by kernel_rfl) (NoPanic.body) (fun _ => v_move (v := reg (c : Pt)) rfl) ?_
  obtain ⟨p, hp, hh⟩ := hh
  refine .p 2 rfl (by kernel_rfl) (NoPanic.body) (fun _ => v_nilCheck (congrArg Value.pointer hp)) ?_
  refine .p 3 rfl (by kernel_rfl) (NoPanic.body) (fun _ => v_fieldAddr fl_140_13 rfl) ?_
  obtain ⟨t12, ⟨xt12, hxt12, hgt12⟩, hh⟩ := hh
  refine .r 4 (fun h' => ∃ x : round_Core, AtH h' p (enc x) ∧ ((fun (x : round_Core) => x.out) : round_Core → Sl) x = t12) rfl (by kernel_rfl) (NoPanic.body) ⟨xt12, hxt12, hgt12⟩ (fun h' hS => hS.elim fun _ hS => v_ld1 (p := p) 212 na_68 rfl hS.1 hS.2 get_140_out) ?_
  obtain ⟨t13, ⟨xt13, hxt13, hgt13⟩, hh⟩ := hh
  refine .r 5 (fun h' => ∃ x : api_Act, AtH h' a_1 (enc x) ∧ ((fun (x : api_Act) => x) : api_Act → api_Act) x = t13) rfl (by kernel_rfl) (NoPanic.body) ⟨xt13, hxt13, hgt13⟩ (fun h' hS => hS.elim fun _ hS => v_ldA (p := a_1) 0 ag_80 rfl hS.1 hS.2 get_80_all (fun _ => (len_api_Act _)) (fun _ => rfl)) ?_
  refine mks_elim hh (fun pt14 t14 hpt14 ht14 hh => ?_)
  refine .w 6 (by kernel_rfl) rfl (by kernel_rfl) (.e (e_mks [(t13 : api_Act)] hpt14 ht14 zo_80 sl_68 rfl rfl rfl rfl rfl ?_))
  obtain ⟨hc, hh⟩ := hh
  refine ⟨⟨⟨trivial, .inr hc⟩, .inl (by kernel_rfl)⟩, ?_⟩
  refine .w 7 (by kernel_rfl) rfl (by kernel_rfl) (.e (e_app sl_68 zo_80 by_80 rfl rfl rfl hh ?_))
  intro h t15 hh
  refine ⟨⟨⟨trivial, .inl (by kernel_rfl)⟩, .inl (by kernel_rfl)⟩, ?_⟩
  refine .p 8 rfl (by kernel_rfl) (NoPanic.body) (fun _ => v_nilCheck (congrArg Value.pointer hp)) ?_
  refine .p 9 rfl (by kernel_rfl) (NoPanic.body) (fun _ => v_fieldAddr fl_140_13 rfl) ?_
  obtain ⟨xw_1, hxw_1, hwxw_1, hh⟩ := hh
  refine .w 10 (by kernel_rfl) rfl (by kernel_rfl) (.e (e_storeN (p := p) (nv := enc (t15 : Sl)) 212 rfl rfl rfl sz_68 (one_sl _) hxw_1 hwxw_1 (len_round_Core _) (len_sl _) rfl (set_140_out xw_1 (t15 : Sl)) ?_))
  refine ⟨⟨⟨trivial, .inl (by kernel_rfl)⟩, .inl (by kernel_rfl)⟩, ?_⟩
  refine .done (by kernel_rfl) ?_
  exact ret0n rfl ⟨(), rfl, hh⟩
end Go.Proofs.YtimmoekliphobaaDoor
namespace Go.Proofs.YtimmoekliphobaaDoor
open Go Go.Sh
open Go.Sh.Ty (reg)
set_option linter.unusedVariables false
set_option maxRecDepth 100000
set_option maxHeartbeats 4000000
theorem round_Core_votes.ok (c : Pt) (kind : Int) (d : Arr 32 UInt8) (k : Unit → H → Prop) (h : H) (hh : round_Core_votes.b c kind d k h) : CallsH Prog 63 [reg c, reg kind, reg d].toArray h fun v h' => ∃ r : Unit, v = reg r ∧ k r h' := by
  unfold round_Core_votes.b at hh
  refine CallsH.of 26 Tryd.func63 rfl Tryd.ntmps63 rfl (fun w0 => ?_)
  refine CW.seq ?_
  refine CW.region ?_
  refine box_elim hh (fun d_1 hd_1 hh => ?_)
  refine .e (e_boxP hd_1 rfl rfl rfl ?_)
  refine .nil ?_
  refine QN.then_ ?_
  refine CW.seq ?_
  refine CW.region ?_
  refine .val (v_move (v := reg (c : Pt)) rfl) rfl ?_
  refine .val (v_move (v := reg (c : Pt)) rfl) rfl ?_
  refine .val (v_move (v := reg (kind : Int)) rfl) rfl ?_
  refine .val (v_iadd rfl rfl) rfl ?_
  obtain ⟨p, hp, hh⟩ := hh
  refine .val (v_nilCheck (congrArg Value.pointer hp)) rfl ?_
  refine .val (v_fieldAddr fl_140_4 rfl) rfl ?_
  obtain ⟨xw, hxw, hwxw, hh⟩ := hh
  refine .e (e_storeN (p := p) (nv := enc ((iadd kind (1 : Int)) : Int)) 5 rfl rfl rfl sz_3 (one_i _) hxw hwxw (len_round_Core _) (len_i _) rfl (set_140_step xw ((iadd kind (1 : Int)) : Int)) ?_)
  refine .val (v_nilCheck (congrArg Value.pointer hp)) rfl ?_
  refine .val (v_fieldAddr fl_140_11 rfl) rfl ?_
  obtain ⟨xw_1, hxw_1, hwxw_1, hh⟩ := hh
  refine .e (e_storeN (p := p) (nv := enc (true : Bool)) 210 rfl rfl rfl sz_4 (one_b _) hxw_1 hwxw_1 (len_round_Core _) (len_b _) rfl (set_140_fresh xw_1 (true : Bool)) ?_)
  refine .nil ?_
  refine QN.then_ ?_
  refine CW.seq ?_
  refine CW.region ?_
  refine .val (v_move (v := reg (c : Pt)) rfl) rfl ?_
  refine .e (e_callP fn_89 rfl rfl hh ?_)
  intro h t15 hh
  refine .nil ?_
  refine QN.then_ ?_
  refine CW.cond t15 rfl (fun hb => ?_) (fun hb => ?_)
  · have hh := hh.1 hb
    refine CW.drawN 10 rfl follows_mixed [0, 1, 2, 3, 4, 6, 7, 8] ?_
    refine .p 0 rfl (by kernel_rfl) (NoPanic.body) (fun _ => v_move (v := reg (c : Pt)) rfl) ?_
    refine .p 1 rfl (by kernel_rfl) (NoPanic.body) (fun _ => v_move (v := reg (c : Pt)) rfl) ?_
    refine .p 2 rfl (by kernel_rfl) (NoPanic.body) (fun _ => v_nilCheck (congrArg Value.pointer hp)) ?_
    refine .p 3 rfl (by kernel_rfl) (NoPanic.body) (fun _ => v_fieldAddr fl_140_3 rfl) ?_
    obtain ⟨t20, ⟨xt20, hxt20, hgt20⟩, hh⟩ := hh
    refine .r 4 (fun h' => ∃ x : round_Core, AtH h' p (enc x) ∧ ((fun (x : round_Core) => x.at_) : round_Core → Cx) x = t20) rfl (by kernel_rfl) (NoPanic.body) ⟨xt20, hxt20, hgt20⟩ (fun h' hS => hS.elim fun _ hS => v_ld1 (p := p) 4 na_65 rfl hS.1 hS.2 get_140_at) ?_
    refine .p 6 rfl (by kernel_rfl) (NoPanic.body) (fun _ => v_move (v := reg (kind : Int)) rfl) ?_
    obtain ⟨t23, ⟨xt23, hxt23, hgt23⟩, hh⟩ := hh
    refine .r 7 (fun h' => ∃ x : Arr 32 UInt8, AtH h' d_1 (enc x) ∧ ((fun (x : Arr 32 UInt8) => x) : Arr 32 UInt8 → Arr 32 UInt8) x = t23) rfl (by kernel_rfl) (NoPanic.body) ⟨xt23, hxt23, hgt23⟩ (fun h' hS => hS.elim fun _ hS => v_ldA (p := d_1) 0 ag_24 rfl hS.1 hS.2 get_24_all (fun _ => (arr_len (n := 32) _)) (fun _ => rfl)) ?_
    refine .w 5 (by kernel_rfl) rfl (by kernel_rfl) (.e (e_callP fn_65 rfl rfl hh ?_))
    intro h t21 hh
    obtain ⟨hc, hh⟩ := hh
    refine ⟨⟨⟨trivial, .inl (by kernel_rfl)⟩, .inr hc⟩, ?_⟩
    refine .p 8 rfl (by kernel_rfl) (NoPanic.body) (fun _ => v_buildT ({ api_Act.zero with Act := (2 : Int), Round := t21, Kind := kind, Digest := t23 } : api_Act) zo_80 pl_80 rfl (fill_step rfl rfl (len_i _) (len_api_Act _) rfl (set_80_Act _ _) (fill_step rfl rfl (len_i _) (len_api_Act _) rfl (set_80_Round _ _) (fill_step rfl rfl (len_i _) (len_api_Act _) rfl (set_80_Kind _ _) (fill_step rfl rfl (arr_len (n := 32) _) (len_api_Act _) rfl (set_80_Digest _ _) (rfl))))) rfl) ?_
    refine .w 9 (by kernel_rfl) rfl (by kernel_rfl) (.e (e_callP fn_90 rfl rfl hh ?_))
    intro h t25 hh
    refine ⟨⟨⟨trivial, .inl (by kernel_rfl)⟩, .inl (by kernel_rfl)⟩, ?_⟩
    refine .done (by kernel_rfl) ?_
    exact ret0n rfl ⟨(), rfl, hh⟩
  · have hh := hh.2 hb
    refine CW.skip ?_
    exact ret0n rfl ⟨(), rfl, hh⟩
end Go.Proofs.YtimmoekliphobaaDoor
namespace Go.Proofs.YtimmoekliphobaaDoor
open Go Go.Sh
open Go.Sh.Ty (reg)
set_option linter.unusedVariables false
set_option maxRecDepth 100000
set_option maxHeartbeats 4000000
theorem round_Core_enter.ok (c : Pt) (round : Int) (k : Unit → H → Prop) (h : H) (hh : round_Core_enter.b c round k h) : CallsH Prog 57 [reg c, reg round].toArray h fun v h' => ∃ r : Unit, v = reg r ∧ k r h' := by
  unfold round_Core_enter.b at hh
  refine CallsH.of 52 Tryd.func57 rfl Tryd.ntmps57 rfl (fun w0 => ?_)
  refine CW.seq ?_
  refine CW.region ?_
  refine .val (v_move (v := reg (c : Pt)) rfl) rfl ?_
  refine .val (v_move (v := reg (c : Pt)) rfl) rfl ?_
  refine .val (v_move (v := reg (c : Pt)) rfl) rfl ?_
  refine .val (v_move (v := reg (c : Pt)) rfl) rfl ?_
  refine .val (v_move (v := reg (c : Pt)) rfl) rfl ?_
  obtain ⟨p, hp, hh⟩ := hh
  refine .val (v_nilCheck (congrArg Value.pointer hp)) rfl ?_
  refine .val (v_fieldAddr fl_140_3 rfl) rfl ?_
  obtain ⟨t11, ⟨xt11, hxt11, hgt11⟩, hh⟩ := hh
  refine .val (v_ld1 (p := p) 4 na_65 rfl hxt11 hgt11 get_140_at) rfl ?_
  refine .e (e_callP fn_68 rfl rfl hh ?_)
  intro h t12 hh
  refine .val (v_move (v := reg (round : Int)) rfl) rfl ?_
  refine .e (e_callP fn_30 rfl rfl hh ?_)
  intro h t14 hh
  refine .val (v_nilCheck (congrArg Value.pointer hp)) rfl ?_
  refine .val (v_fieldAddr fl_140_3 rfl) rfl ?_
  obtain ⟨xw, hxw, hwxw, hh⟩ := hh
  refine .e (e_storeN (p := p) (nv := enc (t14 : Cx)) 4 rfl rfl rfl sz_65 (one_cx _) hxw hwxw (len_round_Core _) (len_cx _) rfl (set_140_at xw (t14 : Cx)) ?_)
  refine .val (v_nilCheck (congrArg Value.pointer hp)) rfl ?_
  refine .val (v_fieldAddr fl_140_4 rfl) rfl ?_
  obtain ⟨xw_1, hxw_1, hwxw_1, hh⟩ := hh
  refine .e (e_storeN (p := p) (nv := enc ((1 : Int) : Int)) 5 rfl rfl rfl sz_3 (one_i _) hxw_1 hwxw_1 (len_round_Core _) (len_i _) rfl (set_140_step xw_1 ((1 : Int) : Int)) ?_)
  refine .val (v_nilCheck (congrArg Value.pointer hp)) rfl ?_
  refine .val (v_fieldAddr fl_140_5 rfl) rfl ?_
  obtain ⟨xw_2, hxw_2, hwxw_2, hh⟩ := hh
  refine .e (e_storeN (p := p) (nv := enc ((0 : Int) : Int)) 6 rfl rfl rfl sz_3 (one_i _) hxw_2 hwxw_2 (len_round_Core _) (len_i _) rfl (set_140_ticks xw_2 ((0 : Int) : Int)) ?_)
  refine .val (v_nilCheck (congrArg Value.pointer hp)) rfl ?_
  refine .val (v_fieldAddr fl_140_11 rfl) rfl ?_
  obtain ⟨xw_3, hxw_3, hwxw_3, hh⟩ := hh
  refine .e (e_storeN (p := p) (nv := enc (true : Bool)) 210 rfl rfl rfl sz_4 (one_b _) hxw_3 hwxw_3 (len_round_Core _) (len_b _) rfl (set_140_fresh xw_3 (true : Bool)) ?_)
  refine .nil ?_
  refine QN.then_ ?_
  refine CW.join (fun ρ h => ∃ (ρ' : Env) (t37 : Bool), ρ = setl ρ' [(0, reg (c : Pt)), (1, reg (round : Int)), (37, reg (t37 : Bool))] ∧ (round_Core_enter.j1 k) c round t37 h) ?_ ?_
  · refine CW.drawN 15 rfl follows_mixed [0, 2, 3, 4, 5, 6, 7, 9, 10, 11, 12, 13, 14] ?_
    refine .p 0 rfl (by kernel_rfl) (NoPanic.then_ (NoPanic.body)) (fun _ => v_move (v := reg (c : Pt)) rfl) ?_
    refine .w 1 (by kernel_rfl) rfl (by kernel_rfl) (.e (e_callP fn_89 rfl rfl hh ?_))
    intro h t24 hh
    refine ⟨trivial, ?_⟩
    refine .p 2 rfl (by kernel_rfl) (NoPanic.then_ (NoPanic.body)) (fun _ => v_move (v := reg (t24 : Bool)) rfl) ?_
    refine ifb_cases hh (fun hb hh => ?_) (fun hb hh => ?_)
    · refine .yp 3 25 rfl rfl (congrArg Value.bool hb) rfl (by kernel_rfl) (NoPanic.then_ (NoPanic.body)) (fun _ => v_move (v := reg (c : Pt)) rfl) ?_
      refine .yp 4 25 rfl rfl (congrArg Value.bool hb) rfl (by kernel_rfl) (NoPanic.then_ (NoPanic.body)) (fun _ => v_move (v := reg (c : Pt)) rfl) ?_
      refine .yp 5 25 rfl rfl (congrArg Value.bool hb) rfl (by kernel_rfl) (NoPanic.then_ (NoPanic.body)) (fun _ => v_nilCheck (congrArg Value.pointer hp)) ?_
      refine .yp 6 25 rfl rfl (congrArg Value.bool hb) rfl (by kernel_rfl) (NoPanic.then_ (NoPanic.body)) (fun _ => v_fieldAddr fl_140_3 rfl) ?_
      obtain ⟨t30, ⟨xt30, hxt30, hgt30⟩, hh⟩ := hh
      refine .yr 7 25 (fun h' => ∃ x : round_Core, AtH h' p (enc x) ∧ ((fun (x : round_Core) => x.at_) : round_Core → Cx) x = t30) rfl rfl (congrArg Value.bool hb) rfl (by kernel_rfl) (NoPanic.then_ (NoPanic.body)) ⟨xt30, hxt30, hgt30⟩ (fun h' hS => hS.elim fun _ hS => v_ld1 (p := p) 4 na_65 rfl hS.1 hS.2 get_140_at) ?_
      refine .yp 9 25 rfl rfl (congrArg Value.bool hb) rfl (by kernel_rfl) (NoPanic.then_ (NoPanic.body)) (fun _ => v_move (v := reg (c : Pt)) rfl) ?_
      refine .yp 10 25 rfl rfl (congrArg Value.bool hb) rfl (by kernel_rfl) (NoPanic.then_ (NoPanic.body)) (fun _ => v_nilCheck (congrArg Value.pointer hp)) ?_
      refine .yp 11 25 rfl rfl (congrArg Value.bool hb) rfl (by kernel_rfl) (NoPanic.then_ (NoPanic.body)) (fun _ => v_fieldAddr fl_140_1 rfl) ?_
      obtain ⟨t35, ⟨xt35, hxt35, hgt35⟩, hh⟩ := hh
      refine .yr 12 25 (fun h' => ∃ x : round_Core, AtH h' p (enc x) ∧ ((fun (x : round_Core) => x.me) : round_Core → Int) x = t35) rfl rfl (congrArg Value.bool hb) rfl (by kernel_rfl) (NoPanic.then_ (NoPanic.body)) ⟨xt35, hxt35, hgt35⟩ (fun h' hS => hS.elim fun _ hS => v_ld1 (p := p) 2 na_3 rfl hS.1 hS.2 get_140_me) ?_
      refine .w 8 (by kernel_rfl) rfl (by kernel_rfl) (.ye 25 rfl (congrArg Value.bool hb) rfl (e_callP fn_70 rfl rfl hh ?_))
      intro h t31 hh
      obtain ⟨hc, hh⟩ := hh
      refine ⟨⟨⟨trivial, .inl (by kernel_rfl)⟩, .inr hc⟩, ?_⟩
      refine .yp 13 25 rfl rfl (congrArg Value.bool hb) rfl (by kernel_rfl) (NoPanic.then_ (NoPanic.body)) (fun _ => v_ieql rfl rfl) ?_
      refine .p 14 rfl (by kernel_rfl) (NoPanic.then_ (NoPanic.body)) (fun _ => v_pickT (v := reg ((t31 == t35) : Bool)) rfl hb rfl) ?_
      refine .done (by kernel_rfl) ?_
      exact QN.thenJ ⟨_, (t31 == t35), setl_eq ⟨rfl, ⟨rfl, ⟨rfl, trivial⟩⟩⟩, hh⟩
    · refine .no' 3 25 rfl rfl (congrArg Value.bool hb) rfl (by kernel_rfl) (NoPanic.then_ (NoPanic.body)) ?_
      refine .no' 4 25 rfl rfl (congrArg Value.bool hb) rfl (by kernel_rfl) (NoPanic.then_ (NoPanic.body)) ?_
      refine .no' 5 25 rfl rfl (congrArg Value.bool hb) rfl (by kernel_rfl) (NoPanic.then_ (NoPanic.body)) ?_
      refine .no' 6 25 rfl rfl (congrArg Value.bool hb) rfl (by kernel_rfl) (NoPanic.then_ (NoPanic.body)) ?_
      refine .no' 7 25 rfl rfl (congrArg Value.bool hb) rfl (by kernel_rfl) (NoPanic.then_ (NoPanic.body)) ?_
      refine .no' 9 25 rfl rfl (congrArg Value.bool hb) rfl (by kernel_rfl) (NoPanic.then_ (NoPanic.body)) ?_
      refine .no' 10 25 rfl rfl (congrArg Value.bool hb) rfl (by kernel_rfl) (NoPanic.then_ (NoPanic.body)) ?_
      refine .no' 11 25 rfl rfl (congrArg Value.bool hb) rfl (by kernel_rfl) (NoPanic.then_ (NoPanic.body)) ?_
      refine .no' 12 25 rfl rfl (congrArg Value.bool hb) rfl (by kernel_rfl) (NoPanic.then_ (NoPanic.body)) ?_
      refine .w 8 (by kernel_rfl) rfl (by kernel_rfl) (.no 25 rfl (congrArg Value.bool hb) rfl rfl ⟨trivial, ?_⟩)
      refine .no' 13 25 rfl rfl (congrArg Value.bool hb) rfl (by kernel_rfl) (NoPanic.then_ (NoPanic.body)) ?_
      refine .p 14 rfl (by kernel_rfl) (NoPanic.then_ (NoPanic.body)) (fun _ => v_pickF (v := reg (false : Bool)) rfl hb rfl) ?_
      refine .done (by kernel_rfl) ?_
      exact QN.thenJ ⟨_, false, setl_eq ⟨rfl, ⟨rfl, ⟨rfl, trivial⟩⟩⟩, hh⟩
  · rintro ρ h ⟨ρ', t37, rfl, hh⟩
    unfold round_Core_enter.j1 at hh
    refine CW.cond t37 rfl (fun hb_1 => ?_) (fun hb_1 => ?_)
    · have hh := hh.1 hb_1
      refine CW.drawN 14 rfl follows_mixed [0, 1, 2, 3, 4, 5, 6, 7, 8, 9, 10, 11, 12] ?_
      refine .p 0 rfl (by kernel_rfl) (NoPanic.body) (fun _ => v_move (v := reg (c : Pt)) rfl) ?_
      refine .p 1 rfl (by kernel_rfl) (NoPanic.body) (fun _ => v_move (v := reg (round : Int)) rfl) ?_
      refine .p 2 rfl (by kernel_rfl) (NoPanic.body) (fun _ => v_move (v := reg (c : Pt)) rfl) ?_
      obtain ⟨p_1, hp_1, hh⟩ := hh
      refine .p 3 rfl (by kernel_rfl) (NoPanic.body) (fun _ => v_nilCheck (congrArg Value.pointer hp_1)) ?_
      refine .p 4 rfl (by kernel_rfl) (NoPanic.body) (fun _ => v_fieldAddr fl_140_7 rfl) ?_
      refine .p 5 rfl (by kernel_rfl) (NoPanic.body) (fun _ => v_fieldAddr fl_136_0 rfl) ?_
      obtain ⟨t44, ⟨xt44, hxt44, hgt44⟩, hh⟩ := hh
      refine .r 6 (fun h' => ∃ x : round_Core, AtH h' p_1 (enc x) ∧ ((fun (x : round_Core) => x.valid.round) : round_Core → Int) x = t44) rfl (by kernel_rfl) (NoPanic.body) ⟨xt44, hxt44, hgt44⟩ (fun h' hS => hS.elim fun _ hS => v_ld1 (p := p_1) 107 na_3 rfl hS.1 hS.2 get_140_valid_round) ?_
      refine .p 7 rfl (by kernel_rfl) (NoPanic.body) (fun _ => v_move (v := reg (c : Pt)) rfl) ?_
      refine .p 8 rfl (by kernel_rfl) (NoPanic.body) (fun _ => v_nilCheck (congrArg Value.pointer hp_1)) ?_
      refine .p 9 rfl (by kernel_rfl) (NoPanic.body) (fun _ => v_fieldAddr fl_140_7 rfl) ?_
      refine .p 10 rfl (by kernel_rfl) (NoPanic.body) (fun _ => v_fieldAddr fl_136_1 rfl) ?_
      obtain ⟨t49, ⟨xt49, hxt49, hgt49⟩, hh⟩ := hh
      refine .r 11 (fun h' => ∃ x : round_Core, AtH h' p_1 (enc x) ∧ ((fun (x : round_Core) => x.valid.block) : round_Core → api_Block) x = t49) rfl (by kernel_rfl) (NoPanic.body) ⟨xt49, hxt49, hgt49⟩ (fun h' hS => hS.elim fun _ hS => v_ldA (p := p_1) 108 ag_75 rfl hS.1 hS.2 get_140_valid_block (fun _ => (len_api_Block _)) (fun _ => rfl)) ?_
      refine .p 12 rfl (by kernel_rfl) (NoPanic.body) (fun _ => v_buildT ({ api_Act.zero with Act := (1 : Int), Round := round, Valid := t44, Block := t49 } : api_Act) zo_80 pl_80 rfl (fill_step rfl rfl (len_i _) (len_api_Act _) rfl (set_80_Act _ _) (fill_step rfl rfl (len_i _) (len_api_Act _) rfl (set_80_Round _ _) (fill_step rfl rfl (len_i _) (len_api_Act _) rfl (set_80_Valid _ _) (fill_step rfl rfl (len_api_Block _) (len_api_Act _) rfl (set_80_Block _ _) (rfl))))) rfl) ?_
      refine .w 13 (by kernel_rfl) rfl (by kernel_rfl) (.e (e_callP fn_90 rfl rfl hh ?_))
      intro h t51 hh
      refine ⟨⟨⟨trivial, .inl (by kernel_rfl)⟩, .inl (by kernel_rfl)⟩, ?_⟩
      refine .done (by kernel_rfl) ?_
      exact ret0n rfl ⟨(), rfl, hh⟩
    · have hh := hh.2 hb_1
      refine CW.skip ?_
      exact ret0n rfl ⟨(), rfl, hh⟩
end Go.Proofs.YtimmoekliphobaaDoor
namespace Go.Proofs.YtimmoekliphobaaDoor
open Go Go.Sh
open Go.Sh.Ty (reg)
set_option linter.unusedVariables false
set_option maxRecDepth 100000
set_option maxHeartbeats 4000000
theorem round_Core_first.ok (c : Pt) (round : Int) (d : Arr 32 UInt8) (k : Bool → H → Prop) (h : H) (hh : round_Core_first.b c round d k h) : CallsH Prog 117 [reg c, reg round, reg d].toArray h fun v h' => ∃ r : Bool, v = reg r ∧ k r h' := by
  unfold round_Core_first.b at hh
  refine CallsH.of 20 Tryd.func117 rfl Tryd.ntmps117 rfl (fun w0 => ?_)
  refine CW.seq ?_
  refine CW.region ?_
  refine box_elim hh (fun d_1 hd_1 hh => ?_)
  refine .e (e_boxP hd_1 rfl rfl rfl ?_)
  refine .val (v_assign (v := reg (false : Bool)) rfl) rfl ?_
  refine .nil ?_
  refine QN.then_ ?_
  refine CW.seq ?_
  refine CW.drawN 14 rfl follows_mixed [0, 1, 2, 3, 4, 5, 7, 8, 9, 10, 12, 13] ?_
  refine .p 0 rfl (by kernel_rfl) (NoPanic.then_ (NoPanic.body)) (fun _ => v_move (v := reg (c : Pt)) rfl) ?_
  obtain ⟨p, hp, hh⟩ := hh
  refine .p 1 rfl (by kernel_rfl) (NoPanic.then_ (NoPanic.body)) (fun _ => v_nilCheck (congrArg Value.pointer hp)) ?_
  refine .p 2 rfl (by kernel_rfl) (NoPanic.then_ (NoPanic.body)) (fun _ => v_fieldAddr fl_140_10 rfl) ?_
  obtain ⟨t10, ⟨xt10, hxt10, hgt10⟩, hh⟩ := hh
  refine .r 3 (fun h' => ∃ x : round_Core, AtH h' p (enc x) ∧ ((fun (x : round_Core) => x.box) : round_Core → Pt) x = t10) rfl (by kernel_rfl) (NoPanic.then_ (NoPanic.body)) ⟨xt10, hxt10, hgt10⟩ (fun h' hS => hS.elim fun _ hS => v_ld1 (p := p) 209 na_26 rfl hS.1 hS.2 get_140_box) ?_
  refine .p 4 rfl (by kernel_rfl) (NoPanic.then_ (NoPanic.body)) (fun _ => v_move (v := reg (round : Int)) rfl) ?_
  obtain ⟨t12, ⟨xt12, hxt12, hgt12⟩, hh⟩ := hh
  refine .r 5 (fun h' => ∃ x : Arr 32 UInt8, AtH h' d_1 (enc x) ∧ ((fun (x : Arr 32 UInt8) => x) : Arr 32 UInt8 → Arr 32 UInt8) x = t12) rfl (by kernel_rfl) (NoPanic.then_ (NoPanic.body)) ⟨xt12, hxt12, hgt12⟩ (fun h' hS => hS.elim fun _ hS => v_ldA (p := d_1) 0 ag_24 rfl hS.1 hS.2 get_24_all (fun _ => (arr_len (n := 32) _)) (fun _ => rfl)) ?_
  refine .p 7 rfl (by kernel_rfl) (NoPanic.then_ (NoPanic.body)) (fun _ => v_move (v := reg (c : Pt)) rfl) ?_
  refine .p 8 rfl (by kernel_rfl) (NoPanic.then_ (NoPanic.body)) (fun _ => v_nilCheck (congrArg Value.pointer hp)) ?_
  refine .p 9 rfl (by kernel_rfl) (NoPanic.then_ (NoPanic.body)) (fun _ => v_fieldAddr fl_140_0 rfl) ?_
  obtain ⟨t17, ⟨xt17, hxt17, hgt17⟩, hh⟩ := hh
  refine .r 10 (fun h' => ∃ x : round_Core, AtH h' p (enc x) ∧ ((fun (x : round_Core) => x.config) : round_Core → api_Config) x = t17) rfl (by kernel_rfl) (NoPanic.then_ (NoPanic.body)) ⟨xt17, hxt17, hgt17⟩ (fun h' hS => hS.elim fun _ hS => v_ldA (p := p) 0 ag_54 rfl hS.1 hS.2 get_140_config (fun _ => (len_api_Config _)) (fun _ => rfl)) ?_
  refine .w 6 (by kernel_rfl) rfl (by kernel_rfl) (.e (e_callP fn_16 rfl rfl hh ?_))
  intro h t13 hh
  obtain ⟨hc, hh⟩ := hh
  refine ⟨⟨⟨⟨trivial, .inl (by kernel_rfl)⟩, .inl (by kernel_rfl)⟩, .inr hc⟩, ?_⟩
  refine .w 11 (by kernel_rfl) rfl (by kernel_rfl) (.e (e_callP fn_114 rfl rfl hh ?_))
  intro h t18 hh
  refine ⟨⟨⟨⟨trivial, .inl (by kernel_rfl)⟩, .inl (by kernel_rfl)⟩, .inl (by kernel_rfl)⟩, ?_⟩
  refine .p 12 rfl (by kernel_rfl) (NoPanic.then_ (NoPanic.body)) (fun _ => v_igeq rfl rfl) ?_
  refine .p 13 rfl (by kernel_rfl) (NoPanic.then_ (NoPanic.body)) (fun _ => v_assign (v := reg ((decide (t18 ≤ t13)) : Bool)) rfl) ?_
  refine .done (by kernel_rfl) ?_
  refine QN.then_ ?_
  refine CW.ret ?_
  exact ret1 rfl rfl ⟨((decide (t18 ≤ t13)) : Bool), rfl, hh⟩
end Go.Proofs.YtimmoekliphobaaDoor
namespace Go.Proofs.YtimmoekliphobaaDoor
open Go Go.Sh
open Go.Sh.Ty (reg)
set_option linter.unusedVariables false
set_option maxRecDepth 100000
set_option maxHeartbeats 4000000
theorem round_Core_later.ok (c : Pt) (k : Int → H → Prop) (h : H) (hh : round_Core_later.b c k h) : CallsH Prog 115 [reg c].toArray h fun v h' => ∃ r : Int, v = reg r ∧ k r h' := by
  unfold round_Core_later.b at hh
  refine CallsH.of 29 Tryd.func115 rfl Tryd.ntmps115 rfl (fun w0 => ?_)
  refine CW.seq ?_
  refine CW.region ?_
  refine .val (v_assign (v := reg ((0 : Int) : Int)) rfl) rfl ?_
  refine .nil ?_
  refine QN.then_ ?_
  refine CW.seq ?_
  refine CW.region ?_
  refine .val (v_move (v := reg (c : Pt)) rfl) rfl ?_
  obtain ⟨p, hp, hh⟩ := hh
  refine .val (v_nilCheck (congrArg Value.pointer hp)) rfl ?_
  refine .val (v_fieldAddr fl_140_3 rfl) rfl ?_
  obtain ⟨t8, ⟨xt8, hxt8, hgt8⟩, hh⟩ := hh
  refine .val (v_ld1 (p := p) 4 na_65 rfl hxt8 hgt8 get_140_at) rfl ?_
  refine .e (e_callP fn_65 rfl rfl hh ?_)
  intro h t9 hh
  refine .val (v_assign (v := reg (t9 : Int)) rfl) rfl ?_
  refine .nil ?_
  refine QN.then_ ?_
  refine CW.join (fun ρ h => ∃ (ρ' : Env) (now : Int), ρ = setl ρ' [(0, reg (c : Pt)), (3, reg (now : Int))] ∧ (round_Core_later.j1 k) c now h) ?_ ?_
  · refine CW.seq ?_
    refine CW.region ?_
    refine .val (v_move (v := reg (c : Pt)) rfl) rfl ?_
    refine .val (v_nilCheck (congrArg Value.pointer hp)) rfl ?_
    refine .val (v_fieldAddr fl_140_4 rfl) rfl ?_
    obtain ⟨t13, ⟨xt13, hxt13, hgt13⟩, hh⟩ := hh
    refine .val (v_ld1 (p := p) 5 na_3 rfl hxt13 hgt13 get_140_step) rfl ?_
    refine .val (v_ieql rfl rfl) rfl ?_
    refine .nil ?_
    refine QN.then_ ?_
    refine CW.cond (t13 == (0 : Int)) rfl (fun hb => ?_) (fun hb => ?_)
    · have hh := hh.1 hb
      refine CW.region ?_
      refine .val (v_assign (v := reg ((-1 : Int) : Int)) rfl) rfl ?_
      refine .nil ?_
      exact QN.thenJ ⟨_, (-1 : Int), setl_eq ⟨rfl, ⟨rfl, trivial⟩⟩, hh⟩
    · have hh := hh.2 hb
      refine CW.skip ?_
      exact QN.thenJ ⟨_, t9, setl_eq ⟨rfl, ⟨rfl, trivial⟩⟩, hh⟩
  · rintro ρ h ⟨ρ', now, rfl, hh⟩
    unfold round_Core_later.j1 at hh
    refine CW.seq ?_
    refine CW.seq ?_
    refine CW.drawN 11 rfl follows_mixed [0, 1, 2, 3, 4, 5, 6, 7, 10] ?_
    refine .p 0 rfl (by kernel_rfl) (NoPanic.then_ (NoPanic.then_ (NoPanic.body))) (fun _ => v_move (v := reg (c : Pt)) rfl) ?_
    obtain ⟨p_1, hp_1, hh⟩ := hh
    refine .p 1 rfl (by kernel_rfl) (NoPanic.then_ (NoPanic.then_ (NoPanic.body))) (fun _ => v_nilCheck (congrArg Value.pointer hp_1)) ?_
    refine .p 2 rfl (by kernel_rfl) (NoPanic.then_ (NoPanic.then_ (NoPanic.body))) (fun _ => v_fieldAddr fl_140_10 rfl) ?_
    obtain ⟨t18, ⟨xt18, hxt18, hgt18⟩, hh⟩ := hh
    refine .r 3 (fun h' => ∃ x : round_Core, AtH h' p_1 (enc x) ∧ ((fun (x : round_Core) => x.box) : round_Core → Pt) x = t18) rfl (by kernel_rfl) (NoPanic.then_ (NoPanic.then_ (NoPanic.body))) ⟨xt18, hxt18, hgt18⟩ (fun h' hS => hS.elim fun _ hS => v_ld1 (p := p_1) 209 na_26 rfl hS.1 hS.2 get_140_box) ?_
    refine .p 4 rfl (by kernel_rfl) (NoPanic.then_ (NoPanic.then_ (NoPanic.body))) (fun _ => v_move (v := reg (c : Pt)) rfl) ?_
    refine .p 5 rfl (by kernel_rfl) (NoPanic.then_ (NoPanic.then_ (NoPanic.body))) (fun _ => v_nilCheck (congrArg Value.pointer hp_1)) ?_
    refine .p 6 rfl (by kernel_rfl) (NoPanic.then_ (NoPanic.then_ (NoPanic.body))) (fun _ => v_fieldAddr fl_140_0 rfl) ?_
    obtain ⟨t22, ⟨xt22, hxt22, hgt22⟩, hh⟩ := hh
    refine .r 7 (fun h' => ∃ x : round_Core, AtH h' p_1 (enc x) ∧ ((fun (x : round_Core) => x.config) : round_Core → api_Config) x = t22) rfl (by kernel_rfl) (NoPanic.then_ (NoPanic.then_ (NoPanic.body))) ⟨xt22, hxt22, hgt22⟩ (fun h' hS => hS.elim fun _ hS => v_ldA (p := p_1) 0 ag_54 rfl hS.1 hS.2 get_140_config (fun _ => (len_api_Config _)) (fun _ => rfl)) ?_
    refine .w 8 (by kernel_rfl) rfl (by kernel_rfl) (.e (e_callP fn_133 rfl rfl hh ?_))
    intro h t23 hh
    obtain ⟨hc, hh⟩ := hh
    refine ⟨⟨⟨trivial, .inr hc⟩, .inl (by kernel_rfl)⟩, ?_⟩
    refine .w 9 (by kernel_rfl) rfl (by kernel_rfl) (.e (e_callP fn_19 rfl rfl hh ?_))
    intro h t24 hh
    refine ⟨⟨⟨trivial, .inl (by kernel_rfl)⟩, .inl (by kernel_rfl)⟩, ?_⟩
    refine .p 10 rfl (by kernel_rfl) (NoPanic.then_ (NoPanic.then_ (NoPanic.body))) (fun _ => v_assign (v := reg (t24 : Int)) rfl) ?_
    refine .done (by kernel_rfl) ?_
    refine QN.then_ ?_
    refine CW.seq ?_
    refine CW.region ?_
    refine .val (v_move (v := reg (t24 : Int)) rfl) rfl ?_
    refine .val (v_move (v := reg (now : Int)) rfl) rfl ?_
    refine .val (v_igtr rfl rfl) rfl ?_
    refine .nil ?_
    refine QN.then_ ?_
    refine CW.cond (decide (now < t24)) rfl (fun hb_1 => ?_) (fun hb_1 => ?_)
    · have hh := hh.1 hb_1
      refine CW.seq ?_
      refine CW.region ?_
      refine .val (v_move (v := reg (t24 : Int)) rfl) rfl ?_
      refine .val (v_assign (v := reg (t24 : Int)) rfl) rfl ?_
      refine .nil ?_
      refine QN.then_ ?_
      refine CW.ret ?_
      refine QN.thenRet ?_
      exact ret1 rfl rfl ⟨(t24 : Int), rfl, hh⟩
    · have hh := hh.2 hb_1
      refine CW.skip ?_
      refine QN.then_ ?_
      refine CW.seq ?_
      refine CW.region ?_
      refine .val (v_assign (v := reg ((-1 : Int) : Int)) rfl) rfl ?_
      refine .nil ?_
      refine QN.then_ ?_
      refine CW.ret ?_
      exact ret1 rfl rfl ⟨((-1 : Int) : Int), rfl, hh⟩
end Go.Proofs.YtimmoekliphobaaDoor
namespace Go.Proofs.YtimmoekliphobaaDoor
open Go Go.Sh
open Go.Sh.Ty (reg)
set_option linter.unusedVariables false
set_option maxRecDepth 100000
set_option maxHeartbeats 4000000
theorem round_mark_is.ok (m : round_mark) (d : Arr 32 UInt8) (k : Bool → H → Prop) (h : H) (hh : round_mark_is.b m d k h) : CallsH Prog 134 [reg m, reg d].toArray h fun v h' => ∃ r : Bool, v = reg r ∧ k r h' := by
  unfold round_mark_is.b at hh
  refine CallsH.of 15 Tryd.func134 rfl Tryd.ntmps134 rfl (fun w0 => ?_)
  refine CW.seq ?_
  refine CW.region ?_
  refine box_elim hh (fun m_1 hm_1 hh => ?_)
  refine .e (e_boxP hm_1 rfl rfl rfl ?_)
  refine box_elim hh (fun d_1 hd_1 hh => ?_)
  refine .e (e_boxP hd_1 rfl rfl rfl ?_)
  refine .val (v_assign (v := reg (false : Bool)) rfl) rfl ?_
  refine .nil ?_
  refine QN.then_ ?_
  refine CW.join (fun ρ h => ∃ (ρ' : Env) (t4 : Bool), ρ = setl ρ' [(4, reg (t4 : Bool))] ∧ (round_mark_is.j1 k) t4 h) ?_ ?_
  · refine CW.drawN 11 rfl follows_mixed [0, 1, 2, 3, 4, 5, 7, 8, 9, 10] ?_
    refine .p 0 rfl (by kernel_rfl) (NoPanic.then_ (NoPanic.body)) (fun _ => v_fieldAddr fl_136_0 rfl) ?_
    obtain ⟨t6, ⟨xt6, hxt6, hgt6⟩, hh⟩ := hh
    refine .r 1 (fun h' => ∃ x : round_mark, AtH h' m_1 (enc x) ∧ ((fun (x : round_mark) => x.round) : round_mark → Int) x = t6) rfl (by kernel_rfl) (NoPanic.then_ (NoPanic.body)) ⟨xt6, hxt6, hgt6⟩ (fun h' hS => hS.elim fun _ hS => v_ld1 (p := m_1) 0 na_3 rfl hS.1 hS.2 get_136_round) ?_
    refine .p 2 rfl (by kernel_rfl) (NoPanic.then_ (NoPanic.body)) (fun _ => v_igeq rfl rfl) ?_
    refine .p 3 rfl (by kernel_rfl) (NoPanic.then_ (NoPanic.body)) (fun _ => v_move (v := reg ((decide ((0 : Int) ≤ t6)) : Bool)) rfl) ?_
    refine ifb_cases hh (fun hb hh => ?_) (fun hb hh => ?_)
    · refine .yp 4 8 rfl rfl (congrArg Value.bool hb) rfl (by kernel_rfl) (NoPanic.then_ (NoPanic.body)) (fun _ => v_fieldAddr fl_136_1 rfl) ?_
      obtain ⟨t10, ⟨xt10, hxt10, hgt10⟩, hh⟩ := hh
      refine .yr 5 8 (fun h' => ∃ x : round_mark, AtH h' m_1 (enc x) ∧ ((fun (x : round_mark) => x.block) : round_mark → api_Block) x = t10) rfl rfl (congrArg Value.bool hb) rfl (by kernel_rfl) (NoPanic.then_ (NoPanic.body)) ⟨xt10, hxt10, hgt10⟩ (fun h' hS => hS.elim fun _ hS => v_ldA (p := m_1) 1 ag_75 rfl hS.1 hS.2 get_136_block (fun _ => (len_api_Block _)) (fun _ => rfl)) ?_
      obtain ⟨t12, ⟨xt12, hxt12, hgt12⟩, hh⟩ := hh
      refine .yr 7 8 (fun h' => ∃ x : Arr 32 UInt8, AtH h' d_1 (enc x) ∧ ((fun (x : Arr 32 UInt8) => x) : Arr 32 UInt8 → Arr 32 UInt8) x = t12) rfl rfl (congrArg Value.bool hb) rfl (by kernel_rfl) (NoPanic.then_ (NoPanic.body)) ⟨xt12, hxt12, hgt12⟩ (fun h' hS => hS.elim fun _ hS => v_ldA (p := d_1) 0 ag_24 rfl hS.1 hS.2 get_24_all (fun _ => (arr_len (n := 32) _)) (fun _ => rfl)) ?_
      refine .w 6 (by kernel_rfl) rfl (by kernel_rfl) (.ye 8 rfl (congrArg Value.bool hb) rfl (e_callP fn_34 rfl rfl hh ?_))
      intro h t11 hh
      obtain ⟨hc, hh⟩ := hh
      refine ⟨⟨⟨⟨trivial, .inl (by kernel_rfl)⟩, .inl (by kernel_rfl)⟩, .inr hc⟩, ?_⟩
      refine .yp 8 8 rfl rfl (congrArg Value.bool hb) rfl (by kernel_rfl) (NoPanic.then_ (NoPanic.body)) (fun _ => v_eq_arr8 bt_24 rfl rfl) ?_
      refine .p 9 rfl (by kernel_rfl) (NoPanic.then_ (NoPanic.body)) (fun _ => v_pickT (v := reg ((decide (t11 = t12)) : Bool)) rfl hb rfl) ?_
      refine .p 10 rfl (by kernel_rfl) (NoPanic.then_ (NoPanic.body)) (fun _ => v_assign (v := reg ((decide (t11 = t12)) : Bool)) rfl) ?_
      refine .done (by kernel_rfl) ?_
      exact QN.thenJ ⟨_, (decide (t11 = t12)), setl_eq ⟨rfl, trivial⟩, hh⟩
    · refine .no' 4 8 rfl rfl (congrArg Value.bool hb) rfl (by kernel_rfl) (NoPanic.then_ (NoPanic.body)) ?_
      refine .no' 5 8 rfl rfl (congrArg Value.bool hb) rfl (by kernel_rfl) (NoPanic.then_ (NoPanic.body)) ?_
      refine .no' 7 8 rfl rfl (congrArg Value.bool hb) rfl (by kernel_rfl) (NoPanic.then_ (NoPanic.body)) ?_
      refine .w 6 (by kernel_rfl) rfl (by kernel_rfl) (.no 8 rfl (congrArg Value.bool hb) rfl rfl ⟨⟨trivial, .inl (by kernel_rfl)⟩, ?_⟩)
      refine .no' 8 8 rfl rfl (congrArg Value.bool hb) rfl (by kernel_rfl) (NoPanic.then_ (NoPanic.body)) ?_
      refine .p 9 rfl (by kernel_rfl) (NoPanic.then_ (NoPanic.body)) (fun _ => v_pickF (v := reg (false : Bool)) rfl hb rfl) ?_
      refine .p 10 rfl (by kernel_rfl) (NoPanic.then_ (NoPanic.body)) (fun _ => v_assign (v := reg (false : Bool)) rfl) ?_
      refine .done (by kernel_rfl) ?_
      exact QN.thenJ ⟨_, false, setl_eq ⟨rfl, trivial⟩, hh⟩
  · rintro ρ h ⟨ρ', t4, rfl, hh⟩
    unfold round_mark_is.j1 at hh
    refine CW.ret ?_
    exact ret1 rfl rfl ⟨(t4 : Bool), rfl, hh⟩
end Go.Proofs.YtimmoekliphobaaDoor
namespace Go.Proofs.YtimmoekliphobaaDoor
open Go Go.Sh
open Go.Sh.Ty (reg)
set_option linter.unusedVariables false
set_option maxRecDepth 100000
set_option maxHeartbeats 4000000
theorem round_Core_plan.ok (c : Pt) (p : api_Plan) (k : (T2 (Arr 32 UInt8) Bool) → H → Prop) (h : H) (hh : round_Core_plan.b c p k h) : CallsH Prog 116 [reg c, reg p].toArray h fun v h' => ∃ r : T2 (Arr 32 UInt8) Bool, v = reg r ∧ k r h' := by
  unfold round_Core_plan.b at hh
  refine CallsH.of 50 Tryd.func116 rfl Tryd.ntmps116 rfl (fun w0 => ?_)
  refine CW.seq ?_
  refine CW.region ?_
  refine box_elim hh (fun p_1 hp_1 hh => ?_)
  refine .e (e_boxP hp_1 rfl rfl rfl ?_)
  refine box_elim hh (fun t4 ht4 hh => ?_)
  refine .e (e_allocP ht4 zo_24 rfl ?_)
  refine .val (v_assign (v := reg (false : Bool)) rfl) rfl ?_
  refine .nil ?_
  refine QN.then_ ?_
  refine CW.seq ?_
  refine CW.region ?_
  refine .val (v_fieldAddr fl_77_4 rfl) rfl ?_
  obtain ⟨t9, ⟨xt9, hxt9, hgt9⟩, hh⟩ := hh
  refine .val (v_ldA (p := p_1) 4 ag_75 rfl hxt9 hgt9 get_77_Block (fun _ => (len_api_Block _)) (fun _ => rfl)) rfl ?_
  refine .e (e_callP fn_34 rfl rfl hh ?_)
  intro h t10 hh
  refine box_elim hh (fun d hd hh => ?_)
  refine .e (e_allocP hd zo_24 rfl ?_)
  obtain ⟨xw, hxw, hwxw, hh⟩ := hh
  refine .e (e_storeN (p := d) (nv := enc (t10 : Arr 32 UInt8)) 0 rfl rfl rfl sz_24 (one_arr (n := 32) (fun _ => rfl) _) hxw hwxw (arr_len (n := 32) _) (arr_len (n := 32) _) rfl (set_24_all xw (t10 : Arr 32 UInt8)) ?_)
  refine .nil ?_
  refine QN.then_ ?_
  refine CW.join (fun ρ h => ∃ (ρ' : Env) (free : Bool), ρ = setl ρ' [(0, reg (c : Pt)), (3, .pointer (some p_1)), (4, .pointer (some t4)), (6, .pointer (some d)), (7, reg (free : Bool))] ∧ (round_Core_plan.j1 k) c p_1 t4 d free h) ?_ ?_
  · refine CW.drawN 15 rfl follows_mixed [0, 1, 2, 3, 4, 5, 6, 7, 8, 9, 10, 11, 13, 14] ?_
    refine .p 0 rfl (by kernel_rfl) (NoPanic.then_ (NoPanic.body)) (fun _ => v_move (v := reg (c : Pt)) rfl) ?_
    obtain ⟨p_2, hp_2, hh⟩ := hh
    refine .p 1 rfl (by kernel_rfl) (NoPanic.then_ (NoPanic.body)) (fun _ => v_nilCheck (congrArg Value.pointer hp_2)) ?_
    refine .p 2 rfl (by kernel_rfl) (NoPanic.then_ (NoPanic.body)) (fun _ => v_fieldAddr fl_140_6 rfl) ?_
    refine .p 3 rfl (by kernel_rfl) (NoPanic.then_ (NoPanic.body)) (fun _ => v_fieldAddr fl_136_0 rfl) ?_
    obtain ⟨t15, ⟨xt15, hxt15, hgt15⟩, hh⟩ := hh
    refine .r 4 (fun h' => ∃ x : round_Core, AtH h' p_2 (enc x) ∧ ((fun (x : round_Core) => x.locked.round) : round_Core → Int) x = t15) rfl (by kernel_rfl) (NoPanic.then_ (NoPanic.body)) ⟨xt15, hxt15, hgt15⟩ (fun h' hS => hS.elim fun _ hS => v_ld1 (p := p_2) 7 na_3 rfl hS.1 hS.2 get_140_locked_round) ?_
    refine .p 5 rfl (by kernel_rfl) (NoPanic.then_ (NoPanic.body)) (fun _ => v_ilss rfl rfl) ?_
    refine .p 6 rfl (by kernel_rfl) (NoPanic.then_ (NoPanic.body)) (fun _ => v_move (v := reg ((decide (t15 < (0 : Int))) : Bool)) rfl) ?_
    refine ifb_cases hh (fun hb hh => ?_) (fun hb hh => ?_)
    · refine .no' 7 17 rfl rfl (congrArg Value.bool hb) rfl (by kernel_rfl) (NoPanic.then_ (NoPanic.body)) ?_
      refine .no' 8 17 rfl rfl (congrArg Value.bool hb) rfl (by kernel_rfl) (NoPanic.then_ (NoPanic.body)) ?_
      refine .no' 9 17 rfl rfl (congrArg Value.bool hb) rfl (by kernel_rfl) (NoPanic.then_ (NoPanic.body)) ?_
      refine .no' 10 17 rfl rfl (congrArg Value.bool hb) rfl (by kernel_rfl) (NoPanic.then_ (NoPanic.body)) ?_
      refine .no' 11 17 rfl rfl (congrArg Value.bool hb) rfl (by kernel_rfl) (NoPanic.then_ (NoPanic.body)) ?_
      refine .w 12 (by kernel_rfl) rfl (by kernel_rfl) (.no 17 rfl (congrArg Value.bool hb) rfl rfl ⟨⟨trivial, .inl (by kernel_rfl)⟩, ?_⟩)
      refine .p 13 rfl (by kernel_rfl) (NoPanic.then_ (NoPanic.body)) (fun _ => v_pickT (v := reg (true : Bool)) rfl hb rfl) ?_
      refine .p 14 rfl (by kernel_rfl) (NoPanic.then_ (NoPanic.body)) (fun _ => v_assign (v := reg (true : Bool)) rfl) ?_
      refine .done (by kernel_rfl) ?_
      exact QN.thenJ ⟨_, true, setl_eq ⟨rfl, ⟨rfl, ⟨rfl, ⟨rfl, ⟨rfl, trivial⟩⟩⟩⟩⟩, hh⟩
    · refine .yp 7 17 rfl rfl (congrArg Value.bool hb) rfl (by kernel_rfl) (NoPanic.then_ (NoPanic.body)) (fun _ => v_move (v := reg (c : Pt)) rfl) ?_
      refine .yp 8 17 rfl rfl (congrArg Value.bool hb) rfl (by kernel_rfl) (NoPanic.then_ (NoPanic.body)) (fun _ => v_nilCheck (congrArg Value.pointer hp_2)) ?_
      refine .yp 9 17 rfl rfl (congrArg Value.bool hb) rfl (by kernel_rfl) (NoPanic.then_ (NoPanic.body)) (fun _ => v_fieldAddr fl_140_6 rfl) ?_
      obtain ⟨t21, ⟨xt21, hxt21, hgt21⟩, hh⟩ := hh
      refine .yr 10 17 (fun h' => ∃ x : round_Core, AtH h' p_2 (enc x) ∧ ((fun (x : round_Core) => x.locked) : round_Core → round_mark) x = t21) rfl rfl (congrArg Value.bool hb) rfl (by kernel_rfl) (NoPanic.then_ (NoPanic.body)) ⟨xt21, hxt21, hgt21⟩ (fun h' hS => hS.elim fun _ hS => v_ldA (p := p_2) 7 ag_136 rfl hS.1 hS.2 get_140_locked (fun _ => (len_round_mark _)) (fun _ => rfl)) ?_
      obtain ⟨t22, ⟨xt22, hxt22, hgt22⟩, hh⟩ := hh
      refine .yr 11 17 (fun h' => ∃ x : Arr 32 UInt8, AtH h' d (enc x) ∧ ((fun (x : Arr 32 UInt8) => x) : Arr 32 UInt8 → Arr 32 UInt8) x = t22) rfl rfl (congrArg Value.bool hb) rfl (by kernel_rfl) (NoPanic.then_ (NoPanic.body)) ⟨xt22, hxt22, hgt22⟩ (fun h' hS => hS.elim fun _ hS => v_ldA (p := d) 0 ag_24 rfl hS.1 hS.2 get_24_all (fun _ => (arr_len (n := 32) _)) (fun _ => rfl)) ?_
      refine .w 12 (by kernel_rfl) rfl (by kernel_rfl) (.ye 17 rfl (congrArg Value.bool hb) rfl (e_callP fn_134 rfl rfl hh ?_))
      intro h t23 hh
      refine ⟨⟨⟨⟨trivial, .inl (by kernel_rfl)⟩, .inl (by kernel_rfl)⟩, .inl (by kernel_rfl)⟩, ?_⟩
      refine .p 13 rfl (by kernel_rfl) (NoPanic.then_ (NoPanic.body)) (fun _ => v_pickF (v := reg (t23 : Bool)) rfl hb rfl) ?_
      refine .p 14 rfl (by kernel_rfl) (NoPanic.then_ (NoPanic.body)) (fun _ => v_assign (v := reg (t23 : Bool)) rfl) ?_
      refine .done (by kernel_rfl) ?_
      exact QN.thenJ ⟨_, t23, setl_eq ⟨rfl, ⟨rfl, ⟨rfl, ⟨rfl, ⟨rfl, trivial⟩⟩⟩⟩⟩, hh⟩
  · rintro ρ h ⟨ρ', free, rfl, hh⟩
    unfold round_Core_plan.j1 at hh
    refine CW.join (fun ρ h => ∃ (ρ' : Env) (free_1 : Bool), ρ = setl ρ' [(4, .pointer (some t4)), (6, .pointer (some d)), (7, reg (free_1 : Bool))] ∧ (round_Core_plan.j2 k) t4 d free_1 h) ?_ ?_
    · refine CW.seq ?_
      refine CW.region ?_
      refine .val (v_fieldAddr fl_77_3 rfl) rfl ?_
      obtain ⟨t26, ⟨xt26, hxt26, hgt26⟩, hh⟩ := hh
      refine .val (v_ld1 (p := p_1) 3 na_3 rfl hxt26 hgt26 get_77_Valid) rfl ?_
      refine .val (v_igeq rfl rfl) rfl ?_
      refine .nil ?_
      refine QN.then_ ?_
      refine CW.cond (decide ((0 : Int) ≤ t26)) rfl (fun hb_1 => ?_) (fun hb_1 => ?_)
      · have hh := hh.1 hb_1
        refine CW.seq ?_
        refine CW.seq ?_
        refine CW.region ?_
        refine .val (v_move (v := reg (c : Pt)) rfl) rfl ?_
        refine .val (v_fieldAddr fl_77_3 rfl) rfl ?_
        obtain ⟨t30, ⟨xt30, hxt30, hgt30⟩, hh⟩ := hh
        refine .val (v_ld1 (p := p_1) 3 na_3 rfl hxt30 hgt30 get_77_Valid) rfl ?_
        obtain ⟨t31, ⟨xt31, hxt31, hgt31⟩, hh⟩ := hh
        refine .val (v_ldA (p := d) 0 ag_24 rfl hxt31 hgt31 get_24_all (fun _ => (arr_len (n := 32) _)) (fun _ => rfl)) rfl ?_
        refine .e (e_callP fn_117 rfl rfl hh ?_)
        intro h t32 hh
        refine .val (v_not rfl) rfl ?_
        refine .nil ?_
        refine QN.then_ ?_
        refine CW.cond (!t32) rfl (fun hb_2 => ?_) (fun hb_2 => ?_)
        · have hh := hh.1 hb_2
          refine CW.seq ?_
          refine CW.region ?_
          refine .e (e_callP fn_64 rfl rfl hh ?_)
          intro h t34 hh
          obtain ⟨xw_1, hxw_1, hwxw_1, hh⟩ := hh
          refine .e (e_storeN (p := t4) (nv := enc (t34 : Arr 32 UInt8)) 0 rfl rfl rfl sz_24 (one_arr (n := 32) (fun _ => rfl) _) hxw_1 hwxw_1 (arr_len (n := 32) _) (arr_len (n := 32) _) rfl (set_24_all xw_1 (t34 : Arr 32 UInt8)) ?_)
          refine .val (v_assign (v := reg (false : Bool)) rfl) rfl ?_
          refine .nil ?_
          refine QN.then_ ?_
          refine CW.ret ?_
          refine QN.thenRet ?_
          refine QN.thenRet ?_
          obtain ⟨r4, ⟨xr4, hxr4, hgr4⟩, hh⟩ := hh
          have hr4 := ld_id hxr4 hgr4
          exact retc1 rfl rfl ag_24 hr4 (arr_len (n := 32) _) rfl ⟨(⟨r4, false⟩ : T2 (Arr 32 UInt8) Bool), rfl, hh⟩
        · have hh := hh.2 hb_2
          refine CW.skip ?_
          refine QN.then_ ?_
          refine CW.drawN 12 rfl follows_mixed [0, 1, 2, 3, 4, 5, 6, 7, 8, 9, 10, 11] ?_
          refine .p 0 rfl (by kernel_rfl) (NoPanic.then_ (NoPanic.body)) (fun _ => v_move (v := reg (free : Bool)) rfl) ?_
          refine .p 1 rfl (by kernel_rfl) (NoPanic.then_ (NoPanic.body)) (fun _ => v_move (v := reg (free : Bool)) rfl) ?_
          refine ifb_cases hh (fun hb_3 hh => ?_) (fun hb_3 hh => ?_)
          · refine .no' 2 36 rfl rfl (congrArg Value.bool hb_3) rfl (by kernel_rfl) (NoPanic.then_ (NoPanic.body)) ?_
            refine .no' 3 36 rfl rfl (congrArg Value.bool hb_3) rfl (by kernel_rfl) (NoPanic.then_ (NoPanic.body)) ?_
            refine .no' 4 36 rfl rfl (congrArg Value.bool hb_3) rfl (by kernel_rfl) (NoPanic.then_ (NoPanic.body)) ?_
            refine .no' 5 36 rfl rfl (congrArg Value.bool hb_3) rfl (by kernel_rfl) (NoPanic.then_ (NoPanic.body)) ?_
            refine .no' 6 36 rfl rfl (congrArg Value.bool hb_3) rfl (by kernel_rfl) (NoPanic.then_ (NoPanic.body)) ?_
            refine .no' 7 36 rfl rfl (congrArg Value.bool hb_3) rfl (by kernel_rfl) (NoPanic.then_ (NoPanic.body)) ?_
            refine .no' 8 36 rfl rfl (congrArg Value.bool hb_3) rfl (by kernel_rfl) (NoPanic.then_ (NoPanic.body)) ?_
            refine .no' 9 36 rfl rfl (congrArg Value.bool hb_3) rfl (by kernel_rfl) (NoPanic.then_ (NoPanic.body)) ?_
            refine .p 10 rfl (by kernel_rfl) (NoPanic.then_ (NoPanic.body)) (fun _ => v_pickT (v := reg (true : Bool)) rfl hb_3 rfl) ?_
            refine .p 11 rfl (by kernel_rfl) (NoPanic.then_ (NoPanic.body)) (fun _ => v_assign (v := reg (true : Bool)) rfl) ?_
            refine .done (by kernel_rfl) ?_
            exact QN.thenJ ⟨_, true, setl_eq ⟨rfl, ⟨rfl, ⟨rfl, trivial⟩⟩⟩, hh⟩
          · refine .yp 2 36 rfl rfl (congrArg Value.bool hb_3) rfl (by kernel_rfl) (NoPanic.then_ (NoPanic.body)) (fun _ => v_move (v := reg (c : Pt)) rfl) ?_
            obtain ⟨p_4, hp_4, hh⟩ := hh
            refine .yp 3 36 rfl rfl (congrArg Value.bool hb_3) rfl (by kernel_rfl) (NoPanic.then_ (NoPanic.body)) (fun _ => v_nilCheck (congrArg Value.pointer hp_4)) ?_
            refine .yp 4 36 rfl rfl (congrArg Value.bool hb_3) rfl (by kernel_rfl) (NoPanic.then_ (NoPanic.body)) (fun _ => v_fieldAddr fl_140_6 rfl) ?_
            refine .yp 5 36 rfl rfl (congrArg Value.bool hb_3) rfl (by kernel_rfl) (NoPanic.then_ (NoPanic.body)) (fun _ => v_fieldAddr fl_136_0 rfl) ?_
            obtain ⟨t41, ⟨xt41, hxt41, hgt41⟩, hh⟩ := hh
            refine .yr 6 36 (fun h' => ∃ x : round_Core, AtH h' p_4 (enc x) ∧ ((fun (x : round_Core) => x.locked.round) : round_Core → Int) x = t41) rfl rfl (congrArg Value.bool hb_3) rfl (by kernel_rfl) (NoPanic.then_ (NoPanic.body)) ⟨xt41, hxt41, hgt41⟩ (fun h' hS => hS.elim fun _ hS => v_ld1 (p := p_4) 7 na_3 rfl hS.1 hS.2 get_140_locked_round) ?_
            refine .yp 7 36 rfl rfl (congrArg Value.bool hb_3) rfl (by kernel_rfl) (NoPanic.then_ (NoPanic.body)) (fun _ => v_fieldAddr fl_77_3 rfl) ?_
            obtain ⟨t43, ⟨xt43, hxt43, hgt43⟩, hh⟩ := hh
            refine .yr 8 36 (fun h' => ∃ x : api_Plan, AtH h' p_1 (enc x) ∧ ((fun (x : api_Plan) => x.Valid) : api_Plan → Int) x = t43) rfl rfl (congrArg Value.bool hb_3) rfl (by kernel_rfl) (NoPanic.then_ (NoPanic.body)) ⟨xt43, hxt43, hgt43⟩ (fun h' hS => hS.elim fun _ hS => v_ld1 (p := p_1) 3 na_3 rfl hS.1 hS.2 get_77_Valid) ?_
            refine .yp 9 36 rfl rfl (congrArg Value.bool hb_3) rfl (by kernel_rfl) (NoPanic.then_ (NoPanic.body)) (fun _ => v_ileq rfl rfl) ?_
            refine .p 10 rfl (by kernel_rfl) (NoPanic.then_ (NoPanic.body)) (fun _ => v_pickF (v := reg ((decide (t41 ≤ t43)) : Bool)) rfl hb_3 rfl) ?_
            refine .p 11 rfl (by kernel_rfl) (NoPanic.then_ (NoPanic.body)) (fun _ => v_assign (v := reg ((decide (t41 ≤ t43)) : Bool)) rfl) ?_
            refine .done (by kernel_rfl) ?_
            exact QN.thenJ ⟨_, (decide (t41 ≤ t43)), setl_eq ⟨rfl, ⟨rfl, ⟨rfl, trivial⟩⟩⟩, hh⟩
      · have hh := hh.2 hb_1
        refine CW.skip ?_
        exact QN.thenJ ⟨_, free, setl_eq ⟨rfl, ⟨rfl, ⟨rfl, trivial⟩⟩⟩, hh⟩
    · rintro ρ h ⟨ρ', free_1, rfl, hh⟩
      unfold round_Core_plan.j2 at hh
      refine CW.join (fun ρ h => ∃ (ρ' : Env), ρ = setl ρ' [(4, .pointer (some t4)), (6, .pointer (some d))] ∧ (round_Core_plan.j3 k) t4 d h) ?_ ?_
      · refine CW.seq ?_
        refine CW.region ?_
        refine .val (v_move (v := reg (free_1 : Bool)) rfl) rfl ?_
        refine .val (v_not rfl) rfl ?_
        refine .nil ?_
        refine QN.then_ ?_
        refine CW.cond (!free_1) rfl (fun hb_4 => ?_) (fun hb_4 => ?_)
        · have hh := hh.1 hb_4
          refine CW.region ?_
          refine .e (e_callP fn_64 rfl rfl hh ?_)
          intro h t48 hh
          obtain ⟨xw_2, hxw_2, hwxw_2, hh⟩ := hh
          refine .e (e_storeN (p := d) (nv := enc (t48 : Arr 32 UInt8)) 0 rfl rfl rfl sz_24 (one_arr (n := 32) (fun _ => rfl) _) hxw_2 hwxw_2 (arr_len (n := 32) _) (arr_len (n := 32) _) rfl (set_24_all xw_2 (t48 : Arr 32 UInt8)) ?_)
          refine .nil ?_
          exact QN.thenJ ⟨_, setl_eq ⟨rfl, ⟨rfl, trivial⟩⟩, hh⟩
        · have hh := hh.2 hb_4
          refine CW.skip ?_
          exact QN.thenJ ⟨_, setl_eq ⟨rfl, ⟨rfl, trivial⟩⟩, hh⟩
      · rintro ρ h ⟨ρ', rfl, hh⟩
        unfold round_Core_plan.j3 at hh
        refine CW.seq ?_
        refine CW.region ?_
        obtain ⟨t49, ⟨xt49, hxt49, hgt49⟩, hh⟩ := hh
        refine .val (v_ldA (p := d) 0 ag_24 rfl hxt49 hgt49 get_24_all (fun _ => (arr_len (n := 32) _)) (fun _ => rfl)) rfl ?_
        obtain ⟨xw_3, hxw_3, hwxw_3, hh⟩ := hh
        refine .e (e_storeN (p := t4) (nv := enc (t49 : Arr 32 UInt8)) 0 rfl rfl rfl sz_24 (one_arr (n := 32) (fun _ => rfl) _) hxw_3 hwxw_3 (arr_len (n := 32) _) (arr_len (n := 32) _) rfl (set_24_all xw_3 (t49 : Arr 32 UInt8)) ?_)
        refine .val (v_assign (v := reg (true : Bool)) rfl) rfl ?_
        refine .nil ?_
        refine QN.then_ ?_
        refine CW.ret ?_
        obtain ⟨r4_1, ⟨xr4_1, hxr4_1, hgr4_1⟩, hh⟩ := hh
        have hr4_1 := ld_id hxr4_1 hgr4_1
        exact retc1 rfl rfl ag_24 hr4_1 (arr_len (n := 32) _) rfl ⟨(⟨r4_1, true⟩ : T2 (Arr 32 UInt8) Bool), rfl, hh⟩
end Go.Proofs.YtimmoekliphobaaDoor

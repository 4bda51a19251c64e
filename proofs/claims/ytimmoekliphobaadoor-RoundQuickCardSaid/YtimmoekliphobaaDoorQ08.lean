/-
  THE CARD OF wapentakelaw19.RoundQuick: for every input that the row lets in, RoundQuick returns true and its arguments read as they did. Part 8 of 14. No condition stands ahead of the statement. Parts of this text were printed by a program of ours.
-/
import Derived.Test.YtimmoekliphobaaDoorQ07
set_option linter.all false
set_option maxRecDepth 100000
set_option maxHeartbeats 4000000
namespace Go.Proofs.YtimmoekliphobaaDoor
open Go Go.Sh
open Go.Sh.Ty (reg)
theorem law19_alive.ok (k : Bool → H → Prop) (h : H) (hh : law19_alive.b k h) : CallsH Prog 25 ([] : List Value).toArray h fun v h' => ∃ r : Bool, v = reg r ∧ k r h' := by
 unfold law19_alive.b at hh
 refine CallsH.of 81 Tryd.func25 rfl Tryd.ntmps25 rfl (fun w0 => ?_)
 refine .sr (.A (reg false) (.nx (.sr (.V (v_buildT ({ api_Member.zero with Id := (1 : Int) } : api_Member) zo_110 pl_110 rfl (fill_step rfl rfl (len_i _) (len_api_Member _) rfl (set_110_Id _ _) (rfl)) rfl) ?_))))
 refine mks_elim hh (fun pt5 t5 hpt5 ht5 hh => ?_)
 refine .e (e_mks [(({ api_Member.zero with Id := (1 : Int) } : api_Member) : api_Member)] hpt5 ht5 zo_110 sl_52 rfl rfl rfl rfl rfl ?_)
 refine .V (v_buildT ({ api_Config.zero with Members := t5 } : api_Config) zo_54 pl_54 rfl (fill_step rfl rfl (len_sl _) (len_api_Config _) rfl (set_54_Members _ _) (rfl)) rfl) ?_
 refine .e (e_callP fn_28 rfl rfl hh ?_)
 intro h t7 hh
 refine .A (reg t7) (.nx (.sr (.M (reg t7) ?_)))
 refine .e (e_callP fn_32 rfl rfl hh ?_)
 intro h t9 hh
 refine .A (reg t9) (.nx (.seq ?_))
 refine CW.join (fun ρ h => ∃ (ρ' : Env) (t26 : Bool), ρ = setl ρ' [(1, reg t7), (26, reg t26)] ∧ (law19_alive.j1 k) t7 t26 h) ?_ ?_
 ·refine CW.region ?_
  refine .M (reg t9) (.V (v_len_sl (sl_68).1 rfl) (.V (v_ineq rfl rfl) (.M (reg (((t9.len : Int) != (1 : Int)) : Bool)) ?_)))
  refine ifb_cases hh (fun hb hh => ?_) (fun hb hh => ?_)
  ·refine .no 13 rfl (cb hb) rfl rfl (.no 13 rfl (cb hb) rfl rfl (.no 13 rfl (cb hb) rfl rfl (.no 13 rfl (cb hb) rfl rfl (.no 13 rfl (cb hb) rfl rfl (.V (v_pickT (v := reg true) rfl hb rfl) (.M (reg true) (.no 20 rfl rfl rfl rfl (.no 20 rfl rfl rfl rfl (.no 20 rfl rfl rfl rfl ?_)))))))))
   refine .no 20 rfl rfl rfl rfl (.no 20 rfl rfl rfl rfl (.V (v_pickT (v := reg true) rfl rfl rfl) ?_))
   refine .nil ?_
   exact QN.thenJ ⟨_, true, setl_eq ⟨rfl, ⟨rfl, trivial⟩⟩, hh⟩
  ·refine .yv 13 rfl (cb hb) rfl (v_move (v := reg (t9 : Sl)) rfl) rfl ?_
   obtain ⟨t15, ht15, hh⟩ := hh
   refine .yv 13 rfl (cb hb) rfl (v_idx_slP sl_68 rfl rfl ht15.1 ht15.2.1 ht15.2.2) rfl (.yv 13 rfl (cb hb) rfl (v_fieldAddr fl_80_0 rfl) rfl ?_)
   obtain ⟨t17, ⟨xt17, hxt17, hgt17⟩, hh⟩ := hh
   refine .yv 13 rfl (cb hb) rfl (v_ld1 (p := t15) 0 na_3 rfl hxt17 hgt17 get_80_Act) rfl (.yv 13 rfl (cb hb) rfl (v_ineq rfl rfl) rfl (.V (v_pickF (v := reg ((t17 != (1 : Int)) : Bool)) rfl hb rfl) (.M (reg ((t17 != (1 : Int)) : Bool)) ?_)))
   refine ifb_cases hh (fun hb_1 hh => ?_) (fun hb_1 hh => ?_)
   ·refine .no 20 rfl (cb hb_1) rfl rfl (.no 20 rfl (cb hb_1) rfl rfl (.no 20 rfl (cb hb_1) rfl rfl (.no 20 rfl (cb hb_1) rfl rfl (.no 20 rfl (cb hb_1) rfl rfl (.V (v_pickT (v := reg true) rfl hb_1 rfl) ?_)))))
    refine .nil ?_
    exact QN.thenJ ⟨_, true, setl_eq ⟨rfl, ⟨rfl, trivial⟩⟩, hh⟩
   ·refine .yv 20 rfl (cb hb_1) rfl (v_move (v := reg (t9 : Sl)) rfl) rfl ?_
    obtain ⟨t22, ht22, hh⟩ := hh
    refine .yv 20 rfl (cb hb_1) rfl (v_idx_slP sl_68 rfl rfl ht22.1 ht22.2.1 ht22.2.2) rfl (.yv 20 rfl (cb hb_1) rfl (v_fieldAddr fl_80_4 rfl) rfl ?_)
    obtain ⟨t24, ⟨xt24, hxt24, hgt24⟩, hh⟩ := hh
    refine .yv 20 rfl (cb hb_1) rfl (v_ld1 (p := t22) 35 na_3 rfl hxt24 hgt24 get_80_Valid) rfl (.yv 20 rfl (cb hb_1) rfl (v_ineq rfl rfl) rfl (.V (v_pickF (v := reg ((t24 != (-1 : Int)) : Bool)) rfl hb_1 rfl) ?_))
    refine .nil ?_
    exact QN.thenJ ⟨_, (t24 != (-1 : Int)), setl_eq ⟨rfl, ⟨rfl, trivial⟩⟩, hh⟩
 ·rintro ρ h ⟨ρ', t26, rfl, hh⟩
  unfold law19_alive.j1 at hh
  refine CW.cond t26 rfl (fun hb_2 => ?_) (fun hb_2 => ?_)
  ·have hh := hh.1 hb_2
   refine .sr (.A (reg false) (.nx ?_))
   refine CW.ret ?_
   refine QN.thenRet ?_
   exact ret1 rfl rfl ⟨(false : Bool), rfl, hh⟩
  ·have hh := hh.2 hb_2
   refine CW.skip ?_
   refine QN.then_ ?_
   refine .sr (.V (v_buildT ({ api_Block.zero with Height := (1 : Int) } : api_Block) zo_75 pl_75 rfl (fill_step rfl rfl (len_i _) (len_api_Block _) rfl (set_75_Height _ _) (rfl)) rfl) ?_)
   refine box_elim hh (fun b hb hh => ?_)
   refine .e (e_allocP hb zo_75 rfl ?_)
   refine .S (({ api_Block.zero with Height := (1 : Int) } : api_Block) : api_Block) 0 sz_75 (one_api_Block _) len_api_Block (len_api_Block _) (fun x => set_75_all x (({ api_Block.zero with Height := (1 : Int) } : api_Block) : api_Block)) hh rfl rfl (fun _ hh => .nx (.sr (.M (reg t7) (.LA 0 ag_75 get_75_all (fun _ => (len_api_Block _)) hh rfl (fun t29 hh => .V (v_buildT ({ api_Plan.zero with Height := (1 : Int), Valid := (-1 : Int), Block := t29, From := (1 : Int) } : api_Plan) zo_77 pl_77 rfl (fill_step rfl rfl (len_i _) (len_api_Plan _) rfl (set_77_Height _ _) (fill_step rfl rfl (len_i _) (len_api_Plan _) rfl (set_77_Valid _ _) (fill_step rfl rfl (len_api_Block _) (len_api_Plan _) rfl (set_77_Block _ _) (fill_step rfl rfl (len_i _) (len_api_Plan _) rfl (set_77_From _ _) (rfl))))) rfl) ?_)))))
   refine .e (e_callP fn_38 rfl rfl hh ?_)
   intro h t31 hh
   refine .A (reg t31) (.nx (.seq ?_))
   refine CW.join (fun ρ h => ∃ (ρ' : Env) (t50 : Bool), ρ = setl ρ' [(1, reg t7), (3, .pointer (some b)), (50, reg t50)] ∧ (law19_alive.j2 k) t7 b t50 h) ?_ ?_
   ·refine CW.drawN 19 rfl follows_mixed [0, 1, 2, 3, 4, 5, 6, 7, 8, 9, 10, 11, 12, 13, 14, 15, 17, 18] ?_
    refine .P 0 rfl (v_move (v := reg t31) rfl) (.P 1 rfl (v_len_sl (sl_68).1 rfl) (.P 2 rfl (v_ineq rfl rfl) (.P 3 rfl (v_move (v := reg (((t31.len : Int) != (1 : Int)) : Bool)) rfl) ?_)))
    refine ifb_cases hh (fun hb_3 hh => ?_) (fun hb_3 hh => ?_)
    ·refine .N 4 35 rfl (cb hb_3) (.N 5 35 rfl (cb hb_3) (.N 6 35 rfl (cb hb_3) (.N 7 35 rfl (cb hb_3) (.N 8 35 rfl (cb hb_3) (.P 9 rfl (v_pickT (v := reg true) rfl hb_3 rfl) (.P 10 rfl (v_move (v := reg true) rfl) (.N 11 42 rfl rfl (.N 12 42 rfl rfl (.N 13 42 rfl rfl ?_)))))))))
     refine .N 14 42 rfl rfl (.N 15 42 rfl rfl ?_)
     refine .w 16 (by kernel_rfl) rfl (by kernel_rfl) (.no 42 rfl rfl rfl rfl ⟨trivial, ?_⟩)
     refine .N 17 42 rfl rfl (.P 18 rfl (v_pickT (v := reg true) rfl rfl rfl) ?_)
     refine .done (by kernel_rfl) ?_
     exact QN.thenJ ⟨_, true, setl_eq ⟨rfl, ⟨rfl, ⟨rfl, trivial⟩⟩⟩, hh⟩
    ·refine .Y 4 35 rfl (cb hb_3) (v_move (v := reg t31) rfl) ?_
     obtain ⟨t37, ht37, hh⟩ := hh
     refine .Y 5 35 rfl (cb hb_3) (v_idx_slP sl_68 rfl rfl ht37.1 ht37.2.1 ht37.2.2) (.Y 6 35 rfl (cb hb_3) (v_fieldAddr fl_80_0 rfl) (.YL 7 35 0 na_3 get_80_Act rfl (cb hb_3) hh rfl (fun t39 hh => .Y 8 35 rfl (cb hb_3) (v_ineq rfl rfl) (.P 9 rfl (v_pickF (v := reg ((t39 != (2 : Int)) : Bool)) rfl hb_3 rfl) (.P 10 rfl (v_move (v := reg ((t39 != (2 : Int)) : Bool)) rfl) ?_)))))
     refine ifb_cases hh (fun hb_4 hh => ?_) (fun hb_4 hh => ?_)
     ·refine .N 11 42 rfl (cb hb_4) (.N 12 42 rfl (cb hb_4) (.N 13 42 rfl (cb hb_4) (.N 14 42 rfl (cb hb_4) (.N 15 42 rfl (cb hb_4) ?_))))
      refine .w 16 (by kernel_rfl) rfl (by kernel_rfl) (.no 42 rfl (cb hb_4) rfl rfl ⟨⟨trivial, .inl (by kernel_rfl)⟩, ?_⟩)
      refine .N 17 42 rfl (cb hb_4) (.P 18 rfl (v_pickT (v := reg true) rfl hb_4 rfl) ?_)
      refine .done (by kernel_rfl) ?_
      exact QN.thenJ ⟨_, true, setl_eq ⟨rfl, ⟨rfl, ⟨rfl, trivial⟩⟩⟩, hh⟩
     ·refine .Y 11 42 rfl (cb hb_4) (v_move (v := reg t31) rfl) ?_
      obtain ⟨t44, ht44, hh⟩ := hh
      refine .Y 12 42 rfl (cb hb_4) (v_idx_slP sl_68 rfl rfl ht44.1 ht44.2.1 ht44.2.2) (.Y 13 42 rfl (cb hb_4) (v_fieldAddr fl_80_3 rfl) ?_)
      obtain ⟨t46, ⟨xt46, hxt46, hgt46⟩, hh⟩ := hh
      refine .YK 14 42 (fun h' => ∃ x : api_Act, AtH h' t44 (enc x) ∧ ((fun (x : api_Act) => x.Digest) : api_Act → Arr 32 UInt8) x = t46) rfl (cb hb_4) ⟨xt46, hxt46, hgt46⟩ (fun h' hS => hS.elim fun _ hS => v_ldA (p := t44) 3 ag_24 rfl hS.1 hS.2 get_80_Digest (fun _ => (arr_len (n := 32) _)) (fun _ => rfl)) ?_
      obtain ⟨t47, ⟨xt47, hxt47, hgt47⟩, hh⟩ := hh
      refine .YK 15 42 (fun h' => ∃ x : api_Block, AtH h' b (enc x) ∧ ((fun (x : api_Block) => x) : api_Block → api_Block) x = t47) rfl (cb hb_4) ⟨xt47, hxt47, hgt47⟩ (fun h' hS => hS.elim fun _ hS => v_ldA (p := b) 0 ag_75 rfl hS.1 hS.2 get_75_all (fun _ => (len_api_Block _)) (fun _ => rfl)) ?_
      refine .w 16 (by kernel_rfl) rfl (by kernel_rfl) (.ye 42 rfl (cb hb_4) rfl (e_callP fn_34 rfl rfl hh ?_))
      intro h t48 hh
      obtain ⟨hc, hh⟩ := hh
      refine ⟨⟨⟨⟨trivial, .inl (by kernel_rfl)⟩, .inr hc⟩, .inl (by kernel_rfl)⟩, ?_⟩
      refine .Y 17 42 rfl (cb hb_4) (v_ne_arr8 bt_24 rfl rfl) (.P 18 rfl (v_pickF (v := reg ((!decide (t46 = t48)) : Bool)) rfl hb_4 rfl) ?_)
      refine .done (by kernel_rfl) ?_
      exact QN.thenJ ⟨_, (!decide (t46 = t48)), setl_eq ⟨rfl, ⟨rfl, ⟨rfl, trivial⟩⟩⟩, hh⟩
   ·rintro ρ h ⟨ρ', t50, rfl, hh⟩
    unfold law19_alive.j2 at hh
    refine CW.cond t50 rfl (fun hb_5 => ?_) (fun hb_5 => ?_)
    ·have hh := hh.1 hb_5
     refine .sr (.A (reg false) (.nx ?_))
     refine CW.ret ?_
     refine QN.thenRet ?_
     exact ret1 rfl rfl ⟨(false : Bool), rfl, hh⟩
    ·have hh := hh.2 hb_5
     refine CW.skip ?_
     refine QN.then_ ?_
     refine .sr (.M (reg t7) (.LA 0 ag_75 get_75_all (fun _ => (len_api_Block _)) hh rfl (fun t52 hh => ?_)))
     refine .e (e_callP fn_34 rfl rfl hh ?_)
     intro h t53 hh
     refine .V (v_buildT ({ api_Vote.zero with Kind := (1 : Int), Height := (1 : Int), Digest := t53, From := (1 : Int) } : api_Vote) zo_37 pl_37 rfl (fill_step rfl rfl (len_i _) (len_api_Vote _) rfl (set_37_Kind _ _) (fill_step rfl rfl (len_i _) (len_api_Vote _) rfl (set_37_Height _ _) (fill_step rfl rfl (len_i _) (len_api_Vote _) rfl (set_37_From _ _) (fill_step rfl rfl (arr_len (n := 32) _) (len_api_Vote _) rfl (set_37_Digest _ _) (rfl))))) rfl) ?_
     refine .e (e_callP fn_39 rfl rfl hh ?_)
     intro h t55 hh
     refine .A (reg t55) (.nx (.seq ?_))
     refine CW.join (fun ρ h => ∃ (ρ' : Env) (t65 : Bool), ρ = setl ρ' [(1, reg t7), (3, .pointer (some b)), (65, reg t65)] ∧ (law19_alive.j3 k) t7 b t65 h) ?_ ?_
     ·refine CW.region ?_
      refine .M (reg t55) (.V (v_len_sl (sl_68).1 rfl) (.V (v_ineq rfl rfl) (.M (reg (((t55.len : Int) != (1 : Int)) : Bool)) ?_)))
      refine ifb_cases hh (fun hb_6 hh => ?_) (fun hb_6 hh => ?_)
      ·refine .no 59 rfl (cb hb_6) rfl rfl (.no 59 rfl (cb hb_6) rfl rfl (.no 59 rfl (cb hb_6) rfl rfl (.no 59 rfl (cb hb_6) rfl rfl (.no 59 rfl (cb hb_6) rfl rfl (.V (v_pickT (v := reg true) rfl hb_6 rfl) ?_)))))
       refine .nil ?_
       exact QN.thenJ ⟨_, true, setl_eq ⟨rfl, ⟨rfl, ⟨rfl, trivial⟩⟩⟩, hh⟩
      ·refine .yv 59 rfl (cb hb_6) rfl (v_move (v := reg (t55 : Sl)) rfl) rfl ?_
       obtain ⟨t61, ht61, hh⟩ := hh
       refine .yv 59 rfl (cb hb_6) rfl (v_idx_slP sl_68 rfl rfl ht61.1 ht61.2.1 ht61.2.2) rfl (.yv 59 rfl (cb hb_6) rfl (v_fieldAddr fl_80_2 rfl) rfl ?_)
       obtain ⟨t63, ⟨xt63, hxt63, hgt63⟩, hh⟩ := hh
       refine .yv 59 rfl (cb hb_6) rfl (v_ld1 (p := t61) 2 na_3 rfl hxt63 hgt63 get_80_Kind) rfl (.yv 59 rfl (cb hb_6) rfl (v_ineq rfl rfl) rfl (.V (v_pickF (v := reg ((t63 != (2 : Int)) : Bool)) rfl hb_6 rfl) ?_))
       refine .nil ?_
       exact QN.thenJ ⟨_, (t63 != (2 : Int)), setl_eq ⟨rfl, ⟨rfl, ⟨rfl, trivial⟩⟩⟩, hh⟩
     ·rintro ρ h ⟨ρ', t65, rfl, hh⟩
      unfold law19_alive.j3 at hh
      refine CW.cond t65 rfl (fun hb_7 => ?_) (fun hb_7 => ?_)
      ·have hh := hh.1 hb_7
       refine .sr (.A (reg false) (.nx ?_))
       refine CW.ret ?_
       refine QN.thenRet ?_
       exact ret1 rfl rfl ⟨(false : Bool), rfl, hh⟩
      ·have hh := hh.2 hb_7
       refine CW.skip ?_
       refine QN.then_ ?_
       refine .sr (.M (reg t7) (.LA 0 ag_75 get_75_all (fun _ => (len_api_Block _)) hh rfl (fun t67 hh => ?_)))
       refine .e (e_callP fn_34 rfl rfl hh ?_)
       intro h t68 hh
       refine .V (v_buildT ({ api_Vote.zero with Kind := (2 : Int), Height := (1 : Int), Digest := t68, From := (1 : Int) } : api_Vote) zo_37 pl_37 rfl (fill_step rfl rfl (len_i _) (len_api_Vote _) rfl (set_37_Kind _ _) (fill_step rfl rfl (len_i _) (len_api_Vote _) rfl (set_37_Height _ _) (fill_step rfl rfl (len_i _) (len_api_Vote _) rfl (set_37_From _ _) (fill_step rfl rfl (arr_len (n := 32) _) (len_api_Vote _) rfl (set_37_Digest _ _) (rfl))))) rfl) ?_
       refine .e (e_callP fn_39 rfl rfl hh ?_)
       intro h t70 hh
       refine .A (reg t70) (.nx ?_)
       refine CW.join (fun ρ h => ∃ (ρ' : Env) (t0 : Bool), ρ = setl ρ' [(0, reg t0)] ∧ (law19_alive.j4 k) t0 h) ?_ ?_
       ·refine CW.region ?_
        refine .M (reg t70) (.V (v_len_sl (sl_68).1 rfl) (.V (v_ieql rfl rfl) (.M (reg (((t70.len : Int) == (1 : Int)) : Bool)) ?_)))
        refine ifb_cases hh (fun hb_8 hh => ?_) (fun hb_8 hh => ?_)
        ·refine .yv 74 rfl (cb hb_8) rfl (v_move (v := reg (t70 : Sl)) rfl) rfl ?_
         obtain ⟨t76, ht76, hh⟩ := hh
         refine .yv 74 rfl (cb hb_8) rfl (v_idx_slP sl_68 rfl rfl ht76.1 ht76.2.1 ht76.2.2) rfl (.yv 74 rfl (cb hb_8) rfl (v_fieldAddr fl_80_0 rfl) rfl ?_)
         obtain ⟨t78, ⟨xt78, hxt78, hgt78⟩, hh⟩ := hh
         refine .yv 74 rfl (cb hb_8) rfl (v_ld1 (p := t76) 0 na_3 rfl hxt78 hgt78 get_80_Act) rfl (.yv 74 rfl (cb hb_8) rfl (v_ieql rfl rfl) rfl (.V (v_pickT (v := reg ((t78 == (3 : Int)) : Bool)) rfl hb_8 rfl) (.A (reg ((t78 == (3 : Int)) : Bool)) ?_)))
         refine .nil ?_
         exact QN.thenJ ⟨_, (t78 == (3 : Int)), setl_eq ⟨rfl, trivial⟩, hh⟩
        ·refine .no 74 rfl (cb hb_8) rfl rfl (.no 74 rfl (cb hb_8) rfl rfl (.no 74 rfl (cb hb_8) rfl rfl (.no 74 rfl (cb hb_8) rfl rfl (.no 74 rfl (cb hb_8) rfl rfl (.V (v_pickF (v := reg false) rfl hb_8 rfl) (.A (reg false) ?_))))))
         refine .nil ?_
         exact QN.thenJ ⟨_, false, setl_eq ⟨rfl, trivial⟩, hh⟩
       ·rintro ρ h ⟨ρ', t0, rfl, hh⟩
        unfold law19_alive.j4 at hh
        refine CW.ret ?_
        exact ret1 rfl rfl ⟨(t0 : Bool), rfl, hh⟩
end Go.Proofs.YtimmoekliphobaaDoor

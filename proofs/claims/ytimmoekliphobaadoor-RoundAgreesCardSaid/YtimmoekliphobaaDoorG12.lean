/-
  THE CARD OF wapentakelaw19.RoundAgrees: for every input that the row lets in, RoundAgrees returns true and its arguments read as they did. Part 12 of 15. No condition stands ahead of the statement. Parts of this text were printed by a program of ours.
-/
import Derived.Test.YtimmoekliphobaaDoorG11
set_option linter.all false
set_option maxRecDepth 100000
set_option maxHeartbeats 4000000
namespace Go.Proofs.YtimmoekliphobaaDoor
open Go Go.Sh
open Go.Sh.Ty (reg)
theorem law19_Game_play.ok (g : Pt) (m : law19_Move) (k : Bool → H → Prop) (h : H) (hh : law19_Game_play.b g m k h) : CallsH Prog 41 [reg g, reg m].toArray h fun v h' => ∃ r : Bool, v = reg r ∧ k r h' := by
 unfold law19_Game_play.b at hh
 refine CallsH.of 197 Tryd.func41 rfl Tryd.ntmps41 rfl (fun w0 => ?_)
 refine .sr ?_
 refine box_elim hh (fun m_1 hm_1 hh => ?_)
 refine .e (e_boxP hm_1 rfl rfl rfl ?_)
 refine .A (reg false) (.nx (.seq (.sr (.M (reg g) ?_))))
 obtain ⟨p, hp, hh⟩ := hh
 refine .V (v_nilCheck (congrArg Value.pointer hp)) (.V (v_fieldAddr fl_61_2 rfl) (.L 3 na_55 get_61_cores hh rfl (fun t11 hh => .V (v_len_sl (sl_55).1 rfl) (.V (v_ieql rfl rfl) (.nx ?_)))))
 refine CW.cond ((t11.len : Int) == (0 : Int)) rfl (fun hb => ?_) (fun hb => ?_)
 ·have hh := hh.1 hb
  refine .sr (.A (reg true) (.nx ?_))
  refine CW.ret ?_
  refine QN.thenRet ?_
  exact ret1 rfl rfl ⟨(true : Bool), rfl, hh⟩
 ·have hh := hh.2 hb
  refine CW.skip ?_
  refine QN.then_ ?_
  refine CW.seq ?_
  refine CW.drawN 12 rfl follows_mixed [0, 1, 2, 3, 4, 5, 6, 7, 8, 9, 10, 11] ?_
  refine .P 0 rfl (v_fieldAddr fl_95_1 rfl) (.KL 1 1 na_3 get_95_I rfl hh rfl (fun t15 hh => .P 2 rfl (v_conv_u64 un_3 un_71 rfl) (.P 3 rfl (v_move (v := reg g) rfl) (.P 4 rfl (v_nilCheck (congrArg Value.pointer hp)) (.P 5 rfl (v_fieldAddr fl_61_2 rfl) (.KL 6 3 na_55 get_61_cores rfl hh rfl (fun t20 hh => .P 7 rfl (v_len_sl (sl_55).1 rfl) (.P 8 rfl (v_conv_u64 un_3 un_71 rfl) ?_))))))))
  obtain ⟨hm, hh⟩ := hh
  refine .P 9 rfl (v_rem64 (a := (toU64 t15)) (b := (toU64 (t20.len : Int))) rfl rfl hm) (.P 10 rfl (v_conv_i64 un_71 un_3 rfl) (.P 11 rfl (v_assign (v := reg ((toI64 (((toU64 t15) % (toU64 (t20.len : Int))).toNat : Int)) : Int)) rfl) ?_))
  refine .done (by kernel_rfl) ?_
  refine QN.then_ ?_
  refine CW.join (fun ρ h => ∃ (ρ' : Env), ρ = setl ρ' [] ∧ (law19_Game_play.j1 k)  h) ?_ ?_
  ·refine .sr (.V (v_fieldAddr fl_95_0 rfl) (.L 0 na_3 get_95_Kind hh rfl (fun t26 hh => .nx ?_)))
   refine CW.block ?_
   refine .sr (.V (v_ieql rfl rfl) (.A (reg ((t26 == (0 : Int)) : Bool)) (.nx ?_)))
   refine CW.cond (t26 == (0 : Int)) rfl (fun hb_1 => ?_) (fun hb_1 => ?_)
   ·have hh := hh.1 hb_1
    refine .sr (.M (reg g) (.M (reg ((toI64 (((toU64 t15) % (toU64 (t20.len : Int))).toNat : Int)) : Int)) (.V (v_fieldAddr fl_95_2 rfl) (.L 2 na_3 get_95_N hh rfl (fun t32 hh => ?_)))))
    refine .e (e_callP fn_33 rfl rfl hh ?_)
    intro h t33 hh
    refine .A (reg t33) (.nx ?_)
    refine CW.ret ?_
    refine QN.blockRet ?_
    refine QN.thenRet ?_
    exact ret1 rfl rfl ⟨(t33 : Bool), rfl, hh⟩
   ·have hh := hh.2 hb_1
    refine .sr (.V (v_ieql rfl rfl) (.A (reg ((t26 == (1 : Int)) : Bool)) (.nx ?_)))
    refine CW.cond (t26 == (1 : Int)) rfl (fun hb_2 => ?_) (fun hb_2 => ?_)
    ·have hh := hh.1 hb_2
     refine CW.seq ?_
     refine CW.drawN 14 rfl follows_mixed [0, 1, 2, 3, 4, 5, 6, 7, 8, 9, 10, 13] ?_
     refine .P 0 rfl (v_move (v := reg g) rfl) (.P 1 rfl (v_move (v := reg ((toI64 (((toU64 t15) % (toU64 (t20.len : Int))).toNat : Int)) : Int)) rfl) (.P 2 rfl (v_move (v := reg g) rfl) (.P 3 rfl (v_nilCheck (congrArg Value.pointer hp)) (.P 4 rfl (v_fieldAddr fl_61_2 rfl) (.KL 5 3 na_55 get_61_cores rfl hh rfl (fun t41 hh => .P 6 rfl (v_move (v := reg ((toI64 (((toU64 t15) % (toU64 (t20.len : Int))).toNat : Int)) : Int)) rfl) ?_))))))
     obtain ⟨t43, ht43, hh⟩ := hh
     refine .P 7 rfl (v_idx_slP sl_55 rfl rfl ht43.1 ht43.2.1 ht43.2.2) (.KL 8 0 na_62 get_62_all rfl hh rfl (fun t44 hh => .P 9 rfl (v_fieldAddr fl_95_2 rfl) (.KL 10 2 na_3 get_95_N rfl hh rfl (fun t46 hh => ?_))))
     refine .w 11 (by kernel_rfl) rfl (by kernel_rfl) (.e (e_callP fn_35 rfl rfl hh ?_))
     intro h t47 hh
     refine ⟨⟨⟨⟨trivial, .inl (by kernel_rfl)⟩, .inl (by kernel_rfl)⟩, .inl (by kernel_rfl)⟩, ?_⟩
     refine .w 12 (by kernel_rfl) rfl (by kernel_rfl) (.e (e_callP fn_31 rfl rfl hh ?_))
     intro h t48 hh
     refine ⟨⟨⟨⟨trivial, .inl (by kernel_rfl)⟩, .inl (by kernel_rfl)⟩, .inl (by kernel_rfl)⟩, ?_⟩
     refine .P 13 rfl (v_assign (v := reg t48) rfl) ?_
     refine .done (by kernel_rfl) ?_
     refine QN.then_ ?_
     refine CW.ret ?_
     refine QN.blockRet ?_
     refine QN.thenRet ?_
     exact ret1 rfl rfl ⟨(t48 : Bool), rfl, hh⟩
    ·have hh := hh.2 hb_2
     refine .sr (.V (v_ieql rfl rfl) (.A (reg ((t26 == (2 : Int)) : Bool)) (.nx ?_)))
     refine CW.cond (t26 == (2 : Int)) rfl (fun hb_3 => ?_) (fun hb_3 => ?_)
     ·have hh := hh.1 hb_3
      refine .sr (.M (reg g) (.M (reg ((toI64 (((toU64 t15) % (toU64 (t20.len : Int))).toNat : Int)) : Int)) (.M (reg g) (.V (v_nilCheck (congrArg Value.pointer hp)) (.V (v_fieldAddr fl_61_2 rfl) (.L 3 na_55 get_61_cores hh rfl (fun t56 hh => .M (reg ((toI64 (((toU64 t15) % (toU64 (t20.len : Int))).toNat : Int)) : Int)) ?_)))))))
      obtain ⟨t58, ht58, hh⟩ := hh
      refine .V (v_idx_slP sl_55 rfl rfl ht58.1 ht58.2.1 ht58.2.2) (.L 0 na_62 get_62_all hh rfl (fun t59 hh => ?_))
      refine .e (e_callP fn_32 rfl rfl hh ?_)
      intro h t60 hh
      refine .e (e_callP fn_31 rfl rfl hh ?_)
      intro h t61 hh
      refine .A (reg t61) (.nx ?_)
      refine CW.ret ?_
      refine QN.blockRet ?_
      refine QN.thenRet ?_
      exact ret1 rfl rfl ⟨(t61 : Bool), rfl, hh⟩
     ·have hh := hh.2 hb_3
      refine .sr (.V (v_ieql rfl rfl) (.A (reg ((t26 == (3 : Int)) : Bool)) (.nx ?_)))
      refine CW.cond (t26 == (3 : Int)) rfl (fun hb_4 => ?_) (fun hb_4 => ?_)
      ·have hh := hh.1 hb_4
       refine CW.region ?_
       refine .M (reg g) (.M (reg ((toI64 (((toU64 t15) % (toU64 (t20.len : Int))).toNat : Int)) : Int)) ?_)
       refine .e (e_callP fn_71 rfl rfl hh ?_)
       intro h t66 hh
       refine .nil ?_
       refine QN.blockN ?_
       exact QN.thenJ ⟨_, setl_eq trivial, hh⟩
      ·have hh := hh.2 hb_4
       refine .sr (.V (v_ieql rfl rfl) (.A (reg ((t26 == (4 : Int)) : Bool)) (.nx ?_)))
       refine CW.cond (t26 == (4 : Int)) rfl (fun hb_5 => ?_) (fun hb_5 => ?_)
       ·have hh := hh.1 hb_5
        refine .sr (.V (v_fieldAddr fl_95_3 rfl) (.LA 3 ag_37 get_95_V (fun _ => (len_api_Vote _)) hh rfl (fun t70 hh => ?_)))
        refine box_elim hh (fun v hv hh => ?_)
        refine .e (e_allocP hv zo_37 rfl ?_)
        refine .S (t70 : api_Vote) 0 sz_37 (one_api_Vote _) len_api_Vote (len_api_Vote _) (fun x => set_37_all x (t70 : api_Vote)) hh rfl rfl (fun _ hh => .nx (.seq ?_))
        refine CW.join (fun ρ h => ∃ (ρ' : Env) (t94 : Bool), ρ = setl ρ' [(0, reg g), (5, reg ((toI64 (((toU64 t15) % (toU64 (t20.len : Int))).toNat : Int)) : Int)), (6, .pointer (some v)), (94, reg t94)] ∧ (law19_Game_play.j2 k) g (toI64 (((toU64 t15) % (toU64 (t20.len : Int))).toNat : Int)) v t94 h) ?_ ?_
        ·refine CW.drawN 24 rfl follows_mixed [0, 2, 3, 4, 5, 6, 7, 8, 9, 10, 11, 12, 13, 14, 15, 16, 17, 18, 19, 20, 21, 22, 23] ?_
         refine .KA 0 0 ag_37 get_37_all (fun _ => (len_api_Vote _)) rfl hh rfl (fun t71 hh => ?_)
         refine .w 1 (by kernel_rfl) rfl (by kernel_rfl) (.e (e_callP fn_10 rfl rfl hh ?_))
         intro h t72 hh
         refine ⟨⟨trivial, .inl (by kernel_rfl)⟩, ?_⟩
         refine .P 2 rfl (v_not rfl) (.P 3 rfl (v_move (v := reg ((!t72) : Bool)) rfl) ?_)
         refine ifb_cases hh (fun hb_6 hh => ?_) (fun hb_6 hh => ?_)
         ·refine .N 4 74 rfl (cb hb_6) (.N 5 74 rfl (cb hb_6) (.N 6 74 rfl (cb hb_6) (.N 7 74 rfl (cb hb_6) (.N 8 74 rfl (cb hb_6) (.N 9 74 rfl (cb hb_6) (.N 10 74 rfl (cb hb_6) (.N 11 74 rfl (cb hb_6) (.P 12 rfl (v_pickT (v := reg true) rfl hb_6 rfl) (.P 13 rfl (v_move (v := reg true) rfl) ?_)))))))))
          refine .N 14 84 rfl rfl (.N 15 84 rfl rfl (.N 16 84 rfl rfl (.N 17 84 rfl rfl (.N 18 84 rfl rfl (.N 19 84 rfl rfl (.N 20 84 rfl rfl (.N 21 84 rfl rfl (.N 22 84 rfl rfl (.P 23 rfl (v_pickT (v := reg true) rfl rfl rfl) ?_)))))))))
          refine .done (by kernel_rfl) ?_
          exact QN.thenJ ⟨_, true, setl_eq ⟨rfl, ⟨rfl, ⟨rfl, ⟨rfl, trivial⟩⟩⟩⟩, hh⟩
         ·refine .Y 4 74 rfl (cb hb_6) (v_fieldAddr fl_37_5 rfl) (.YL 5 74 36 na_3 get_37_From rfl (cb hb_6) hh rfl (fun t76 hh => .Y 6 74 rfl (cb hb_6) (v_move (v := reg g) rfl) (.Y 7 74 rfl (cb hb_6) (v_nilCheck (congrArg Value.pointer hp)) (.Y 8 74 rfl (cb hb_6) (v_fieldAddr fl_61_2 rfl) (.YL 9 74 3 na_55 get_61_cores rfl (cb hb_6) hh rfl (fun t80 hh => .Y 10 74 rfl (cb hb_6) (v_len_sl (sl_55).1 rfl) (.Y 11 74 rfl (cb hb_6) (v_ileq rfl rfl) (.P 12 rfl (v_pickF (v := reg ((decide (t76 ≤ (t80.len : Int))) : Bool)) rfl hb_6 rfl) (.P 13 rfl (v_move (v := reg ((decide (t76 ≤ (t80.len : Int))) : Bool)) rfl) ?_)))))))))
          refine ifb_cases hh (fun hb_7 hh => ?_) (fun hb_7 hh => ?_)
          ·refine .N 14 84 rfl (cb hb_7) (.N 15 84 rfl (cb hb_7) (.N 16 84 rfl (cb hb_7) (.N 17 84 rfl (cb hb_7) (.N 18 84 rfl (cb hb_7) (.N 19 84 rfl (cb hb_7) (.N 20 84 rfl (cb hb_7) (.N 21 84 rfl (cb hb_7) (.N 22 84 rfl (cb hb_7) (.P 23 rfl (v_pickT (v := reg true) rfl hb_7 rfl) ?_)))))))))
           refine .done (by kernel_rfl) ?_
           exact QN.thenJ ⟨_, true, setl_eq ⟨rfl, ⟨rfl, ⟨rfl, ⟨rfl, trivial⟩⟩⟩⟩, hh⟩
          ·refine .Y 14 84 rfl (cb hb_7) (v_fieldAddr fl_37_5 rfl) (.YL 15 84 36 na_3 get_37_From rfl (cb hb_7) hh rfl (fun t86 hh => .Y 16 84 rfl (cb hb_7) (v_move (v := reg g) rfl) (.Y 17 84 rfl (cb hb_7) (v_nilCheck (congrArg Value.pointer hp)) (.Y 18 84 rfl (cb hb_7) (v_fieldAddr fl_61_0 rfl) (.Y 19 84 rfl (cb hb_7) (v_fieldAddr fl_54_1 rfl) (.YL 20 84 1 na_52 get_61_config_Members rfl (cb hb_7) hh rfl (fun t91 hh => .Y 21 84 rfl (cb hb_7) (v_len_sl (sl_52).1 rfl) (.Y 22 84 rfl (cb hb_7) (v_igtr rfl rfl) (.P 23 rfl (v_pickF (v := reg ((decide ((t91.len : Int) < t86)) : Bool)) rfl hb_7 rfl) ?_)))))))))
           refine .done (by kernel_rfl) ?_
           exact QN.thenJ ⟨_, (decide ((t91.len : Int) < t86)), setl_eq ⟨rfl, ⟨rfl, ⟨rfl, ⟨rfl, trivial⟩⟩⟩⟩, hh⟩
        ·rintro ρ h ⟨ρ', t94, rfl, hh⟩
         unfold law19_Game_play.j2 at hh
         refine CW.cond t94 rfl (fun hb_8 => ?_) (fun hb_8 => ?_)
         ·have hh := hh.1 hb_8
          refine .sr (.A (reg true) (.nx ?_))
          refine CW.ret ?_
          refine QN.thenRet ?_
          refine QN.blockRet ?_
          refine QN.thenRet ?_
          exact ret1 rfl rfl ⟨(true : Bool), rfl, hh⟩
         ·have hh := hh.2 hb_8
          refine CW.skip ?_
          refine QN.then_ ?_
          refine CW.seq ?_
          refine CW.drawN 13 rfl follows_mixed [0, 1, 2, 3, 4, 5, 6, 7, 8, 9, 12] ?_
          refine .P 0 rfl (v_move (v := reg g) rfl) (.P 1 rfl (v_move (v := reg ((toI64 (((toU64 t15) % (toU64 (t20.len : Int))).toNat : Int)) : Int)) rfl) (.P 2 rfl (v_move (v := reg g) rfl) ?_))
          obtain ⟨p_1, hp_1, hh⟩ := hh
          refine .P 3 rfl (v_nilCheck (congrArg Value.pointer hp_1)) (.P 4 rfl (v_fieldAddr fl_61_2 rfl) (.KL 5 3 na_55 get_61_cores rfl hh rfl (fun t100 hh => .P 6 rfl (v_move (v := reg ((toI64 (((toU64 t15) % (toU64 (t20.len : Int))).toNat : Int)) : Int)) rfl) ?_)))
          obtain ⟨t102, ht102, hh⟩ := hh
          refine .P 7 rfl (v_idx_slP sl_55 rfl rfl ht102.1 ht102.2.1 ht102.2.2) (.KL 8 0 na_62 get_62_all rfl hh rfl (fun t103 hh => .KA 9 0 ag_37 get_37_all (fun _ => (len_api_Vote _)) rfl hh rfl (fun t104 hh => ?_)))
          refine .w 10 (by kernel_rfl) rfl (by kernel_rfl) (.e (e_callP fn_39 rfl rfl hh ?_))
          intro h t105 hh
          refine ⟨⟨⟨⟨trivial, .inl (by kernel_rfl)⟩, .inl (by kernel_rfl)⟩, .inl (by kernel_rfl)⟩, ?_⟩
          refine .w 11 (by kernel_rfl) rfl (by kernel_rfl) (.e (e_callP fn_31 rfl rfl hh ?_))
          intro h t106 hh
          refine ⟨⟨⟨⟨trivial, .inl (by kernel_rfl)⟩, .inl (by kernel_rfl)⟩, .inl (by kernel_rfl)⟩, ?_⟩
          refine .P 12 rfl (v_assign (v := reg t106) rfl) ?_
          refine .done (by kernel_rfl) ?_
          refine QN.then_ ?_
          refine CW.ret ?_
          refine QN.blockRet ?_
          refine QN.thenRet ?_
          exact ret1 rfl rfl ⟨(t106 : Bool), rfl, hh⟩
       ·have hh := hh.2 hb_5
        refine .sr (.V (v_ieql rfl rfl) (.A (reg ((t26 == (5 : Int)) : Bool)) (.nx ?_)))
        refine CW.cond (t26 == (5 : Int)) rfl (fun hb_9 => ?_) (fun hb_9 => ?_)
        ·have hh := hh.1 hb_9
         refine .sr (.V (v_fieldAddr fl_95_4 rfl) (.LA 44 ag_77 get_95_P (fun _ => (len_api_Plan _)) hh rfl (fun t110 hh => ?_)))
         refine box_elim hh (fun p_2 hp_2 hh => ?_)
         refine .e (e_allocP hp_2 zo_77 rfl ?_)
         refine .S (t110 : api_Plan) 0 sz_77 (one_api_Plan _) len_api_Plan (len_api_Plan _) (fun x => set_77_all x (t110 : api_Plan)) hh rfl rfl (fun _ hh => .nx (.sr (.M (reg g) (.V (v_nilCheck (congrArg Value.pointer hp)) (.V (v_fieldAddr fl_61_1 rfl) (.L 2 na_3 get_61_height hh rfl (fun t114 hh => .V (v_fieldAddr fl_77_1 rfl) (.S (t114 : Int) 1 sz_3 (one_i _) len_api_Plan (len_i _) (fun x => set_77_Height x (t114 : Int)) hh rfl rfl (fun _ hh => .nx (.sr (.M (reg g) ?_)))))))))))
         refine .V (v_nilCheck (congrArg Value.pointer hp)) (.V (v_fieldAddr fl_61_1 rfl) (.L 2 na_3 get_61_height hh rfl (fun t119 hh => .V (v_fieldAddr fl_77_4 rfl) (.V (v_fieldAddr fl_75_1 rfl) (.S (t119 : Int) 5 sz_3 (one_i _) len_api_Plan (len_i _) (fun x => set_77_Block_Height x (t119 : Int)) hh rfl rfl (fun _ hh => .nx (.seq ?_)))))))
         refine CW.join (fun ρ h => ∃ (ρ' : Env) (t173 : Bool), ρ = setl ρ' [(0, reg g), (5, reg ((toI64 (((toU64 t15) % (toU64 (t20.len : Int))).toNat : Int)) : Int)), (7, .pointer (some p_2)), (173, reg t173)] ∧ (law19_Game_play.j3 k) g (toI64 (((toU64 t15) % (toU64 (t20.len : Int))).toNat : Int)) p_2 t173 h) ?_ ?_
         ·refine CW.drawN 52 rfl follows_mixed [0, 1, 3, 4, 5, 6, 8, 9, 10, 11, 12, 13, 14, 15, 16, 17, 18, 19, 20, 21, 22, 23, 24, 25, 26, 27, 28, 29, 30, 31, 32, 33, 34, 35, 36, 37, 38, 39, 40, 41, 42, 43, 44, 45, 46, 47, 48, 49, 50, 51] ?_
          refine .P 0 rfl (v_fieldAddr fl_77_4 rfl) (.KA 1 4 ag_75 get_77_Block (fun _ => (len_api_Block _)) rfl hh rfl (fun t123 hh => ?_))
          refine .w 2 (by kernel_rfl) rfl (by kernel_rfl) (.e (e_callP fn_66 rfl rfl hh ?_))
          intro h t124 hh
          refine ⟨⟨trivial, .inl (by kernel_rfl)⟩, ?_⟩
          refine .P 3 rfl (v_not rfl) (.P 4 rfl (v_move (v := reg ((!t124) : Bool)) rfl) ?_)
          refine ifb_cases hh (fun hb_10 hh => ?_) (fun hb_10 hh => ?_)
          ·refine .N 5 126 rfl (cb hb_10) (.N 6 126 rfl (cb hb_10) ?_)
           refine .w 7 (by kernel_rfl) rfl (by kernel_rfl) (.no 126 rfl (cb hb_10) rfl rfl ⟨⟨trivial, .inl (by kernel_rfl)⟩, ?_⟩)
           refine .P 8 rfl (v_pickT (v := reg true) rfl hb_10 rfl) (.P 9 rfl (v_move (v := reg true) rfl) (.N 10 131 rfl rfl (.N 11 131 rfl rfl (.N 12 131 rfl rfl (.P 13 rfl (v_pickT (v := reg true) rfl rfl rfl) (.P 14 rfl (v_move (v := reg true) rfl) (.N 15 136 rfl rfl (.N 16 136 rfl rfl (.N 17 136 rfl rfl ?_)))))))))
           refine .P 18 rfl (v_pickT (v := reg true) rfl rfl rfl) (.P 19 rfl (v_move (v := reg true) rfl) (.N 20 141 rfl rfl (.N 21 141 rfl rfl (.N 22 141 rfl rfl (.P 23 rfl (v_pickT (v := reg true) rfl rfl rfl) (.P 24 rfl (v_move (v := reg true) rfl) (.N 25 146 rfl rfl (.N 26 146 rfl rfl (.N 27 146 rfl rfl ?_)))))))))
           refine .N 28 146 rfl rfl (.N 29 146 rfl rfl (.P 30 rfl (v_pickT (v := reg true) rfl rfl rfl) (.P 31 rfl (v_move (v := reg true) rfl) (.N 32 153 rfl rfl (.N 33 153 rfl rfl (.N 34 153 rfl rfl (.N 35 153 rfl rfl (.N 36 153 rfl rfl (.N 37 153 rfl rfl ?_)))))))))
           refine .N 38 153 rfl rfl (.N 39 153 rfl rfl (.P 40 rfl (v_pickT (v := reg true) rfl rfl rfl) (.P 41 rfl (v_move (v := reg true) rfl) (.N 42 163 rfl rfl (.N 43 163 rfl rfl (.N 44 163 rfl rfl (.N 45 163 rfl rfl (.N 46 163 rfl rfl (.N 47 163 rfl rfl ?_)))))))))
           refine .N 48 163 rfl rfl (.N 49 163 rfl rfl (.N 50 163 rfl rfl (.P 51 rfl (v_pickT (v := reg true) rfl rfl rfl) ?_)))
           refine .done (by kernel_rfl) ?_
           exact QN.thenJ ⟨_, true, setl_eq ⟨rfl, ⟨rfl, ⟨rfl, ⟨rfl, trivial⟩⟩⟩⟩, hh⟩
          ·refine .Y 5 126 rfl (cb hb_10) (v_fieldAddr fl_77_4 rfl) ?_
           obtain ⟨t128, ⟨xt128, hxt128, hgt128⟩, hh⟩ := hh
           refine .YK 6 126 (fun h' => ∃ x : api_Plan, AtH h' p_2 (enc x) ∧ ((fun (x : api_Plan) => x.Block) : api_Plan → api_Block) x = t128) rfl (cb hb_10) ⟨xt128, hxt128, hgt128⟩ (fun h' hS => hS.elim fun _ hS => v_ldA (p := p_2) 4 ag_75 rfl hS.1 hS.2 get_77_Block (fun _ => (len_api_Block _)) (fun _ => rfl)) ?_
           refine .w 7 (by kernel_rfl) rfl (by kernel_rfl) (.ye 126 rfl (cb hb_10) rfl (e_callP fn_67 rfl rfl hh ?_))
           intro h t129 hh
           refine ⟨⟨⟨trivial, .inl (by kernel_rfl)⟩, .inl (by kernel_rfl)⟩, ?_⟩
           refine .P 8 rfl (v_pickF (v := reg t129) rfl hb_10 rfl) (.P 9 rfl (v_move (v := reg t129) rfl) ?_)
           refine .fp 10 131 rfl rfl rfl rfl (by kernel_rfl) (NoPanic.then_ (NoPanic.then_ (NoPanic.block (NoPanic.then_ (NoPanic.body))))) (fun hb _ => v_fieldAddr fl_77_2 rfl) ?_
           obtain ⟨t133, ⟨xt133, hxt133, hgt133⟩, hh⟩ := hh
           refine .fr 11 131 (fun h' => ∃ x : api_Plan, AtH h' p_2 (enc x) ∧ ((fun (x : api_Plan) => x.Round) : api_Plan → Int) x = t133) rfl rfl rfl rfl (by kernel_rfl) (NoPanic.then_ (NoPanic.then_ (NoPanic.block (NoPanic.then_ (NoPanic.body))))) ⟨xt133, hxt133, hgt133⟩ (fun hb => fun h' hS => hS.elim fun _ hS => v_ld1 (p := p_2) 2 na_3 (gf hb) hS.1 hS.2 get_77_Round) ?_
           refine .fp 12 131 rfl rfl rfl rfl (by kernel_rfl) (NoPanic.then_ (NoPanic.then_ (NoPanic.block (NoPanic.then_ (NoPanic.body))))) (fun hb _ => v_ilss (gf hb) rfl) ?_
           refine .P 13 rfl (v_pick_or rfl rfl (fun hb => gf hb)) (.P 14 rfl (v_move (v := reg ((t129 || (decide (t133 < (0 : Int)))) : Bool)) rfl) ?_)
           refine .fp 15 136 rfl rfl rfl rfl (by kernel_rfl) (NoPanic.then_ (NoPanic.then_ (NoPanic.block (NoPanic.then_ (NoPanic.body))))) (fun hb _ => v_fieldAddr fl_77_2 rfl) ?_
           obtain ⟨t138, ⟨xt138, hxt138, hgt138⟩, hh⟩ := hh
           refine .fr 16 136 (fun h' => ∃ x : api_Plan, AtH h' p_2 (enc x) ∧ ((fun (x : api_Plan) => x.Round) : api_Plan → Int) x = t138) rfl rfl rfl rfl (by kernel_rfl) (NoPanic.then_ (NoPanic.then_ (NoPanic.block (NoPanic.then_ (NoPanic.body))))) ⟨xt138, hxt138, hgt138⟩ (fun hb => fun h' hS => hS.elim fun _ hS => v_ld1 (p := p_2) 2 na_3 (gf hb) hS.1 hS.2 get_77_Round) ?_
           refine .fp 17 136 rfl rfl rfl rfl (by kernel_rfl) (NoPanic.then_ (NoPanic.then_ (NoPanic.block (NoPanic.then_ (NoPanic.body))))) (fun hb _ => v_igtr (gf hb) rfl) ?_
           refine .P 18 rfl (v_pick_or rfl rfl (fun hb => gf hb)) (.P 19 rfl (v_move (v := reg (((t129 || (decide (t133 < (0 : Int)))) || (decide ((1024 : Int) < t138))) : Bool)) rfl) ?_)
           refine .fp 20 141 rfl rfl rfl rfl (by kernel_rfl) (NoPanic.then_ (NoPanic.then_ (NoPanic.block (NoPanic.then_ (NoPanic.body))))) (fun hb _ => v_fieldAddr fl_77_3 rfl) ?_
           obtain ⟨t143, ⟨xt143, hxt143, hgt143⟩, hh⟩ := hh
           refine .fr 21 141 (fun h' => ∃ x : api_Plan, AtH h' p_2 (enc x) ∧ ((fun (x : api_Plan) => x.Valid) : api_Plan → Int) x = t143) rfl rfl rfl rfl (by kernel_rfl) (NoPanic.then_ (NoPanic.then_ (NoPanic.block (NoPanic.then_ (NoPanic.body))))) ⟨xt143, hxt143, hgt143⟩ (fun hb => fun h' hS => hS.elim fun _ hS => v_ld1 (p := p_2) 3 na_3 (gf hb) hS.1 hS.2 get_77_Valid) ?_
           refine .fp 22 141 rfl rfl rfl rfl (by kernel_rfl) (NoPanic.then_ (NoPanic.then_ (NoPanic.block (NoPanic.then_ (NoPanic.body))))) (fun hb _ => v_ilss (gf hb) rfl) ?_
           refine .P 23 rfl (v_pick_or rfl rfl (fun hb => gf hb)) (.P 24 rfl (v_move (v := reg ((((t129 || (decide (t133 < (0 : Int)))) || (decide ((1024 : Int) < t138))) || (decide (t143 < (-1 : Int)))) : Bool)) rfl) ?_)
           refine .fp 25 146 rfl rfl rfl rfl (by kernel_rfl) (NoPanic.then_ (NoPanic.then_ (NoPanic.block (NoPanic.then_ (NoPanic.body))))) (fun hb _ => v_fieldAddr fl_77_3 rfl) ?_
           obtain ⟨t148, ⟨xt148, hxt148, hgt148⟩, hh⟩ := hh
           refine .fr 26 146 (fun h' => ∃ x : api_Plan, AtH h' p_2 (enc x) ∧ ((fun (x : api_Plan) => x.Valid) : api_Plan → Int) x = t148) rfl rfl rfl rfl (by kernel_rfl) (NoPanic.then_ (NoPanic.then_ (NoPanic.block (NoPanic.then_ (NoPanic.body))))) ⟨xt148, hxt148, hgt148⟩ (fun hb => fun h' hS => hS.elim fun _ hS => v_ld1 (p := p_2) 3 na_3 (gf hb) hS.1 hS.2 get_77_Valid) ?_
           refine .fp 27 146 rfl rfl rfl rfl (by kernel_rfl) (NoPanic.then_ (NoPanic.then_ (NoPanic.block (NoPanic.then_ (NoPanic.body))))) (fun hb _ => v_fieldAddr fl_77_2 rfl) ?_
           obtain ⟨t150, ⟨xt150, hxt150, hgt150⟩, hh⟩ := hh
           refine .fr 28 146 (fun h' => ∃ x : api_Plan, AtH h' p_2 (enc x) ∧ ((fun (x : api_Plan) => x.Round) : api_Plan → Int) x = t150) rfl rfl rfl rfl (by kernel_rfl) (NoPanic.then_ (NoPanic.then_ (NoPanic.block (NoPanic.then_ (NoPanic.body))))) ⟨xt150, hxt150, hgt150⟩ (fun hb => fun h' hS => hS.elim fun _ hS => v_ld1 (p := p_2) 2 na_3 (gf hb) hS.1 hS.2 get_77_Round) ?_
           refine .fp 29 146 rfl rfl rfl rfl (by kernel_rfl) (NoPanic.then_ (NoPanic.then_ (NoPanic.block (NoPanic.then_ (NoPanic.body))))) (fun hb _ => v_igeq (gf hb) (gf hb)) ?_
           refine .P 30 rfl (v_pick_or rfl rfl (fun hb => gf hb)) (.P 31 rfl (v_move (v := reg (((((t129 || (decide (t133 < (0 : Int)))) || (decide ((1024 : Int) < t138))) || (decide (t143 < (-1 : Int)))) || (decide (t150 ≤ t148))) : Bool)) rfl) ?_)
           refine ifb_cases hh (fun hb_11 hh => ?_) (fun hb_11 hh => ?_)
           ·refine .N 32 153 rfl (cb hb_11) (.N 33 153 rfl (cb hb_11) (.N 34 153 rfl (cb hb_11) (.N 35 153 rfl (cb hb_11) (.N 36 153 rfl (cb hb_11) (.N 37 153 rfl (cb hb_11) (.N 38 153 rfl (cb hb_11) (.N 39 153 rfl (cb hb_11) (.P 40 rfl (v_pickT (v := reg true) rfl hb_11 rfl) (.P 41 rfl (v_move (v := reg true) rfl) ?_)))))))))
            refine .N 42 163 rfl rfl (.N 43 163 rfl rfl (.N 44 163 rfl rfl (.N 45 163 rfl rfl (.N 46 163 rfl rfl (.N 47 163 rfl rfl (.N 48 163 rfl rfl (.N 49 163 rfl rfl (.N 50 163 rfl rfl (.P 51 rfl (v_pickT (v := reg true) rfl rfl rfl) ?_)))))))))
            refine .done (by kernel_rfl) ?_
            exact QN.thenJ ⟨_, true, setl_eq ⟨rfl, ⟨rfl, ⟨rfl, ⟨rfl, trivial⟩⟩⟩⟩, hh⟩
           ·refine .Y 32 153 rfl (cb hb_11) (v_fieldAddr fl_77_5 rfl) (.YL 33 153 103 na_3 get_77_From rfl (cb hb_11) hh rfl (fun t155 hh => .Y 34 153 rfl (cb hb_11) (v_move (v := reg g) rfl) (.Y 35 153 rfl (cb hb_11) (v_nilCheck (congrArg Value.pointer hp)) (.Y 36 153 rfl (cb hb_11) (v_fieldAddr fl_61_2 rfl) (.YL 37 153 3 na_55 get_61_cores rfl (cb hb_11) hh rfl (fun t159 hh => .Y 38 153 rfl (cb hb_11) (v_len_sl (sl_55).1 rfl) (.Y 39 153 rfl (cb hb_11) (v_ileq rfl rfl) (.P 40 rfl (v_pickF (v := reg ((decide (t155 ≤ (t159.len : Int))) : Bool)) rfl hb_11 rfl) (.P 41 rfl (v_move (v := reg ((decide (t155 ≤ (t159.len : Int))) : Bool)) rfl) ?_)))))))))
            refine ifb_cases hh (fun hb_12 hh => ?_) (fun hb_12 hh => ?_)
            ·refine .N 42 163 rfl (cb hb_12) (.N 43 163 rfl (cb hb_12) (.N 44 163 rfl (cb hb_12) (.N 45 163 rfl (cb hb_12) (.N 46 163 rfl (cb hb_12) (.N 47 163 rfl (cb hb_12) (.N 48 163 rfl (cb hb_12) (.N 49 163 rfl (cb hb_12) (.N 50 163 rfl (cb hb_12) (.P 51 rfl (v_pickT (v := reg true) rfl hb_12 rfl) ?_)))))))))
             refine .done (by kernel_rfl) ?_
             exact QN.thenJ ⟨_, true, setl_eq ⟨rfl, ⟨rfl, ⟨rfl, ⟨rfl, trivial⟩⟩⟩⟩, hh⟩
            ·refine .Y 42 163 rfl (cb hb_12) (v_fieldAddr fl_77_5 rfl) (.YL 43 163 103 na_3 get_77_From rfl (cb hb_12) hh rfl (fun t165 hh => .Y 44 163 rfl (cb hb_12) (v_move (v := reg g) rfl) (.Y 45 163 rfl (cb hb_12) (v_nilCheck (congrArg Value.pointer hp)) (.Y 46 163 rfl (cb hb_12) (v_fieldAddr fl_61_0 rfl) (.Y 47 163 rfl (cb hb_12) (v_fieldAddr fl_54_1 rfl) (.YL 48 163 1 na_52 get_61_config_Members rfl (cb hb_12) hh rfl (fun t170 hh => .Y 49 163 rfl (cb hb_12) (v_len_sl (sl_52).1 rfl) (.Y 50 163 rfl (cb hb_12) (v_igtr rfl rfl) (.P 51 rfl (v_pickF (v := reg ((decide ((t170.len : Int) < t165)) : Bool)) rfl hb_12 rfl) ?_)))))))))
             refine .done (by kernel_rfl) ?_
             exact QN.thenJ ⟨_, (decide ((t170.len : Int) < t165)), setl_eq ⟨rfl, ⟨rfl, ⟨rfl, ⟨rfl, trivial⟩⟩⟩⟩, hh⟩
         ·rintro ρ h ⟨ρ', t173, rfl, hh⟩
          unfold law19_Game_play.j3 at hh
          refine CW.cond t173 rfl (fun hb_13 => ?_) (fun hb_13 => ?_)
          ·have hh := hh.1 hb_13
           refine .sr (.A (reg true) (.nx ?_))
           refine CW.ret ?_
           refine QN.thenRet ?_
           refine QN.blockRet ?_
           refine QN.thenRet ?_
           exact ret1 rfl rfl ⟨(true : Bool), rfl, hh⟩
          ·have hh := hh.2 hb_13
           refine CW.skip ?_
           refine QN.then_ ?_
           refine CW.seq ?_
           refine CW.drawN 12 rfl follows_mixed [0, 1, 2, 3, 4, 5, 6, 9, 10] ?_
           refine .P 0 rfl (v_move (v := reg g) rfl) (.P 1 rfl (v_move (v := reg g) rfl) ?_)
           obtain ⟨p_4, hp_4, hh⟩ := hh
           refine .P 2 rfl (v_nilCheck (congrArg Value.pointer hp_4)) (.P 3 rfl (v_fieldAddr fl_61_8 rfl) (.KL 4 9 na_59 get_61_others rfl hh rfl (fun t178 hh => .P 5 rfl (v_fieldAddr fl_77_4 rfl) (.KA 6 4 ag_75 get_77_Block (fun _ => (len_api_Block _)) rfl hh rfl (fun t180 hh => ?_)))))
           refine mks_elim hh (fun pt181 t181 hpt181 ht181 hh => ?_)
           refine .w 7 (by kernel_rfl) rfl (by kernel_rfl) (.e (e_mks [(t180 : api_Block)] hpt181 ht181 zo_75 sl_59 rfl rfl rfl rfl rfl ?_))
           obtain ⟨hc, hh⟩ := hh
           refine ⟨⟨⟨trivial, .inr hc⟩, .inl (by kernel_rfl)⟩, ?_⟩
           refine .w 8 (by kernel_rfl) rfl (by kernel_rfl) (.e (e_app sl_59 zo_75 by_75 rfl rfl rfl hh ?_))
           intro h t182 hh
           refine ⟨⟨⟨trivial, .inl (by kernel_rfl)⟩, .inl (by kernel_rfl)⟩, ?_⟩
           refine .P 9 rfl (v_nilCheck (congrArg Value.pointer hp_4)) (.P 10 rfl (v_fieldAddr fl_61_8 rfl) ?_)
           obtain ⟨xw_4, hxw_4, hwxw_4, hh⟩ := hh
           refine .w 11 (by kernel_rfl) rfl (by kernel_rfl) (.e (e_storeN (p := p_4) (nv := enc (t182 : Sl)) 9 rfl rfl rfl sz_59 (one_sl _) hxw_4 hwxw_4 (len_law19_Game _) (len_sl _) rfl (set_61_others xw_4 (t182 : Sl)) ?_))
           refine ⟨⟨⟨trivial, .inl (by kernel_rfl)⟩, .inl (by kernel_rfl)⟩, ?_⟩
           refine .done (by kernel_rfl) ?_
           refine QN.then_ ?_
           refine CW.seq ?_
           refine CW.drawN 13 rfl follows_mixed [0, 1, 2, 3, 4, 5, 6, 7, 8, 9, 12] ?_
           refine .P 0 rfl (v_move (v := reg g) rfl) (.P 1 rfl (v_move (v := reg ((toI64 (((toU64 t15) % (toU64 (t20.len : Int))).toNat : Int)) : Int)) rfl) (.P 2 rfl (v_move (v := reg g) rfl) (.P 3 rfl (v_nilCheck (congrArg Value.pointer hp_4)) (.P 4 rfl (v_fieldAddr fl_61_2 rfl) (.KL 5 3 na_55 get_61_cores rfl hh rfl (fun t190 hh => .P 6 rfl (v_move (v := reg ((toI64 (((toU64 t15) % (toU64 (t20.len : Int))).toNat : Int)) : Int)) rfl) ?_))))))
           obtain ⟨t192, ht192, hh⟩ := hh
           refine .P 7 rfl (v_idx_slP sl_55 rfl rfl ht192.1 ht192.2.1 ht192.2.2) (.KL 8 0 na_62 get_62_all rfl hh rfl (fun t193 hh => .KA 9 0 ag_77 get_77_all (fun _ => (len_api_Plan _)) rfl hh rfl (fun t194 hh => ?_)))
           refine .w 10 (by kernel_rfl) rfl (by kernel_rfl) (.e (e_callP fn_38 rfl rfl hh ?_))
           intro h t195 hh
           refine ⟨⟨⟨⟨trivial, .inl (by kernel_rfl)⟩, .inl (by kernel_rfl)⟩, .inl (by kernel_rfl)⟩, ?_⟩
           refine .w 11 (by kernel_rfl) rfl (by kernel_rfl) (.e (e_callP fn_31 rfl rfl hh ?_))
           intro h t196 hh
           refine ⟨⟨⟨⟨trivial, .inl (by kernel_rfl)⟩, .inl (by kernel_rfl)⟩, .inl (by kernel_rfl)⟩, ?_⟩
           refine .P 12 rfl (v_assign (v := reg t196) rfl) ?_
           refine .done (by kernel_rfl) ?_
           refine QN.then_ ?_
           refine CW.ret ?_
           refine QN.blockRet ?_
           refine QN.thenRet ?_
           exact ret1 rfl rfl ⟨(t196 : Bool), rfl, hh⟩
        ·have hh := hh.2 hb_9
         refine CW.skip ?_
         refine QN.blockN ?_
         exact QN.thenJ ⟨_, setl_eq trivial, hh⟩
  ·rintro ρ h ⟨ρ', rfl, hh⟩
   unfold law19_Game_play.j1 at hh
   refine .sr (.A (reg true) (.nx ?_))
   refine CW.ret ?_
   exact ret1 rfl rfl ⟨(true : Bool), rfl, hh⟩
theorem law19_Game_agree.ok (g : Pt) (k : Bool → H → Prop) (h : H) (hh : law19_Game_agree.b g k h) : CallsH Prog 42 [reg g].toArray h fun v h' => ∃ r : Bool, v = reg r ∧ k r h' := by
 unfold law19_Game_agree.b at hh
 refine CallsH.of 28 Tryd.func42 rfl Tryd.ntmps42 rfl (fun w0 => ?_)
 refine .sr (.A (reg false) (.nx (.sr ?_)))
 refine box_elim hh (fun d hd hh => ?_)
 refine .e (e_allocP hd zo_24 rfl ?_)
 refine .nx ?_
 refine CW.join (fun ρ h => ∃ (ρ' : Env), ρ = setl ρ' [] ∧ (law19_Game_agree.j1 k)  h) ?_ ?_
 ·refine .sr (.M (reg g) ?_)
  obtain ⟨p, hp, hh⟩ := hh
  refine .V (v_nilCheck (congrArg Value.pointer hp)) (.V (v_fieldAddr fl_61_7 rfl) (.L 8 na_31 get_61_decided hh rfl (fun t9 hh => .V (v_len_sl (sl_31).1 rfl) (.M (reg ((0 : Int) : Int)) (.nx ?_)))))
  refine CW.block ?_
  unfold law19_Game_agree.l1 at hh
  refine CW.loop (fun (σ0 : Int) ρ => match σ0 with | t11 => ∃ ρ' : Env, ρ = setl ρ' [(3, .pointer (some d)), (9, reg t9), (10, reg ((t9.len : Int) : Int)), (11, reg t11)]) hh ⟨_, setl_eq ⟨rfl, ⟨rfl, ⟨rfl, ⟨rfl, trivial⟩⟩⟩⟩⟩ ?_
  clear hh
  rintro s1 t11 ρ h ⟨ρ', rfl⟩ hh
  refine .sr (.V (v_ilss rfl rfl) (.nx (.seq ?_)))
  refine CW.cond (decide (t11 < (t9.len : Int))) rfl (fun hb => ?_) (fun hb => ?_)
  ·have hh := hh.1 hb
   refine CW.skip ?_
   refine QN.then_ ?_
   refine CW.seq ?_
   refine CW.block ?_
   refine .sr ?_
   obtain ⟨t13, ht13, hh⟩ := hh
   refine .V (v_idx_slP sl_31 rfl rfl ht13.1 ht13.2.1 ht13.2.2) (.LA 0 ag_24 get_24_all (fun _ => (arr_len (n := 32) _)) hh rfl (fun t14 hh => ?_))
   refine box_elim hh (fun x hx hh => ?_)
   refine .e (e_allocP hx zo_24 rfl ?_)
   refine .S (t14 : Arr 32 UInt8) 0 sz_24 (one_arr (n := 32) (fun _ => rfl) _) (fun _ => arr_len (n := 32) _) (arr_len (n := 32) _) (fun x => set_24_all x (t14 : Arr 32 UInt8)) hh rfl rfl (fun _ hh => .nx ?_)
   refine CW.join (fun ρ h => ∃ (ρ' : Env), ρ = setl ρ' [(3, .pointer (some d)), (5, .pointer (some x)), (9, reg t9), (10, reg ((t9.len : Int) : Int)), (11, reg t11)] ∧ (law19_Game_agree.j2 k s1) d x t9 (t9.len : Int) t11 h) ?_ ?_
   ·refine .sr (.LA 0 ag_24 get_24_all (fun _ => (arr_len (n := 32) _)) hh rfl (fun t15 hh => .V (v_buildAT (arrOf [0, 0, 0, 0, 0, 0, 0, 0, 0, 0, 0, 0, 0, 0, 0, 0, 0, 0, 0, 0, 0, 0, 0, 0, 0, 0, 0, 0, 0, 0, 0, 0] : Arr 32 UInt8) zo_24 ar_24 rfl rfl rfl) (.V (v_eq_arr8 bt_24 rfl rfl) (.nx ?_))))
    refine CW.cond (decide (t15 = (arrOf [0, 0, 0, 0, 0, 0, 0, 0, 0, 0, 0, 0, 0, 0, 0, 0, 0, 0, 0, 0, 0, 0, 0, 0, 0, 0, 0, 0, 0, 0, 0, 0] : Arr 32 UInt8))) rfl (fun hb_1 => ?_) (fun hb_1 => ?_)
    ·have hh := hh.1 hb_1
     refine CW.region ?_
     refine .LA 0 ag_24 get_24_all (fun _ => (arr_len (n := 32) _)) hh rfl (fun t18 hh => .S (t18 : Arr 32 UInt8) 0 sz_24 (one_arr (n := 32) (fun _ => rfl) _) (fun _ => arr_len (n := 32) _) (arr_len (n := 32) _) (fun x => set_24_all x (t18 : Arr 32 UInt8)) hh rfl rfl (fun _ hh => ?_))
     refine .nil ?_
     exact QN.thenJ ⟨_, setl_eq ⟨rfl, ⟨rfl, ⟨rfl, ⟨rfl, ⟨rfl, trivial⟩⟩⟩⟩⟩, hh⟩
    ·have hh := hh.2 hb_1
     refine CW.skip ?_
     exact QN.thenJ ⟨_, setl_eq ⟨rfl, ⟨rfl, ⟨rfl, ⟨rfl, ⟨rfl, trivial⟩⟩⟩⟩⟩, hh⟩
   ·rintro ρ h ⟨ρ', rfl, hh⟩
    unfold law19_Game_agree.j2 at hh
    refine .sr (.LA 0 ag_24 get_24_all (fun _ => (arr_len (n := 32) _)) hh rfl (fun t19 hh => .V (v_buildAT (arrOf [0, 0, 0, 0, 0, 0, 0, 0, 0, 0, 0, 0, 0, 0, 0, 0, 0, 0, 0, 0, 0, 0, 0, 0, 0, 0, 0, 0, 0, 0, 0, 0] : Arr 32 UInt8) zo_24 ar_24 rfl rfl rfl) (.V (v_ne_arr8 bt_24 rfl rfl) (.M (reg ((!decide (t19 = (arrOf [0, 0, 0, 0, 0, 0, 0, 0, 0, 0, 0, 0, 0, 0, 0, 0, 0, 0, 0, 0, 0, 0, 0, 0, 0, 0, 0, 0, 0, 0, 0, 0] : Arr 32 UInt8))) : Bool)) ?_))))
    obtain ⟨t23, ⟨xt23, hxt23, hgt23⟩, hh⟩ := hh
    refine .tv 22 rfl rfl rfl (fun hb => v_ldA (p := x) 0 ag_24 rfl hxt23 hgt23 get_24_all (fun _ => (arr_len (n := 32) _)) (fun _ => rfl)) rfl ?_
    obtain ⟨t24, ⟨xt24, hxt24, hgt24⟩, hh⟩ := hh
    refine .tv 22 rfl rfl rfl (fun hb => v_ldA (p := d) 0 ag_24 rfl hxt24 hgt24 get_24_all (fun _ => (arr_len (n := 32) _)) (fun _ => rfl)) rfl (.tv 22 rfl rfl rfl (fun hb => v_ne_arr8 bt_24 (gt hb) (gt hb)) rfl (.V (v_pick_and rfl (fun hb => gt hb) rfl) (.nx ?_)))
    refine CW.cond ((!decide (t19 = (arrOf [0, 0, 0, 0, 0, 0, 0, 0, 0, 0, 0, 0, 0, 0, 0, 0, 0, 0, 0, 0, 0, 0, 0, 0, 0, 0, 0, 0, 0, 0, 0, 0] : Arr 32 UInt8))) && (!decide (t23 = t24))) rfl (fun hb_2 => ?_) (fun hb_2 => ?_)
    ·have hh := hh.1 hb_2
     refine .sr (.A (reg false) (.nx ?_))
     refine CW.ret ?_
     refine QN.blockRet ?_
     refine QN.thenRet ?_
     refine QN.thenRet ?_
     refine QN.blockRet ?_
     refine QN.thenRet ?_
     exact ret1 rfl rfl ⟨(false : Bool), rfl, hh⟩
    ·have hh := hh.2 hb_2
     refine CW.skip ?_
     refine QN.blockN ?_
     refine QN.then_ ?_
     refine CW.region ?_
     refine .V (v_iadd rfl rfl) (.M (reg ((iadd t11 (1 : Int)) : Int)) ?_)
     refine .nil ?_
     exact QN.thenJ ⟨(iadd t11 (1 : Int)), ⟨_, setl_eq ⟨rfl, ⟨rfl, ⟨rfl, ⟨rfl, trivial⟩⟩⟩⟩⟩, hh⟩
  ·have hh := hh.2 hb
   refine CW.exit ?_
   refine QN.thenExit ?_
   refine QN.thenExit ?_
   refine QN.blockExit ?_
   exact QN.thenJ ⟨_, setl_eq trivial, hh⟩
 ·rintro ρ h ⟨ρ', rfl, hh⟩
  unfold law19_Game_agree.j1 at hh
  refine .sr (.A (reg true) (.nx ?_))
  refine CW.ret ?_
  exact ret1 rfl rfl ⟨(true : Bool), rfl, hh⟩
theorem idx_mod (x : Int) (M : Nat) (h : 1 ≤ M ∧ M ≤ 1000000) : ∃ j : Nat, j < M ∧ toI64 (((toU64 x) % (toU64 (M : Int))).toNat : Int) = (j : Int) := by
  have e : (toU64 (M : Int)).toNat = M := by
    unfold toU64
    rw [UInt64.toNat_ofNat']
    have : (((M : Int) % 18446744073709551616).toNat) = M := by omega
    rw [this]
    exact Nat.mod_eq_of_lt (by omega)
  refine ⟨((toU64 x) % (toU64 (M : Int))).toNat, ?_, ?_⟩
  · rw [UInt64.toNat_mod, e]; exact Nat.mod_lt _ (by omega)
  · have : ((toU64 x) % (toU64 (M : Int))).toNat < M := by rw [UInt64.toNat_mod, e]; exact Nat.mod_lt _ (by omega)
    exact wrap_eq (by omega) (by omega)
theorem u64_ne (M : Nat) (h : 1 ≤ M ∧ M ≤ 1000000) : toU64 (M : Int) ≠ 0 := by
  intro h0
  have e : (toU64 (M : Int)).toNat = M := by
    unfold toU64
    rw [UInt64.toNat_ofNat']
    have : (((M : Int) % 18446744073709551616).toNat) = M := by omega
    rw [this]
    exact Nat.mod_eq_of_lt (by omega)
  rw [h0] at e
  have : (0 : UInt64).toNat = 0 := rfl
  omega
section
variable {h0 h : H} {L : List En} {n M : Nat} {ht : Int} {T : Nat}
theorem AI.up {A : AG} {i0 j : Nat} (h : AI n M ht T A i0 []) (hj : j < M) : AI n M ht (T + 1) A j [] := by
  obtain ⟨hA, hsz⟩ := h
  have h1 := hA.at hj
  obtain ⟨c0, hc0⟩ : ∃ c, A.cs[i0]? = some c := ⟨_, List.getElem?_eq_getElem (by rw [hA.csl]; exact hA.il)⟩
  have hs0 := hsz c0 hc0
  refine ⟨{ h1 with ci := fun k c hk => ⟨(h1.ci k c hk).1, (h1.ci k c hk).2.1, by have := (h1.ci k c hk).2.2; omega⟩, ot := by have := h1.ot; omega }, fun c hc => ?_⟩
  have := mu_ub (h1.ci j c hc).1.ok
  have hnuc : nu c ≤ 16401 := by unfold nu; split <;> omega
  simp only [List.length_nil] at hs0 ⊢
  have : (T + 1 + 1) * 20000 = (T + 1) * 20000 + 20000 := by omega
  omega
theorem Gplay_spec {g : Addr} {G : GG} {i0 : Nat} {m : law19_Move} {qs : List api_Request} {k : Bool → H → Prop} (hM : M = n - (n - 1) / 3) (h1 : 1 ≤ n) (h10 : n ≤ 10) (hht : 1 ≤ ht ∧ ht ≤ 1024) (hT : Tb h0) (hTT : T ≤ 150)
    (hR : RawOk h0 ht G) (hA : AI n M ht T G.ab i0 []) (hm : SVz 42 h0 m.P.Block.Requests qs) (hs : Sat h0 [] h (gmX g n G L))
    (hk : ∀ G' h' i', RawOk h0 ht G' → AI n M ht (T + 1) G'.ab i' [] → Sat h0 [] h' (gmX g n G' L) → k true h') :
    call (β := Bool) Prog 41 [reg ((some g : Pt) : Pt), reg (m : law19_Move)] k h := by
  refine law19_Game_play.ok _ _ _ _ ?_
  unfold law19_Game_play.b
  have hM1 : 1 ≤ M := by omega
  have hMn : M ≤ n := by omega
  have hGI : GI n ht (AI n M ht (T + 1)) := AI.gi hM h1 h10 (by omega)
  obtain ⟨j, hj, ej⟩ := idx_mod m.I M ⟨hM1, by omega⟩
  have hcl : G.cs.length = M := hA.1.csl
  have hjl : j < G.cs.length := by rw [hcl]; exact hj
  obtain ⟨c, hcj⟩ : ∃ c, G.cs[j]? = some c := ⟨_, List.getElem?_eq_getElem hjl⟩
  have hup : AI n M ht (T + 1) G.ab j [] := hA.up hj
  have hA0 := hA.1.at hj
  obtain ⟨ci1, ci2, ci3⟩ := hA0.ci j c hcj
  have hvlen : c.vts.length + 1 < 2 ^ 19 := by have := hA0.ownD j; omega
  refine hs.box_ (fun m1 h2 hs1 _ _ => ?_)
  have hsd : ∀ {h' : H} {a : En}, Sat h0 [] h' (a :: gmX g n G L) → Sat h0 [] h' (gmX g n G L) := fun hs => hs.drop (List.sublist_cons_self _ _)
  have hclen : G.x.cores.len = M := by
    have : SV 1 h2 G.x.cores (G.cs.map fun c => (some c.p : Pt)) := hs1.ownSV 3 rfl (fun _ => rfl)
    rw [this.2.1, List.length_map, hcl]
  have hmlen : G.x.config.Members.len = n := by
    have : SV 34 h2 G.x.config.Members (memN n) := hs1.ownSV 2 rfl len_api_Member
    rw [this.2.1, memN_len]
  refine nn_i (hs1.ld_ 1 rfl ?_)
  refine ifb_i (fun hb => by rw [hclen] at hb; have : (M : Int) = 0 := by simpa using hb
                             omega) (fun _ => ?_)
  refine hs1.ld_ 0 rfl (hs1.ld_ 1 rfl ⟨?_, ?_⟩)
  · rw [hclen]; exact u64_ne M ⟨hM1, by omega⟩
  rw [hclen, ej]
  refine hs1.ld_ 0 rfl ?_
  have hcsv : ∀ {h' : H}, Sat h0 [] h' (cel 95 m1 (enc m) :: gmX g n G L) → SV 1 h' G.x.cores (G.cs.map fun c => (some c.p : Pt)) := fun hs => hs.ownSV 3 rfl (fun _ => rfl)
  have hfin : ∀ G' h', RawOk h0 ht G' → AI n M ht (T + 1) G'.ab j [] → Sat h0 [] h' (gmX g n G' L) → k true h' := fun G' h' a b e => hk G' h' j a b e
  refine ifb_i (fun hk0 => ?_) (fun hk0 => ?_)
  · -- something is heard
    refine hs1.ld_ 0 rfl ?_
    refine Ghear_spec hGI hT hR hup hA0.od (fun e he => (hA0.pl e he).2) (fun v hv => ?_) (hsd hs1) (fun q e c1 c' out _ hP hc1 hq hO hnu => ?_) (fun q v c1 c' out _ hV hc1 hO hnu => ?_) hfin (fun h' _ hs' => hfin G h' hR hup hs')
    · obtain ⟨k', l, hl, hvl⟩ := hA0.vt v hv
      exact (hA0.ow k' l hl v hvl).2.1
    · rw [hcj] at hc1; obtain rfl := Option.some.inj hc1
      have hmem := List.mem_of_getElem? hP.2
      have hst : Stepped (saidA G.ab j []) n M (DDA { G.ab with cs := G.cs.set j c' }) ht j c' out :=
        stepped_plan hA0.gd ci1 ci2 hMn h10 hj hq (hA0.pl e hmem).1 (.inl ⟨e, hmem, rfl⟩) hO
      exact hA.call hM hj hcj rfl rfl rfl rfl rfl rfl (fun _ hd => hd) (by have := hA0.ot; show G.ab.oth.length ≤ T + 1; omega) hst (by rw [plan_vts hO]; exact Nat.le_succ _) hnu
    · rw [hcj] at hc1; obtain rfl := Option.some.inj hc1
      have hmem := List.mem_of_getElem? hV.2
      obtain ⟨k', l, hl, hvl⟩ := hA0.vt v hmem
      obtain ⟨o1, o2, o3, o4⟩ := hA0.ow k' l hl v hvl
      have hk'M : k' < M := by rw [← hA0.owl]; rw [List.getElem?_eq_some_iff] at hl; exact hl.1
      have hst : Stepped (saidA G.ab j []) n M (DDA { G.ab with cs := G.cs.set j c' }) ht j c' out := by
        refine stepped_vote hA0.gd ci1 ci2 hMn h10 hj o2 hvlen (by omega) (fun k2 hk2 e => ?_) hO
        have : k2 = k' := by omega
        subst this
        unfold saidA
        rw [getD_of hl]
        exact List.mem_append_left _ (List.mem_map.2 ⟨v, hvl, rfl⟩)
      exact hA.call hM hj hcj rfl rfl rfl rfl rfl rfl (fun _ hd => hd) (by have := hA0.ot; show G.ab.oth.length ≤ T + 1; omega) hst (vote_vts hO) hnu
  refine ifb_i (fun hk1 => ?_) (fun hk1 => ?_)
  · -- time goes by
    refine hs1.ld_ 1 rfl ?_
    refine sidx_ld (n := 1) (x := (some c.p : Pt)) (fun _ => rfl) (hcsv hs1) (Int.natCast_nonneg _) (by rw [Int.toNat_natCast, List.getElem?_map, hcj]; rfl) ?_
    refine hs1.ld_ 0 rfl ?_
    have hs2 := forth (ms := []) (hsd hs1) hcj
    refine TickX c m.N hT (by simp) ci1.ok ci2 hs2 (fun c' out sl KA h3 hO hpp hnu hK hs3 => ?_)
    refine first_acts hGI hT hs3 hcj hpp hR hK ?_ hfin
    exact hA.call hM hj hcj rfl rfl rfl rfl rfl rfl (fun _ hd => hd) (by have := hA0.ot; show G.ab.oth.length ≤ T + 1; omega) (stepped_tick hA0.gd ci1 ci2 hMn h10 hj hO) (by rw [tick_vts hO]; exact Nat.le_succ _) hnu
  refine ifb_i (fun hk2 => ?_) (fun hk2 => ?_)
  · -- a core starts
    refine hs1.ld_ 1 rfl ?_
    refine sidx_ld (n := 1) (x := (some c.p : Pt)) (fun _ => rfl) (hcsv hs1) (Int.natCast_nonneg _) (by rw [Int.toNat_natCast, List.getElem?_map, hcj]; rfl) ?_
    have hs2 := forth (ms := []) (hsd hs1) hcj
    refine StartX c hT (by simp) ci1.ok ci2 hs2 (fun c' out sl KA h3 hO hpp hnu hK hs3 => ?_)
    refine first_acts hGI hT hs3 hcj hpp hR hK ?_ hfin
    exact hA.call hM hj hcj rfl rfl rfl rfl rfl rfl (fun _ hd => hd) (by have := hA0.ot; show G.ab.oth.length ≤ T + 1; omega) (stepped_start hA0.gd ci1 ci2 hMn h10 hj hO) (by rw [start_vts hO]; exact Nat.le_succ _) hnu
  refine ifb_i (fun hk3 => ?_) (fun hk3 => ?_)
  · -- a core begins anew
    have hoj : j < G.ows.length := by have : (G.ows.map (·.2)).length = M := hA0.owl
                                      rw [List.length_map] at this; omega
    obtain ⟨⟨os, ol⟩, hoi⟩ : ∃ e, G.ows[j]? = some e := ⟨_, List.getElem?_eq_getElem hoj⟩
    have hab : G.ab.own[j]? = some ol := by show (G.ows.map (·.2))[j]? = _; rw [List.getElem?_map, hoi]; rfl
    have hSj : saidA G.ab j [] j = ol.map vvV := by
      unfold saidA; rw [getD_of hab, if_pos rfl]; exact List.append_nil _
    obtain ⟨o1, o2⟩ := ord_le hA0.od
    have hsz := hup.2 c hcj
    have hb20 : (T + 1 + 1) * 20000 ≤ 152 * 20000 := Nat.mul_le_mul_right _ (by omega)
    have ho1 : G.pls.length ≤ G.ord.length := o1
    have hsz' : G.ord.length ≤ (T + 1 + 1) * 20000 := by
      have : G.ab.ord.length = G.ord.length := rfl
      omega
    have hot : G.oth.length ≤ T := hA0.ot
    refine Gbegins_spec hT hR h1 h10 hht hcj hoi (by have := hA0.own hab; omega) (fun v hv => hA0.ow j ol hab v hv) hSj hA0.gd hj hMn ⟨by omega, by omega⟩ (hsd hs1) (fun c' h3 hci' ha' hlen' hs3 => ?_)
    unfold law19_Game_play.j1
    have hst : Stepped (saidA G.ab j []) n M (DDA { G.ab with cs := G.cs.set j c' }) ht j c' [] := stepped_idle hA0.gd hci' ha'
    refine hfin { G with cs := G.cs.set j c' } h3 ⟨hR.ht, hR.ep, hR.pl, hR.ot⟩ ⟨?_, fun cc hcc => ?_⟩ hs3
    · have := hA0.step (A' := { G.ab with cs := G.cs.set j c' }) (pend1 := []) (out := []) (T' := T + 1) hst ?_ rfl rfl rfl (fun _ hd => hd) (by simp) hA0.ow (fun _ => Nat.le_refl _) (by
        show c'.vts.length ≤ (G.ab.own.getD j []).length + (T + 1)
        rw [getD_of hab]; omega) (Nat.le_succ _) hA0.vt hA0.pl (by have := hA0.ot; show G.ab.oth.length ≤ T + 1; omega) hA0.od
      · exact this
      · have e : saidA { G.ab with cs := G.cs.set j c' } j ([] ++ []) = saidA G.ab j ([] ++ []) := rfl
        rw [e, said_out]
    · have hcc' : (G.cs.set j c')[j]? = some cc := hcc
      rw [List.getElem?_set_self hjl] at hcc'
      obtain rfl := Option.some.inj hcc'
      have hmu := mu_ub hci'.ok
      have hnuc : nu c' ≤ 16401 := by unfold nu; split <;> omega
      obtain ⟨c0, hc0⟩ : ∃ c, G.ab.cs[i0]? = some c := ⟨_, List.getElem?_eq_getElem (by rw [hA.1.csl]; exact hA.1.il)⟩
      have hs0 := hA.2 c0 hc0
      simp only [List.length_nil] at hs0
      show G.ab.ord.length + 0 + nu c' ≤ _
      have : (T + 1 + 1) * 20000 = (T + 1) * 20000 + 20000 := by omega
      omega
  refine ifb_i (fun hk4 => ?_) (fun hk4 => ?_)
  · -- a vote of one who may do whatever it likes
    refine hs1.ld_ 0 rfl ?_
    refine hs1.box_ (fun v1 h3 hs2 _ _ => ?_)
    refine hs2.st_ 0 rfl len_api_Vote (fun h4 hs3 _ => ?_)
    refine hs3.ld_ 0 rfl ?_
    have stop : ∀ h', Sat h0 [] h' (cel 37 v1 (enc m.V) :: cel 95 m1 (enc m) :: gmX g n G L) → law19_Game_play.j2 k (some g) (j : Int) v1 true h' := by
      intro h' hs'
      unfold law19_Game_play.j2
      exact ifb_i (fun _ => hfin G h' hR hup (hsd (hs'.drop (List.sublist_cons_self _ _)))) (fun e => by cases e)
    refine ref13_Good.ok _ _ _ (RGood_spec _ (fun h5 hx5 => ?_))
    have hs4 := hs3.ext hx5
    refine ifb_i (fun _ => stop h5 hs4) (fun hg => ?_)
    have hgr := goodR_round (show goodR m.V = true by simpa using hg)
    refine hs4.ld_ 0 rfl (hs4.ld_ 2 rfl ?_)
    rw [hclen]
    refine ifb_i (fun _ => stop h5 hs4) (fun hf1 => ?_)
    have hf1' : ¬ m.V.From ≤ (M : Int) := by simpa using hf1
    refine hs4.ld_ 0 rfl (hs4.ld_ 2 rfl ?_)
    rw [hmlen]
    by_cases hf2 : (n : Int) < m.V.From
    · rw [decide_eq_true hf2]; exact stop h5 hs4
    rw [decide_eq_false hf2]
    unfold law19_Game_play.j2
    refine ifb_i (fun e => by cases e) (fun _ => ?_)
    refine nn_i (hs4.ld_ 2 rfl ?_)
    refine sidx_ld (n := 1) (x := (some c.p : Pt)) (fun _ => rfl) (hs4.ownSV 4 rfl (fun _ => rfl)) (Int.natCast_nonneg _) (by rw [Int.toNat_natCast, List.getElem?_map, hcj]; rfl) ?_
    refine hs4.ld_ 0 rfl ?_
    have hs5 := forth (ms := []) (hsd (hs4.drop (List.sublist_cons_self _ _))) hcj
    refine VoteX c m.V hT (by simp) ci1.ok ci2 hgr hvlen hs5 (fun c' out sl KA h6 hO hpp hnu hK hs6 => ?_)
    refine first_acts hGI hT hs6 hcj hpp hR hK ?_ hfin
    exact hA.call hM hj hcj rfl rfl rfl rfl rfl rfl (fun _ hd => hd) (by have := hA0.ot; show G.ab.oth.length ≤ T + 1; omega) (stepped_vote hA0.gd ci1 ci2 hMn h10 hj hgr hvlen (by omega) (fun k2 hk2 e => by omega) hO) (vote_vts hO) hnu
  refine ifb_i (fun hk5 => ?_) (fun hk5 => ?_)
  · -- a plan of one who may do whatever it likes
    refine hs1.ld_ 0 rfl ?_
    refine hs1.box_ (fun p1 h3 hs2 _ _ => ?_)
    refine hs2.st_ 0 rfl len_api_Plan (fun h4 hs3 _ => ?_)
    refine hs3.ld_ 2 rfl ?_
    rw [hR.ht]
    refine hs3.st_ 0 rfl len_api_Plan (fun h5 hs4 _ => ?_)
    refine hs4.ld_ 2 rfl ?_
    rw [hR.ht]
    refine hs4.st_ 0 rfl len_api_Plan (fun h6 hs5 _ => ?_)
    generalize hp : ({ { m.P with Height := ht } with Block := { ({ m.P with Height := ht } : api_Plan).Block with Height := ht } } : api_Plan) = p at hs5
    have hp1 : p.Block.Requests = m.P.Block.Requests := by rw [← hp]
    refine hs5.ld_ 0 rfl ?_
    have hpv : ∀ {h' : H}, Ext h0 h' → SVz 42 h' p.Block.Requests qs := fun hx => by rw [hp1]; exact hm.ext hx
    have stop : ∀ h', Sat h0 [] h' (cel 77 p1 (enc p) :: cel 95 m1 (enc m) :: gmX g n G L) → law19_Game_play.j3 k (some g) (j : Int) p1 true h' := by
      intro h' hs'
      unfold law19_Game_play.j3
      exact ifb_i (fun _ => hfin G h' hR hup (hsd (hs'.drop (List.sublist_cons_self _ _)))) (fun e => by cases e)
    refine BGood_spec _ qs (hpv hs5.fr) (fun r h7 hx7 hr => ?_)
    have hs6 := hs5.ext hx7
    refine ifb_i (fun _ => stop h7 hs6) (fun hg => ?_)
    obtain ⟨a8, aq⟩ := hr (by simpa using hg)
    refine hs6.ld_ 0 rfl ?_
    refine BGreat_spec _ qs (hpv hs6.fr) a8 aq (fun r2 h8 hx8 => ?_)
    have hs7 := hs6.ext hx8
    refine hs7.ld_ 0 rfl (hs7.ld_ 0 rfl (hs7.ld_ 0 rfl (hs7.ld_ 0 rfl (hs7.ld_ 0 rfl ?_))))
    refine ifb_i (fun _ => stop h8 hs7) (fun hb => ?_)
    simp only [Bool.or_eq_false_iff, decide_eq_false_iff_not] at hb
    refine hs7.ld_ 0 rfl (hs7.ld_ 2 rfl ?_)
    rw [hclen]
    refine ifb_i (fun _ => stop h8 hs7) (fun hf1 => ?_)
    refine hs7.ld_ 0 rfl (hs7.ld_ 2 rfl ?_)
    rw [hmlen]
    by_cases hf2 : (n : Int) < p.From
    · rw [decide_eq_true hf2]; exact stop h8 hs7
    rw [decide_eq_false hf2]
    have hqn : reqsN qs < 2 ^ 30 := by have := reqsN_small aq; omega
    have hrd : 0 ≤ p.Round ∧ p.Round ≤ 1024 := by omega
    have hvr : p.Valid < p.Round := by omega
    unfold law19_Game_play.j3
    refine ifb_i (fun e => by cases e) (fun _ => ?_)
    have hot : G.oth.length ≤ T := hA0.ot
    refine nn_i (hs7.ld_ 2 rfl (hs7.ld_ 0 rfl ?_))
    refine hs7.mks_ (n := 99) (fun t181 h9 hs8 _ _ => ?_)
    refine hs8.chk_ 3 rfl rfl ?_
    refine hs8.app_ 11 rfl (hs8.ownSV 0 rfl len_api_Block) len_api_Block one_api_Block (len_api_Block _) ?_ ?_ (fun r3 h10' hs9 _ => ?_)
    · simp only [List.length_map, List.length_cons, List.length_nil, maxBytes]; omega
    · simp only [List.length_map, List.length_cons, List.length_nil]; omega
    refine hs9.st_ 3 rfl len_game (fun h11 hs10 _ => ?_)
    refine hs10.ld_ 3 rfl ?_
    refine sidx_ld (n := 1) (x := (some c.p : Pt)) (fun _ => rfl) (hs10.ownSV 5 rfl (fun _ => rfl)) (Int.natCast_nonneg _) (by rw [Int.toNat_natCast, List.getElem?_map, hcj]; rfl) ?_
    refine hs10.ld_ 1 rfl ?_
    have hs11 : Sat h0 [] h11 ([] ++ gmX g n { G with x := { G.x with others := r3 }, oth := G.oth ++ [(p.Block, qs)] } L) := by
      unfold gmX gpre
      rw [List.map_append]
      exact hs10.sel 13 [3, 4, 5, 6, 7, 8, 9, 10, 11, 12] (by decide) (by decide)
    generalize hG2 : ({ G with x := { G.x with others := r3 }, oth := G.oth ++ [(p.Block, qs)] } : GG) = G2 at hs11
    have hcj2 : G2.cs[j]? = some c := by rw [← hG2]; exact hcj
    have hs12 := forth (ms := []) hs11 hcj2
    refine PlanX c p qs hT (by simp) ci1.ok ci2 hrd hqn hs12 (hpv hs12.fr) (fun c' out sl KA h13 hO hpp hnu hK hs13 => ?_)
    have hR2 : RawOk h0 ht G2 := by
      rw [← hG2]
      refine ⟨hR.ht, hR.ep, hR.pl, fun e he => ?_⟩
      rcases List.mem_append.1 he with he | he
      · exact hR.ot e he
      · rw [List.mem_singleton] at he; subst he
        exact ⟨hqn, .inr (by show SVz 42 h0 p.Block.Requests qs; rw [hp1]; exact hm)⟩
    refine first_acts hGI hT hs13 hcj2 hpp hR2 hK ?_ hfin
    rw [← hG2]
    have hDD : ∀ d, DDA G.ab d → DDA ({ ({ G with x := { G.x with others := r3 }, oth := G.oth ++ [(p.Block, qs)] } : GG).ab with cs := G.cs.set j c' }) d := by
      rintro d (⟨e, he, hd⟩ | ⟨e, he, hd⟩)
      · exact .inl ⟨e, he, hd⟩
      · exact .inr ⟨e, List.mem_append_left _ he, hd⟩
    have hst : Stepped (saidA G.ab j []) n M (DDA ({ ({ G with x := { G.x with others := r3 }, oth := G.oth ++ [(p.Block, qs)] } : GG).ab with cs := G.cs.set j c' })) ht j c' out :=
      stepped_plan (hA0.gd.dd hDD) (ci1.mono (fun _ _ hv => hv) rfl hDD) ci2 hMn h10 hj hqn hvr (.inr ⟨(p.Block, qs), List.mem_append_right _ (by simp), rfl⟩) hO
    refine hA.call hM hj hcj rfl rfl rfl rfl rfl rfl hDD ?_ hst (by rw [plan_vts hO]; exact Nat.le_succ _) hnu
    show (G.oth ++ [(p.Block, qs)]).length ≤ T + 1
    rw [List.length_append]; simp only [List.length_cons, List.length_nil]; omega
  · unfold law19_Game_play.j1
    exact hfin G h2 hR hup (hsd hs1)
theorem Gagree_spec {g : Addr} {G : GG} {k : Bool → H → Prop} (hd : ∀ d ∈ G.dc, ∀ d' ∈ G.dc, d ≠ dz → d' ≠ dz → d = d') (hl : G.dc.length < 2 ^ 30) (hs : Sat h0 [] h (gmX g n G L))
    (hk : ∀ h', Sat h0 [] h' (gmX g n G L) → k true h') : call (β := Bool) Prog 42 [reg ((some g : Pt) : Pt)] k h := by
  refine law19_Game_agree.ok _ _ _ ?_
  unfold law19_Game_agree.b
  refine hs.box_ (fun d1 h1 hs1 _ _ => ?_)
  refine nn_i (hs1.ld_ 1 rfl ?_)
  have hdl : G.x.decided.len = G.dc.length := (hs1.ownSV 5 rfl arr_len : SV 32 h1 G.x.decided G.dc).2.1
  rw [hdl]
  unfold law19_Game_agree.l1
  refine ⟨fun (t : Int) h' => ∃ (j : Nat) (dv : Dig), t = j ∧ j ≤ G.dc.length ∧ (dv = dz ∨ dv ∈ G.dc) ∧ Sat h0 [] h' (cel 24 d1 (enc dv) :: gmX g n G L), fun t _ => (G.dc.length - t).toNat, ⟨0, dz, rfl, Nat.zero_le _, .inl rfl, hs1⟩, ?_⟩
  clear hs hs1
  rintro t h2 ⟨j, dv, rfl, hj, hdv, hs⟩
  refine ifb_i (fun hc => ?_) (fun hc => ?_)
  · have hj' : j < G.dc.length := by have : (j : Int) < (G.dc.length : Int) := by simpa using hc
                                     omega
    obtain ⟨x, hx⟩ : ∃ x, G.dc[j]? = some x := ⟨_, List.getElem?_eq_getElem hj'⟩
    have hxm := List.mem_of_getElem? hx
    refine sidx_ld arr_len (hs.ownSV 5 rfl arr_len) (Int.natCast_nonneg _) (by rw [Int.toNat_natCast]; exact hx) ?_
    refine hs.box_ (fun x1 h3 hs2 _ _ => ?_)
    refine hs2.st_ 0 rfl arr_len (fun h4 hs3 _ => ?_)
    refine hs3.ld_ 1 rfl ?_
    rw [zero32']
    have ej : iadd (j : Int) 1 = ((j + 1 : Nat) : Int) := by rw [iadd_eq (by omega) (by omega)]; omega
    have j2 : ∀ (dw : Dig) h', (dw = dz ∨ dw ∈ G.dc) → (dw = dz → x = dz) → Sat h0 [] h' (cel 24 x1 (enc x) :: cel 24 d1 (enc dw) :: gmX g n G L) → law19_Game_agree.j2 k (fun s' h' => (∃ (j : Nat) (dv : Dig), s' = j ∧ j ≤ G.dc.length ∧ (dv = dz ∨ dv ∈ G.dc) ∧ Sat h0 [] h' (cel 24 d1 (enc dv) :: gmX g n G L)) ∧ (G.dc.length - s').toNat < ((G.dc.length : Int) - (j : Int)).toNat) d1 x1 G.x.decided (G.dc.length : Int) (j : Int) h' := by
      intro dw h' hdw hz hs'
      unfold law19_Game_agree.j2
      refine hs'.ld_ 0 rfl (hs'.ld_ 0 rfl (hs'.ld_ 1 rfl ?_))
      rw [zero32']
      refine ifb_i (fun hb => ?_) (fun _ => ?_)
      · exfalso
        simp only [Bool.and_eq_true, Bool.not_eq_true', decide_eq_false_iff_not] at hb
        by_cases hwz : dw = dz
        · exact hb.1 (hz hwz)
        · exact hb.2 (hd x hxm dw (hdw.resolve_left hwz) hb.1 hwz)
      · rw [ej]
        exact ⟨⟨j + 1, dw, rfl, hj', hdw, hs'.drop (List.sublist_cons_self _ _)⟩, by omega⟩
    refine ifb_i (fun hz => ?_) (fun hz => ?_)
    · refine hs3.ld_ 0 rfl ?_
      refine hs3.st_ 1 rfl arr_len (fun h5 hs4 _ => ?_)
      exact j2 x h5 (.inr hxm) (fun e => e) hs4
    · have hz' : dv ≠ dz := by simpa using hz
      exact j2 dv h4 hdv (fun e => absurd e hz') hs3
  · unfold law19_Game_agree.j1
    exact hk h2 (hs.drop (List.sublist_cons_self _ _))
end
section
variable {h0 h : H} {S : List Nat} {L : List En}
theorem add_ows (M : Nat) (hs : Sat h0 S h L) : Sat h0 S h ((List.replicate M ((Sl.nil, []) : Sl × List api_Vote)).map owE ++ L) := by
  induction M with
  | zero => exact hs
  | succ M ih =>
    rw [List.replicate_succ, List.map_cons]
    exact ih.nilOwn (T := 37) (n := 41) (α := api_Vote)
/-- a new game, with lists that are empty -/
theorem init_gm {g : Addr} {x : law19_Game} {n M : Nat} {cs : List CS} (x3 : x.plans = Sl.nil) (x4 : x.votes = Sl.nil) (x5 : x.order = Sl.nil) (x6 : x.others = Sl.nil)
    (hs : Sat h0 S h (gmE g x (memN n) cs (List.replicate M Sl.nil) (List.replicate M dz) ++ (cs.flatMap core ++ L))) :
    Sat h0 S h (gmX g n ⟨x, cs, [], [], [], List.replicate M (Sl.nil, []), List.replicate M dz, [], []⟩ L) := by
  have h1 := (((((hs.add0 (e := kE []) (by intro q hq; cases hq) (kE_loc _) rfl).nilOwn (T := 75) (n := 99) (α := api_Block)).nilOwn (T := 4) (n := 1) (α := Bool)).nilOwn (T := 37) (n := 41) (α := api_Vote)).nilOwn (T := 77) (n := 108) (α := api_Plan))
  have h2 := add_ows M h1
  have h3 : Sat h0 S h ((List.replicate M ((Sl.nil, []) : Sl × List api_Vote)).map owE ++ (([own 77 108 Sl.nil ([] : List api_Plan), own 37 41 Sl.nil ([] : List api_Vote), own 4 1 Sl.nil ([] : List Bool), own 75 99 Sl.nil ([] : List api_Block), kE []] ++ gmE g x (memN n) cs (List.replicate M Sl.nil) (List.replicate M dz)) ++ (cs.flatMap core ++ L))) := h2
  have h4 := h3.perm (L' := ((gmE g x (memN n) cs (List.replicate M Sl.nil) (List.replicate M dz) ++ [own 77 108 Sl.nil ([] : List api_Plan), own 37 41 Sl.nil ([] : List api_Vote), own 4 1 Sl.nil ([] : List Bool), own 75 99 Sl.nil ([] : List api_Block), kE []]) ++ (List.replicate M ((Sl.nil, []) : Sl × List api_Vote)).map owE) ++ (cs.flatMap core ++ L)) (by
    rw [← List.append_assoc]
    refine List.Perm.append_right _ ?_
    refine List.perm_append_comm.trans ?_
    exact List.Perm.append_right _ List.perm_append_comm)
  unfold gmX gpre
  rw [x3, x4, x5, x6, List.map_replicate]
  exact h4
end
theorem law19_RoundAgrees.ok (n : Int) (height : Int) (moves : Sl) (k : Bool → H → Prop) (h : H) (hh : law19_RoundAgrees.b n height moves k h) : CallsH Prog 7 [reg n, reg height, reg moves].toArray h fun v h' => ∃ r : Bool, v = reg r ∧ k r h' := by
 unfold law19_RoundAgrees.b at hh
 refine CallsH.of 50 Tryd.func7 rfl Tryd.ntmps7 rfl (fun w0 => ?_)
 refine .sr (.A (reg false) (.nx (.seq (.sr ?_))))
 refine .e (e_callP fn_25 rfl rfl hh ?_)
 intro h t10 hh
 refine .V (v_not rfl) (.nx ?_)
 refine CW.cond (!t10) rfl (fun hb => ?_) (fun hb => ?_)
 ·have hh := hh.1 hb
  refine .sr (.A (reg false) (.nx ?_))
  refine CW.ret ?_
  refine QN.thenRet ?_
  exact ret1 rfl rfl ⟨(false : Bool), rfl, hh⟩
 ·have hh := hh.2 hb
  refine CW.skip ?_
  refine QN.then_ ?_
  refine CW.seq ?_
  refine .sr (.M (reg n) (.V (v_ilss rfl rfl) (.M (reg ((decide (n < (1 : Int))) : Bool)) (.fv 14 rfl rfl rfl (fun hb => v_move (v := reg (n : Int)) rfl) rfl (.fv 14 rfl rfl rfl (fun hb => v_igtr (gf hb) rfl) rfl (.V (v_pick_or rfl rfl (fun hb => gf hb)) (.M (reg (((decide (n < (1 : Int))) || (decide ((10 : Int) < n))) : Bool)) (.fv 18 rfl rfl rfl (fun hb => v_move (v := reg (height : Int)) rfl) rfl (.fv 18 rfl rfl rfl (fun hb => v_ilss (gf hb) rfl) rfl ?_)))))))))
  refine .V (v_pick_or rfl rfl (fun hb => gf hb)) (.M (reg ((((decide (n < (1 : Int))) || (decide ((10 : Int) < n))) || (decide (height < (1 : Int)))) : Bool)) (.fv 22 rfl rfl rfl (fun hb => v_move (v := reg (height : Int)) rfl) rfl (.fv 22 rfl rfl rfl (fun hb => v_igtr (gf hb) rfl) rfl (.V (v_pick_or rfl rfl (fun hb => gf hb)) (.M (reg (((((decide (n < (1 : Int))) || (decide ((10 : Int) < n))) || (decide (height < (1 : Int)))) || (decide ((1024 : Int) < height))) : Bool)) (.fv 26 rfl rfl rfl (fun hb => v_move (v := reg (moves : Sl)) rfl) rfl (.fv 26 rfl rfl rfl (fun hb => v_len_sl (sl_93).1 (gf hb)) rfl (.fv 26 rfl rfl rfl (fun hb => v_igtr (gf hb) rfl) rfl (.V (v_pick_or rfl rfl (fun hb => gf hb)) ?_)))))))))
  refine .nx ?_
  refine CW.cond (((((decide (n < (1 : Int))) || (decide ((10 : Int) < n))) || (decide (height < (1 : Int)))) || (decide ((1024 : Int) < height))) || (decide ((150 : Int) < (moves.len : Int)))) rfl (fun hb_1 => ?_) (fun hb_1 => ?_)
  ·have hh := hh.1 hb_1
   refine .sr (.A (reg true) (.nx ?_))
   refine CW.ret ?_
   refine QN.thenRet ?_
   exact ret1 rfl rfl ⟨(true : Bool), rfl, hh⟩
  ·have hh := hh.2 hb_1
   refine CW.skip ?_
   refine QN.then_ ?_
   refine .sr (.M (reg n) (.M (reg height) ?_))
   refine .e (e_callP fn_26 rfl rfl hh ?_)
   intro h t33 hh
   refine .A (reg t33) (.nx ?_)
   refine CW.join (fun ρ h => ∃ (ρ' : Env), ρ = setl ρ' [] ∧ (law19_RoundAgrees.j1 k)  h) ?_ ?_
   ·refine .sr (.M (reg moves) (.V (v_len_sl (sl_93).1 rfl) (.M (reg ((0 : Int) : Int)) (.nx ?_))))
    refine CW.block ?_
    unfold law19_RoundAgrees.l1 at hh
    refine CW.loop (fun (σ0 : Int) ρ => match σ0 with | t36 => ∃ ρ' : Env, ρ = setl ρ' [(7, reg t33), (34, reg moves), (35, reg ((moves.len : Int) : Int)), (36, reg t36)]) hh ⟨_, setl_eq ⟨rfl, ⟨rfl, ⟨rfl, ⟨rfl, trivial⟩⟩⟩⟩⟩ ?_
    clear hh
    rintro s1 t36 ρ h ⟨ρ', rfl⟩ hh
    refine .sr (.V (v_ilss rfl rfl) (.nx (.seq ?_)))
    refine CW.cond (decide (t36 < (moves.len : Int))) rfl (fun hb_2 => ?_) (fun hb_2 => ?_)
    ·have hh := hh.1 hb_2
     refine CW.skip ?_
     refine QN.then_ ?_
     refine CW.seq ?_
     refine CW.block ?_
     refine .sr ?_
     obtain ⟨t38, ht38, hh⟩ := hh
     refine .V (v_idx_slP sl_93 rfl rfl ht38.1 ht38.2.1 ht38.2.2) (.LA 0 ag_95 get_95_all (fun _ => (len_law19_Move _)) hh rfl (fun t39 hh => ?_))
     refine box_elim hh (fun m hm hh => ?_)
     refine .e (e_allocP hm zo_95 rfl ?_)
     refine .S (t39 : law19_Move) 0 sz_95 (one_law19_Move _) len_law19_Move (len_law19_Move _) (fun x => set_95_all x (t39 : law19_Move)) hh rfl rfl (fun _ hh => .nx ?_)
     refine CW.join (fun ρ h => ∃ (ρ' : Env) (t48 : Bool), ρ = setl ρ' [(7, reg t33), (34, reg moves), (35, reg ((moves.len : Int) : Int)), (36, reg t36), (48, reg t48)] ∧ (law19_RoundAgrees.j2 k s1) t33 moves (moves.len : Int) t36 t48 h) ?_ ?_
     ·refine CW.region ?_
      refine .M (reg t33) (.LA 0 ag_95 get_95_all (fun _ => (len_law19_Move _)) hh rfl (fun t41 hh => ?_))
      refine .e (e_callP fn_41 rfl rfl hh ?_)
      intro h t42 hh
      refine .V (v_not rfl) (.M (reg ((!t42) : Bool)) ?_)
      refine ifb_cases hh (fun hb_3 hh => ?_) (fun hb_3 hh => ?_)
      ·refine .no 44 rfl (cb hb_3) rfl rfl (.no 44 rfl (cb hb_3) rfl rfl (.no 44 rfl (cb hb_3) rfl rfl (.V (v_pickT (v := reg true) rfl hb_3 rfl) ?_)))
       refine .nil ?_
       exact QN.thenJ ⟨_, true, setl_eq ⟨rfl, ⟨rfl, ⟨rfl, ⟨rfl, ⟨rfl, trivial⟩⟩⟩⟩⟩, hh⟩
      ·refine .yv 44 rfl (cb hb_3) rfl (v_move (v := reg (t33 : Pt)) rfl) rfl ?_
       refine .ye 44 rfl (cb hb_3) rfl (e_callP fn_42 rfl rfl hh ?_)
       intro h t46 hh
       refine .yv 44 rfl (cb hb_3) rfl (v_not rfl) rfl (.V (v_pickF (v := reg ((!t46) : Bool)) rfl hb_3 rfl) ?_)
       refine .nil ?_
       exact QN.thenJ ⟨_, (!t46), setl_eq ⟨rfl, ⟨rfl, ⟨rfl, ⟨rfl, ⟨rfl, trivial⟩⟩⟩⟩⟩, hh⟩
     ·rintro ρ h ⟨ρ', t48, rfl, hh⟩
      unfold law19_RoundAgrees.j2 at hh
      refine CW.cond t48 rfl (fun hb_4 => ?_) (fun hb_4 => ?_)
      ·have hh := hh.1 hb_4
       refine .sr (.A (reg false) (.nx ?_))
       refine CW.ret ?_
       refine QN.blockRet ?_
       refine QN.thenRet ?_
       refine QN.thenRet ?_
       refine QN.blockRet ?_
       refine QN.thenRet ?_
       exact ret1 rfl rfl ⟨(false : Bool), rfl, hh⟩
      ·have hh := hh.2 hb_4
       refine CW.skip ?_
       refine QN.blockN ?_
       refine QN.then_ ?_
       refine CW.region ?_
       refine .V (v_iadd rfl rfl) (.M (reg ((iadd t36 (1 : Int)) : Int)) ?_)
       refine .nil ?_
       exact QN.thenJ ⟨(iadd t36 (1 : Int)), ⟨_, setl_eq ⟨rfl, ⟨rfl, ⟨rfl, ⟨rfl, trivial⟩⟩⟩⟩⟩, hh⟩
    ·have hh := hh.2 hb_2
     refine CW.exit ?_
     refine QN.thenExit ?_
     refine QN.thenExit ?_
     refine QN.blockExit ?_
     exact QN.thenJ ⟨_, setl_eq trivial, hh⟩
   ·rintro ρ h ⟨ρ', rfl, hh⟩
    unfold law19_RoundAgrees.j1 at hh
    refine .sr (.A (reg true) (.nx ?_))
    refine CW.ret ?_
    exact ret1 rfl rfl ⟨(true : Bool), rfl, hh⟩
end Go.Proofs.YtimmoekliphobaaDoor

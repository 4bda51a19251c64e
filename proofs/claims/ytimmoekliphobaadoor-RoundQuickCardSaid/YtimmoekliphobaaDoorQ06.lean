/-
  THE CARD OF wapentakelaw19.RoundQuick: for every input that the row lets in, RoundQuick returns true and its arguments read as they did. Part 6 of 14. No condition stands ahead of the statement. Parts of this text were printed by a program of ours.
-/
import Derived.Test.YtimmoekliphobaaDoorQ05
set_option linter.all false
set_option maxRecDepth 100000
set_option maxHeartbeats 4000000
namespace Go.Proofs.YtimmoekliphobaaDoor
open Go Go.Sh
open Go.Sh.Ty (reg)
theorem round_New.ok (c : api_Config) (me : Int) (height : Int) (base : Int) (k : Pt → H → Prop) (h : H) (hh : round_New.b c me height base k h) : CallsH Prog 28 [reg c, reg me, reg height, reg base].toArray h fun v h' => ∃ r : Pt, v = reg r ∧ k r h' := by
 unfold round_New.b at hh
 refine CallsH.of 34 Tryd.func28 rfl Tryd.ntmps28 rfl (fun w0 => ?_)
 refine .sr ?_
 refine box_elim hh (fun c_1 hc_1 hh => ?_)
 refine .e (e_boxP hc_1 rfl rfl rfl ?_)
 refine .A (reg ((none : Pt) : Pt)) (.nx (.seq ?_))
 refine CW.join (fun ρ h => ∃ (ρ' : Env) (t17 : Bool), ρ = setl ρ' [(1, reg me), (2, reg height), (3, reg base), (4, .pointer (some c_1)), (17, reg t17)] ∧ (round_New.j1 k) me height base c_1 t17 h) ?_ ?_
 ·refine CW.region ?_
  refine .LA 0 ag_54 get_54_all (fun _ => (len_api_Config _)) hh rfl (fun t9 hh => ?_)
  refine .e (e_callP fn_54 rfl rfl hh ?_)
  intro h t10 hh
  refine .V (v_not rfl) (.M (reg ((!t10) : Bool)) ?_)
  refine ifb_cases hh (fun hb hh => ?_) (fun hb hh => ?_)
  ·refine .no 12 rfl (cb hb) rfl rfl (.no 12 rfl (cb hb) rfl rfl (.no 12 rfl (cb hb) rfl rfl (.no 12 rfl (cb hb) rfl rfl (.V (v_pickT (v := reg true) rfl hb rfl) ?_))))
   refine .nil ?_
   exact QN.thenJ ⟨_, true, setl_eq ⟨rfl, ⟨rfl, ⟨rfl, ⟨rfl, ⟨rfl, trivial⟩⟩⟩⟩⟩, hh⟩
  ·refine .yv 12 rfl (cb hb) rfl (v_move (v := reg (height : Int)) rfl) rfl ?_
   refine .ye 12 rfl (cb hb) rfl (e_callP fn_30 rfl rfl hh ?_)
   intro h t14 hh
   refine .ye 12 rfl (cb hb) rfl (e_callP fn_55 rfl rfl hh ?_)
   intro h t15 hh
   refine .yv 12 rfl (cb hb) rfl (v_not rfl) rfl (.V (v_pickF (v := reg ((!t15) : Bool)) rfl hb rfl) ?_)
   refine .nil ?_
   exact QN.thenJ ⟨_, (!t15), setl_eq ⟨rfl, ⟨rfl, ⟨rfl, ⟨rfl, ⟨rfl, trivial⟩⟩⟩⟩⟩, hh⟩
 ·rintro ρ h ⟨ρ', t17, rfl, hh⟩
  unfold round_New.j1 at hh
  refine CW.cond t17 rfl (fun hb_1 => ?_) (fun hb_1 => ?_)
  ·have hh := hh.1 hb_1
   refine .sr (.A (reg ((none : Pt) : Pt)) (.nx ?_))
   refine CW.ret ?_
   refine QN.thenRet ?_
   exact ret1 rfl rfl ⟨((none : Pt) : Pt), rfl, hh⟩
  ·have hh := hh.2 hb_1
   refine CW.skip ?_
   refine QN.then_ ?_
   refine .sr (.V (v_fieldAddr fl_54_1 rfl) (.L 1 na_52 get_54_Members hh rfl (fun t19 hh => ?_)))
   refine .e (e_callP fn_56 rfl rfl hh ?_)
   intro h t20 hh
   refine .V (v_fieldAddr fl_54_1 rfl) (.S (t20 : Sl) 1 sz_52 (one_sl _) len_api_Config (len_sl _) (fun x => set_54_Members x (t20 : Sl)) hh rfl rfl (fun _ hh => .nx ?_))
   refine CW.join (fun ρ h => ∃ (ρ' : Env) (t8 : Addr), ρ = setl ρ' [(8, .pointer (some t8))] ∧ (round_New.j2 k) t8 h) ?_ ?_
   ·refine CW.drawN 13 rfl follows_mixed [0, 1, 2, 3, 5, 6, 10, 12] ?_
    refine .KA 0 0 ag_54 get_54_all (fun _ => (len_api_Config _)) rfl hh rfl (fun t22 hh => .P 1 rfl (v_move (v := reg me) rfl) (.P 2 rfl (v_move (v := reg base) rfl) (.P 3 rfl (v_move (v := reg height) rfl) (.P 5 rfl (v_buildT ({ round_mark.zero with round := (-1 : Int) } : round_mark) zo_136 pl_136 rfl (fill_step rfl rfl (len_i _) (len_round_mark _) rfl (set_136_round _ _) (rfl)) rfl) (.P 6 rfl (v_buildT ({ round_mark.zero with round := (-1 : Int) } : round_mark) zo_136 pl_136 rfl (fill_step rfl rfl (len_i _) (len_round_mark _) rfl (set_136_round _ _) (rfl)) rfl) ?_)))))
    refine .w3 4 7 8 (by kernel_rfl) rfl rfl rfl (by kernel_rfl) (by kernel_rfl) (by kernel_rfl) ?_ ?_ ?_
    ·have hh := hh.1
     refine .e (e_callP fn_30 rfl rfl hh ?_)
     intro h t26 hh
     obtain ⟨hc, hh⟩ := hh
     refine ⟨⟨trivial, .inr hc⟩, ?_⟩
     refine .w3 7 8 9 (by kernel_rfl) rfl rfl rfl (by kernel_rfl) (by kernel_rfl) (by kernel_rfl) ?_ ?_ ?_
     ·have hh := hh.1
      refine .e (e_mkmap rfl hh ?_)
      intro h t29 hh
      obtain ⟨hc_1, hh⟩ := hh
      refine ⟨⟨trivial, .inr hc_1⟩, ?_⟩
      refine .w2 8 9 (by kernel_rfl) rfl rfl (by kernel_rfl) (by kernel_rfl) ?_ ?_
      ·have hh := hh.1
       refine .e (e_mkmap rfl hh ?_)
       intro h t30 hh
       obtain ⟨hc_2, hh⟩ := hh
       refine ⟨⟨trivial, .inr hc_2⟩, ?_⟩
       refine .w 9 (by kernel_rfl) rfl (by kernel_rfl) (.e (e_callP fn_9 rfl rfl hh ?_))
       intro h t31 hh
       obtain ⟨hc_3, hh⟩ := hh
       refine ⟨⟨trivial, .inr hc_3⟩, ?_⟩
       refine .P 10 rfl (v_buildT ({ round_Core.zero with config := t22, me := me, base := base, at_ := t26, locked := ({ round_mark.zero with round := (-1 : Int) } : round_mark), valid := ({ round_mark.zero with round := (-1 : Int) } : round_mark), plans := t29, blocks := t30, box := t31 } : round_Core) zo_140 pl_140 rfl (fill_step rfl rfl (len_api_Config _) (len_round_Core _) rfl (set_140_config _ _) (fill_step rfl rfl (len_i _) (len_round_Core _) rfl (set_140_me _ _) (fill_step rfl rfl (len_i _) (len_round_Core _) rfl (set_140_base _ _) (fill_step rfl rfl (len_cx _) (len_round_Core _) rfl (set_140_at _ _) (fill_step rfl rfl (len_round_mark _) (len_round_Core _) rfl (set_140_locked _ _) (fill_step rfl rfl (len_round_mark _) (len_round_Core _) rfl (set_140_valid _ _) (fill_step rfl rfl (len_mp _) (len_round_Core _) rfl (set_140_plans _ _) (fill_step rfl rfl (len_mp _) (len_round_Core _) rfl (set_140_blocks _ _) (fill_step rfl rfl (len_pt _) (len_round_Core _) rfl (set_140_box _ _) (rfl)))))))))) rfl) ?_
       refine box_elim hh (fun t33 ht33 hh => ?_)
       refine .w 11 (by kernel_rfl) rfl (by kernel_rfl) (.e (e_boxP ht33 rfl rfl rfl ?_))
       refine ⟨⟨trivial, .inl (by kernel_rfl)⟩, ?_⟩
       refine .P 12 rfl (v_assign (v := .pointer (some t33)) rfl) ?_
       refine .done (by kernel_rfl) ?_
       exact QN.thenJ ⟨_, t33, setl_eq ⟨rfl, trivial⟩, hh⟩
      ·have hh := hh.2
       refine .e (e_callP fn_9 rfl rfl hh ?_)
       intro h t31_1 hh
       obtain ⟨hc_4, hh⟩ := hh
       refine ⟨⟨trivial, .inr hc_4⟩, ?_⟩
       refine .w 8 (by kernel_rfl) rfl (by kernel_rfl) (.e (e_mkmap rfl hh ?_))
       intro h t30_1 hh
       obtain ⟨hc_5, hh⟩ := hh
       refine ⟨⟨trivial, .inr hc_5⟩, ?_⟩
       refine .P 10 rfl (v_buildT ({ round_Core.zero with config := t22, me := me, base := base, at_ := t26, locked := ({ round_mark.zero with round := (-1 : Int) } : round_mark), valid := ({ round_mark.zero with round := (-1 : Int) } : round_mark), plans := t29, blocks := t30_1, box := t31_1 } : round_Core) zo_140 pl_140 rfl (fill_step rfl rfl (len_api_Config _) (len_round_Core _) rfl (set_140_config _ _) (fill_step rfl rfl (len_i _) (len_round_Core _) rfl (set_140_me _ _) (fill_step rfl rfl (len_i _) (len_round_Core _) rfl (set_140_base _ _) (fill_step rfl rfl (len_cx _) (len_round_Core _) rfl (set_140_at _ _) (fill_step rfl rfl (len_round_mark _) (len_round_Core _) rfl (set_140_locked _ _) (fill_step rfl rfl (len_round_mark _) (len_round_Core _) rfl (set_140_valid _ _) (fill_step rfl rfl (len_mp _) (len_round_Core _) rfl (set_140_plans _ _) (fill_step rfl rfl (len_mp _) (len_round_Core _) rfl (set_140_blocks _ _) (fill_step rfl rfl (len_pt _) (len_round_Core _) rfl (set_140_box _ _) (rfl)))))))))) rfl) ?_
       refine box_elim hh (fun t33_1 ht33_1 hh => ?_)
       refine .w 11 (by kernel_rfl) rfl (by kernel_rfl) (.e (e_boxP ht33_1 rfl rfl rfl ?_))
       refine ⟨⟨trivial, .inl (by kernel_rfl)⟩, ?_⟩
       refine .P 12 rfl (v_assign (v := .pointer (some t33_1)) rfl) ?_
       refine .done (by kernel_rfl) ?_
       exact QN.thenJ ⟨_, t33_1, setl_eq ⟨rfl, trivial⟩, hh⟩
     ·have hh := hh.2.1
      refine .e (e_mkmap rfl hh ?_)
      intro h t30_2 hh
      obtain ⟨hc_6, hh⟩ := hh
      refine ⟨⟨trivial, .inr hc_6⟩, ?_⟩
      refine .w2 7 9 (by kernel_rfl) rfl rfl (by kernel_rfl) (by kernel_rfl) ?_ ?_
      ·have hh := hh.1
       refine .e (e_mkmap rfl hh ?_)
       intro h t29_1 hh
       obtain ⟨hc_7, hh⟩ := hh
       refine ⟨⟨trivial, .inr hc_7⟩, ?_⟩
       refine .w 9 (by kernel_rfl) rfl (by kernel_rfl) (.e (e_callP fn_9 rfl rfl hh ?_))
       intro h t31_2 hh
       obtain ⟨hc_8, hh⟩ := hh
       refine ⟨⟨trivial, .inr hc_8⟩, ?_⟩
       refine .P 10 rfl (v_buildT ({ round_Core.zero with config := t22, me := me, base := base, at_ := t26, locked := ({ round_mark.zero with round := (-1 : Int) } : round_mark), valid := ({ round_mark.zero with round := (-1 : Int) } : round_mark), plans := t29_1, blocks := t30_2, box := t31_2 } : round_Core) zo_140 pl_140 rfl (fill_step rfl rfl (len_api_Config _) (len_round_Core _) rfl (set_140_config _ _) (fill_step rfl rfl (len_i _) (len_round_Core _) rfl (set_140_me _ _) (fill_step rfl rfl (len_i _) (len_round_Core _) rfl (set_140_base _ _) (fill_step rfl rfl (len_cx _) (len_round_Core _) rfl (set_140_at _ _) (fill_step rfl rfl (len_round_mark _) (len_round_Core _) rfl (set_140_locked _ _) (fill_step rfl rfl (len_round_mark _) (len_round_Core _) rfl (set_140_valid _ _) (fill_step rfl rfl (len_mp _) (len_round_Core _) rfl (set_140_plans _ _) (fill_step rfl rfl (len_mp _) (len_round_Core _) rfl (set_140_blocks _ _) (fill_step rfl rfl (len_pt _) (len_round_Core _) rfl (set_140_box _ _) (rfl)))))))))) rfl) ?_
       refine box_elim hh (fun t33_2 ht33_2 hh => ?_)
       refine .w 11 (by kernel_rfl) rfl (by kernel_rfl) (.e (e_boxP ht33_2 rfl rfl rfl ?_))
       refine ⟨⟨trivial, .inl (by kernel_rfl)⟩, ?_⟩
       refine .P 12 rfl (v_assign (v := .pointer (some t33_2)) rfl) ?_
       refine .done (by kernel_rfl) ?_
       exact QN.thenJ ⟨_, t33_2, setl_eq ⟨rfl, trivial⟩, hh⟩
      ·have hh := hh.2
       refine .e (e_callP fn_9 rfl rfl hh ?_)
       intro h t31_3 hh
       obtain ⟨hc_9, hh⟩ := hh
       refine ⟨⟨trivial, .inr hc_9⟩, ?_⟩
       refine .w 7 (by kernel_rfl) rfl (by kernel_rfl) (.e (e_mkmap rfl hh ?_))
       intro h t29_2 hh
       obtain ⟨hc_10, hh⟩ := hh
       refine ⟨⟨trivial, .inr hc_10⟩, ?_⟩
       refine .P 10 rfl (v_buildT ({ round_Core.zero with config := t22, me := me, base := base, at_ := t26, locked := ({ round_mark.zero with round := (-1 : Int) } : round_mark), valid := ({ round_mark.zero with round := (-1 : Int) } : round_mark), plans := t29_2, blocks := t30_2, box := t31_3 } : round_Core) zo_140 pl_140 rfl (fill_step rfl rfl (len_api_Config _) (len_round_Core _) rfl (set_140_config _ _) (fill_step rfl rfl (len_i _) (len_round_Core _) rfl (set_140_me _ _) (fill_step rfl rfl (len_i _) (len_round_Core _) rfl (set_140_base _ _) (fill_step rfl rfl (len_cx _) (len_round_Core _) rfl (set_140_at _ _) (fill_step rfl rfl (len_round_mark _) (len_round_Core _) rfl (set_140_locked _ _) (fill_step rfl rfl (len_round_mark _) (len_round_Core _) rfl (set_140_valid _ _) (fill_step rfl rfl (len_mp _) (len_round_Core _) rfl (set_140_plans _ _) (fill_step rfl rfl (len_mp _) (len_round_Core _) rfl (set_140_blocks _ _) (fill_step rfl rfl (len_pt _) (len_round_Core _) rfl (set_140_box _ _) (rfl)))))))))) rfl) ?_
       refine box_elim hh (fun t33_3 ht33_3 hh => ?_)
       refine .w 11 (by kernel_rfl) rfl (by kernel_rfl) (.e (e_boxP ht33_3 rfl rfl rfl ?_))
       refine ⟨⟨trivial, .inl (by kernel_rfl)⟩, ?_⟩
       refine .P 12 rfl (v_assign (v := .pointer (some t33_3)) rfl) ?_
       refine .done (by kernel_rfl) ?_
       exact QN.thenJ ⟨_, t33_3, setl_eq ⟨rfl, trivial⟩, hh⟩
     ·have hh := hh.2.2
      refine .e (e_callP fn_9 rfl rfl hh ?_)
      intro h t31_4 hh
      obtain ⟨hc_11, hh⟩ := hh
      refine ⟨⟨trivial, .inr hc_11⟩, ?_⟩
      refine .w2 7 8 (by kernel_rfl) rfl rfl (by kernel_rfl) (by kernel_rfl) ?_ ?_
      ·have hh := hh.1
       refine .e (e_mkmap rfl hh ?_)
       intro h t29_3 hh
       obtain ⟨hc_12, hh⟩ := hh
       refine ⟨⟨trivial, .inr hc_12⟩, ?_⟩
       refine .w 8 (by kernel_rfl) rfl (by kernel_rfl) (.e (e_mkmap rfl hh ?_))
       intro h t30_3 hh
       obtain ⟨hc_13, hh⟩ := hh
       refine ⟨⟨trivial, .inr hc_13⟩, ?_⟩
       refine .P 10 rfl (v_buildT ({ round_Core.zero with config := t22, me := me, base := base, at_ := t26, locked := ({ round_mark.zero with round := (-1 : Int) } : round_mark), valid := ({ round_mark.zero with round := (-1 : Int) } : round_mark), plans := t29_3, blocks := t30_3, box := t31_4 } : round_Core) zo_140 pl_140 rfl (fill_step rfl rfl (len_api_Config _) (len_round_Core _) rfl (set_140_config _ _) (fill_step rfl rfl (len_i _) (len_round_Core _) rfl (set_140_me _ _) (fill_step rfl rfl (len_i _) (len_round_Core _) rfl (set_140_base _ _) (fill_step rfl rfl (len_cx _) (len_round_Core _) rfl (set_140_at _ _) (fill_step rfl rfl (len_round_mark _) (len_round_Core _) rfl (set_140_locked _ _) (fill_step rfl rfl (len_round_mark _) (len_round_Core _) rfl (set_140_valid _ _) (fill_step rfl rfl (len_mp _) (len_round_Core _) rfl (set_140_plans _ _) (fill_step rfl rfl (len_mp _) (len_round_Core _) rfl (set_140_blocks _ _) (fill_step rfl rfl (len_pt _) (len_round_Core _) rfl (set_140_box _ _) (rfl)))))))))) rfl) ?_
       refine box_elim hh (fun t33_4 ht33_4 hh => ?_)
       refine .w 11 (by kernel_rfl) rfl (by kernel_rfl) (.e (e_boxP ht33_4 rfl rfl rfl ?_))
       refine ⟨⟨trivial, .inl (by kernel_rfl)⟩, ?_⟩
       refine .P 12 rfl (v_assign (v := .pointer (some t33_4)) rfl) ?_
       refine .done (by kernel_rfl) ?_
       exact QN.thenJ ⟨_, t33_4, setl_eq ⟨rfl, trivial⟩, hh⟩
      ·have hh := hh.2
       refine .e (e_mkmap rfl hh ?_)
       intro h t30_4 hh
       obtain ⟨hc_14, hh⟩ := hh
       refine ⟨⟨trivial, .inr hc_14⟩, ?_⟩
       refine .w 7 (by kernel_rfl) rfl (by kernel_rfl) (.e (e_mkmap rfl hh ?_))
       intro h t29_4 hh
       obtain ⟨hc_15, hh⟩ := hh
       refine ⟨⟨trivial, .inr hc_15⟩, ?_⟩
       refine .P 10 rfl (v_buildT ({ round_Core.zero with config := t22, me := me, base := base, at_ := t26, locked := ({ round_mark.zero with round := (-1 : Int) } : round_mark), valid := ({ round_mark.zero with round := (-1 : Int) } : round_mark), plans := t29_4, blocks := t30_4, box := t31_4 } : round_Core) zo_140 pl_140 rfl (fill_step rfl rfl (len_api_Config _) (len_round_Core _) rfl (set_140_config _ _) (fill_step rfl rfl (len_i _) (len_round_Core _) rfl (set_140_me _ _) (fill_step rfl rfl (len_i _) (len_round_Core _) rfl (set_140_base _ _) (fill_step rfl rfl (len_cx _) (len_round_Core _) rfl (set_140_at _ _) (fill_step rfl rfl (len_round_mark _) (len_round_Core _) rfl (set_140_locked _ _) (fill_step rfl rfl (len_round_mark _) (len_round_Core _) rfl (set_140_valid _ _) (fill_step rfl rfl (len_mp _) (len_round_Core _) rfl (set_140_plans _ _) (fill_step rfl rfl (len_mp _) (len_round_Core _) rfl (set_140_blocks _ _) (fill_step rfl rfl (len_pt _) (len_round_Core _) rfl (set_140_box _ _) (rfl)))))))))) rfl) ?_
       refine box_elim hh (fun t33_5 ht33_5 hh => ?_)
       refine .w 11 (by kernel_rfl) rfl (by kernel_rfl) (.e (e_boxP ht33_5 rfl rfl rfl ?_))
       refine ⟨⟨trivial, .inl (by kernel_rfl)⟩, ?_⟩
       refine .P 12 rfl (v_assign (v := .pointer (some t33_5)) rfl) ?_
       refine .done (by kernel_rfl) ?_
       exact QN.thenJ ⟨_, t33_5, setl_eq ⟨rfl, trivial⟩, hh⟩
    ·have hh := hh.2.1
     refine .e (e_mkmap rfl hh ?_)
     intro h t29_5 hh
     obtain ⟨hc_16, hh⟩ := hh
     refine ⟨⟨trivial, .inr hc_16⟩, ?_⟩
     refine .w2 4 8 (by kernel_rfl) rfl rfl (by kernel_rfl) (by kernel_rfl) ?_ ?_
     ·have hh := hh.1
      refine .e (e_callP fn_30 rfl rfl hh ?_)
      intro h t26_1 hh
      obtain ⟨hc_17, hh⟩ := hh
      refine ⟨⟨trivial, .inr hc_17⟩, ?_⟩
      refine .w2 8 9 (by kernel_rfl) rfl rfl (by kernel_rfl) (by kernel_rfl) ?_ ?_
      ·have hh := hh.1
       refine .e (e_mkmap rfl hh ?_)
       intro h t30_5 hh
       obtain ⟨hc_18, hh⟩ := hh
       refine ⟨⟨trivial, .inr hc_18⟩, ?_⟩
       refine .w 9 (by kernel_rfl) rfl (by kernel_rfl) (.e (e_callP fn_9 rfl rfl hh ?_))
       intro h t31_5 hh
       obtain ⟨hc_19, hh⟩ := hh
       refine ⟨⟨trivial, .inr hc_19⟩, ?_⟩
       refine .P 10 rfl (v_buildT ({ round_Core.zero with config := t22, me := me, base := base, at_ := t26_1, locked := ({ round_mark.zero with round := (-1 : Int) } : round_mark), valid := ({ round_mark.zero with round := (-1 : Int) } : round_mark), plans := t29_5, blocks := t30_5, box := t31_5 } : round_Core) zo_140 pl_140 rfl (fill_step rfl rfl (len_api_Config _) (len_round_Core _) rfl (set_140_config _ _) (fill_step rfl rfl (len_i _) (len_round_Core _) rfl (set_140_me _ _) (fill_step rfl rfl (len_i _) (len_round_Core _) rfl (set_140_base _ _) (fill_step rfl rfl (len_cx _) (len_round_Core _) rfl (set_140_at _ _) (fill_step rfl rfl (len_round_mark _) (len_round_Core _) rfl (set_140_locked _ _) (fill_step rfl rfl (len_round_mark _) (len_round_Core _) rfl (set_140_valid _ _) (fill_step rfl rfl (len_mp _) (len_round_Core _) rfl (set_140_plans _ _) (fill_step rfl rfl (len_mp _) (len_round_Core _) rfl (set_140_blocks _ _) (fill_step rfl rfl (len_pt _) (len_round_Core _) rfl (set_140_box _ _) (rfl)))))))))) rfl) ?_
       refine box_elim hh (fun t33_6 ht33_6 hh => ?_)
       refine .w 11 (by kernel_rfl) rfl (by kernel_rfl) (.e (e_boxP ht33_6 rfl rfl rfl ?_))
       refine ⟨⟨trivial, .inl (by kernel_rfl)⟩, ?_⟩
       refine .P 12 rfl (v_assign (v := .pointer (some t33_6)) rfl) ?_
       refine .done (by kernel_rfl) ?_
       exact QN.thenJ ⟨_, t33_6, setl_eq ⟨rfl, trivial⟩, hh⟩
      ·have hh := hh.2
       refine .e (e_callP fn_9 rfl rfl hh ?_)
       intro h t31_6 hh
       obtain ⟨hc_20, hh⟩ := hh
       refine ⟨⟨trivial, .inr hc_20⟩, ?_⟩
       refine .w 8 (by kernel_rfl) rfl (by kernel_rfl) (.e (e_mkmap rfl hh ?_))
       intro h t30_6 hh
       obtain ⟨hc_21, hh⟩ := hh
       refine ⟨⟨trivial, .inr hc_21⟩, ?_⟩
       refine .P 10 rfl (v_buildT ({ round_Core.zero with config := t22, me := me, base := base, at_ := t26_1, locked := ({ round_mark.zero with round := (-1 : Int) } : round_mark), valid := ({ round_mark.zero with round := (-1 : Int) } : round_mark), plans := t29_5, blocks := t30_6, box := t31_6 } : round_Core) zo_140 pl_140 rfl (fill_step rfl rfl (len_api_Config _) (len_round_Core _) rfl (set_140_config _ _) (fill_step rfl rfl (len_i _) (len_round_Core _) rfl (set_140_me _ _) (fill_step rfl rfl (len_i _) (len_round_Core _) rfl (set_140_base _ _) (fill_step rfl rfl (len_cx _) (len_round_Core _) rfl (set_140_at _ _) (fill_step rfl rfl (len_round_mark _) (len_round_Core _) rfl (set_140_locked _ _) (fill_step rfl rfl (len_round_mark _) (len_round_Core _) rfl (set_140_valid _ _) (fill_step rfl rfl (len_mp _) (len_round_Core _) rfl (set_140_plans _ _) (fill_step rfl rfl (len_mp _) (len_round_Core _) rfl (set_140_blocks _ _) (fill_step rfl rfl (len_pt _) (len_round_Core _) rfl (set_140_box _ _) (rfl)))))))))) rfl) ?_
       refine box_elim hh (fun t33_7 ht33_7 hh => ?_)
       refine .w 11 (by kernel_rfl) rfl (by kernel_rfl) (.e (e_boxP ht33_7 rfl rfl rfl ?_))
       refine ⟨⟨trivial, .inl (by kernel_rfl)⟩, ?_⟩
       refine .P 12 rfl (v_assign (v := .pointer (some t33_7)) rfl) ?_
       refine .done (by kernel_rfl) ?_
       exact QN.thenJ ⟨_, t33_7, setl_eq ⟨rfl, trivial⟩, hh⟩
     ·have hh := hh.2
      refine .e (e_mkmap rfl hh ?_)
      intro h t30_7 hh
      obtain ⟨hc_22, hh⟩ := hh
      refine ⟨⟨trivial, .inr hc_22⟩, ?_⟩
      refine .w 4 (by kernel_rfl) rfl (by kernel_rfl) (.e (e_callP fn_30 rfl rfl hh ?_))
      intro h t26_2 hh
      obtain ⟨hc_23, hh⟩ := hh
      refine ⟨⟨trivial, .inr hc_23⟩, ?_⟩
      refine .w 9 (by kernel_rfl) rfl (by kernel_rfl) (.e (e_callP fn_9 rfl rfl hh ?_))
      intro h t31_7 hh
      obtain ⟨hc_24, hh⟩ := hh
      refine ⟨⟨trivial, .inr hc_24⟩, ?_⟩
      refine .P 10 rfl (v_buildT ({ round_Core.zero with config := t22, me := me, base := base, at_ := t26_2, locked := ({ round_mark.zero with round := (-1 : Int) } : round_mark), valid := ({ round_mark.zero with round := (-1 : Int) } : round_mark), plans := t29_5, blocks := t30_7, box := t31_7 } : round_Core) zo_140 pl_140 rfl (fill_step rfl rfl (len_api_Config _) (len_round_Core _) rfl (set_140_config _ _) (fill_step rfl rfl (len_i _) (len_round_Core _) rfl (set_140_me _ _) (fill_step rfl rfl (len_i _) (len_round_Core _) rfl (set_140_base _ _) (fill_step rfl rfl (len_cx _) (len_round_Core _) rfl (set_140_at _ _) (fill_step rfl rfl (len_round_mark _) (len_round_Core _) rfl (set_140_locked _ _) (fill_step rfl rfl (len_round_mark _) (len_round_Core _) rfl (set_140_valid _ _) (fill_step rfl rfl (len_mp _) (len_round_Core _) rfl (set_140_plans _ _) (fill_step rfl rfl (len_mp _) (len_round_Core _) rfl (set_140_blocks _ _) (fill_step rfl rfl (len_pt _) (len_round_Core _) rfl (set_140_box _ _) (rfl)))))))))) rfl) ?_
      refine box_elim hh (fun t33_8 ht33_8 hh => ?_)
      refine .w 11 (by kernel_rfl) rfl (by kernel_rfl) (.e (e_boxP ht33_8 rfl rfl rfl ?_))
      refine ⟨⟨trivial, .inl (by kernel_rfl)⟩, ?_⟩
      refine .P 12 rfl (v_assign (v := .pointer (some t33_8)) rfl) ?_
      refine .done (by kernel_rfl) ?_
      exact QN.thenJ ⟨_, t33_8, setl_eq ⟨rfl, trivial⟩, hh⟩
    ·have hh := hh.2.2
     refine .e (e_mkmap rfl hh ?_)
     intro h t30_8 hh
     obtain ⟨hc_25, hh⟩ := hh
     refine ⟨⟨trivial, .inr hc_25⟩, ?_⟩
     refine .w2 4 7 (by kernel_rfl) rfl rfl (by kernel_rfl) (by kernel_rfl) ?_ ?_
     ·have hh := hh.1
      refine .e (e_callP fn_30 rfl rfl hh ?_)
      intro h t26_3 hh
      obtain ⟨hc_26, hh⟩ := hh
      refine ⟨⟨trivial, .inr hc_26⟩, ?_⟩
      refine .w2 7 9 (by kernel_rfl) rfl rfl (by kernel_rfl) (by kernel_rfl) ?_ ?_
      ·have hh := hh.1
       refine .e (e_mkmap rfl hh ?_)
       intro h t29_6 hh
       obtain ⟨hc_27, hh⟩ := hh
       refine ⟨⟨trivial, .inr hc_27⟩, ?_⟩
       refine .w 9 (by kernel_rfl) rfl (by kernel_rfl) (.e (e_callP fn_9 rfl rfl hh ?_))
       intro h t31_8 hh
       obtain ⟨hc_28, hh⟩ := hh
       refine ⟨⟨trivial, .inr hc_28⟩, ?_⟩
       refine .P 10 rfl (v_buildT ({ round_Core.zero with config := t22, me := me, base := base, at_ := t26_3, locked := ({ round_mark.zero with round := (-1 : Int) } : round_mark), valid := ({ round_mark.zero with round := (-1 : Int) } : round_mark), plans := t29_6, blocks := t30_8, box := t31_8 } : round_Core) zo_140 pl_140 rfl (fill_step rfl rfl (len_api_Config _) (len_round_Core _) rfl (set_140_config _ _) (fill_step rfl rfl (len_i _) (len_round_Core _) rfl (set_140_me _ _) (fill_step rfl rfl (len_i _) (len_round_Core _) rfl (set_140_base _ _) (fill_step rfl rfl (len_cx _) (len_round_Core _) rfl (set_140_at _ _) (fill_step rfl rfl (len_round_mark _) (len_round_Core _) rfl (set_140_locked _ _) (fill_step rfl rfl (len_round_mark _) (len_round_Core _) rfl (set_140_valid _ _) (fill_step rfl rfl (len_mp _) (len_round_Core _) rfl (set_140_plans _ _) (fill_step rfl rfl (len_mp _) (len_round_Core _) rfl (set_140_blocks _ _) (fill_step rfl rfl (len_pt _) (len_round_Core _) rfl (set_140_box _ _) (rfl)))))))))) rfl) ?_
       refine box_elim hh (fun t33_9 ht33_9 hh => ?_)
       refine .w 11 (by kernel_rfl) rfl (by kernel_rfl) (.e (e_boxP ht33_9 rfl rfl rfl ?_))
       refine ⟨⟨trivial, .inl (by kernel_rfl)⟩, ?_⟩
       refine .P 12 rfl (v_assign (v := .pointer (some t33_9)) rfl) ?_
       refine .done (by kernel_rfl) ?_
       exact QN.thenJ ⟨_, t33_9, setl_eq ⟨rfl, trivial⟩, hh⟩
      ·have hh := hh.2
       refine .e (e_callP fn_9 rfl rfl hh ?_)
       intro h t31_9 hh
       obtain ⟨hc_29, hh⟩ := hh
       refine ⟨⟨trivial, .inr hc_29⟩, ?_⟩
       refine .w 7 (by kernel_rfl) rfl (by kernel_rfl) (.e (e_mkmap rfl hh ?_))
       intro h t29_7 hh
       obtain ⟨hc_30, hh⟩ := hh
       refine ⟨⟨trivial, .inr hc_30⟩, ?_⟩
       refine .P 10 rfl (v_buildT ({ round_Core.zero with config := t22, me := me, base := base, at_ := t26_3, locked := ({ round_mark.zero with round := (-1 : Int) } : round_mark), valid := ({ round_mark.zero with round := (-1 : Int) } : round_mark), plans := t29_7, blocks := t30_8, box := t31_9 } : round_Core) zo_140 pl_140 rfl (fill_step rfl rfl (len_api_Config _) (len_round_Core _) rfl (set_140_config _ _) (fill_step rfl rfl (len_i _) (len_round_Core _) rfl (set_140_me _ _) (fill_step rfl rfl (len_i _) (len_round_Core _) rfl (set_140_base _ _) (fill_step rfl rfl (len_cx _) (len_round_Core _) rfl (set_140_at _ _) (fill_step rfl rfl (len_round_mark _) (len_round_Core _) rfl (set_140_locked _ _) (fill_step rfl rfl (len_round_mark _) (len_round_Core _) rfl (set_140_valid _ _) (fill_step rfl rfl (len_mp _) (len_round_Core _) rfl (set_140_plans _ _) (fill_step rfl rfl (len_mp _) (len_round_Core _) rfl (set_140_blocks _ _) (fill_step rfl rfl (len_pt _) (len_round_Core _) rfl (set_140_box _ _) (rfl)))))))))) rfl) ?_
       refine box_elim hh (fun t33_10 ht33_10 hh => ?_)
       refine .w 11 (by kernel_rfl) rfl (by kernel_rfl) (.e (e_boxP ht33_10 rfl rfl rfl ?_))
       refine ⟨⟨trivial, .inl (by kernel_rfl)⟩, ?_⟩
       refine .P 12 rfl (v_assign (v := .pointer (some t33_10)) rfl) ?_
       refine .done (by kernel_rfl) ?_
       exact QN.thenJ ⟨_, t33_10, setl_eq ⟨rfl, trivial⟩, hh⟩
     ·have hh := hh.2
      refine .e (e_mkmap rfl hh ?_)
      intro h t29_8 hh
      obtain ⟨hc_31, hh⟩ := hh
      refine ⟨⟨trivial, .inr hc_31⟩, ?_⟩
      refine .w 4 (by kernel_rfl) rfl (by kernel_rfl) (.e (e_callP fn_30 rfl rfl hh ?_))
      intro h t26_4 hh
      obtain ⟨hc_32, hh⟩ := hh
      refine ⟨⟨trivial, .inr hc_32⟩, ?_⟩
      refine .w 9 (by kernel_rfl) rfl (by kernel_rfl) (.e (e_callP fn_9 rfl rfl hh ?_))
      intro h t31_10 hh
      obtain ⟨hc_33, hh⟩ := hh
      refine ⟨⟨trivial, .inr hc_33⟩, ?_⟩
      refine .P 10 rfl (v_buildT ({ round_Core.zero with config := t22, me := me, base := base, at_ := t26_4, locked := ({ round_mark.zero with round := (-1 : Int) } : round_mark), valid := ({ round_mark.zero with round := (-1 : Int) } : round_mark), plans := t29_8, blocks := t30_8, box := t31_10 } : round_Core) zo_140 pl_140 rfl (fill_step rfl rfl (len_api_Config _) (len_round_Core _) rfl (set_140_config _ _) (fill_step rfl rfl (len_i _) (len_round_Core _) rfl (set_140_me _ _) (fill_step rfl rfl (len_i _) (len_round_Core _) rfl (set_140_base _ _) (fill_step rfl rfl (len_cx _) (len_round_Core _) rfl (set_140_at _ _) (fill_step rfl rfl (len_round_mark _) (len_round_Core _) rfl (set_140_locked _ _) (fill_step rfl rfl (len_round_mark _) (len_round_Core _) rfl (set_140_valid _ _) (fill_step rfl rfl (len_mp _) (len_round_Core _) rfl (set_140_plans _ _) (fill_step rfl rfl (len_mp _) (len_round_Core _) rfl (set_140_blocks _ _) (fill_step rfl rfl (len_pt _) (len_round_Core _) rfl (set_140_box _ _) (rfl)))))))))) rfl) ?_
      refine box_elim hh (fun t33_11 ht33_11 hh => ?_)
      refine .w 11 (by kernel_rfl) rfl (by kernel_rfl) (.e (e_boxP ht33_11 rfl rfl rfl ?_))
      refine ⟨⟨trivial, .inl (by kernel_rfl)⟩, ?_⟩
      refine .P 12 rfl (v_assign (v := .pointer (some t33_11)) rfl) ?_
      refine .done (by kernel_rfl) ?_
      exact QN.thenJ ⟨_, t33_11, setl_eq ⟨rfl, trivial⟩, hh⟩
   ·rintro ρ h ⟨ρ', t8, rfl, hh⟩
    unfold round_New.j2 at hh
    refine CW.ret ?_
    exact ret1 rfl rfl ⟨((some t8) : Pt), rfl, hh⟩
theorem round_Core_Plan.ok (c : Pt) (p : api_Plan) (k : Sl → H → Prop) (h : H) (hh : round_Core_Plan.b c p k h) : CallsH Prog 38 [reg c, reg p].toArray h fun v h' => ∃ r : Sl, v = reg r ∧ k r h' := by
 unfold round_Core_Plan.b at hh
 refine CallsH.of 71 Tryd.func38 rfl Tryd.ntmps38 rfl (fun w0 => ?_)
 refine .sr ?_
 refine box_elim hh (fun p_1 hp_1 hh => ?_)
 refine .e (e_boxP hp_1 rfl rfl rfl ?_)
 refine .A (reg (Sl.nil : Sl)) (.nx (.seq ?_))
 refine CW.join (fun ρ h => ∃ (ρ' : Env) (t24 : Bool), ρ = setl ρ' [(0, reg c), (3, .pointer (some p_1)), (24, reg t24)] ∧ (round_Core_Plan.j1 k) c p_1 t24 h) ?_ ?_
 ·refine CW.drawN 18 rfl follows_mixed [0, 1, 2, 3, 4, 5, 6, 7, 8, 9, 10, 11, 12, 13, 14, 16, 17] ?_
  refine .P 0 rfl (v_move (v := reg c) rfl) (.P 1 rfl (v_eq_nil pt_62 rfl rfl) (.P 2 rfl (v_move (v := reg (c.isNone : Bool)) rfl) ?_))
  refine ifb_cases hh (fun hb hh => ?_) (fun hb hh => ?_)
  ·refine .N 3 9 rfl (cb hb) (.N 4 9 rfl (cb hb) (.N 5 9 rfl (cb hb) (.N 6 9 rfl (cb hb) (.P 7 rfl (v_pickT (v := reg true) rfl hb rfl) (.P 8 rfl (v_move (v := reg true) rfl) (.N 9 15 rfl rfl (.N 10 15 rfl rfl (.N 11 15 rfl rfl (.N 12 15 rfl rfl ?_)))))))))
   refine .N 13 15 rfl rfl (.N 14 15 rfl rfl ?_)
   refine .w 15 (by kernel_rfl) rfl (by kernel_rfl) (.no 15 rfl rfl rfl rfl ⟨trivial, ?_⟩)
   refine .N 16 15 rfl rfl (.P 17 rfl (v_pickT (v := reg true) rfl rfl rfl) ?_)
   refine .done (by kernel_rfl) ?_
   exact QN.thenJ ⟨_, true, setl_eq ⟨rfl, ⟨rfl, ⟨rfl, trivial⟩⟩⟩, hh⟩
  ·refine .Y 3 9 rfl (cb hb) (v_move (v := reg c) rfl) ?_
   obtain ⟨p_3, hp_3, hh⟩ := hh
   refine .Y 4 9 rfl (cb hb) (v_nilCheck (congrArg Value.pointer hp_3)) (.Y 5 9 rfl (cb hb) (v_fieldAddr fl_140_12 rfl) (.YL 6 9 211 na_4 get_140_decided rfl (cb hb) hh rfl (fun t13 hh => .P 7 rfl (v_pickF (v := reg t13) rfl hb rfl) (.P 8 rfl (v_move (v := reg t13) rfl) ?_))))
   refine ifb_cases hh (fun hb_1 hh => ?_) (fun hb_1 hh => ?_)
   ·refine .N 9 15 rfl (cb hb_1) (.N 10 15 rfl (cb hb_1) (.N 11 15 rfl (cb hb_1) (.N 12 15 rfl (cb hb_1) (.N 13 15 rfl (cb hb_1) (.N 14 15 rfl (cb hb_1) ?_)))))
    refine .w 15 (by kernel_rfl) rfl (by kernel_rfl) (.no 15 rfl (cb hb_1) rfl rfl ⟨⟨trivial, .inl (by kernel_rfl)⟩, ?_⟩)
    refine .N 16 15 rfl (cb hb_1) (.P 17 rfl (v_pickT (v := reg true) rfl hb_1 rfl) ?_)
    refine .done (by kernel_rfl) ?_
    exact QN.thenJ ⟨_, true, setl_eq ⟨rfl, ⟨rfl, ⟨rfl, trivial⟩⟩⟩, hh⟩
   ·refine .Y 9 15 rfl (cb hb_1) (v_fieldAddr fl_77_1 rfl) (.YL 10 15 1 na_3 get_77_Height rfl (cb hb_1) hh rfl (fun t17 hh => .Y 11 15 rfl (cb hb_1) (v_move (v := reg c) rfl) (.Y 12 15 rfl (cb hb_1) (v_nilCheck (congrArg Value.pointer hp_3)) (.Y 13 15 rfl (cb hb_1) (v_fieldAddr fl_140_3 rfl) (.YL 14 15 4 na_65 get_140_at rfl (cb hb_1) hh rfl (fun t21 hh => ?_))))))
    refine .w 15 (by kernel_rfl) rfl (by kernel_rfl) (.ye 15 rfl (cb hb_1) rfl (e_callP fn_68 rfl rfl hh ?_))
    intro h t22 hh
    obtain ⟨hc, hh⟩ := hh
    refine ⟨⟨⟨⟨trivial, .inl (by kernel_rfl)⟩, .inr hc⟩, .inl (by kernel_rfl)⟩, ?_⟩
    refine .Y 16 15 rfl (cb hb_1) (v_ineq rfl rfl) (.P 17 rfl (v_pickF (v := reg ((t17 != t22) : Bool)) rfl hb_1 rfl) ?_)
    refine .done (by kernel_rfl) ?_
    exact QN.thenJ ⟨_, (t17 != t22), setl_eq ⟨rfl, ⟨rfl, ⟨rfl, trivial⟩⟩⟩, hh⟩
 ·rintro ρ h ⟨ρ', t24, rfl, hh⟩
  unfold round_Core_Plan.j1 at hh
  refine CW.cond t24 rfl (fun hb_2 => ?_) (fun hb_2 => ?_)
  ·have hh := hh.1 hb_2
   refine .sr (.A (reg (Sl.nil : Sl)) (.nx ?_))
   refine CW.ret ?_
   refine QN.thenRet ?_
   exact ret1 rfl rfl ⟨(Sl.nil : Sl), rfl, hh⟩
  ·have hh := hh.2 hb_2
   refine CW.skip ?_
   refine QN.then_ ?_
   refine .sr (.V (v_fieldAddr fl_77_4 rfl) (.LA 4 ag_75 get_77_Block (fun _ => (len_api_Block _)) hh rfl (fun t26 hh => ?_)))
   refine .e (e_callP fn_69 rfl rfl hh ?_)
   intro h t27 hh
   refine .V (v_fieldAddr fl_77_4 rfl) (.S (t27 : api_Block) 4 sz_75 (one_api_Block _) len_api_Plan (len_api_Block _) (fun x => set_77_Block x (t27 : api_Block)) hh rfl rfl (fun _ hh => .nx (.seq ?_)))
   refine CW.drawN 10 rfl follows_mixed [0, 1, 2, 3, 4, 5, 7, 8] ?_
   refine .P 0 rfl (v_move (v := reg c) rfl) ?_
   obtain ⟨p_4, hp_4, hh⟩ := hh
   refine .P 1 rfl (v_nilCheck (congrArg Value.pointer hp_4)) (.P 2 rfl (v_fieldAddr fl_140_9 rfl) (.KL 3 208 na_138 get_140_blocks rfl hh rfl (fun t32 hh => .P 4 rfl (v_fieldAddr fl_77_4 rfl) (.KA 5 4 ag_75 get_77_Block (fun _ => (len_api_Block _)) rfl hh rfl (fun t34 hh => .P 7 rfl (v_fieldAddr fl_77_4 rfl) (.KA 8 4 ag_75 get_77_Block (fun _ => (len_api_Block _)) rfl hh rfl (fun t37 hh => ?_)))))))
   refine .w 6 (by kernel_rfl) rfl (by kernel_rfl) (.e (e_callP fn_34 rfl rfl hh ?_))
   intro h t35 hh
   obtain ⟨hc_1, hh⟩ := hh
   obtain ⟨hc_2, hh⟩ := hh
   refine ⟨⟨⟨⟨trivial, .inr hc_1⟩, .inl (by kernel_rfl)⟩, .inr hc_2⟩, ?_⟩
   refine .w 9 (by kernel_rfl) rfl (by kernel_rfl) (.e (e_mput mt_138 kt_24 rfl rfl rfl hh ?_))
   intro h hh
   refine ⟨⟨⟨⟨trivial, .inl (by kernel_rfl)⟩, .inl (by kernel_rfl)⟩, .inl (by kernel_rfl)⟩, ?_⟩
   refine .done (by kernel_rfl) ?_
   refine QN.then_ ?_
   refine CW.join (fun ρ h => ∃ (ρ' : Env), ρ = setl ρ' [(0, reg c)] ∧ (round_Core_Plan.j2 k) c h) ?_ ?_
   ·refine CW.seq ?_
    refine CW.drawN 13 rfl follows_mixed [0, 1, 2, 3, 4, 5, 6, 7, 8, 9, 12] ?_
    refine .P 0 rfl (v_move (v := reg c) rfl) (.P 1 rfl (v_nilCheck (congrArg Value.pointer hp_4)) (.P 2 rfl (v_fieldAddr fl_140_8 rfl) (.KL 3 207 na_137 get_140_plans rfl hh rfl (fun t42 hh => .P 4 rfl (v_fieldAddr fl_77_2 rfl) (.KL 5 2 na_3 get_77_Round rfl hh rfl (fun t44 hh => ?_))))))
    obtain ⟨t45, ⟨xt45, hxt45, hgt45⟩, hh⟩ := hh
    refine .K 6 (fun h' => ∃ l : List (Int × api_Plan), MapIs h' t42 l ∧ (fun (l : List (Int × api_Plan)) => mlook (api_Plan.zero : api_Plan) l (t44 : Int)) l = t45) rfl ⟨xt45, hxt45, hgt45⟩ (fun h' hS => hS.elim fun _ hS => v_lookupOk mt_137 kt_3 zv_77 rfl rfl hS.1 hS.2) (.P 7 rfl (v_move (v := reg (t45 : T2 api_Plan Bool)) rfl) (.P 8 rfl (v_extract (v := reg (t45.a : api_Plan)) rfl rfl) (.P 9 rfl (v_extract (v := reg (t45.b : Bool)) rfl rfl) ?_)))
    refine box_elim hh (fun t5 ht5 hh => ?_)
    refine .w 10 (by kernel_rfl) rfl (by kernel_rfl) (.e (e_allocP ht5 zo_77 rfl ?_))
    obtain ⟨hc_3, hh⟩ := hh
    obtain ⟨hc_4, hh⟩ := hh
    obtain ⟨hc_5, hh⟩ := hh
    refine ⟨⟨⟨⟨trivial, .inr hc_3⟩, .inr hc_4⟩, .inr hc_5⟩, ?_⟩
    obtain ⟨xw_1, hxw_1, hwxw_1, hh⟩ := hh
    refine .w 11 (by kernel_rfl) rfl (by kernel_rfl) (.e (e_storeN (p := t5) (nv := enc (t45.a : api_Plan)) 0 rfl rfl rfl sz_77 (one_api_Plan _) hxw_1 hwxw_1 (len_api_Plan _) (len_api_Plan _) rfl (set_77_all xw_1 (t45.a : api_Plan)) ?_))
    refine ⟨⟨⟨⟨trivial, .inl (by kernel_rfl)⟩, .inl (by kernel_rfl)⟩, .inl (by kernel_rfl)⟩, ?_⟩
    refine .P 12 rfl (v_assign (v := reg (t45.b : Bool)) rfl) ?_
    refine .done (by kernel_rfl) ?_
    refine QN.then_ ?_
    refine CW.join (fun ρ h => ∃ (ρ' : Env) (t61 : Bool), ρ = setl ρ' [(0, reg c), (3, .pointer (some p_1)), (61, reg t61)] ∧ (round_Core_Plan.j3 (round_Core_Plan.j2 k)) c p_1 t61 h) ?_ ?_
    ·refine CW.drawN 14 rfl follows_mixed [0, 1, 2, 3, 4, 5, 6, 7, 10, 11, 12, 13] ?_
     refine .P 0 rfl (v_move (v := reg (t45.b : Bool)) rfl) (.P 1 rfl (v_not rfl) (.P 2 rfl (v_move (v := reg ((!t45.b) : Bool)) rfl) ?_))
     refine ifb_cases hh (fun hb_3 hh => ?_) (fun hb_3 hh => ?_)
     ·refine .Y 3 50 rfl (cb hb_3) (v_move (v := reg c) rfl) (.Y 4 50 rfl (cb hb_3) (v_fieldAddr fl_77_1 rfl) (.YL 5 50 1 na_3 get_77_Height rfl (cb hb_3) hh rfl (fun t53 hh => .Y 6 50 rfl (cb hb_3) (v_fieldAddr fl_77_2 rfl) (.YL 7 50 2 na_3 get_77_Round rfl (cb hb_3) hh rfl (fun t55 hh => .Y 10 50 rfl (cb hb_3) (v_fieldAddr fl_77_5 rfl) (.YL 11 50 103 na_3 get_77_From rfl (cb hb_3) hh rfl (fun t59 hh => ?_)))))))
      refine .w 8 (by kernel_rfl) rfl (by kernel_rfl) (.ye 50 rfl (cb hb_3) rfl (e_callP fn_30 rfl rfl hh ?_))
      intro h t56 hh
      obtain ⟨hc_6, hh⟩ := hh
      refine ⟨⟨⟨⟨trivial, .inl (by kernel_rfl)⟩, .inl (by kernel_rfl)⟩, .inr hc_6⟩, ?_⟩
      refine .w 9 (by kernel_rfl) rfl (by kernel_rfl) (.ye 50 rfl (cb hb_3) rfl (e_callP fn_70 rfl rfl hh ?_))
      intro h t57 hh
      obtain ⟨hc_7, hh⟩ := hh
      refine ⟨⟨⟨⟨trivial, .inl (by kernel_rfl)⟩, .inl (by kernel_rfl)⟩, .inr hc_7⟩, ?_⟩
      refine .Y 12 50 rfl (cb hb_3) (v_ieql rfl rfl) (.P 13 rfl (v_pickT (v := reg ((t57 == t59) : Bool)) rfl hb_3 rfl) ?_)
      refine .done (by kernel_rfl) ?_
      exact QN.thenJ ⟨_, (t57 == t59), setl_eq ⟨rfl, ⟨rfl, ⟨rfl, trivial⟩⟩⟩, hh⟩
     ·refine .N 3 50 rfl (cb hb_3) (.N 4 50 rfl (cb hb_3) (.N 5 50 rfl (cb hb_3) (.N 6 50 rfl (cb hb_3) (.N 7 50 rfl (cb hb_3) (.N 10 50 rfl (cb hb_3) (.N 11 50 rfl (cb hb_3) ?_))))))
      refine .w 8 (by kernel_rfl) rfl (by kernel_rfl) (.no 50 rfl (cb hb_3) rfl rfl ⟨trivial, ?_⟩)
      refine .w 9 (by kernel_rfl) rfl (by kernel_rfl) (.no 50 rfl (cb hb_3) rfl rfl ⟨trivial, ?_⟩)
      refine .N 12 50 rfl (cb hb_3) (.P 13 rfl (v_pickF (v := reg false) rfl hb_3 rfl) ?_)
      refine .done (by kernel_rfl) ?_
      exact QN.thenJ ⟨_, false, setl_eq ⟨rfl, ⟨rfl, ⟨rfl, trivial⟩⟩⟩, hh⟩
    ·rintro ρ h ⟨ρ', t61, rfl, hh⟩
     unfold round_Core_Plan.j3 at hh
     refine CW.cond t61 rfl (fun hb_4 => ?_) (fun hb_4 => ?_)
     ·have hh := hh.1 hb_4
      refine CW.drawN 8 rfl follows_mixed [0, 1, 2, 3, 4, 5, 6] ?_
      refine .P 0 rfl (v_move (v := reg c) rfl) ?_
      obtain ⟨p_6, hp_6, hh⟩ := hh
      refine .P 1 rfl (v_nilCheck (congrArg Value.pointer hp_6)) (.P 2 rfl (v_fieldAddr fl_140_8 rfl) (.KL 3 207 na_137 get_140_plans rfl hh rfl (fun t65 hh => .P 4 rfl (v_fieldAddr fl_77_2 rfl) (.KL 5 2 na_3 get_77_Round rfl hh rfl (fun t67 hh => .KA 6 0 ag_77 get_77_all (fun _ => (len_api_Plan _)) rfl hh rfl (fun t68 hh => ?_))))))
      refine .w 7 (by kernel_rfl) rfl (by kernel_rfl) (.e (e_mput mt_137 kt_3 rfl rfl rfl hh ?_))
      intro h hh
      refine ⟨⟨⟨⟨trivial, .inl (by kernel_rfl)⟩, .inl (by kernel_rfl)⟩, .inl (by kernel_rfl)⟩, ?_⟩
      refine .done (by kernel_rfl) ?_
      exact QN.thenJ ⟨_, setl_eq ⟨rfl, trivial⟩, hh⟩
     ·have hh := hh.2 hb_4
      refine CW.skip ?_
      exact QN.thenJ ⟨_, setl_eq ⟨rfl, trivial⟩, hh⟩
   ·rintro ρ h ⟨ρ', rfl, hh⟩
    unfold round_Core_Plan.j2 at hh
    refine .sr (.M (reg c) ?_)
    refine .e (e_callP fn_58 rfl rfl hh ?_)
    intro h t70 hh
    refine .A (reg t70) (.nx ?_)
    refine CW.ret ?_
    exact ret1 rfl rfl ⟨(t70 : Sl), rfl, hh⟩
theorem round_Core_Vote.ok (c : Pt) (v : api_Vote) (k : Sl → H → Prop) (h : H) (hh : round_Core_Vote.b c v k h) : CallsH Prog 39 [reg c, reg v].toArray h fun v h' => ∃ r : Sl, v = reg r ∧ k r h' := by
 unfold round_Core_Vote.b at hh
 refine CallsH.of 31 Tryd.func39 rfl Tryd.ntmps39 rfl (fun w0 => ?_)
 refine .sr ?_
 refine box_elim hh (fun v_1 hv_1 hh => ?_)
 refine .e (e_boxP hv_1 rfl rfl rfl ?_)
 refine .A (reg (Sl.nil : Sl)) (.nx (.seq ?_))
 refine CW.join (fun ρ h => ∃ (ρ' : Env) (t22 : Bool), ρ = setl ρ' [(0, reg c), (3, .pointer (some v_1)), (22, reg t22)] ∧ (round_Core_Vote.j1 k) c v_1 t22 h) ?_ ?_
 ·refine CW.drawN 18 rfl follows_mixed [0, 1, 2, 3, 4, 5, 6, 7, 8, 9, 10, 11, 12, 13, 14, 16, 17] ?_
  refine .P 0 rfl (v_move (v := reg c) rfl) (.P 1 rfl (v_eq_nil pt_62 rfl rfl) (.P 2 rfl (v_move (v := reg (c.isNone : Bool)) rfl) ?_))
  refine ifb_cases hh (fun hb hh => ?_) (fun hb hh => ?_)
  ·refine .N 3 7 rfl (cb hb) (.N 4 7 rfl (cb hb) (.N 5 7 rfl (cb hb) (.N 6 7 rfl (cb hb) (.P 7 rfl (v_pickT (v := reg true) rfl hb rfl) (.P 8 rfl (v_move (v := reg true) rfl) (.N 9 13 rfl rfl (.N 10 13 rfl rfl (.N 11 13 rfl rfl (.N 12 13 rfl rfl ?_)))))))))
   refine .N 13 13 rfl rfl (.N 14 13 rfl rfl ?_)
   refine .w 15 (by kernel_rfl) rfl (by kernel_rfl) (.no 13 rfl rfl rfl rfl ⟨trivial, ?_⟩)
   refine .N 16 13 rfl rfl (.P 17 rfl (v_pickT (v := reg true) rfl rfl rfl) ?_)
   refine .done (by kernel_rfl) ?_
   exact QN.thenJ ⟨_, true, setl_eq ⟨rfl, ⟨rfl, ⟨rfl, trivial⟩⟩⟩, hh⟩
  ·refine .Y 3 7 rfl (cb hb) (v_move (v := reg c) rfl) ?_
   obtain ⟨p, hp, hh⟩ := hh
   refine .Y 4 7 rfl (cb hb) (v_nilCheck (congrArg Value.pointer hp)) (.Y 5 7 rfl (cb hb) (v_fieldAddr fl_140_12 rfl) (.YL 6 7 211 na_4 get_140_decided rfl (cb hb) hh rfl (fun t11 hh => .P 7 rfl (v_pickF (v := reg t11) rfl hb rfl) (.P 8 rfl (v_move (v := reg t11) rfl) ?_))))
   refine ifb_cases hh (fun hb_1 hh => ?_) (fun hb_1 hh => ?_)
   ·refine .N 9 13 rfl (cb hb_1) (.N 10 13 rfl (cb hb_1) (.N 11 13 rfl (cb hb_1) (.N 12 13 rfl (cb hb_1) (.N 13 13 rfl (cb hb_1) (.N 14 13 rfl (cb hb_1) ?_)))))
    refine .w 15 (by kernel_rfl) rfl (by kernel_rfl) (.no 13 rfl (cb hb_1) rfl rfl ⟨⟨trivial, .inl (by kernel_rfl)⟩, ?_⟩)
    refine .N 16 13 rfl (cb hb_1) (.P 17 rfl (v_pickT (v := reg true) rfl hb_1 rfl) ?_)
    refine .done (by kernel_rfl) ?_
    exact QN.thenJ ⟨_, true, setl_eq ⟨rfl, ⟨rfl, ⟨rfl, trivial⟩⟩⟩, hh⟩
   ·refine .Y 9 13 rfl (cb hb_1) (v_fieldAddr fl_37_2 rfl) (.YL 10 13 2 na_3 get_37_Height rfl (cb hb_1) hh rfl (fun t15 hh => .Y 11 13 rfl (cb hb_1) (v_move (v := reg c) rfl) (.Y 12 13 rfl (cb hb_1) (v_nilCheck (congrArg Value.pointer hp)) (.Y 13 13 rfl (cb hb_1) (v_fieldAddr fl_140_3 rfl) (.YL 14 13 4 na_65 get_140_at rfl (cb hb_1) hh rfl (fun t19 hh => ?_))))))
    refine .w 15 (by kernel_rfl) rfl (by kernel_rfl) (.ye 13 rfl (cb hb_1) rfl (e_callP fn_68 rfl rfl hh ?_))
    intro h t20 hh
    obtain ⟨hc, hh⟩ := hh
    refine ⟨⟨⟨⟨trivial, .inl (by kernel_rfl)⟩, .inr hc⟩, .inl (by kernel_rfl)⟩, ?_⟩
    refine .Y 16 13 rfl (cb hb_1) (v_ineq rfl rfl) (.P 17 rfl (v_pickF (v := reg ((t15 != t20) : Bool)) rfl hb_1 rfl) ?_)
    refine .done (by kernel_rfl) ?_
    exact QN.thenJ ⟨_, (t15 != t20), setl_eq ⟨rfl, ⟨rfl, ⟨rfl, trivial⟩⟩⟩, hh⟩
 ·rintro ρ h ⟨ρ', t22, rfl, hh⟩
  unfold round_Core_Vote.j1 at hh
  refine CW.cond t22 rfl (fun hb_2 => ?_) (fun hb_2 => ?_)
  ·have hh := hh.1 hb_2
   refine .sr (.A (reg (Sl.nil : Sl)) (.nx ?_))
   refine CW.ret ?_
   refine QN.thenRet ?_
   exact ret1 rfl rfl ⟨(Sl.nil : Sl), rfl, hh⟩
  ·have hh := hh.2 hb_2
   refine CW.skip ?_
   refine QN.then_ ?_
   refine CW.seq ?_
   refine CW.drawN 6 rfl follows_mixed [0, 1, 2, 3, 4] ?_
   refine .P 0 rfl (v_move (v := reg c) rfl) ?_
   obtain ⟨p_1, hp_1, hh⟩ := hh
   refine .P 1 rfl (v_nilCheck (congrArg Value.pointer hp_1)) (.P 2 rfl (v_fieldAddr fl_140_10 rfl) (.KL 3 209 na_26 get_140_box rfl hh rfl (fun t26 hh => .KA 4 0 ag_37 get_37_all (fun _ => (len_api_Vote _)) rfl hh rfl (fun t27 hh => ?_))))
   refine .w 5 (by kernel_rfl) rfl (by kernel_rfl) (.e (e_callP fn_12 rfl rfl hh ?_))
   intro h t28 hh
   refine ⟨⟨⟨trivial, .inl (by kernel_rfl)⟩, .inl (by kernel_rfl)⟩, ?_⟩
   refine .done (by kernel_rfl) ?_
   refine QN.then_ ?_
   refine .sr (.M (reg c) ?_)
   refine .e (e_callP fn_58 rfl rfl hh ?_)
   intro h t30 hh
   refine .A (reg t30) (.nx ?_)
   refine CW.ret ?_
   exact ret1 rfl rfl ⟨(t30 : Sl), rfl, hh⟩
/-- a new core -/
structure Fresh (c : CS) (e : Int) (mm : Sl) (ms : List api_Member) (me ht base : Int) : Prop where
  x : c.x = { round_Core.zero with config := ⟨e, mm⟩, me := me, base := base, at_ := cxI ht 0, locked := { round_mark.zero with round := -1 }, valid := { round_mark.zero with round := -1 }, plans := ⟨some c.pm⟩, blocks := ⟨some c.bm⟩, box := some c.q }
  ht : c.ht = ht
  rd : c.rd = 0
  vts : c.vts = []
  pl : c.pl = []
  bl : c.bl = []
  lq : c.lq = []
  vq : c.vq = []
  acts : c.acts = []
  ms : c.ms = ms
  K : c.K = []
  KA : c.KA = []
theorem Fresh.ok {c : CS} {e : Int} {mm : Sl} {ms : List api_Member} {me ht base : Int} (f : Fresh c e mm ms me ht base) (hg : goodC e ms = true) (hp : Plc ht 0) : Cok c := by
  obtain ⟨hx, h1, h2, h3, h4, h5, h6, h7, h8, h9, h10, h11⟩ := f
  refine ⟨by rw [hx], by rw [hx], by rw [hx], by rw [hx, h1, h2], by rw [h1, h2]; exact hp, by rw [hx, h9]; exact hg, by rw [hx, h6]; exact Cov.zero _, by rw [hx, h7]; exact Cov.zero _, by rw [h4]; simp, by rw [h5]; simp, by rw [h3]; simp, by rw [hx]; exact (by decide : (0 : Int) ≤ 0 ∧ (0 : Int) ≤ 3), fun _ => h2, by rw [h3]; decide, by rw [h8]; decide⟩
section
variable {h0 h : H} {S : List Nat} {L : List En}
theorem own_rdo {α : Type} [Ty α] {T n : Nat} {s : Sl} {l : List α} (i : Nat) (hs : Sat h0 S h L) (hi : L[i]? = some (own T n s l)) (hn : ∀ y : α, (enc y).length = n) : Sat h0 S h (L.set i (rdo n s l)) :=
  hs.upd hi (Fr.refl _ _) (hs.ownSV i hi hn) (rdo_loc _ _ _) (fun b hb => ⟨(hs.ok _ (List.mem_of_getElem? hi)).2.2 b hb |>.1, .inl hb⟩)
theorem New_spec19 (cfg : api_Config) (ms : List api_Member) (me ht base : Int) {k : Pt → H → Prop} (hh : I64 ht) (hs : Sat h0 S h L) (hv : SVz 34 h cfg.Members ms)
    (hk0 : ∀ h', (goodC cfg.Epoch ms && decide (1 ≤ ht ∧ ht ≤ 1024)) = false → Sat h0 S h' L → k none h')
    (hk : ∀ c mm h', (goodC cfg.Epoch ms && decide (1 ≤ ht ∧ ht ≤ 1024)) = true → Fresh c cfg.Epoch mm ms me ht base → Sat h0 S h' (core c ++ L) → k (some c.p) h') :
    call (β := Pt) Prog 28 [reg (cfg : api_Config), reg (me : Int), reg (ht : Int), reg (base : Int)] k h := by
  refine round_New.ok _ _ _ _ _ _ ?_
  unfold round_New.b
  refine hs.box_ (fun c1 h1 hs1 _ hx1 => ?_)
  refine hs1.ld_ 0 rfl ?_
  refine CGood_spec cfg ms (hv.ext hx1) (fun h2 hx2 => ?_)
  have hs2 := hs1.ext hx2
  have j0 : ∀ h', Sat h0 S h' (cel 54 c1 (enc cfg) :: L) → (goodC cfg.Epoch ms && decide (1 ≤ ht ∧ ht ≤ 1024)) = false → round_New.j1 k me ht base c1 true h' := by
    intro h' hs' hf
    unfold round_New.j1
    exact ifb_i (fun _ => hk0 h' hf (hs'.drop (List.sublist_cons_self _ _))) (fun e => by cases e)
  refine ifb_i (fun hg => ?_) (fun hg => ?_)
  · exact j0 h2 hs2 (by rw [show goodC cfg.Epoch ms = false by simpa using hg]; rfl)
  have hg' : goodC cfg.Epoch ms = true := by simpa using hg
  refine At_spec _ _ ?_
  refine RkGood_spec ht 0 hh (by unfold I64; omega) ?_
  have e0 : decide ((1 ≤ ht ∧ ht ≤ 1024) ∧ (0 : Int) ≤ 0 ∧ (0 : Int) ≤ 1024) = decide (1 ≤ ht ∧ ht ≤ 1024) := by
    rw [Bool.eq_iff_iff]; simp
  rw [e0]
  by_cases hp : 1 ≤ ht ∧ ht ≤ 1024
  · rw [decide_eq_true hp]
    unfold round_New.j1 round_New.j2
    refine ifb_i (fun e => by cases e) (fun _ => ?_)
    refine hs2.ld_ 0 rfl ?_
    refine CloneM_spec _ ms (hv.ext (hx1.trans hx2)) (by
      unfold goodC at hg'; simp only [Bool.and_eq_true, decide_eq_true_eq] at hg'; omega) (fun mm h3 hx3 ho3 hb3 => ?_)
    have hs3 := hs2.add (e := own 110 34 mm ms) hx3 ho3 (own_loc _ _ _ _) hb3
    refine hs3.st_ 1 rfl len_api_Config (fun h4 hs4 _ => ?_)
    refine hs4.ld_ 1 rfl ?_
    have hs5 := own_rdo 0 hs4 rfl len_api_Member
    have hz : Sat h0 S h4 (own 80 135 Sl.nil ([] : List api_Act) :: kE [] :: kE [] :: rdo 34 mm ms :: cel 54 c1 (enc ({ cfg with Members := mm } : api_Config)) :: L) :=
      ((hs5.add0 (e := kE []) (by intro q hq; cases hq) (kE_loc _) rfl).add0 (e := kE []) (by intro q hq; cases hq) (kE_loc _) rfl).nilOwn
    have fin : ∀ (p q : Addr) (vm pm bm : Nat) g, Sat h0 S g ([cel 140 p (enc ({ round_Core.zero with config := { cfg with Members := mm }, me := me, base := base, at_ := cxI ht 0, locked := { round_mark.zero with round := -1 }, valid := { round_mark.zero with round := -1 }, plans := ⟨some pm⟩, blocks := ⟨some bm⟩, box := some q } : round_Core)), bxE q vm [], mpE pm ([] : List (Int × api_Plan)), mpE bm ([] : List (Dig × api_Block)), own 80 135 Sl.nil ([] : List api_Act), rdo 34 mm ms, kE [], kE []] ++ L) → k (some p) g := by
      intro p q vm pm bm g hg9
      exact hk ⟨p, { round_Core.zero with config := { cfg with Members := mm }, me := me, base := base, at_ := cxI ht 0, locked := { round_mark.zero with round := -1 }, valid := { round_mark.zero with round := -1 }, plans := ⟨some pm⟩, blocks := ⟨some bm⟩, box := some q }, ht, 0, q, vm, [], pm, [], bm, [], [], [], [], ms, [], []⟩ mm g (by rw [hg', decide_eq_true hp]; rfl) ⟨rfl, rfl, rfl, rfl, rfl, rfl, rfl, rfl, rfl, rfl, rfl, rfl⟩ hg9
    refine ⟨?_, ?_⟩
    · refine At_spec _ _ ?_
      refine hz.chk_ 4 rfl rfl ?_
      refine ⟨?_, ?_⟩
      · refine Sat.mkmap_ (κ := Int) (ν := api_Plan) hz (fun pm g2 hs2 _ => ?_)
        refine hs2.chk_ 5 rfl rfl ?_
        refine ⟨?_, ?_⟩
        · refine Sat.mkmap_ (κ := Dig) (ν := api_Block) hs2 (fun bm g3 hs3 _ => ?_)
          refine hs3.chk_ 6 rfl rfl ?_
          refine vote_NewBox.ok _ _ (NewBox_spec (fun q vm g4 hx4 hB4 hb4 => ?_))
          have hs4 := hs3.add (e := bxE q vm []) hx4 hB4 (bxE_loc _ _ _) hb4
          refine hs4.chk_ 7 rfl rfl ?_
          refine hs4.box_ (fun p g5 hs5 _ _ => ?_)
          exact fin p q vm pm bm g5 (hs5.sel 9 [0, 1, 3, 2, 4, 7, 5, 6] (by decide) (by decide))
        · refine vote_NewBox.ok _ _ (NewBox_spec (fun q vm g6 hx6 hB6 hb6 => ?_))
          have hs6 := hs2.add (e := bxE q vm []) hx6 hB6 (bxE_loc _ _ _) hb6
          refine hs6.chk_ 6 rfl rfl ?_
          refine Sat.mkmap_ (κ := Dig) (ν := api_Block) hs6 (fun bm g7 hs7 _ => ?_)
          refine hs7.chk_ 7 rfl rfl ?_
          refine hs7.box_ (fun p g8 hs8 _ _ => ?_)
          exact fin p q vm pm bm g8 (hs8.sel 9 [0, 2, 3, 1, 4, 7, 5, 6] (by decide) (by decide))
      · refine ⟨?_, ?_⟩
        · refine Sat.mkmap_ (κ := Dig) (ν := api_Block) hz (fun bm g9 hs9 _ => ?_)
          refine hs9.chk_ 5 rfl rfl ?_
          refine ⟨?_, ?_⟩
          · refine Sat.mkmap_ (κ := Int) (ν := api_Plan) hs9 (fun pm g10 hs10 _ => ?_)
            refine hs10.chk_ 6 rfl rfl ?_
            refine vote_NewBox.ok _ _ (NewBox_spec (fun q vm g11 hx11 hB11 hb11 => ?_))
            have hs11 := hs10.add (e := bxE q vm []) hx11 hB11 (bxE_loc _ _ _) hb11
            refine hs11.chk_ 7 rfl rfl ?_
            refine hs11.box_ (fun p g12 hs12 _ _ => ?_)
            exact fin p q vm pm bm g12 (hs12.sel 9 [0, 1, 2, 3, 4, 7, 5, 6] (by decide) (by decide))
          · refine vote_NewBox.ok _ _ (NewBox_spec (fun q vm g13 hx13 hB13 hb13 => ?_))
            have hs13 := hs9.add (e := bxE q vm []) hx13 hB13 (bxE_loc _ _ _) hb13
            refine hs13.chk_ 6 rfl rfl ?_
            refine Sat.mkmap_ (κ := Int) (ν := api_Plan) hs13 (fun pm g14 hs14 _ => ?_)
            refine hs14.chk_ 7 rfl rfl ?_
            refine hs14.box_ (fun p g15 hs15 _ _ => ?_)
            exact fin p q vm pm bm g15 (hs15.sel 9 [0, 2, 1, 3, 4, 7, 5, 6] (by decide) (by decide))
        · refine vote_NewBox.ok _ _ (NewBox_spec (fun q vm g16 hx16 hB16 hb16 => ?_))
          have hs16 := hz.add (e := bxE q vm []) hx16 hB16 (bxE_loc _ _ _) hb16
          refine hs16.chk_ 5 rfl rfl ?_
          refine ⟨?_, ?_⟩
          · refine Sat.mkmap_ (κ := Int) (ν := api_Plan) hs16 (fun pm g17 hs17 _ => ?_)
            refine hs17.chk_ 6 rfl rfl ?_
            refine Sat.mkmap_ (κ := Dig) (ν := api_Block) hs17 (fun bm g18 hs18 _ => ?_)
            refine hs18.chk_ 7 rfl rfl ?_
            refine hs18.box_ (fun p g19 hs19 _ _ => ?_)
            exact fin p q vm pm bm g19 (hs19.sel 9 [0, 3, 2, 1, 4, 7, 5, 6] (by decide) (by decide))
          · refine Sat.mkmap_ (κ := Dig) (ν := api_Block) hs16 (fun bm g20 hs20 _ => ?_)
            refine hs20.chk_ 6 rfl rfl ?_
            refine Sat.mkmap_ (κ := Int) (ν := api_Plan) hs20 (fun pm g21 hs21 _ => ?_)
            refine hs21.chk_ 7 rfl rfl ?_
            refine hs21.box_ (fun p g22 hs22 _ _ => ?_)
            exact fin p q vm pm bm g22 (hs22.sel 9 [0, 3, 1, 2, 4, 7, 5, 6] (by decide) (by decide))
    · refine ⟨?_, ?_⟩
      · refine Sat.mkmap_ (κ := Int) (ν := api_Plan) hz (fun pm g23 hs23 _ => ?_)
        refine hs23.chk_ 5 rfl rfl ?_
        refine ⟨?_, ?_⟩
        · refine At_spec _ _ ?_
          refine hs23.chk_ 5 rfl rfl ?_
          refine ⟨?_, ?_⟩
          · refine Sat.mkmap_ (κ := Dig) (ν := api_Block) hs23 (fun bm g25 hs25 _ => ?_)
            refine hs25.chk_ 6 rfl rfl ?_
            refine vote_NewBox.ok _ _ (NewBox_spec (fun q vm g26 hx26 hB26 hb26 => ?_))
            have hs26 := hs25.add (e := bxE q vm []) hx26 hB26 (bxE_loc _ _ _) hb26
            refine hs26.chk_ 7 rfl rfl ?_
            refine hs26.box_ (fun p g27 hs27 _ _ => ?_)
            exact fin p q vm pm bm g27 (hs27.sel 9 [0, 1, 3, 2, 4, 7, 5, 6] (by decide) (by decide))
          · refine vote_NewBox.ok _ _ (NewBox_spec (fun q vm g28 hx28 hB28 hb28 => ?_))
            have hs28 := hs23.add (e := bxE q vm []) hx28 hB28 (bxE_loc _ _ _) hb28
            refine hs28.chk_ 6 rfl rfl ?_
            refine Sat.mkmap_ (κ := Dig) (ν := api_Block) hs28 (fun bm g29 hs29 _ => ?_)
            refine hs29.chk_ 7 rfl rfl ?_
            refine hs29.box_ (fun p g30 hs30 _ _ => ?_)
            exact fin p q vm pm bm g30 (hs30.sel 9 [0, 2, 3, 1, 4, 7, 5, 6] (by decide) (by decide))
        · refine Sat.mkmap_ (κ := Dig) (ν := api_Block) hs23 (fun bm g31 hs31 _ => ?_)
          refine hs31.chk_ 6 rfl rfl ?_
          refine At_spec _ _ ?_
          refine hs31.chk_ 6 rfl rfl ?_
          refine vote_NewBox.ok _ _ (NewBox_spec (fun q vm g33 hx33 hB33 hb33 => ?_))
          have hs33 := hs31.add (e := bxE q vm []) hx33 hB33 (bxE_loc _ _ _) hb33
          refine hs33.chk_ 7 rfl rfl ?_
          refine hs33.box_ (fun p g34 hs34 _ _ => ?_)
          exact fin p q vm pm bm g34 (hs34.sel 9 [0, 1, 3, 2, 4, 7, 5, 6] (by decide) (by decide))
      · refine Sat.mkmap_ (κ := Dig) (ν := api_Block) hz (fun bm g35 hs35 _ => ?_)
        refine hs35.chk_ 5 rfl rfl ?_
        refine ⟨?_, ?_⟩
        · refine At_spec _ _ ?_
          refine hs35.chk_ 5 rfl rfl ?_
          refine ⟨?_, ?_⟩
          · refine Sat.mkmap_ (κ := Int) (ν := api_Plan) hs35 (fun pm g37 hs37 _ => ?_)
            refine hs37.chk_ 6 rfl rfl ?_
            refine vote_NewBox.ok _ _ (NewBox_spec (fun q vm g38 hx38 hB38 hb38 => ?_))
            have hs38 := hs37.add (e := bxE q vm []) hx38 hB38 (bxE_loc _ _ _) hb38
            refine hs38.chk_ 7 rfl rfl ?_
            refine hs38.box_ (fun p g39 hs39 _ _ => ?_)
            exact fin p q vm pm bm g39 (hs39.sel 9 [0, 1, 2, 3, 4, 7, 5, 6] (by decide) (by decide))
          · refine vote_NewBox.ok _ _ (NewBox_spec (fun q vm g40 hx40 hB40 hb40 => ?_))
            have hs40 := hs35.add (e := bxE q vm []) hx40 hB40 (bxE_loc _ _ _) hb40
            refine hs40.chk_ 6 rfl rfl ?_
            refine Sat.mkmap_ (κ := Int) (ν := api_Plan) hs40 (fun pm g41 hs41 _ => ?_)
            refine hs41.chk_ 7 rfl rfl ?_
            refine hs41.box_ (fun p g42 hs42 _ _ => ?_)
            exact fin p q vm pm bm g42 (hs42.sel 9 [0, 2, 1, 3, 4, 7, 5, 6] (by decide) (by decide))
        · refine Sat.mkmap_ (κ := Int) (ν := api_Plan) hs35 (fun pm g43 hs43 _ => ?_)
          refine hs43.chk_ 6 rfl rfl ?_
          refine At_spec _ _ ?_
          refine hs43.chk_ 6 rfl rfl ?_
          refine vote_NewBox.ok _ _ (NewBox_spec (fun q vm g45 hx45 hB45 hb45 => ?_))
          have hs45 := hs43.add (e := bxE q vm []) hx45 hB45 (bxE_loc _ _ _) hb45
          refine hs45.chk_ 7 rfl rfl ?_
          refine hs45.box_ (fun p g46 hs46 _ _ => ?_)
          exact fin p q vm pm bm g46 (hs46.sel 9 [0, 1, 2, 3, 4, 7, 5, 6] (by decide) (by decide))
  · rw [decide_eq_false hp]
    exact j0 h2 hs2 (by rw [decide_eq_false hp, Bool.and_false])
theorem _root_.Go.Sh.Sat.bxAdd' {p : Addr} {r : Nat} {l : Vts} {v : api_Vote} {k : Bool → H → Prop} (i : Nat) (hs : Sat h0 S h L) (hi : L[i]? = some (bxE p r l))
    (hk1 : ∀ h', mfind l (placeOf v) ≠ none → Sat h0 S h' L → k false h') (hk2 : ∀ h', mfind l (placeOf v) = none → Sat h0 S h' (L.set i (bxE p r (mins l (placeOf v) v))) → k true h') : call (β := Bool) Prog 12 [reg ((some p : Pt) : Pt), reg (v : api_Vote)] k h := by
  refine vote_Box_Add.ok _ _ _ _ (Add_spec p r l v (hs.at_ hi) (fun u h' hm hx => hk1 h' (by rw [hm]; simp) (hs.ext hx)) (fun h' hm hf hB => hk2 h' hm (hs.upd hi hf hB (bxE_loc _ _ _) ?_)))
  intro b hb
  refine ⟨?_, .inl hb⟩
  simp only [bxE, List.mem_cons, List.not_mem_nil, or_false] at hb
  rcases hb with rfl | rfl
  · exact hB.1.lt
  · exact mpE_lt hB.2.1
/-- how a start begins -/
def StartR (c c1 : CS) : Prop := (c.x.step = 0 ∧ ∃ r o, c1 = enterC c 0 r o) ∨ (c.x.step ≠ 0 ∧ c1 = c)
theorem Start_spec (c : CS) {k : Sl → H → Prop} (hT : Tb h0) (hS : 0 ∉ S) (hc : Cok c) (hn : c.acts.length + mu c + 3 < 2 ^ 19) (hs : Sat h0 S h (core c ++ L))
    (hk0 : c.x.decided = true → k Sl.nil h) (hk : ∀ c1 c' h', c.x.decided = false → StartR c c1 → Mvs c1 c' → Sat h0 S h' (core (clrC c') ++ (hand c' ++ L)) → k c'.x.out h') :
    call (β := Sl) Prog 32 [reg ((some c.p : Pt) : Pt)] k h := by
  refine round_Core_Start.ok _ _ _ ?_
  unfold round_Core_Start.b
  refine ifb_i (fun e => by cases e) (fun _ => ?_)
  refine nn_i (hs.ld_ 0 rfl ?_)
  unfold round_Core_Start.j1
  refine ifb_i (fun hd => hk0 hd) (fun hd => ?_)
  refine nn_i (hs.ld_ 0 rfl ?_)
  unfold round_Core_Start.j2
  refine ifb_i (fun h1 => ?_) (fun h1 => ?_)
  · have h1' : c.x.step = 0 := by simpa using h1
    refine enter_spec c 0 (by decide) hc hs (fun r o h2 hs2 => ?_)
    obtain ⟨a1, a2, a3⟩ := hc.enter (by omega) (show (0 : Int) ≤ 0 ∧ (0 : Int) ≤ 1024 by decide) r o
    have hm := mu_rd c hc 0 (by decide) (.inr ⟨h1', by rw [hc.s0 h1']; decide⟩)
    have hp : (enterC c 0 r o).p = c.p := by unfold enterC; split <;> rfl
    rw [← hp]
    refine acts_spec _ hT hS a1 (by rw [enterC_dec]; exact hd) (by omega) hs2 (fun c' h3 hm3 hs3 => ?_)
    exact hk _ c' h3 hd (.inl ⟨h1', r, o, rfl⟩) hm3 hs3
  · refine acts_spec c hT hS hc hd (by omega) hs (fun c' h3 hm3 hs3 => ?_)
    exact hk c c' h3 hd (.inr ⟨by simpa using h1, rfl⟩) hm3 hs3
def voteC (c : CS) (v : api_Vote) : CS := if mfind c.vts (placeOf v) = none then { c with vts := mins c.vts (placeOf v) v } else c
theorem Cok.vote {c : CS} (hc : Cok c) {v : api_Vote} (hr : 0 ≤ v.Round ∧ v.Round ≤ 1024) (hn : c.vts.length + 1 < 2 ^ 19) : Cok (voteC c v) := by
  unfold voteC
  split
  · refine { hc with vr := fun q hq => ?_, nv := Nat.lt_of_le_of_lt (mins_len _ _ _) hn }
    rcases mins_in hq with h | h
    · exact hc.vr q h
    · subst h; exact hr
  · exact hc
theorem Vote_spec (c : CS) (v : api_Vote) {k : Sl → H → Prop} (hT : Tb h0) (hS : 0 ∉ S) (hc : Cok c) (hr : 0 ≤ v.Round ∧ v.Round ≤ 1024) (hv : c.vts.length + 1 < 2 ^ 19) (hn : c.acts.length + mu c + 3 < 2 ^ 19) (hs : Sat h0 S h (core c ++ L))
    (hk0 : ∀ h', c.x.decided = true ∨ v.Height ≠ c.ht → Sat h0 S h' (core c ++ L) → k Sl.nil h') (hk : ∀ c' h', c.x.decided = false → v.Height = c.ht → Mvs (voteC c v) c' → Sat h0 S h' (core (clrC c') ++ (hand c' ++ L)) → k c'.x.out h') :
    call (β := Sl) Prog 39 [reg ((some c.p : Pt) : Pt), reg (v : api_Vote)] k h := by
  refine round_Core_Vote.ok _ _ _ _ ?_
  unfold round_Core_Vote.b
  refine hs.box_ (fun v1 h1 hs1 _ _ => ?_)
  have fin : ∀ {h' : H} {a : En}, Sat h0 S h' (a :: (core c ++ L)) → Sat h0 S h' (core c ++ L) := fun hs => hs.drop (List.sublist_cons_self _ _)
  unfold round_Core_Vote.j1
  refine ifb_i (fun e => by cases e) (fun _ => ?_)
  refine nn_i (hs1.ld_ 1 rfl ?_)
  refine ifb_i (fun hd => ?_) (fun hd => ?_)
  · exact ifb_i (fun _ => hk0 h1 (.inl hd) (fin hs1)) (fun e => by cases e)
  refine hs1.ld_ 0 rfl (hs1.ld_ 1 rfl ?_)
  rw [hc.at_]
  refine Height_spec hc.plc (hs1.chk_ 0 rfl rfl ?_)
  refine ifb_i (fun hh => ?_) (fun hh => ?_)
  · exact hk0 h1 (.inr (by simpa using hh)) (fin hs1)
  have hh' : v.Height = c.ht := by simpa using hh
  refine nn_i (hs1.ld_ 1 rfl (hs1.ld_ 0 rfl ?_))
  rw [hc.hq]
  have fin2 : ∀ {h' : H} {c' : CS} {a : En}, Sat h0 S h' (a :: (core c' ++ L)) → Sat h0 S h' (core c' ++ L) := fun hs => hs.drop (List.sublist_cons_self _ _)
  refine hs1.bxAdd' 2 rfl (fun h2 hm hs2 => ?_) (fun h2 hm hs2 => ?_)
  · have e : voteC c v = c := by unfold voteC; rw [if_neg hm]
    refine acts_spec c hT hS hc hd (by omega) (fin hs2) (fun c' h3 hm3 hs3 => ?_)
    exact hk c' h3 hd hh' (by rw [e]; exact hm3) hs3
  · have e : voteC c v = { c with vts := mins c.vts (placeOf v) v } := by unfold voteC; rw [if_pos hm]
    have hc2 := hc.vote hr hv
    have hs4 : Sat h0 S h2 (core (voteC c v) ++ L) := by rw [e]; exact fin2 (c' := { c with vts := mins c.vts (placeOf v) v }) hs2
    have e1 : (voteC c v).x = c.x ∧ (voteC c v).p = c.p ∧ (voteC c v).acts = c.acts ∧ mu (voteC c v) = mu c := by rw [e]; exact ⟨rfl, rfl, rfl, rfl⟩
    rw [← e1.2.1]
    refine acts_spec (voteC c v) hT hS hc2 (by rw [e1.1]; exact hd) (by rw [e1.2.2.1, e1.2.2.2]; omega) hs4 (fun c' h3 hm3 hs3 => ?_)
    exact hk c' h3 hd hh' hm3 hs3
end
theorem enterC_p (c : CS) (rd : Int) (r o : Sl) : (enterC c rd r o).p = c.p := by unfold enterC; split <;> rfl
theorem mu_ub {c : CS} (hc : Cok c) : mu c ≤ 16400 := by
  unfold mu
  have := hc.plc.2; have := hc.st
  split <;> omega
section
variable {h0 h : H} {S : List Nat} {L : List En}
/-- a plan is known -/
def planC (c : CS) (pl : api_Plan) (qs : List api_Request) (r : Sl) : CS :=
  if mfind c.pl pl.Round = none ∧ idAt c c.ht pl.Round = pl.From then { c with K := c.K ++ [(r, qs)], bl := mins c.bl (digB pl.Block qs) ({ pl.Block with Requests := r }, qs), pl := mins c.pl pl.Round ({ pl with Block := { pl.Block with Requests := r } }, qs) }
  else { c with K := c.K ++ [(r, qs)], bl := mins c.bl (digB pl.Block qs) ({ pl.Block with Requests := r }, qs) }
theorem Cok.blk {c : CS} (hc : Cok c) (b : api_Block) (qs : List api_Request) (d : Dig) (r : Sl) (hq : reqsN qs < 2 ^ 30) : Cok { c with K := c.K ++ [(r, qs)], bl := mins c.bl d ({ b with Requests := r }, qs) } := by
  have hK : ∀ q ∈ c.K, q ∈ c.K ++ [(r, qs)] := fun q hq => by simp [hq]
  refine { hc with lk := hc.lk.mono hK, vl := hc.vl.mono hK, pc := fun e he => (hc.pc e he).mono hK, bc := fun e he => ?_ }
  rcases mins_in he with h | h
  · exact (hc.bc e h).mono hK
  · subst h; exact ⟨hq, .inl (by simp)⟩
theorem Cok.plan {c : CS} (hc : Cok c) (pl : api_Plan) (qs : List api_Request) (r : Sl) (hq : reqsN qs < 2 ^ 30) : Cok (planC c pl qs r) := by
  have h1 := hc.blk pl.Block qs (digB pl.Block qs) r hq
  unfold planC
  split
  · refine { h1 with pc := fun e he => ?_ }
    rcases mins_in he with h | h
    · exact h1.pc e h
    · subst h; exact ⟨hq, .inl (by simp)⟩
  · exact h1
theorem Plan_spec (c : CS) (pl : api_Plan) (qs : List api_Request) {k : Sl → H → Prop} (hT : Tb h0) (hS : 0 ∉ S) (hc : Cok c) (hr : 0 ≤ pl.Round ∧ pl.Round ≤ 1024) (hq : reqsN qs < 2 ^ 30) (hn : c.acts.length < 2 ^ 18) (hs : Sat h0 S h (core c ++ L)) (hv : SVz 42 h pl.Block.Requests qs)
    (hk0 : ∀ h', c.x.decided = true ∨ pl.Height ≠ c.ht → Sat h0 S h' (core c ++ L) → k Sl.nil h') (hk : ∀ r c' h', c.x.decided = false → pl.Height = c.ht → Mvs (planC c pl qs r) c' → Sat h0 S h' (core (clrC c') ++ (hand c' ++ L)) → k c'.x.out h') :
    call (β := Sl) Prog 38 [reg ((some c.p : Pt) : Pt), reg (pl : api_Plan)] k h := by
  refine round_Core_Plan.ok _ _ _ _ ?_
  unfold round_Core_Plan.b
  refine hs.box_ (fun p1 h1 hs1 _ hx1 => ?_)
  have fin : ∀ {h' : H} {a : En}, Sat h0 S h' (a :: (core c ++ L)) → Sat h0 S h' (core c ++ L) := fun hs => hs.drop (List.sublist_cons_self _ _)
  unfold round_Core_Plan.j1
  refine ifb_i (fun e => by cases e) (fun _ => ?_)
  refine nn_i (hs1.ld_ 1 rfl ?_)
  refine ifb_i (fun hd => ?_) (fun hd => ?_)
  · exact ifb_i (fun _ => hk0 h1 (.inl hd) (fin hs1)) (fun e => by cases e)
  refine hs1.ld_ 0 rfl (hs1.ld_ 1 rfl ?_)
  rw [hc.at_]
  refine Height_spec hc.plc (hs1.chk_ 0 rfl rfl ?_)
  refine ifb_i (fun hh => ?_) (fun hh => ?_)
  · exact hk0 h1 (.inr (by simpa using hh)) (fin hs1)
  have hh' : pl.Height = c.ht := by simpa using hh
  refine hs1.ld_ 0 rfl ?_
  refine copied_spec _ qs (hv.ext hx1) (reqs_len hq) (fun r h2 hx2 ho2 hb2 => ?_)
  have hs2 := hs1.add (e := own 182 42 r qs) hx2 ho2 (own_loc _ _ _ _) hb2
  refine hs2.st_ 1 rfl len_api_Plan (fun h3 hs3 _ => ?_)
  generalize hpl2 : ({ pl with Block := { pl.Block with Requests := r } } : api_Plan) = pl2 at hs3
  have hpb : pl2.Block = { pl.Block with Requests := r } := by rw [← hpl2]
  have hpr : pl2.Round = pl.Round := by rw [← hpl2]
  have hph : pl2.Height = pl.Height := by rw [← hpl2]
  have hpf : pl2.From = pl.From := by rw [← hpl2]
  have hs4 : Sat h0 S h3 (own 182 42 r qs :: kE c.K :: cel 77 p1 (enc pl2) :: cel 140 c.p (enc c.x) :: bxE c.q c.vm c.vts :: mpE c.pm (rawP c.pl) :: mpE c.bm (rawB c.bl) :: own 80 135 c.x.out (c.acts.map (·.1)) :: rdo 34 c.x.config.Members c.ms :: kE c.KA :: L) :=
    hs3.sel 10 [0, 8, 1, 2, 3, 4, 5, 6, 7, 9] (by decide) (by decide)
  have hs5 := kE_add hs4
  have hs6 : Sat h0 S h3 (core { c with K := c.K ++ [(r, qs)] } ++ (cel 77 p1 (enc pl2) :: L)) := hs5.sel 9 [2, 3, 4, 5, 6, 7, 0, 8, 1] (by decide) (by decide)
  clear hs1 hs2 hs3 hs4 hs5
  refine nn_i (hs6.ld_ 0 rfl (hs6.ld_ 8 rfl (hs6.ld_ 8 rfl ?_)))
  rw [hpb]
  have hcv : SVz 42 h3 ({ pl.Block with Requests := r } : api_Block).Requests qs := by
    have hK : (kE (c.K ++ [(r, qs)])).A h3 := hs6.at_ (i := 6) rfl
    exact SV.z (hK (r, qs) (by simp))
  refine BDig_spec _ qs (hT.fr hs6.fr hS) hcv (by omega) (fun h4 hx4 => ?_)
  have hs7 := hs6.ext hx4
  have ed : digB ({ pl.Block with Requests := r } : api_Block) qs = digB pl.Block qs := rfl
  rw [ed]
  refine hs7.chk_ 0 rfl rfl (hs7.chk_ 8 rfl hpb ?_)
  rw [hc.hb]
  refine hs7.mput_ 3 rfl (fun h5 hs8 => ?_)
  have hs9 : Sat h0 S h5 (core { c with K := c.K ++ [(r, qs)], bl := mins c.bl (digB pl.Block qs) ({ pl.Block with Requests := r }, qs) } ++ (cel 77 p1 (enc pl2) :: L)) := by
    have e := mins_rawB c.bl (digB pl.Block qs) ({ pl.Block with Requests := r }, qs)
    unfold core
    rw [← e]
    exact hs8
  have hc2 := hc.blk pl.Block qs (digB pl.Block qs) r hq
  generalize hcc : ({ c with K := c.K ++ [(r, qs)], bl := mins c.bl (digB pl.Block qs) ({ pl.Block with Requests := r }, qs) } : CS) = c2 at hs9 hc2
  have hf : c2.p = c.p ∧ c2.x = c.x ∧ c2.pl = c.pl ∧ c2.ht = c.ht ∧ c2.acts = c.acts ∧ c2.pm = c.pm ∧ (∀ a b, idAt c2 a b = idAt c a b) := by rw [← hcc]; exact ⟨rfl, rfl, rfl, rfl, rfl, rfl, fun _ _ => rfl⟩
  obtain ⟨f1, f2, f3, f4, f5, f6, f7⟩ := hf
  obtain ⟨pv, pk, hlp, hps, hpn⟩ := lookP c pl.Round
  have hlp2 : mlook api_Plan.zero (rawP c2.pl) pl.Round = ⟨pv, pk⟩ := by rw [f3]; exact hlp
  rw [← f1]
  refine hs9.ld_ 0 rfl (hs9.ld_ 8 rfl ?_)
  rw [hc2.hp, hpr]
  refine hs9.mgetE 2 rfl hlp2 ?_
  refine hs9.box_ (fun t5 h6 hs10 _ _ => ?_)
  refine hs10.chk_ 1 rfl hc2.hp (hs10.chk_ 9 rfl hpr (hs10.mchk_ 3 rfl hlp2 ?_))
  refine hs10.st_ 0 rfl len_api_Plan (fun h7 hs11 _ => ?_)
  have hs12 : Sat h0 S h7 (core c2 ++ (cel 77 p1 (enc pl2) :: cel 77 t5 (enc pv) :: L)) := hs11.sel 10 [1, 2, 3, 4, 5, 6, 7, 8, 9, 0] (by decide) (by decide)
  clear hs7 hs8 hs9 hs10 hs11
  have fin2 : ∀ {h' : H} {c' : CS} {a b : En}, Sat h0 S h' (core c' ++ (a :: b :: L)) → Sat h0 S h' (core c' ++ L) := fun hs => by
    have := hs.sel 10 [0, 1, 2, 3, 4, 5, 6, 7] (by decide) (by decide)
    exact this
  -- the end
  have hend : ∀ h', Sat h0 S h' (core (planC c pl qs r) ++ L) → round_Core_Plan.j2 k (some c2.p) h' := by
    intro h' hs'
    unfold round_Core_Plan.j2
    have hcp := hc.plan pl qs r hq
    have e : (planC c pl qs r).p = c2.p ∧ (planC c pl qs r).x = c.x ∧ (planC c pl qs r).acts = c.acts := by rw [f1]; unfold planC; split <;> exact ⟨rfl, rfl, rfl⟩
    rw [← e.1]
    have := mu_ub hcp
    refine acts_spec _ hT hS hcp (by rw [e.2.1]; exact hd) (by rw [e.2.2]; omega) hs' (fun c' h3 hm3 hs3 => ?_)
    exact hk r c' h3 hd hh' hm3 hs3
  have hno : ∀ h', ¬ (mfind c.pl pl.Round = none ∧ idAt c c.ht pl.Round = pl.From) → Sat h0 S h' (core c2 ++ (cel 77 p1 (enc pl2) :: cel 77 t5 (enc pv) :: L)) → round_Core_Plan.j3 (round_Core_Plan.j2 k) (some c2.p) p1 false h' := by
    intro h' hx hs'
    unfold round_Core_Plan.j3
    refine ifb_i (fun e => by cases e) (fun _ => ?_)
    refine hend h' ?_
    unfold planC
    rw [if_neg hx, hcc]
    exact fin2 hs'
  refine ifb_i (fun h8 => ?_) (fun h8 => ?_)
  · have hnone : mfind c.pl pl.Round = none := hpn (by simpa using h8)
    refine hs12.ld_ 8 rfl (hs12.ld_ 8 rfl (hs12.ld_ 8 rfl ?_))
    refine At_spec _ _ (hs12.chk_ 8 rfl rfl ?_)
    rw [hpr, hph, hh', hpf]
    refine leader_spec c2 (a := c.ht) (b := pl.Round) ⟨hc.plc.1, hr⟩ hc2 hs12 (fun h9 hs13 => ?_)
    refine hs13.chk_ 8 rfl hpf ?_
    rw [f7]
    by_cases hl : idAt c c.ht pl.Round = pl.From
    · rw [show (idAt c c.ht pl.Round == pl.From) = true by simpa using hl]
      unfold round_Core_Plan.j3
      refine ifb_i (fun _ => ?_) (fun e => by cases e)
      refine nn_i (hs13.ld_ 0 rfl (hs13.ld_ 8 rfl (hs13.ld_ 8 rfl ?_)))
      rw [hc2.hp, hpr]
      refine hs13.mput_ 2 rfl (fun h10 hs14 => ?_)
      refine hend h10 ?_
      unfold planC
      rw [if_pos ⟨hnone, hl⟩]
      have e := mins_rawP c2.pl pl.Round (pl2, qs)
      have e4 : Sat h0 S h10 (core { c2 with pl := mins c2.pl pl.Round (pl2, qs) } ++ (cel 77 p1 (enc pl2) :: cel 77 t5 (enc pv) :: L)) := by
        unfold core
        rw [← e]
        exact hs14
      have e5 := fin2 e4
      rw [f3, ← hcc, ← hpl2] at e5
      exact e5
    · rw [show (idAt c c.ht pl.Round == pl.From) = false by simpa using hl]
      exact hno h9 (fun hx => hl hx.2) hs13
  · exact hno h7 (fun hx => by
      cases hpk : pk with
      | false => rw [hpk] at h8; simp at h8
      | true => obtain ⟨qs', hm⟩ := hps hpk; rw [hx.1] at hm; cases hm) hs12
end
theorem quo_pos (n : Nat) : 1 ≤ quoN n := by unfold quoN; omega
theorem win_cnt {c : CS} {d : Dig} {r : Int} (h : Win c d r true) : quoN c.ms.length ≤ cntF c.vts 2 ⟨r, d⟩ := by
  obtain ⟨cs, hC, hW⟩ := h
  rcases hW with ⟨h1, _⟩ | ⟨_, n, hm, hq, _⟩
  · cases h1
  · have h2 := mfind_of_mem hC.nodup hm
    rw [hC.cnt] at h2
    split at h2
    · cases h2
    · have := Option.some.inj h2
      omega
theorem cnt_pos {l : Vts} {k : Int} {ch : vote_choice} (h : 1 ≤ cntF l k ch) : ∃ q ∈ l, q.1.kind = k ∧ q.2.Digest ≠ dz ∧ chq q = ch := by
  unfold cntF at h
  obtain ⟨q, hq⟩ := List.exists_mem_of_length_pos (Nat.lt_of_lt_of_le Nat.zero_lt_one h)
  rw [List.mem_filter] at hq
  simp only [Bool.and_eq_true, decide_eq_true_eq, Bool.not_eq_true', decide_eq_false_iff_not] at hq
  exact ⟨q, hq.1, hq.2.1.1, hq.2.1.2, hq.2.2⟩
/-- whatever a quorum voted second for, something is decided -/
theorem win_tt {c : CS} {d0 : Dig} {r0 : Int} (h0 : quoN c.ms.length ≤ cntF c.vts 2 ⟨r0, d0⟩) {d : Dig} {r : Int} {is : Bool} (h : Win c d r is) : is = true := by
  obtain ⟨cs, hC, hW⟩ := h
  rcases hW with ⟨_, _, _, hno⟩ | ⟨h1, _⟩
  · exfalso
    have h1 := hC.cnt ⟨r0, d0⟩
    have := quo_pos c.ms.length
    rw [if_neg (by omega)] at h1
    exact hno _ (mfind_mem h1) (by show (quoN c.ms.length : Int) ≤ _; omega)
  · exact h1
theorem later_no {c : CS} {ks : List (Int × Int)} (hL : LastOf ks c.vts) (hrd : 0 ≤ c.rd) (h : ∀ q ∈ c.vts, q.1.round ≤ c.rd) (hs : c.x.step ≠ 0) : laterV c ks < 0 := by
  unfold laterV
  have hn : nowL c = c.rd := by unfold nowL; rw [if_neg (by simpa using hs)]
  rw [hn]
  split
  · rename_i hlt
    rcases reached_le hL (n := (((c.ms.length - 1) / 3 + 1 : Nat) : Int)) (by omega) with h1 | ⟨q, hq, h1⟩
    · rw [h1] at hlt; omega
    · rw [← h1] at hlt; have := h q hq; omega
  · omega
theorem later_nil {c : CS} {ks : List (Int × Int)} (hL : LastOf ks c.vts) (h : c.vts = []) (hrd : 0 ≤ c.rd) : laterV c ks < 0 := by
  unfold laterV
  rcases reached_le hL (n := (((c.ms.length - 1) / 3 + 1 : Nat) : Int)) (by omega) with h1 | ⟨q, hq, h1⟩
  · rw [h1]
    split
    · rename_i hlt; unfold nowL at hlt; split at hlt <;> omega
    · omega
  · rw [h] at hq; cases hq
theorem first_nil {c : CS} (h : c.vts = []) (rd : Int) (d : Dig) : firstB c rd d = false := by
  unfold firstB
  have : forF c.vts 1 rd d 63 = [] := by
    rw [h]; unfold forF pick1
    rw [List.flatMap_eq_nil_iff]
    intro i _; rfl
  rw [this]
  have := quo_pos c.ms.length
  exact decide_eq_false (by simp; omega)
theorem win_nil {c : CS} (h : c.vts = []) {d : Dig} {r : Int} (hw : Win c d r true) : False := by
  have h1 := win_cnt hw
  have h2 := quo_pos c.ms.length
  obtain ⟨q, hq, _⟩ := cnt_pos (Nat.le_trans h2 h1)
  rw [h] at hq; cases hq
theorem enterC_eq (c : CS) (rd : Int) (r o : Sl) : ∃ a KA out, enterC c rd r o = { rdC c rd with acts := a, KA := KA, x := { (rdC c rd).x with out := out } } ∧
    a = c.acts ++ (if isMem c && (idAt c c.ht rd == c.x.me) then [({ api_Act.zero with Act := 1, Round := rd, Valid := c.x.valid.round, Block := { c.x.valid.block with Requests := r } }, c.vq)] else []) := by
  unfold enterC
  by_cases h : (isMem c && (idAt c c.ht rd == c.x.me)) = true
  · rw [if_pos h, if_pos h]; exact ⟨_, _, _, rfl, rfl⟩
  · rw [if_neg h, if_neg h, List.append_nil]; exact ⟨c.acts, c.KA, c.x.out, rfl, rfl⟩
theorem votesC_eq (c : CS) (kd : Int) (d : Dig) (r o : Sl) : ∃ a KA out, votesC c kd d r o = { stpC c kd with acts := a, KA := KA, x := { (stpC c kd).x with out := out } } ∧
    a = c.acts ++ (if isMem c then [({ api_Act.zero with Act := 2, Round := c.rd, Kind := kd, Digest := d, Block := { api_Block.zero with Requests := r } }, [])] else []) := by
  unfold votesC
  by_cases h : isMem c = true
  · rw [if_pos h, if_pos h]; exact ⟨_, _, _, rfl, rfl⟩
  · rw [if_neg h, if_neg h, List.append_nil]; exact ⟨c.acts, c.KA, c.x.out, rfl, rfl⟩
theorem planF_free {c : CS} {pl : api_Plan} {qs : List api_Request} (h1 : pl.Valid < 0) (h2 : c.x.locked.round < 0) : planF c pl qs = ⟨digB pl.Block qs, true⟩ := by
  unfold planF
  rw [if_neg (by omega), decide_eq_true h2]; rfl
/-- where nothing was heard nothing is done -/
theorem mv_quiet {c c' : CS} {b : Bool} (hm : MV c c' b) (hrd : 0 ≤ c.rd) (hv : c.vts = []) (hp : c.pl = []) : c' = c ∧ b = false := by
  have hnf : ∀ rd e, mfind c.pl rd = some e → False := by intro rd e he; rw [hp] at he; cases he
  cases hm with
  | dec d r bb qs rr o hw hf => exact (win_nil hv hw).elim
  | next ks rr o h1 h2 h3 => have := later_nil h2 hv hrd; omega
  | start rr o h1 h2 h3 h4 =>
    rcases h4 with h4 | ⟨q, hq, _⟩
    · exact absurd hp h4
    · rw [hv] at hq; cases hq
  | wait p qs _ _ _ h _ => exact (hnf _ _ h).elim
  | first p qs rr o h1 h2 h3 h4 h5 => exact (hnf _ _ h4).elim
  | lock p qs rr o h1 h2 h3 h4 h5 => exact (hnf _ _ h4).elim
  | nil rr o h1 h2 h3 h4 h5 => rw [first_nil hv] at h5; cases h5
  | val p qs h1 h2 h3 h4 h5 h6 => exact (hnf _ _ h4).elim
  | stop _ _ _ => exact ⟨rfl, rfl⟩
theorem mvs_quiet {c c' : CS} (hm : Mvs c c') (hrd : 0 ≤ c.rd) (hv : c.vts = []) (hp : c.pl = []) : c' = c := by
  cases hm with
  | last h => exact (mv_quiet h hrd hv hp).1
  | more h _ => have := (mv_quiet h hrd hv hp).2; cases this
theorem mv_novote {c c' : CS} {b : Bool} (hm : MV c c' b) (hrd : 0 ≤ c.rd) (hv : c.vts = []) (hs : 2 ≤ c.x.step) : c' = c ∧ b = false := by
  cases hm with
  | dec d r bb qs rr o hw hf => exact (win_nil hv hw).elim
  | next ks rr o h1 h2 h3 => have := later_nil h2 hv hrd; omega
  | start rr o h1 h2 h3 h4 => omega
  | wait p qs _ _ h _ _ => omega
  | first p qs rr o h1 h2 h3 h4 h5 => omega
  | lock p qs rr o h1 h2 h3 h4 h5 => rw [first_nil hv] at h5; cases h5
  | nil rr o h1 h2 h3 h4 h5 => rw [first_nil hv] at h5; cases h5
  | val p qs h1 h2 h3 h4 h5 h6 => rw [first_nil hv] at h6; cases h6
  | stop _ _ _ => exact ⟨rfl, rfl⟩
theorem mvs_novote {c c' : CS} (hm : Mvs c c') (hrd : 0 ≤ c.rd) (hv : c.vts = []) (hs : 2 ≤ c.x.step) : c' = c := by
  cases hm with
  | last h => exact (mv_novote h hrd hv hs).1
  | more h _ => have := (mv_novote h hrd hv hs).2; cases this
/-- a plan of the round, heard ahead of all votes -/
theorem mvs_plan {c c' : CS} (hm : Mvs c c') (hrd : 0 ≤ c.rd) (hv : c.vts = []) (hs : c.x.step = 1) {p : api_Plan} {qs : List api_Request} (hp : mfind c.pl c.rd = some (p, qs)) (hf : (planF c p qs).b = true) :
    ∃ r o, c' = votesC c 1 (planF c p qs).a r o := by
  have step : ∀ {c1 : CS} {b : Bool}, MV c c1 b → b = true ∧ ∃ r o, c1 = votesC c 1 (planF c p qs).a r o := by
    intro c1 b hm
    cases hm with
    | dec d r bb qs rr o hw hf => exact (win_nil hv hw).elim
    | next ks rr o h1 h2 h3 => have := later_nil h2 hv hrd; omega
    | start rr o h1 h2 h3 h4 => omega
    | wait p' qs' _ _ h h2 h3 =>
      rw [hp] at h2
      obtain ⟨rfl, rfl⟩ := Prod.mk.inj (Option.some.inj h2)
      rw [hf] at h3; cases h3
    | first p' qs' rr o h1 h2 h3 h4 h5 =>
      rw [hp] at h4
      obtain ⟨rfl, rfl⟩ := Prod.mk.inj (Option.some.inj h4)
      exact ⟨rfl, rr, o, rfl⟩
    | lock p qs rr o h1 h2 h3 h4 h5 => omega
    | nil rr o h1 h2 h3 h4 h5 => omega
    | val p qs h1 h2 h3 h4 h5 h6 => omega
    | stop _ _ h => have := h.2.1 hs; rw [hp] at this; cases this
  cases hm with
  | last h => have := (step h).1; cases this
  | more h h2 =>
    obtain ⟨_, r, o, rfl⟩ := step h
    refine ⟨r, o, ?_⟩
    obtain ⟨a, KA, out, he, _⟩ := votesC_eq c 1 (planF c p qs).a r o
    exact mvs_novote h2 (by rw [he]; exact hrd) (by rw [he]; exact hv) (by rw [he]; show (2 : Int) ≤ 1 + 1; decide)
theorem mem_forF {l : Vts} {kind rd : Int} {d : Dig} {i : Nat} {v : api_Vote} (hi : i < 63) (hm : mfind l ⟨kind, rd, ((i + 1 : Nat) : Int)⟩ = some v) (hd : v.Digest = d) : v ∈ forF l kind rd d 63 := by
  unfold forF
  rw [List.mem_flatMap]
  refine ⟨i, by simpa using hi, ?_⟩
  unfold pick1
  rw [hm]; simp [hd]
theorem no_win {c : CS} (h : ∀ q ∈ c.vts, q.1.kind = 1) {d : Dig} {r : Int} (hw : Win c d r true) : False := by
  obtain ⟨q, hq, hk, _⟩ := cnt_pos (Nat.le_trans (quo_pos _) (win_cnt hw))
  rw [h q hq] at hk; cases hk
/-- a quorum's first votes for the plan of the round -/
theorem mvs_lock {c c' : CS} (hm : Mvs c c') (hrd : 0 ≤ c.rd) (hk : ∀ q ∈ c.vts, q.1.kind = 1) (hr : ∀ q ∈ c.vts, q.1.round ≤ c.rd) (hs : c.x.step = 2) {p : api_Plan} {qs : List api_Request} (hp : mfind c.pl c.rd = some (p, qs)) (hf : firstB c c.rd (digB p.Block qs) = true) :
    ∃ r o, c' = votesC (lockC c p.Block qs) 2 (digB p.Block qs) r o := by
  have step : ∀ {c1 : CS} {b : Bool}, MV c c1 b → b = true ∧ ∃ r o, c1 = votesC (lockC c p.Block qs) 2 (digB p.Block qs) r o := by
    intro c1 b hm
    cases hm with
    | dec d r bb qs rr o hw hf => exact (no_win hk hw).elim
    | next ks rr o h1 h2 h3 => have := later_no h2 hrd hr (by omega); omega
    | start rr o h1 h2 h3 h4 => omega
    | wait p' qs' _ _ h h2 h3 => omega
    | first p' qs' rr o h1 h2 h3 h4 h5 => omega
    | lock p' qs' rr o h1 h2 h3 h4 h5 =>
      rw [hp] at h4
      obtain ⟨rfl, rfl⟩ := Prod.mk.inj (Option.some.inj h4)
      exact ⟨rfl, rr, o, rfl⟩
    | nil rr o h1 h2 h3 h4 h5 => have := h4 _ _ hp; rw [hf] at this; cases this
    | val p qs h1 h2 h3 h4 h5 h6 => omega
    | stop _ _ h => have := (h.2.2.1 hs).1 _ _ hp; rw [hf] at this; cases this
  cases hm with
  | last h => have := (step h).1; cases this
  | more h h2 =>
    obtain ⟨_, r, o, rfl⟩ := step h
    refine ⟨r, o, ?_⟩
    obtain ⟨a, KA, out, he, _⟩ := votesC_eq (lockC c p.Block qs) 2 (digB p.Block qs) r o
    rw [he] at h2 ⊢
    have stop : ∀ {c1 : CS} {b : Bool}, MV { stpC (lockC c p.Block qs) 2 with acts := a, KA := KA, x := { (stpC (lockC c p.Block qs) 2).x with out := out } } c1 b → b = false ∧ c1 = { stpC (lockC c p.Block qs) 2 with acts := a, KA := KA, x := { (stpC (lockC c p.Block qs) 2).x with out := out } } := by
      intro c1 b hm
      have e3 : ({ stpC (lockC c p.Block qs) 2 with acts := a, KA := KA, x := { (stpC (lockC c p.Block qs) 2).x with out := out } } : CS).x.step = 3 := rfl
      cases hm with
      | dec d r bb qs rr o hw hf => exact (no_win (c := { stpC (lockC c p.Block _) 2 with acts := a, KA := KA, x := { (stpC (lockC c p.Block _) 2).x with out := out } }) hk hw).elim
      | next ks rr o h1 h2 h3 => have := later_no h2 hrd hr (by rw [e3]; decide); omega
      | start rr o h1 h2 h3 h4 => rw [e3] at h3; omega
      | wait p' qs' _ _ h h2 h3 => rw [e3] at h; omega
      | first p' qs' rr o h1 h2 h3 h4 h5 => rw [e3] at h3; omega
      | lock p' qs' rr o h1 h2 h3 h4 h5 => rw [e3] at h3; omega
      | nil rr o h1 h2 h3 h4 h5 => rw [e3] at h3; omega
      | val p qs h1 h2 h3 h4 h5 h6 => exact absurd h5 (Int.lt_irrefl _)
      | stop _ _ h => exact ⟨rfl, rfl⟩
    cases h2 with
    | last h => exact (stop h).2
    | more h _ => have := (stop h).1; cases this
/-- a quorum's second votes for a block that is known -/
theorem mvs_dec {c c' : CS} (hm : Mvs c c') {D : Dig} {r0 : Int} (hq : quoN c.ms.length ≤ cntF c.vts 2 ⟨r0, D⟩) (hk : ∀ q ∈ c.vts, q.1.kind = 2 → q.2.Digest = D) {b : api_Block} {qs : List api_Request} (hb : mfind c.bl D = some (b, qs)) :
    ∃ r rr o, c' = sayC (decC c) { api_Act.zero with Act := 3, Round := r, Digest := D, Block := b } qs rr o := by
  have hd : ∀ {d : Dig} {r : Int}, Win c d r true → d = D := by
    intro d r hw
    obtain ⟨q, hq, h1, _, h2⟩ := cnt_pos (Nat.le_trans (quo_pos _) (win_cnt hw))
    have h3 := hk q hq h1
    have h4 := congrArg vote_choice.digest h2
    exact h4.symm.trans h3
  have hnw : ¬ NW c := by
    rintro ⟨d, r, is, hw, hn⟩
    have hi := win_tt hq hw
    subst hi
    have := hd hw
    subst this
    rw [hn rfl] at hb; cases hb
  have step : ∀ {c1 : CS} {bb : Bool}, MV c c1 bb → bb = false ∧ ∃ r rr o, c1 = sayC (decC c) { api_Act.zero with Act := 3, Round := r, Digest := D, Block := b } qs rr o := by
    intro c1 bb hm
    cases hm with
    | dec d r b' qs' rr o hw hf =>
      have := hd hw
      subst this
      rw [hb] at hf
      obtain ⟨rfl, rfl⟩ := Prod.mk.inj (Option.some.inj hf)
      exact ⟨rfl, r, rr, o, rfl⟩
    | next ks rr o h1 h2 h3 => exact absurd h1 hnw
    | start rr o h1 h2 h3 h4 => exact absurd h1 hnw
    | wait p' qs' h1 _ h h2 h3 => exact absurd h1 hnw
    | first p' qs' rr o h1 h2 h3 h4 h5 => exact absurd h1 hnw
    | lock p' qs' rr o h1 h2 h3 h4 h5 => exact absurd h1 hnw
    | nil rr o h1 h2 h3 h4 h5 => exact absurd h1 hnw
    | val p qs h1 h2 h3 h4 h5 h6 => exact absurd h1 hnw
    | stop h1 _ h => exact absurd h1 hnw
  cases hm with
  | last h => exact (step h).2
  | more h _ => have := (step h).1; cases this
/-! what a core says: each vote stands behind the ones before -/
def Ord (o a : api_Act) : Prop := o.Act = 2 → a.Act = 2 → o.Round < a.Round ∨ (o.Round = a.Round ∧ o.Kind ≠ a.Kind)
def Bel (rd st : Int) (a : api_Act) : Prop := a.Act = 2 → a.Round < rd ∨ (a.Round = rd ∧ a.Kind < st)
def acts1 (c : CS) : List api_Act := c.acts.map (·.1)
structure QQ (pre : List api_Act) (c : CS) : Prop where
  asc : (pre ++ acts1 c).Pairwise Ord
  bel : ∀ a ∈ pre ++ acts1 c, Bel c.rd c.x.step a
def cnt3 (l : List api_Act) : Nat := (l.filter fun a => a.Act == 3).length
theorem cnt3_app (a b : List api_Act) : cnt3 (a ++ b) = cnt3 a + cnt3 b := by simp [cnt3]
theorem Bel.mono {rd st rd' st' : Int} {a : api_Act} (h : Bel rd st a) (hp : rd < rd' ∨ (rd = rd' ∧ st ≤ st')) : Bel rd' st' a := by
  intro h2
  rcases h h2 with h3 | ⟨h3, h4⟩
  · rcases hp with hp | ⟨hp, _⟩ <;> left <;> omega
  · rcases hp with hp | ⟨hp, hq⟩
    · left; omega
    · right; omega
/-- nothing but acts that are no votes come -/
theorem QQ.add {pre : List api_Act} {c c' : CS} (h : QQ pre c) {e : List api_Act} (ha : acts1 c' = acts1 c ++ e) (he : ∀ a ∈ e, a.Act ≠ 2) (hp : c.rd < c'.rd ∨ (c.rd = c'.rd ∧ c.x.step ≤ c'.x.step)) : QQ pre c' := by
  refine ⟨?_, ?_⟩
  · rw [ha, ← List.append_assoc, List.pairwise_append]
    refine ⟨h.asc, ?_, ?_⟩
    · exact List.pairwise_of_forall_mem_list (fun a ha b _ h2 => absurd h2 (he a ha))
    · intro a _ b hb _ h2; exact absurd h2 (he b hb)
  · intro a hm
    rw [ha, ← List.append_assoc, List.mem_append] at hm
    rcases hm with hm | hm
    · exact (h.bel a hm).mono hp
    · intro h2; exact absurd h2 (he a hm)
/-- a vote comes -/
theorem QQ.vote {pre : List api_Act} {c c' : CS} (h : QQ pre c) {e : List api_Act} (ha : acts1 c' = acts1 c ++ e) (he : ∀ a ∈ e, a.Round = c.rd ∧ a.Kind = c.x.step) (hl : e.length ≤ 1) (hr : c'.rd = c.rd) (hs : c'.x.step = c.x.step + 1) : QQ pre c' := by
  refine ⟨?_, ?_⟩
  · rw [ha, ← List.append_assoc, List.pairwise_append]
    refine ⟨h.asc, ?_, ?_⟩
    · match e, hl with
      | [], _ => exact .nil
      | [x], _ => exact List.pairwise_singleton _ _
    · intro o ho a hae h1 h2
      obtain ⟨e1, e2⟩ := he a hae
      rcases h.bel o ho h1 with h3 | ⟨h3, h4⟩
      · left; omega
      · right; omega
  · intro a hm
    rw [ha, ← List.append_assoc, List.mem_append] at hm
    rw [hr, hs]
    rcases hm with hm | hm
    · exact (h.bel a hm).mono (.inr ⟨rfl, by omega⟩)
    · intro _
      obtain ⟨e1, e2⟩ := he a hm
      right; omega
theorem QQ.same {pre : List api_Act} {c c' : CS} (h : QQ pre c) (ha : c'.acts = c.acts) (hr : c'.rd = c.rd) (hs : c'.x.step = c.x.step) : QQ pre c' := by
  refine ⟨by unfold acts1; rw [ha]; exact h.asc, ?_⟩
  unfold acts1; rw [ha, hr, hs]; exact h.bel
theorem QQ.enter {pre : List api_Act} {c : CS} (h : QQ pre c) (rd : Int) (r o : Sl) (hp : c.rd < rd ∨ (c.rd = rd ∧ c.x.step ≤ 1)) : QQ pre (enterC c rd r o) ∧ cnt3 (acts1 (enterC c rd r o)) = cnt3 (acts1 c) ∧ (enterC c rd r o).rd = rd := by
  obtain ⟨a, KA, out, he, ha⟩ := enterC_eq c rd r o
  have hac : ∃ e, acts1 (enterC c rd r o) = acts1 c ++ e ∧ (∀ x ∈ e, x.Act = 1) := by
    rw [he]
    unfold acts1
    show ∃ e, a.map (·.1) = _ ∧ _
    rw [ha, List.map_append]
    refine ⟨_, rfl, fun x hx => ?_⟩
    split at hx
    · have hx' : x = { api_Act.zero with Act := 1, Round := rd, Valid := c.x.valid.round, Block := { c.x.valid.block with Requests := r } } := by simpa using hx
      rw [hx']
    · simp at hx
  obtain ⟨e, h1, h2⟩ := hac
  have hf : (enterC c rd r o).rd = rd ∧ (enterC c rd r o).x.step = 1 := by rw [he]; exact ⟨rfl, rfl⟩
  refine ⟨h.add h1 (fun x hx => by rw [h2 x hx]; decide) (by rw [hf.1, hf.2]; exact hp), ?_, hf.1⟩
  rw [h1, cnt3_app]
  have : cnt3 e = 0 := by
    unfold cnt3
    rw [List.length_eq_zero_iff, List.filter_eq_nil_iff]
    intro x hx; rw [h2 x hx]; decide
  omega
theorem QQ.votes {pre : List api_Act} {c : CS} (h : QQ pre c) (kd : Int) (d : Dig) (r o : Sl) (hk : c.x.step = kd) : QQ pre (votesC c kd d r o) ∧ cnt3 (acts1 (votesC c kd d r o)) = cnt3 (acts1 c) ∧ (votesC c kd d r o).rd = c.rd := by
  obtain ⟨a, KA, out, he, ha⟩ := votesC_eq c kd d r o
  have hac : ∃ e, acts1 (votesC c kd d r o) = acts1 c ++ e ∧ (∀ x ∈ e, x.Act = 2 ∧ x.Round = c.rd ∧ x.Kind = kd) ∧ e.length ≤ 1 := by
    rw [he]
    unfold acts1
    show ∃ e, a.map (·.1) = _ ∧ _
    rw [ha, List.map_append]
    refine ⟨_, rfl, fun x hx => ?_, ?_⟩
    · split at hx
      · have hx' : x = { api_Act.zero with Act := 2, Round := c.rd, Kind := kd, Digest := d, Block := { api_Block.zero with Requests := r } } := by simpa using hx
        rw [hx']; exact ⟨rfl, rfl, rfl⟩
      · simp at hx
    · split <;> simp
  obtain ⟨e, h1, h2, h3⟩ := hac
  have hf : (votesC c kd d r o).rd = c.rd ∧ (votesC c kd d r o).x.step = kd + 1 := by rw [he]; exact ⟨rfl, rfl⟩
  refine ⟨h.vote h1 (fun x hx => ⟨(h2 x hx).2.1, by rw [(h2 x hx).2.2, hk]⟩) h3 hf.1 (by rw [hf.2, hk]), ?_, hf.1⟩
  rw [h1, cnt3_app]
  have : cnt3 e = 0 := by
    unfold cnt3
    rw [List.length_eq_zero_iff, List.filter_eq_nil_iff]
    intro x hx; rw [(h2 x hx).1]; decide
  omega
theorem QQ.mv {pre : List api_Act} {c c' : CS} {b : Bool} (h : QQ pre c) (hc : Cok c) (hm : MV c c' b) :
    QQ pre c' ∧ c.rd ≤ c'.rd ∧ ((c'.x.decided = c.x.decided ∧ cnt3 (acts1 c') = cnt3 (acts1 c)) ∨ (b = false ∧ c'.x.decided = true ∧ cnt3 (acts1 c') = cnt3 (acts1 c) + 1)) := by
  cases hm with
  | dec d r bb qs rr o hw hf =>
    have ha : acts1 (sayC (decC c) { api_Act.zero with Act := 3, Round := r, Digest := d, Block := bb } qs rr o) = acts1 c ++ [{ api_Act.zero with Act := 3, Round := r, Digest := d, Block := { bb with Requests := rr } }] := by
      show (c.acts ++ [_]).map _ = _; rw [List.map_append]; rfl
    refine ⟨h.add ha (fun x hx => by rw [List.mem_singleton] at hx; rw [hx]; show (3 : Int) ≠ 2; decide) (.inr ⟨rfl, Int.le_refl _⟩), Int.le_refl _, .inr ⟨rfl, rfl, ?_⟩⟩
    rw [ha, cnt3_app]; rfl
  | next ks rr o h1 h2 h3 =>
    have hgt := later_gt h3
    have hp : c.rd < laterV c ks ∨ (c.rd = laterV c ks ∧ c.x.step ≤ 1) := by
      unfold nowL at hgt
      split at hgt
      · rename_i hs
        have hs' : c.x.step = 0 := by simpa using hs
        have := hc.s0 hs'
        by_cases he : c.rd = laterV c ks
        · exact .inr ⟨he, by omega⟩
        · left; omega
      · exact .inl hgt
    obtain ⟨q1, q2, q3⟩ := h.enter (laterV c ks) rr o hp
    exact ⟨q1, by rw [q3]; omega, .inl ⟨enterC_dec _ _ _ _, q2⟩⟩
  | start rr o h1 h2 h3 h4 =>
    have := hc.s0 h3
    obtain ⟨q1, q2, q3⟩ := h.enter 0 rr o (.inr ⟨this, by omega⟩)
    exact ⟨q1, by rw [q3]; omega, .inl ⟨enterC_dec _ _ _ _, q2⟩⟩
  | wait p qs _ _ _ _ _ => exact ⟨h, Int.le_refl _, .inl ⟨rfl, rfl⟩⟩
  | first p qs rr o h1 h2 h3 h4 h5 =>
    obtain ⟨q1, q2, q3⟩ := h.votes 1 (planF c p qs).a rr o h3
    exact ⟨q1, by rw [q3]; omega, .inl ⟨votesC_dec _ _ _ _ _, q2⟩⟩
  | lock p qs rr o h1 h2 h3 h4 h5 =>
    have h' : QQ pre (lockC c p.Block qs) := h.same rfl rfl rfl
    obtain ⟨q1, q2, q3⟩ := h'.votes 2 (digB p.Block qs) rr o h3
    exact ⟨q1, by rw [q3]; exact Int.le_refl _, .inl ⟨votesC_dec _ _ _ _ _, q2⟩⟩
  | nil rr o h1 h2 h3 h4 h5 =>
    obtain ⟨q1, q2, q3⟩ := h.votes 2 dz rr o h3
    exact ⟨q1, by rw [q3]; omega, .inl ⟨votesC_dec _ _ _ _ _, q2⟩⟩
  | val p qs h1 h2 h3 h4 h5 h6 => exact ⟨h.same rfl rfl rfl, Int.le_refl _, .inl ⟨rfl, rfl⟩⟩
  | stop _ _ _ => exact ⟨h, Int.le_refl _, .inl ⟨rfl, rfl⟩⟩
theorem QQ.mvs {pre : List api_Act} {c c' : CS} (hm : Mvs c c') : QQ pre c → Cok c → c.x.decided = false → c.acts.length + mu c + 2 < 2 ^ 19 →
    QQ pre c' ∧ c.rd ≤ c'.rd ∧ ((c'.x.decided = false ∧ cnt3 (acts1 c') = cnt3 (acts1 c)) ∨ (c'.x.decided = true ∧ cnt3 (acts1 c') = cnt3 (acts1 c) + 1)) := by
  induction hm with
  | last h =>
    intro q hc hd hn
    obtain ⟨q1, q2, q3⟩ := q.mv hc h
    refine ⟨q1, q2, ?_⟩
    rcases q3 with ⟨a, b⟩ | ⟨_, a, b⟩
    · exact .inl ⟨a.trans hd, b⟩
    · exact .inr ⟨a, b⟩
  | more h _ ih =>
    intro q hc hd hn
    obtain ⟨q1, q2, q3⟩ := q.mv hc h
    obtain ⟨a1, a2, a3⟩ := h.ok hc hd (by omega)
    obtain ⟨a4, a5⟩ := a3 rfl
    obtain ⟨i1, i2, i3⟩ := ih q1 a1 a5 (by omega)
    refine ⟨i1, Int.le_trans q2 i2, ?_⟩
    rcases q3 with ⟨a, b⟩ | ⟨e, _⟩
    · rw [b] at i3; exact i3
    · cases e
theorem law19_game.ok (n : Int) (height : Int) (k : Pt → H → Prop) (h : H) (hh : law19_game.b n height k h) : CallsH Prog 26 [reg n, reg height].toArray h fun v h' => ∃ r : Pt, v = reg r ∧ k r h' := by
 unfold law19_game.b at hh
 refine CallsH.of 77 Tryd.func26 rfl Tryd.ntmps26 rfl (fun w0 => ?_)
 refine .sr (.A (reg ((none : Pt) : Pt)) (.nx (.sr (.M (reg height) (.V (v_buildT ({ law19_Game.zero with height := height } : law19_Game) zo_61 pl_61 rfl (fill_step rfl rfl (len_i _) (len_law19_Game _) rfl (set_61_height _ _) (rfl)) rfl) ?_)))))
 refine box_elim hh (fun t10 ht10 hh => ?_)
 refine .e (e_boxP ht10 rfl rfl rfl ?_)
 refine .A (.pointer (some t10)) (.nx ?_)
 refine CW.join (fun ρ h => ∃ (ρ' : Env), ρ = setl ρ' [(0, reg n), (1, reg height), (5, .pointer (some t10))] ∧ (law19_game.j1 k) n height t10 h) ?_ ?_
 ·refine .sr (.A (reg ((1 : Int) : Int)) (.nx ?_))
  refine CW.block ?_
  unfold law19_game.l1 at hh
  refine CW.loop (fun (σ0 : Int) ρ => match σ0 with | i => ∃ ρ' : Env, ρ = setl ρ' [(0, reg n), (1, reg height), (5, .pointer (some t10)), (6, reg i)]) hh ⟨_, setl_eq ⟨rfl, ⟨rfl, ⟨rfl, ⟨rfl, trivial⟩⟩⟩⟩⟩ ?_
  clear hh
  rintro s1 i ρ h ⟨ρ', rfl⟩ hh
  refine CW.seq ?_
  refine .sr (.M (reg i) (.M (reg n) (.V (v_ileq rfl rfl) (.nx ?_))))
  refine CW.cond (decide (i ≤ n)) rfl (fun hb => ?_) (fun hb => ?_)
  ·have hh := hh.1 hb
   refine CW.skip ?_
   refine QN.then_ ?_
   refine CW.seq ?_
   refine CW.block ?_
   refine CW.region ?_
   refine .M (.pointer (some t10)) (.M (.pointer (some t10)) (.V (v_nilCheck rfl) (.V (v_fieldAddr fl_61_0 rfl) (.V (v_fieldAddr fl_54_1 rfl) (.L 1 na_52 get_61_config_Members hh rfl (fun t21 hh => .M (reg i) (.V (v_buildT ({ api_Member.zero with Id := i } : api_Member) zo_110 pl_110 rfl (fill_step rfl rfl (len_i _) (len_api_Member _) rfl (set_110_Id _ _) (rfl)) rfl) ?_)))))))
   refine mks_elim hh (fun pt24 t24 hpt24 ht24 hh => ?_)
   refine .e (e_mks [(({ api_Member.zero with Id := i } : api_Member) : api_Member)] hpt24 ht24 zo_110 sl_52 rfl rfl rfl rfl rfl ?_)
   refine .e (e_app sl_52 zo_110 by_110 rfl rfl rfl hh ?_)
   intro h t25 hh
   refine .V (v_nilCheck rfl) (.V (v_fieldAddr fl_61_0 rfl) (.V (v_fieldAddr fl_54_1 rfl) (.S (t25 : Sl) 1 sz_52 (one_sl _) len_law19_Game (len_sl _) (fun x => set_61_config_Members x (t25 : Sl)) hh rfl rfl (fun _ hh => ?_))))
   refine .nil ?_
   refine QN.blockN ?_
   refine QN.then_ ?_
   refine CW.region ?_
   refine .M (reg i) (.V (v_iadd rfl rfl) (.A (reg ((iadd i (1 : Int)) : Int)) ?_))
   refine .nil ?_
   exact QN.thenJ ⟨(iadd i (1 : Int)), ⟨_, setl_eq ⟨rfl, ⟨rfl, ⟨rfl, ⟨rfl, trivial⟩⟩⟩⟩⟩, hh⟩
  ·have hh := hh.2 hb
   refine CW.exit ?_
   refine QN.thenExit ?_
   refine QN.thenExit ?_
   refine QN.blockExit ?_
   exact QN.thenJ ⟨_, setl_eq ⟨rfl, ⟨rfl, ⟨rfl, trivial⟩⟩⟩, hh⟩
 ·rintro ρ h ⟨ρ', rfl, hh⟩
  unfold law19_game.j1 at hh
  refine CW.join (fun ρ h => ∃ (ρ' : Env), ρ = setl ρ' [(5, .pointer (some t10))] ∧ (law19_game.j2 k) t10 h) ?_ ?_
  ·refine .sr (.A (reg ((0 : Int) : Int)) (.nx ?_))
   refine CW.block ?_
   unfold law19_game.l2 at hh
   refine CW.loop (fun (σ0 : Int) ρ => match σ0 with | i_1 => ∃ ρ' : Env, ρ = setl ρ' [(0, reg n), (1, reg height), (5, .pointer (some t10)), (7, reg i_1)]) hh ⟨_, setl_eq ⟨rfl, ⟨rfl, ⟨rfl, ⟨rfl, trivial⟩⟩⟩⟩⟩ ?_
   clear hh
   rintro s2 i_1 ρ h ⟨ρ', rfl⟩ hh
   refine CW.seq ?_
   refine .sr (.M (reg i_1) (.M (reg n) (.M (.pointer (some t10)) (.V (v_nilCheck rfl) (.V (v_fieldAddr fl_61_0 rfl) (.LA 0 ag_54 get_61_config (fun _ => (len_api_Config _)) hh rfl (fun t34 hh => ?_)))))))
   refine .e (e_callP fn_53 rfl rfl hh ?_)
   intro h t35 hh
   refine .V (v_isub rfl rfl) (.V (v_ilss rfl rfl) (.nx ?_))
   refine CW.cond (decide (i_1 < (isub n t35))) rfl (fun hb_1 => ?_) (fun hb_1 => ?_)
   ·have hh := hh.1 hb_1
    refine CW.skip ?_
    refine QN.then_ ?_
    refine CW.seq ?_
    refine CW.block ?_
    refine CW.seq ?_
    refine CW.drawN 18 rfl follows_mixed [0, 1, 2, 3, 4, 5, 6, 7, 8, 9, 10, 11, 15, 16] ?_
    refine .P 0 rfl (v_move (v := .pointer (some t10)) rfl) (.P 1 rfl (v_move (v := .pointer (some t10)) rfl) (.P 2 rfl (v_nilCheck rfl) (.P 3 rfl (v_fieldAddr fl_61_2 rfl) (.KL 4 3 na_55 get_61_cores rfl hh rfl (fun t44 hh => .P 5 rfl (v_move (v := .pointer (some t10)) rfl) (.P 6 rfl (v_nilCheck rfl) (.P 7 rfl (v_fieldAddr fl_61_0 rfl) (.KA 8 0 ag_54 get_61_config (fun _ => (len_api_Config _)) rfl hh rfl (fun t48 hh => .P 9 rfl (v_move (v := reg i_1) rfl) ?_)))))))))
    refine .P 10 rfl (v_iadd rfl rfl) (.P 11 rfl (v_move (v := reg height) rfl) ?_)
    refine .w 12 (by kernel_rfl) rfl (by kernel_rfl) (.e (e_callP fn_28 rfl rfl hh ?_))
    intro h t52 hh
    obtain ⟨hc, hh⟩ := hh
    refine ⟨⟨⟨trivial, .inr hc⟩, .inl (by kernel_rfl)⟩, ?_⟩
    refine mks_elim hh (fun pt53 t53 hpt53 ht53 hh => ?_)
    refine .w 13 (by kernel_rfl) rfl (by kernel_rfl) (.e (e_mks [(t52 : Pt)] hpt53 ht53 zo_62 sl_55 rfl rfl rfl rfl rfl ?_))
    obtain ⟨hc_1, hh⟩ := hh
    refine ⟨⟨⟨trivial, .inr hc_1⟩, .inl (by kernel_rfl)⟩, ?_⟩
    refine .w 14 (by kernel_rfl) rfl (by kernel_rfl) (.e (e_app sl_55 zo_62 by_62 rfl rfl rfl hh ?_))
    intro h t54 hh
    refine ⟨⟨⟨trivial, .inl (by kernel_rfl)⟩, .inl (by kernel_rfl)⟩, ?_⟩
    refine .P 15 rfl (v_nilCheck rfl) (.P 16 rfl (v_fieldAddr fl_61_2 rfl) ?_)
    obtain ⟨xw_1, hxw_1, hwxw_1, hh⟩ := hh
    refine .w 17 (by kernel_rfl) rfl (by kernel_rfl) (.e (e_storeN (p := t10) (nv := enc (t54 : Sl)) 3 rfl rfl rfl sz_55 (one_sl _) hxw_1 hwxw_1 (len_law19_Game _) (len_sl _) rfl (set_61_cores xw_1 (t54 : Sl)) ?_))
    refine ⟨⟨⟨trivial, .inl (by kernel_rfl)⟩, .inl (by kernel_rfl)⟩, ?_⟩
    refine .done (by kernel_rfl) ?_
    refine QN.then_ ?_
    refine .sr (.M (.pointer (some t10)) (.M (.pointer (some t10)) (.V (v_nilCheck rfl) (.V (v_fieldAddr fl_61_6 rfl) (.L 7 na_58 get_61_own hh rfl (fun t61 hh => ?_))))))
    refine mks_elim hh (fun pt62 t62 hpt62 ht62 hh => ?_)
    refine .e (e_mks [(Sl.nil : Sl)] hpt62 ht62 zo_22 sl_58 rfl rfl rfl rfl rfl ?_)
    refine .e (e_app sl_58 zo_22 by_22 rfl rfl rfl hh ?_)
    intro h t63 hh
    refine .V (v_nilCheck rfl) (.V (v_fieldAddr fl_61_6 rfl) (.S (t63 : Sl) 7 sz_58 (one_sl _) len_law19_Game (len_sl _) (fun x => set_61_own x (t63 : Sl)) hh rfl rfl (fun _ hh => .nx ?_)))
    refine CW.region ?_
    refine .M (.pointer (some t10)) (.M (.pointer (some t10)) (.V (v_nilCheck rfl) (.V (v_fieldAddr fl_61_7 rfl) (.L 8 na_31 get_61_decided hh rfl (fun t70 hh => .V (v_buildAT (arrOf [0, 0, 0, 0, 0, 0, 0, 0, 0, 0, 0, 0, 0, 0, 0, 0, 0, 0, 0, 0, 0, 0, 0, 0, 0, 0, 0, 0, 0, 0, 0, 0] : Arr 32 UInt8) zo_24 ar_24 rfl rfl rfl) ?_)))))
    refine mks_elim hh (fun pt72 t72 hpt72 ht72 hh => ?_)
    refine .e (e_mks [((arrOf [0, 0, 0, 0, 0, 0, 0, 0, 0, 0, 0, 0, 0, 0, 0, 0, 0, 0, 0, 0, 0, 0, 0, 0, 0, 0, 0, 0, 0, 0, 0, 0] : Arr 32 UInt8) : Arr 32 UInt8)] hpt72 ht72 zo_24 sl_31 rfl rfl rfl rfl rfl ?_)
    refine .e (e_app sl_31 zo_24 by_24 rfl rfl rfl hh ?_)
    intro h t73 hh
    refine .V (v_nilCheck rfl) (.V (v_fieldAddr fl_61_7 rfl) (.S (t73 : Sl) 8 sz_31 (one_sl _) len_law19_Game (len_sl _) (fun x => set_61_decided x (t73 : Sl)) hh rfl rfl (fun _ hh => ?_)))
    refine .nil ?_
    refine QN.blockN ?_
    refine QN.then_ ?_
    refine CW.region ?_
    refine .M (reg i_1) (.V (v_iadd rfl rfl) (.A (reg ((iadd i_1 (1 : Int)) : Int)) ?_))
    refine .nil ?_
    exact QN.thenJ ⟨(iadd i_1 (1 : Int)), ⟨_, setl_eq ⟨rfl, ⟨rfl, ⟨rfl, ⟨rfl, trivial⟩⟩⟩⟩⟩, hh⟩
   ·have hh := hh.2 hb_1
    refine CW.exit ?_
    refine QN.thenExit ?_
    refine QN.thenExit ?_
    refine QN.blockExit ?_
    exact QN.thenJ ⟨_, setl_eq ⟨rfl, trivial⟩, hh⟩
  ·rintro ρ h ⟨ρ', rfl, hh⟩
   unfold law19_game.j2 at hh
   refine .sr (.M (.pointer (some t10)) (.A (.pointer (some t10)) (.nx ?_)))
   refine CW.ret ?_
   exact ret1 rfl rfl ⟨((some t10) : Pt), rfl, hh⟩
theorem zero32' : (arrOf [0, 0, 0, 0, 0, 0, 0, 0, 0, 0, 0, 0, 0, 0, 0, 0, 0, 0, 0, 0, 0, 0, 0, 0, 0, 0, 0, 0, 0, 0, 0, 0] : Dig) = dz := by
  funext i
  have : ∀ i : Fin 32, (arrOf [0, 0, 0, 0, 0, 0, 0, 0, 0, 0, 0, 0, 0, 0, 0, 0, 0, 0, 0, 0, 0, 0, 0, 0, 0, 0, 0, 0, 0, 0, 0, 0] : Dig) i = 0 := by decide
  exact this i
/-! a game: cores, and all that was said -/
def memN (n : Nat) : List api_Member := (List.range n).map fun i : Nat => { api_Member.zero with Id := ((i + 1 : Nat) : Int) }
theorem memN_len (n : Nat) : (memN n).length = n := by simp [memN]
theorem memN_succ (n : Nat) : memN (n + 1) = memN n ++ [{ api_Member.zero with Id := ((n + 1 : Nat) : Int) }] := by simp [memN, List.range_succ]
theorem memAt_N (n i : Nat) (h : i < n) : memAt (memN n) i = { api_Member.zero with Id := ((i + 1 : Nat) : Int) } := by
  simp [memAt, memN, h]
theorem goodC_N (n : Nat) (h1 : 1 ≤ n) (h2 : n ≤ 10) : goodC 0 (memN n) = true := by
  unfold goodC
  rw [Bool.and_eq_true]
  refine ⟨decide_eq_true ⟨by omega, by omega, ?_, by rw [memN_len]; exact h2⟩, ?_⟩
  · intro h; have := memN_len n; rw [h] at this; simp at this; omega
  · rw [List.all_eq_true]
    intro i hi
    rw [memN_len, List.mem_range] at hi
    unfold goodAt
    rw [memAt_N n i hi]
    rw [Bool.and_eq_true]
    constructor
    · unfold rightM
      simp only [Bool.and_eq_true, decide_eq_true_eq]
      refine ⟨⟨⟨?_, ?_⟩, ?_⟩, ?_⟩
      · show (1 : Int) ≤ ((i + 1 : Nat) : Int); omega
      · show ((i + 1 : Nat) : Int) ≤ 63; omega
      · decide
      · decide
    · by_cases h0 : i = 0
      · subst h0; rfl
      · rw [memAt_N n (i - 1) (by omega), decide_eq_false h0, Bool.false_or, decide_eq_true_eq]
        show ((i - 1 + 1 : Nat) : Int) < ((i + 1 : Nat) : Int)
        omega
theorem findF_N (n i : Nat) (h : i < n) : (findF (memN n) ((i + 1 : Nat) : Int)).c = true := by
  unfold findF
  cases hf : (memN n).findIdx? (·.Id == ((i + 1 : Nat) : Int)) with
  | some j => rfl
  | none =>
    rw [List.findIdx?_eq_none_iff] at hf
    have := hf { api_Member.zero with Id := ((i + 1 : Nat) : Int) } (by simp only [memN, List.mem_map, List.mem_range]; exact ⟨i, h, rfl⟩)
    simp at this
/-- a core as it is at first -/
structure New1 (c : CS) (n : Nat) (ht : Int) (i : Nat) : Prop where
  ok : Cok c
  ms : c.ms = memN n
  me : c.x.me = ((i + 1 : Nat) : Int)
  ht : c.ht = ht
  rd : c.rd = 0
  base : c.x.base = 1
  vts : c.vts = []
  pl : c.pl = []
  bl : c.bl = []
  step : c.x.step = 0
  dec : c.x.decided = false
  fr : c.x.fresh = false
  lk : c.x.locked.round = -1
  vl : c.x.valid.round = -1
  vb : c.x.valid.block = api_Block.zero ∧ c.vq = []
  acts : c.acts = []
/-- a game's own things -/
@[reducible] def gmE (g : Addr) (x : law19_Game) (ms : List api_Member) (cs : List CS) (ow : List Sl) (dc : List Dig) : List En := [cel 61 g (enc x), own 110 34 x.config.Members ms, own 62 1 x.cores (cs.map fun c => (some c.p : Pt)), own 22 1 x.own ow, own 24 32 x.decided dc]
theorem len_game (y : law19_Game) : (enc y).length = 11 := len_law19_Game y
theorem perm3 {α : Type} (C A B L : List α) : (C ++ (A ++ (B ++ L))).Perm (A ++ ((B ++ C) ++ L)) := by
  have h1 : (C ++ (A ++ B)).Perm ((A ++ B) ++ C) := List.perm_append_comm
  have := h1.append_right L
  simpa [List.append_assoc] using this
section
variable {h0 h : H} {S : List Nat} {L : List En}
theorem game_spec (n : Nat) (ht : Int) {k : Pt → H → Prop} (h1 : 1 ≤ n) (h2 : n ≤ 10) (hh : 1 ≤ ht ∧ ht ≤ 1024) (hs : Sat h0 S h L)
    (hk : ∀ g x cs h', x.height = ht → x.config.Epoch = 0 → x.plans = Sl.nil → x.votes = Sl.nil → x.order = Sl.nil → x.others = Sl.nil → x.made = 0 → cs.length = n - (n - 1) / 3 → (∀ (i : Nat) c, cs[i]? = some c → New1 c n ht i) →
      Sat h0 S h' (gmE g x (memN n) cs (List.replicate (n - (n - 1) / 3) Sl.nil) (List.replicate (n - (n - 1) / 3) dz) ++ (cs.flatMap core ++ L)) → k (some g) h') :
    call (β := Pt) Prog 26 [reg ((n : Int) : Int), reg (ht : Int)] k h := by
  refine law19_game.ok _ _ _ _ ?_
  unfold law19_game.b
  refine hs.box_ (fun g h3 hs3 _ _ => ?_)
  have hs4 := hs3.nilOwn (T := 110) (n := 34) (α := api_Member)
  unfold law19_game.l1
  refine ⟨fun (t : Int) h' => ∃ (i : Nat) (mm : Sl), t = ((i + 1 : Nat) : Int) ∧ i ≤ n ∧ Sat h0 S h' (own 110 34 mm (memN i) :: cel 61 g (enc ({ law19_Game.zero with height := ht, config := { api_Config.zero with Members := mm } } : law19_Game)) :: L), fun t _ => (n + 1 - t).toNat, ⟨0, Sl.nil, rfl, Nat.zero_le _, hs4⟩, ?_⟩
  clear hs hs3 hs4
  rintro t h3 ⟨i, mm, rfl, hi, hs3⟩
  refine ifb_i (fun hc => ?_) (fun hc => ?_)
  · have hi' : i < n := by have : ((i + 1 : Nat) : Int) ≤ n := by simpa using hc
                           omega
    refine hs3.ld_ 1 rfl ?_
    refine hs3.mks_ (n := 34) (fun t24 h4 hs4 _ _ => ?_)
    refine hs4.app_ 1 rfl (hs4.ownSV 0 rfl len_api_Member) len_api_Member one_api_Member (len_api_Member _) ?_ ?_ (fun r h5 hs5 _ => ?_)
    · simp only [memN_len, List.length_cons, List.length_nil, maxBytes]; omega
    · simp only [memN_len, List.length_cons, List.length_nil]; omega
    refine hs5.st_ 2 rfl len_game (fun h6 hs6 _ => ?_)
    have e : iadd ((i + 1 : Nat) : Int) 1 = ((i + 1 + 1 : Nat) : Int) := by rw [iadd_eq (by omega) (by omega)]; omega
    rw [e]
    refine ⟨⟨i + 1, r, rfl, hi', ?_⟩, by dsimp only; omega⟩
    rw [memN_succ]
    exact hs6.drop (List.sublist_cons_self _ _)
  · have hi' : i = n := by
      have : ¬ ((i + 1 : Nat) : Int) ≤ n := by simpa using hc
      omega
    subst hi'
    clear hc
    unfold law19_game.j1 law19_game.l2
    have hsA : Sat h0 S h3 (gmE g { law19_Game.zero with height := ht, config := { api_Config.zero with Members := mm } } (memN i) [] [] [] ++ (([] : List CS).flatMap core ++ L)) := by
      have := ((hs3.nilOwn (T := 24) (n := 32) (α := Dig)).nilOwn (T := 22) (n := 1) (α := Sl)).nilOwn (T := 62) (n := 1) (α := Pt)
      exact this.sel 5 [4, 3, 0, 1, 2] (by decide) (by decide)
    refine ⟨fun (t : Int) h' => ∃ (x : law19_Game) (cs : List CS), t = (cs.length : Int) ∧ cs.length ≤ i - (i - 1) / 3 ∧ x.height = ht ∧ x.config.Epoch = 0 ∧ x.plans = Sl.nil ∧ x.votes = Sl.nil ∧ x.order = Sl.nil ∧ x.others = Sl.nil ∧ x.made = 0 ∧ (∀ (j : Nat) c, cs[j]? = some c → New1 c i ht j) ∧
      Sat h0 S h' (gmE g x (memN i) cs (List.replicate cs.length Sl.nil) (List.replicate cs.length dz) ++ (cs.flatMap core ++ L)), fun t _ => (i - (i - 1) / 3 - t).toNat, ⟨_, [], rfl, Nat.zero_le _, rfl, rfl, rfl, rfl, rfl, rfl, rfl, by simp, hsA⟩, ?_⟩
    clear hs3 hsA
    rintro t h3 ⟨x, cs, rfl, hle, x1, x2, x3, x4, x5, x6, x7, hcs, hs3⟩
    refine hs3.ld_ 0 rfl ?_
    have hmem : SV 34 h3 x.config.Members (memN i) := hs3.ownSV 1 rfl len_api_Member
    refine Faults_spec _ i (by rw [hmem.2.1, memN_len]) (by omega) (fun h4 hx4 => ?_)
    have hs4 := hs3.ext hx4
    have e1 : isub (i : Int) (((i - 1) / 3 : Nat) : Int) = ((i - (i - 1) / 3 : Nat) : Int) := by rw [isub_eq (by omega) (by omega)]; omega
    rw [e1]
    refine ifb_i (fun hc => ?_) (fun hc => ?_)
    · have hc' : cs.length < i - (i - 1) / 3 := by have : (cs.length : Int) < ((i - (i - 1) / 3 : Nat) : Int) := by simpa using hc
                                                   omega
      refine hs4.ld_ 0 rfl (hs4.ld_ 0 rfl ?_)
      have e2 : iadd (cs.length : Int) 1 = ((cs.length + 1 : Nat) : Int) := by rw [iadd_eq (by omega) (by omega)]; omega
      rw [e2]
      have hg := goodC_N i h1 h2
      refine New_spec19 x.config (memN i) _ ht 1 (by unfold I64; omega) hs4 (SV.z (hs4.ownSV 1 rfl len_api_Member)) (fun h5 hf _ => ?_) (fun c mm' h5 _ hF hs5 => ?_)
      · rw [x2, hg, decide_eq_true hh] at hf; cases hf
      have hc0 : Cok c := hF.ok (by rw [x2]; exact hg) ⟨hh, by omega⟩
      have hnew : New1 c i ht cs.length := by
        obtain ⟨fx, f1, f2, f3, f4, f5, f6, f7, f8, f9, f10, f11⟩ := hF
        exact ⟨hc0, f9, by rw [fx], f1, f2, by rw [fx], f3, f4, f5, by rw [fx]; rfl, by rw [fx]; rfl, by rw [fx]; rfl, by rw [fx], by rw [fx], ⟨by rw [fx]; rfl, f7⟩, f8⟩
      have hs6 : Sat h0 S h5 (gmE g x (memN i) cs (List.replicate cs.length Sl.nil) (List.replicate cs.length dz) ++ ((cs.flatMap core ++ core c) ++ L)) := hs5.perm (perm3 _ _ _ _)
      refine hs6.chk_ 0 rfl rfl ?_
      refine hs6.mks_ (n := 1) (fun t53 h6 hs7 _ _ => ?_)
      refine hs7.chk_ 1 rfl rfl ?_
      refine hs7.app_ 3 rfl (hs7.ownSV 0 rfl (fun _ => rfl)) (fun _ => rfl) (fun _ => rfl) rfl ?_ ?_ (fun r1 h8 hs8 _ => ?_)
      · simp only [List.length_map, List.length_cons, List.length_nil, maxBytes]; omega
      · simp only [List.length_map, List.length_cons, List.length_nil]; omega
      refine hs8.st_ 1 rfl len_game (fun h9 hs9 _ => ?_)
      refine hs9.ld_ 1 rfl ?_
      refine hs9.mks_ (n := 1) (fun t62 h10 hs10 _ _ => ?_)
      refine hs10.app_ 5 rfl (hs10.ownSV 0 rfl (fun _ => rfl)) (fun _ => rfl) (fun _ => rfl) rfl ?_ ?_ (fun r2 h11 hs11 _ => ?_)
      · simp only [List.length_replicate, List.length_cons, List.length_nil, maxBytes]; omega
      · simp only [List.length_replicate, List.length_cons, List.length_nil]; omega
      refine hs11.st_ 2 rfl len_game (fun h12 hs12 _ => ?_)
      refine hs12.ld_ 2 rfl ?_
      refine hs12.mks_ (n := 32) (fun t72 h13 hs13 _ _ => ?_)
      refine hs13.app_ 7 rfl (hs13.ownSV 0 rfl arr_len) arr_len one_dig (arr_len _) ?_ ?_ (fun r3 h14 hs14 _ => ?_)
      · simp only [List.length_replicate, List.length_cons, List.length_nil, maxBytes]; omega
      · simp only [List.length_replicate, List.length_cons, List.length_nil]; omega
      refine hs14.st_ 3 rfl len_game (fun h15 hs15 _ => ?_)
      have hs16 := hs15.sel 8 [3, 4, 5, 6, 7] (by decide) (by decide)
      refine ⟨⟨{ x with cores := r1, own := r2, decided := r3 }, cs ++ [c], by simp, by simp; omega, x1, x2, x3, x4, x5, x6, x7, ?_, ?_⟩, by dsimp only; omega⟩
      · intro j c' hj
        by_cases hjl : j < cs.length
        · rw [List.getElem?_append_left hjl] at hj; exact hcs j c' hj
        · rw [List.getElem?_append_right (by omega)] at hj
          have : j = cs.length := by
            by_cases h9 : j - cs.length = 0
            · omega
            · rw [List.getElem?_eq_none (by simp; omega)] at hj; cases hj
          subst this
          simp at hj; subst hj; exact hnew
      · have e3 : (List.replicate (cs ++ [c]).length Sl.nil : List Sl) = List.replicate cs.length Sl.nil ++ [Sl.nil] := by simp [List.replicate_succ']
        have e4 : (List.replicate (cs ++ [c]).length dz : List Dig) = List.replicate cs.length dz ++ [(arrOf [0, 0, 0, 0, 0, 0, 0, 0, 0, 0, 0, 0, 0, 0, 0, 0, 0, 0, 0, 0, 0, 0, 0, 0, 0, 0, 0, 0, 0, 0, 0, 0] : Dig)] := by
          have : (arrOf [0, 0, 0, 0, 0, 0, 0, 0, 0, 0, 0, 0, 0, 0, 0, 0, 0, 0, 0, 0, 0, 0, 0, 0, 0, 0, 0, 0, 0, 0, 0, 0] : Dig) = dz := zero32'
          rw [this]; simp [List.replicate_succ']
        have e5 : (cs ++ [c]).map (fun c => (some c.p : Pt)) = cs.map (fun c => (some c.p : Pt)) ++ [some c.p] := by simp
        have e6 : (cs ++ [c]).flatMap core = cs.flatMap core ++ core c := by simp
        unfold gmE
        rw [e3, e4, e5, e6]
        exact hs16
    · have hc' : cs.length = i - (i - 1) / 3 := by have : ¬ (cs.length : Int) < ((i - (i - 1) / 3 : Nat) : Int) := by simpa using hc
                                                   omega
      unfold law19_game.j2
      rw [hc'] at hs4
      exact hk g x cs h4 x1 x2 x3 x4 x5 x6 x7 hc' hcs hs4
end
/-! what is said by those who keep to the rules, and what a quorum of all can have said -/
abbrev VV := Int × Int × Dig
abbrev Said := Nat → List VV
def cntS (S : Said) (M : Nat) (v : VV) : Nat := ((List.range M).filter fun i => decide (v ∈ S i)).length
def QS (S : Said) (n M : Nat) (v : VV) : Prop := quoN n ≤ cntS S M v + (n - M)
def SaidLe (S S' : Said) : Prop := ∀ i, ∀ v ∈ S i, v ∈ S' i
theorem cntS_succ (S : Said) (M : Nat) (v : VV) : cntS S (M + 1) v = cntS S M v + (if v ∈ S M then 1 else 0) := by
  unfold cntS
  rw [List.range_succ, List.filter_append, List.length_append]
  by_cases h : v ∈ S M <;> simp [h]
theorem cntS_mono {S S' : Said} (h : SaidLe S S') (M : Nat) (v : VV) : cntS S M v ≤ cntS S' M v := by
  induction M with
  | zero => simp [cntS]
  | succ M ih =>
    rw [cntS_succ, cntS_succ]
    by_cases h1 : v ∈ S M
    · rw [if_pos h1, if_pos (h M v h1)]; omega
    · rw [if_neg h1]; split <;> omega
theorem QS.mono {S S' : Said} {n M : Nat} {v : VV} (h : SaidLe S S') (hq : QS S n M v) : QS S' n M v := by
  unfold QS at *
  have := cntS_mono h M v
  omega
theorem two_filters {α : Type} (p q : α → Bool) : ∀ l : List α, (l.filter p).length + (l.filter q).length ≤ l.length + (l.filter fun x => p x && q x).length
  | [] => by simp
  | a :: l => by
    have := two_filters p q l
    by_cases h1 : p a <;> by_cases h2 : q a <;> simp [h1, h2] <;> omega
theorem QS.inter {S : Said} {n M : Nat} (hM : M = n - (n - 1) / 3) (hn : 1 ≤ n) {v w : VV} (h1 : QS S n M v) (h2 : QS S n M w) : ∃ i, i < M ∧ v ∈ S i ∧ w ∈ S i := by
  unfold QS at h1 h2
  have h3 := two_filters (fun i => decide (v ∈ S i)) (fun i => decide (w ∈ S i)) (List.range M)
  rw [List.length_range] at h3
  have h4 : 0 < ((List.range M).filter fun i => decide (v ∈ S i) && decide (w ∈ S i)).length := by
    unfold cntS at h1 h2
    unfold quoN at h1 h2
    omega
  obtain ⟨i, hi⟩ := List.exists_mem_of_length_pos h4
  rw [List.mem_filter, List.mem_range] at hi
  simp only [Bool.and_eq_true, decide_eq_true_eq] at hi
  exact ⟨i, hi.1, hi.2.1, hi.2.2⟩
theorem QS.some {S : Said} {n M : Nat} (hM : M = n - (n - 1) / 3) (hn : 1 ≤ n) {v : VV} (h1 : QS S n M v) : ∃ i, i < M ∧ v ∈ S i := by
  obtain ⟨i, h, h2, _⟩ := h1.inter hM hn h1
  exact ⟨i, h, h2⟩
def Bef (o a : VV) : Prop := o.2.1 < a.2.1 ∨ (o.2.1 = a.2.1 ∧ o.1 < a.1)
structure GoodS (S : Said) (n M : Nat) (DD : Dig → Prop) : Prop where
  ord : ∀ i, i < M → (S i).Pairwise Bef
  lock : ∀ i, i < M → ∀ r d, (2, r, d) ∈ S i → d ≠ dz → QS S n M (1, r, d) ∧ DD d
  just : ∀ i, i < M → ∀ r d, (1, r, d) ∈ S i → d ≠ dz → ∀ r0 d0, (2, r0, d0) ∈ S i → r0 < r → d0 ≠ dz → d = d0 ∨ ∃ r1, r0 ≤ r1 ∧ r1 < r ∧ QS S n M (1, r1, d)
theorem bef_uniq : ∀ {l : List VV}, l.Pairwise Bef → ∀ {k r : Int} {d d' : Dig}, (k, r, d) ∈ l → (k, r, d') ∈ l → d = d'
  | [], _, _, _, _, _, h, _ => by cases h
  | a :: l, hp, k, r, d, d', h1, h2 => by
    rw [List.pairwise_cons] at hp
    have irr : ∀ x : Dig, (k, r, x) ∈ l → a.1 = k → a.2.1 = r → False := by
      intro x hx e1 e2
      rcases hp.1 _ hx with h | ⟨_, h⟩
      · rw [e2] at h; exact absurd h (Int.lt_irrefl _)
      · rw [e1] at h; exact absurd h (Int.lt_irrefl _)
    rcases List.mem_cons.1 h1 with h1 | h1 <;> rcases List.mem_cons.1 h2 with h2 | h2
    · have := h1.trans h2.symm
      exact congrArg (fun x : VV => x.2.2) this
    · exact (irr _ h2 (congrArg (fun x : VV => x.1) h1).symm (congrArg (fun x : VV => x.2.1) h1).symm).elim
    · exact (irr _ h1 (congrArg (fun x : VV => x.1) h2).symm (congrArg (fun x : VV => x.2.1) h2).symm).elim
    · exact bef_uniq hp.2 h1 h2
section
variable {S : Said} {n M : Nat} {DD : Dig → Prop}
theorem GoodS.safe (hg : GoodS S n M DD) (hM : M = n - (n - 1) / 3) (hn : 1 ≤ n) {r0 : Int} {d0 : Dig} (h0 : QS S n M (2, r0, d0)) (hd0 : d0 ≠ dz) :
    ∀ (k : Nat) (r : Int), r = r0 + k → ∀ d, QS S n M (1, r, d) → d ≠ dz → d = d0 := by
  intro k
  induction k using Nat.strongRecOn with
  | _ k ih =>
    intro r hr d hq hd
    by_cases hk : k = 0
    · subst hk
      obtain rfl : r = r0 := by omega
      obtain ⟨j, hj, hjv⟩ := h0.some hM hn
      obtain ⟨i, hi, h1, h2⟩ := hq.inter hM hn (hg.lock j hj r d0 hjv hd0).1
      exact bef_uniq (hg.ord i hi) h1 h2
    · obtain ⟨i, hi, h1, h2⟩ := hq.inter hM hn h0
      rcases hg.just i hi r d h1 hd r0 d0 h2 (by omega) hd0 with h | ⟨r1, h3, h4, h5⟩
      · exact h
      · exact ih (r1 - r0).toNat (by omega) r1 (by omega) d h5 hd
/-- no two decide unlike blocks -/
theorem GoodS.agree (hg : GoodS S n M DD) (hM : M = n - (n - 1) / 3) (hn : 1 ≤ n) {r r' : Int} {d d' : Dig} (h : QS S n M (2, r, d)) (h' : QS S n M (2, r', d')) (hd : d ≠ dz) (hd' : d' ≠ dz) : d = d' := by
  have one : ∀ {r : Int} {d : Dig}, QS S n M (2, r, d) → d ≠ dz → QS S n M (1, r, d) := by
    intro r d hq hd
    obtain ⟨j, hj, hjv⟩ := hq.some hM hn
    exact (hg.lock j hj r d hjv hd).1
  by_cases hle : r ≤ r'
  · exact (hg.safe hM hn h hd (r' - r).toNat r' (by omega) d' (one h' hd') hd').symm
  · exact hg.safe hM hn h' hd' (r - r').toNat r (by omega) d (one h hd) hd
end
/-! a core, among what is said -/
def vvA (a : api_Act) : Option VV := if a.Act = 2 then some (a.Kind, a.Round, a.Digest) else none
def vvs (l : List api_Act) : List VV := l.filterMap vvA
theorem vvs_app (a b : List api_Act) : vvs (a ++ b) = vvs a ++ vvs b := by simp [vvs]
structure CI (S : Said) (n M : Nat) (DD : Dig → Prop) (ht : Int) (i : Nat) (c : CS) : Prop where
  ok : Cok c
  ms : c.ms = memN n
  me : c.x.me = ((i + 1 : Nat) : Int)
  ht : c.ht = ht
  nd : (c.vts.map (·.1)).Nodup
  box : ∀ q ∈ c.vts, 1 ≤ q.1.from_ ∧ q.1.from_ ≤ n ∧ ∀ j : Nat, j < M → q.1.from_ = ((j + 1 : Nat) : Int) → (q.1.kind, q.1.round, q.2.Digest) ∈ S j
  nn : ∀ v ∈ S i, 0 ≤ v.2.1
  bel : ∀ v ∈ S i, v.2.1 < c.rd ∨ (v.2.1 = c.rd ∧ v.1 < c.x.step)
  lk1 : ∀ r d, (2, r, d) ∈ S i → d ≠ dz → r ≤ c.x.locked.round ∧ (r = c.x.locked.round → digB c.x.locked.block c.lq = d)
  lk2 : 0 ≤ c.x.locked.round → QS S n M (1, c.x.locked.round, digB c.x.locked.block c.lq)
  lk3 : c.x.locked.round ≤ c.rd ∧ (c.x.locked.round = c.rd → c.x.step = 3)
  vl3 : c.x.valid.round ≤ c.rd ∧ (c.x.valid.round = c.rd → c.x.step = 3)
  pv : ∀ e ∈ c.pl, e.2.1.Valid < e.1 ∧ DD (digB e.2.1.Block e.2.2)
theorem nodup_len : ∀ {l l' : List Nat}, l.Nodup → (∀ x ∈ l, x ∈ l') → l.length ≤ l'.length
  | [], _, _, _ => by simp
  | a :: l, l', hn, hs => by
    rw [List.nodup_cons] at hn
    have h1 : a ∈ l' := hs a (by simp)
    have h2 := nodup_len (l' := l'.erase a) hn.2 (fun x hx => by
      have hne : x ≠ a := fun e => hn.1 (e ▸ hx)
      exact (List.mem_erase_of_ne hne).2 (hs x (by simp [hx])))
    rw [List.length_erase_of_mem h1] at h2
    have : 0 < l'.length := List.length_pos_of_mem h1
    simp; omega
section
variable {S : Said} {n M : Nat} {DD : Dig → Prop} {ht : Int} {i : Nat} {c : CS}
theorem forF_cnt (hc : CI S n M DD ht i c) (hMn : M ≤ n) (kd rd : Int) (d : Dig) : ∀ N, (forF c.vts kd rd d N).length ≤ cntS S (min N M) (kd, rd, d) + (min N n - min N M)
  | 0 => by simp [forF]
  | N + 1 => by
    have ih := forF_cnt hc hMn kd rd d N
    rw [forF_succ, List.length_append]
    have h1 : (pick1 c.vts kd rd d (N + 1)).length ≤ 1 ∧ ((pick1 c.vts kd rd d (N + 1)).length = 1 → N < n ∧ (N < M → (kd, rd, d) ∈ S N)) := by
      unfold pick1
      cases hm : mfind c.vts ⟨kd, rd, ((N + 1 : Nat) : Int)⟩ with
      | none => simp
      | some v =>
        simp only
        split
        · rename_i hd
          refine ⟨by simp, fun _ => ?_⟩
          obtain ⟨b1, b2, b3⟩ := hc.box _ (mfind_mem hm)
          refine ⟨by simp only at b2; omega, fun hlt => ?_⟩
          have := b3 N hlt rfl
          have hd' : v.Digest = d := by simpa using hd
          simp only at this
          rwa [hd'] at this
        · simp
    by_cases hN : N < M
    · have e1 : min (N + 1) M = N + 1 := by omega
      have e2 : min N M = N := by omega
      rw [e1, cntS_succ]
      rw [e2] at ih
      by_cases h2 : (pick1 c.vts kd rd d (N + 1)).length = 1
      · have h3 := (h1.2 h2).2 hN
        rw [if_pos h3]; omega
      · have h3 := h1.1
        have h4 : (pick1 c.vts kd rd d (N + 1)).length = 0 := by omega
        rw [h4]; omega
    · have e1 : min (N + 1) M = M := by omega
      have e2 : min N M = M := by omega
      rw [e1]; rw [e2] at ih
      by_cases h2 : (pick1 c.vts kd rd d (N + 1)).length = 1
      · have h3 := (h1.2 h2).1; omega
      · have h3 := h1.1; omega
theorem CI.first (hc : CI S n M DD ht i c) (hMn : M ≤ n) (h10 : n ≤ 10) {rd : Int} {d : Dig} (h : firstB c rd d = true) : QS S n M (1, rd, d) := by
  unfold firstB at h
  have h1 : (quoN c.ms.length : Int) ≤ ((forF c.vts 1 rd d 63).length : Int) := by simpa using h
  rw [hc.ms, memN_len] at h1
  have h2 := forF_cnt hc hMn 1 rd d 63
  have e1 : min 63 M = M := by omega
  have e2 : min 63 n = n := by omega
  rw [e1, e2] at h2
  unfold QS; omega
theorem CI.win (hc : CI S n M DD ht i c) (hMn : M ≤ n) {d : Dig} {r : Int} (h : Win c d r true) : d ≠ dz ∧ QS S n M (2, r, d) := by
  have h1 := win_cnt h
  rw [hc.ms, memN_len] at h1
  have hpos := quo_pos n
  refine ⟨?_, ?_⟩
  · obtain ⟨q, hq, _, hne, e⟩ := cnt_pos (Nat.le_trans hpos h1)
    have : q.2.Digest = d := congrArg vote_choice.digest e
    rw [← this]; exact hne
  · unfold QS
    refine Nat.le_trans h1 ?_
    unfold cntF
    -- the members whose votes these are
    generalize hF : (c.vts.filter fun q => decide (q.1.kind = 2) && !decide (q.2.Digest = dz) && decide (chq q = ⟨r, d⟩)) = F
    have hsub : F.Sublist c.vts := by rw [← hF]; exact List.filter_sublist
    have hFn : (F.map (·.1)).Nodup := hc.nd.sublist (hsub.map _)
    have hmem : ∀ q ∈ F, q.1.kind = 2 ∧ q.1.round = r ∧ q.2.Digest = d := by
      intro q hq
      rw [← hF, List.mem_filter] at hq
      simp only [Bool.and_eq_true, decide_eq_true_eq] at hq
      exact ⟨hq.2.1.1, congrArg vote_choice.round hq.2.2, congrArg vote_choice.digest hq.2.2⟩
    have hnd : (F.map fun q => (q.1.from_ - 1).toNat).Nodup := by
      rw [List.Nodup, List.pairwise_map] at hFn ⊢
      refine List.Pairwise.imp_of_mem ?_ hFn
      intro a b ha hb hne e
      apply hne
      obtain ⟨a1, a2, _⟩ := hmem a ha
      obtain ⟨b1, b2, _⟩ := hmem b hb
      have a4 := (hc.box a (hsub.subset ha)).1
      have b4 := (hc.box b (hsub.subset hb)).1
      have e2 : a.1.from_ = b.1.from_ := by omega
      cases h5 : a.1 with
      | mk k1 r1 f1 =>
        cases h6 : b.1 with
        | mk k2 r2 f2 =>
          rw [h5] at a1 a2 e2; rw [h6] at b1 b2 e2
          simp only at a1 a2 b1 b2 e2
          rw [a1, a2, b1, b2, e2]
    have hlen : (F.map fun q => (q.1.from_ - 1).toNat).length ≤ (((List.range M).filter fun i => decide ((2, r, d) ∈ S i)) ++ (List.range (n - M)).map (M + ·)).length := by
      refine nodup_len hnd (fun x hx => ?_)
      obtain ⟨q, hq, rfl⟩ := List.mem_map.1 hx
      obtain ⟨m1, m2, m3⟩ := hmem q hq
      obtain ⟨b1, b2, b3⟩ := hc.box q (hsub.subset hq)
      rw [List.mem_append, List.mem_filter, List.mem_range, List.mem_map]
      by_cases hlt : (q.1.from_ - 1).toNat < M
      · left
        refine ⟨hlt, ?_⟩
        have := b3 _ hlt (by omega)
        rw [m1, m2, m3] at this
        exact decide_eq_true this
      · right
        refine ⟨(q.1.from_ - 1).toNat - M, ?_, by omega⟩
        rw [List.mem_range]; omega
    rw [List.length_map, List.length_append, List.length_map, List.length_range] at hlen
    exact hlen
end
end Go.Proofs.YtimmoekliphobaaDoor

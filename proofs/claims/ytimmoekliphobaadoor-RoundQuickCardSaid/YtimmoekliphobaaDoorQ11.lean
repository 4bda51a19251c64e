/-
  THE CARD OF wapentakelaw19.RoundQuick: for every input that the row lets in, RoundQuick returns true and its arguments read as they did. Part 11 of 14. No condition stands ahead of the statement. Parts of this text were printed by a program of ours.
-/
import Derived.Test.YtimmoekliphobaaDoorQ10
set_option linter.all false
set_option maxRecDepth 100000
set_option maxHeartbeats 4000000
namespace Go.Proofs.YtimmoekliphobaaDoor
open Go Go.Sh
open Go.Sh.Ty (reg)
theorem law19_RoundQuick.ok (n : Int) (height : Int) (order : Sl) (k : Bool → H → Prop) (h : H) (hh : law19_RoundQuick.b n height order k h) : CallsH Prog 4 [reg n, reg height, reg order].toArray h fun v h' => ∃ r : Bool, v = reg r ∧ k r h' := by
 unfold law19_RoundQuick.b at hh
 refine CallsH.of 188 Tryd.func4 rfl Tryd.ntmps4 rfl (fun w0 => ?_)
 refine .sr (.A (reg false) (.nx (.seq (.sr ?_))))
 refine .e (e_callP fn_25 rfl rfl hh ?_)
 intro h t16 hh
 refine .V (v_not rfl) (.nx ?_)
 refine CW.cond (!t16) rfl (fun hb => ?_) (fun hb => ?_)
 ·have hh := hh.1 hb
  refine .sr (.A (reg false) (.nx ?_))
  refine CW.ret ?_
  refine QN.thenRet ?_
  exact ret1 rfl rfl ⟨(false : Bool), rfl, hh⟩
 ·have hh := hh.2 hb
  refine CW.skip ?_
  refine QN.then_ ?_
  refine CW.seq ?_
  refine .sr (.M (reg n) (.V (v_ilss rfl rfl) (.M (reg ((decide (n < (1 : Int))) : Bool)) (.fv 20 rfl rfl rfl (fun hb => v_move (v := reg (n : Int)) rfl) rfl (.fv 20 rfl rfl rfl (fun hb => v_igtr (gf hb) rfl) rfl (.V (v_pick_or rfl rfl (fun hb => gf hb)) (.M (reg (((decide (n < (1 : Int))) || (decide ((10 : Int) < n))) : Bool)) (.fv 24 rfl rfl rfl (fun hb => v_move (v := reg (height : Int)) rfl) rfl (.fv 24 rfl rfl rfl (fun hb => v_ilss (gf hb) rfl) rfl ?_)))))))))
  refine .V (v_pick_or rfl rfl (fun hb => gf hb)) (.M (reg ((((decide (n < (1 : Int))) || (decide ((10 : Int) < n))) || (decide (height < (1 : Int)))) : Bool)) (.fv 28 rfl rfl rfl (fun hb => v_move (v := reg (height : Int)) rfl) rfl (.fv 28 rfl rfl rfl (fun hb => v_igtr (gf hb) rfl) rfl (.V (v_pick_or rfl rfl (fun hb => gf hb)) (.M (reg (((((decide (n < (1 : Int))) || (decide ((10 : Int) < n))) || (decide (height < (1 : Int)))) || (decide ((1024 : Int) < height))) : Bool)) (.fv 32 rfl rfl rfl (fun hb => v_move (v := reg (order : Sl)) rfl) rfl (.fv 32 rfl rfl rfl (fun hb => v_len_sl (sl_49).1 (gf hb)) rfl (.fv 32 rfl rfl rfl (fun hb => v_igtr (gf hb) rfl) rfl (.V (v_pick_or rfl rfl (fun hb => gf hb)) ?_)))))))))
  refine .nx ?_
  refine CW.cond (((((decide (n < (1 : Int))) || (decide ((10 : Int) < n))) || (decide (height < (1 : Int)))) || (decide ((1024 : Int) < height))) || (decide ((200 : Int) < (order.len : Int)))) rfl (fun hb_1 => ?_) (fun hb_1 => ?_)
  ·have hh := hh.1 hb_1
   refine .sr (.A (reg true) (.nx ?_))
   refine CW.ret ?_
   refine QN.thenRet ?_
   exact ret1 rfl rfl ⟨(true : Bool), rfl, hh⟩
  ·have hh := hh.2 hb_1
   refine CW.skip ?_
   refine QN.then_ ?_
   refine .sr (.M (reg n) (.M (reg height) ?_))
   refine .e (e_callP fn_26 rfl rfl hh ?_)
   intro h t39 hh
   refine .A (reg t39) (.nx ?_)
   refine CW.join (fun ρ h => ∃ (ρ' : Env), ρ = setl ρ' [(0, reg n), (1, reg height), (2, reg order), (7, reg t39)] ∧ (law19_RoundQuick.j1 k) n height order t39 h) ?_ ?_
   ·refine .sr (.M (reg n) ?_)
    refine .e (e_callP fn_27 rfl rfl hh ?_)
    intro h t41 hh
    refine .V (v_igtr rfl rfl) (.nx ?_)
    refine CW.cond (decide ((0 : Int) < t41)) rfl (fun hb_2 => ?_) (fun hb_2 => ?_)
    ·have hh := hh.1 hb_2
     refine .sr (.M (reg t39) ?_)
     obtain ⟨p, hp, hh⟩ := hh
     refine .V (v_nilCheck (congrArg Value.pointer hp)) (.V (v_fieldAddr fl_61_2 rfl) (.L 3 na_55 get_61_cores hh rfl (fun t46 hh => .V (v_len_sl (sl_55).1 rfl) (.A (reg ((t46.len : Int) : Int)) (.nx ?_)))))
     refine CW.block ?_
     unfold law19_RoundQuick.l1 at hh
     refine CW.loop (fun (σ0 : Int) ρ => match σ0 with | i => ∃ ρ' : Env, ρ = setl ρ' [(0, reg n), (1, reg height), (2, reg order), (7, reg t39), (8, reg i)]) hh ⟨_, setl_eq ⟨rfl, ⟨rfl, ⟨rfl, ⟨rfl, ⟨rfl, trivial⟩⟩⟩⟩⟩⟩ ?_
     clear hh
     rintro s1 i ρ h ⟨ρ', rfl⟩ hh
     refine CW.seq ?_
     refine .sr (.M (reg i) (.M (reg n) (.V (v_ilss rfl rfl) (.nx ?_))))
     refine CW.cond (decide (i < n)) rfl (fun hb_3 => ?_) (fun hb_3 => ?_)
     ·have hh := hh.1 hb_3
      refine CW.skip ?_
      refine QN.then_ ?_
      refine CW.join (fun ρ h => ∃ (ρ' : Env), ρ = setl ρ' [(0, reg n), (1, reg height), (2, reg order), (7, reg t39), (8, reg i)] ∧ (law19_RoundQuick.j2 s1) n height order t39 i h) ?_ ?_
      ·refine CW.block ?_
       refine CW.seq ?_
       refine CW.drawN 18 rfl follows_mixed [0, 1, 2, 3, 4, 5, 6, 7, 8, 9, 10, 11, 15, 16] ?_
       refine .P 0 rfl (v_move (v := reg t39) rfl) (.P 1 rfl (v_move (v := reg t39) rfl) ?_)
       obtain ⟨p_1, hp_1, hh⟩ := hh
       refine .P 2 rfl (v_nilCheck (congrArg Value.pointer hp_1)) (.P 3 rfl (v_fieldAddr fl_61_2 rfl) (.KL 4 3 na_55 get_61_cores rfl hh rfl (fun t57 hh => .P 5 rfl (v_move (v := reg t39) rfl) (.P 6 rfl (v_nilCheck (congrArg Value.pointer hp_1)) (.P 7 rfl (v_fieldAddr fl_61_0 rfl) (.KA 8 0 ag_54 get_61_config (fun _ => (len_api_Config _)) rfl hh rfl (fun t61 hh => .P 9 rfl (v_move (v := reg i) rfl) (.P 10 rfl (v_iadd rfl rfl) (.P 11 rfl (v_move (v := reg height) rfl) ?_)))))))))
       refine .w 12 (by kernel_rfl) rfl (by kernel_rfl) (.e (e_callP fn_28 rfl rfl hh ?_))
       intro h t65 hh
       obtain ⟨hc, hh⟩ := hh
       refine ⟨⟨⟨trivial, .inr hc⟩, .inl (by kernel_rfl)⟩, ?_⟩
       refine mks_elim hh (fun pt66 t66 hpt66 ht66 hh => ?_)
       refine .w 13 (by kernel_rfl) rfl (by kernel_rfl) (.e (e_mks [(t65 : Pt)] hpt66 ht66 zo_62 sl_55 rfl rfl rfl rfl rfl ?_))
       obtain ⟨hc_1, hh⟩ := hh
       refine ⟨⟨⟨trivial, .inr hc_1⟩, .inl (by kernel_rfl)⟩, ?_⟩
       refine .w 14 (by kernel_rfl) rfl (by kernel_rfl) (.e (e_app sl_55 zo_62 by_62 rfl rfl rfl hh ?_))
       intro h t67 hh
       refine ⟨⟨⟨trivial, .inl (by kernel_rfl)⟩, .inl (by kernel_rfl)⟩, ?_⟩
       refine .P 15 rfl (v_nilCheck (congrArg Value.pointer hp_1)) (.P 16 rfl (v_fieldAddr fl_61_2 rfl) ?_)
       obtain ⟨xw, hxw, hwxw, hh⟩ := hh
       refine .w 17 (by kernel_rfl) rfl (by kernel_rfl) (.e (e_storeN (p := p_1) (nv := enc (t67 : Sl)) 3 rfl rfl rfl sz_55 (one_sl _) hxw hwxw (len_law19_Game _) (len_sl _) rfl (set_61_cores xw (t67 : Sl)) ?_))
       refine ⟨⟨⟨trivial, .inl (by kernel_rfl)⟩, .inl (by kernel_rfl)⟩, ?_⟩
       refine .done (by kernel_rfl) ?_
       refine QN.then_ ?_
       refine CW.drawN 21 rfl follows_mixed [0, 1, 2, 3, 4, 5, 8, 9, 10, 11, 12, 15, 16, 18, 19] ?_
       refine .P 0 rfl (v_move (v := reg t39) rfl) (.P 1 rfl (v_move (v := reg t39) rfl) (.P 2 rfl (v_move (v := reg t39) rfl) (.P 3 rfl (v_nilCheck (congrArg Value.pointer hp_1)) (.P 4 rfl (v_fieldAddr fl_61_6 rfl) (.KL 5 7 na_58 get_61_own rfl hh rfl (fun t75 hh => .P 8 rfl (v_move (v := reg t39) rfl) (.P 9 rfl (v_nilCheck (congrArg Value.pointer hp_1)) (.P 10 rfl (v_fieldAddr fl_61_7 rfl) (.KL 11 8 na_31 get_61_decided rfl hh rfl (fun t81 hh => ?_))))))))))
       refine .P 12 rfl (v_buildAT (arrOf [0, 0, 0, 0, 0, 0, 0, 0, 0, 0, 0, 0, 0, 0, 0, 0, 0, 0, 0, 0, 0, 0, 0, 0, 0, 0, 0, 0, 0, 0, 0, 0] : Arr 32 UInt8) zo_24 ar_24 rfl rfl rfl) ?_
       refine .w2 6 13 (by kernel_rfl) rfl rfl (by kernel_rfl) (by kernel_rfl) ?_ ?_
       ·have hh := hh.1
        refine mks_elim hh (fun pt76 t76 hpt76 ht76 hh => ?_)
        refine .e (e_mks [(Sl.nil : Sl)] hpt76 ht76 zo_22 sl_58 rfl rfl rfl rfl rfl ?_)
        obtain ⟨hc_2, hh⟩ := hh
        obtain ⟨hc_3, hh⟩ := hh
        refine ⟨⟨⟨trivial, .inr hc_2⟩, .inr hc_3⟩, ?_⟩
        refine .w2 7 13 (by kernel_rfl) rfl rfl (by kernel_rfl) (by kernel_rfl) ?_ ?_
        ·have hh := hh.1
         refine .e (e_app sl_58 zo_22 by_22 rfl rfl rfl hh ?_)
         intro h t77 hh
         obtain ⟨hc_4, hh⟩ := hh
         refine ⟨⟨⟨trivial, .inl (by kernel_rfl)⟩, .inr hc_4⟩, ?_⟩
         refine mks_elim hh (fun pt83 t83 hpt83 ht83 hh => ?_)
         refine .w 13 (by kernel_rfl) rfl (by kernel_rfl) (.e (e_mks [((arrOf [0, 0, 0, 0, 0, 0, 0, 0, 0, 0, 0, 0, 0, 0, 0, 0, 0, 0, 0, 0, 0, 0, 0, 0, 0, 0, 0, 0, 0, 0, 0, 0] : Arr 32 UInt8) : Arr 32 UInt8)] hpt83 ht83 zo_24 sl_31 rfl rfl rfl rfl rfl ?_))
         obtain ⟨hc_5, hh⟩ := hh
         obtain ⟨hc_6, hh⟩ := hh
         refine ⟨⟨⟨trivial, .inr hc_5⟩, .inr hc_6⟩, ?_⟩
         refine .w 14 (by kernel_rfl) rfl (by kernel_rfl) (.e (e_app sl_31 zo_24 by_24 rfl rfl rfl hh ?_))
         intro h t84 hh
         refine ⟨⟨⟨trivial, .inl (by kernel_rfl)⟩, .inl (by kernel_rfl)⟩, ?_⟩
         refine .P 15 rfl (v_nilCheck (congrArg Value.pointer hp_1)) (.P 16 rfl (v_fieldAddr fl_61_6 rfl) ?_)
         obtain ⟨xw_1, hxw_1, hwxw_1, hh⟩ := hh
         refine .w 17 (by kernel_rfl) rfl (by kernel_rfl) (.e (e_storeN (p := p_1) (nv := enc (t77 : Sl)) 7 rfl rfl rfl sz_58 (one_sl _) hxw_1 hwxw_1 (len_law19_Game _) (len_sl _) rfl (set_61_own xw_1 (t77 : Sl)) ?_))
         refine ⟨⟨⟨trivial, .inl (by kernel_rfl)⟩, .inl (by kernel_rfl)⟩, ?_⟩
         refine .P 18 rfl (v_nilCheck (congrArg Value.pointer hp_1)) (.P 19 rfl (v_fieldAddr fl_61_7 rfl) ?_)
         obtain ⟨xw_2, hxw_2, hwxw_2, hh⟩ := hh
         refine .w 20 (by kernel_rfl) rfl (by kernel_rfl) (.e (e_storeN (p := p_1) (nv := enc (t84 : Sl)) 8 rfl rfl rfl sz_31 (one_sl _) hxw_2 hwxw_2 (len_law19_Game _) (len_sl _) rfl (set_61_decided xw_2 (t84 : Sl)) ?_))
         refine ⟨⟨⟨trivial, .inl (by kernel_rfl)⟩, .inl (by kernel_rfl)⟩, ?_⟩
         refine .done (by kernel_rfl) ?_
         refine QN.blockN ?_
         exact QN.thenJ ⟨_, setl_eq ⟨rfl, ⟨rfl, ⟨rfl, ⟨rfl, ⟨rfl, trivial⟩⟩⟩⟩⟩, hh⟩
        ·have hh := hh.2
         refine mks_elim hh (fun pt83_1 t83_1 hpt83_1 ht83_1 hh => ?_)
         refine .e (e_mks [((arrOf [0, 0, 0, 0, 0, 0, 0, 0, 0, 0, 0, 0, 0, 0, 0, 0, 0, 0, 0, 0, 0, 0, 0, 0, 0, 0, 0, 0, 0, 0, 0, 0] : Arr 32 UInt8) : Arr 32 UInt8)] hpt83_1 ht83_1 zo_24 sl_31 rfl rfl rfl rfl rfl ?_)
         obtain ⟨hc_7, hh⟩ := hh
         obtain ⟨hc_8, hh⟩ := hh
         refine ⟨⟨⟨trivial, .inr hc_7⟩, .inr hc_8⟩, ?_⟩
         refine .w 7 (by kernel_rfl) rfl (by kernel_rfl) (.e (e_app sl_58 zo_22 by_22 rfl rfl rfl hh ?_))
         intro h t77_1 hh
         obtain ⟨hc_9, hh⟩ := hh
         refine ⟨⟨⟨trivial, .inl (by kernel_rfl)⟩, .inr hc_9⟩, ?_⟩
         refine .w 14 (by kernel_rfl) rfl (by kernel_rfl) (.e (e_app sl_31 zo_24 by_24 rfl rfl rfl hh ?_))
         intro h t84_1 hh
         refine ⟨⟨⟨trivial, .inl (by kernel_rfl)⟩, .inl (by kernel_rfl)⟩, ?_⟩
         refine .P 15 rfl (v_nilCheck (congrArg Value.pointer hp_1)) (.P 16 rfl (v_fieldAddr fl_61_6 rfl) ?_)
         obtain ⟨xw_3, hxw_3, hwxw_3, hh⟩ := hh
         refine .w 17 (by kernel_rfl) rfl (by kernel_rfl) (.e (e_storeN (p := p_1) (nv := enc (t77_1 : Sl)) 7 rfl rfl rfl sz_58 (one_sl _) hxw_3 hwxw_3 (len_law19_Game _) (len_sl _) rfl (set_61_own xw_3 (t77_1 : Sl)) ?_))
         refine ⟨⟨⟨trivial, .inl (by kernel_rfl)⟩, .inl (by kernel_rfl)⟩, ?_⟩
         refine .P 18 rfl (v_nilCheck (congrArg Value.pointer hp_1)) (.P 19 rfl (v_fieldAddr fl_61_7 rfl) ?_)
         obtain ⟨xw_4, hxw_4, hwxw_4, hh⟩ := hh
         refine .w 20 (by kernel_rfl) rfl (by kernel_rfl) (.e (e_storeN (p := p_1) (nv := enc (t84_1 : Sl)) 8 rfl rfl rfl sz_31 (one_sl _) hxw_4 hwxw_4 (len_law19_Game _) (len_sl _) rfl (set_61_decided xw_4 (t84_1 : Sl)) ?_))
         refine ⟨⟨⟨trivial, .inl (by kernel_rfl)⟩, .inl (by kernel_rfl)⟩, ?_⟩
         refine .done (by kernel_rfl) ?_
         refine QN.blockN ?_
         exact QN.thenJ ⟨_, setl_eq ⟨rfl, ⟨rfl, ⟨rfl, ⟨rfl, ⟨rfl, trivial⟩⟩⟩⟩⟩, hh⟩
       ·have hh := hh.2
        refine mks_elim hh (fun pt83_2 t83_2 hpt83_2 ht83_2 hh => ?_)
        refine .e (e_mks [((arrOf [0, 0, 0, 0, 0, 0, 0, 0, 0, 0, 0, 0, 0, 0, 0, 0, 0, 0, 0, 0, 0, 0, 0, 0, 0, 0, 0, 0, 0, 0, 0, 0] : Arr 32 UInt8) : Arr 32 UInt8)] hpt83_2 ht83_2 zo_24 sl_31 rfl rfl rfl rfl rfl ?_)
        obtain ⟨hc_10, hh⟩ := hh
        obtain ⟨hc_11, hh⟩ := hh
        refine ⟨⟨⟨trivial, .inr hc_10⟩, .inr hc_11⟩, ?_⟩
        refine mks_elim hh (fun pt76_1 t76_1 hpt76_1 ht76_1 hh => ?_)
        refine .w 6 (by kernel_rfl) rfl (by kernel_rfl) (.e (e_mks [(Sl.nil : Sl)] hpt76_1 ht76_1 zo_22 sl_58 rfl rfl rfl rfl rfl ?_))
        obtain ⟨hc_12, hh⟩ := hh
        obtain ⟨hc_13, hh⟩ := hh
        refine ⟨⟨⟨trivial, .inr hc_12⟩, .inr hc_13⟩, ?_⟩
        refine .w 7 (by kernel_rfl) rfl (by kernel_rfl) (.e (e_app sl_58 zo_22 by_22 rfl rfl rfl hh ?_))
        intro h t77_2 hh
        obtain ⟨hc_14, hh⟩ := hh
        refine ⟨⟨⟨trivial, .inl (by kernel_rfl)⟩, .inr hc_14⟩, ?_⟩
        refine .w 14 (by kernel_rfl) rfl (by kernel_rfl) (.e (e_app sl_31 zo_24 by_24 rfl rfl rfl hh ?_))
        intro h t84_2 hh
        refine ⟨⟨⟨trivial, .inl (by kernel_rfl)⟩, .inl (by kernel_rfl)⟩, ?_⟩
        refine .P 15 rfl (v_nilCheck (congrArg Value.pointer hp_1)) (.P 16 rfl (v_fieldAddr fl_61_6 rfl) ?_)
        obtain ⟨xw_5, hxw_5, hwxw_5, hh⟩ := hh
        refine .w 17 (by kernel_rfl) rfl (by kernel_rfl) (.e (e_storeN (p := p_1) (nv := enc (t77_2 : Sl)) 7 rfl rfl rfl sz_58 (one_sl _) hxw_5 hwxw_5 (len_law19_Game _) (len_sl _) rfl (set_61_own xw_5 (t77_2 : Sl)) ?_))
        refine ⟨⟨⟨trivial, .inl (by kernel_rfl)⟩, .inl (by kernel_rfl)⟩, ?_⟩
        refine .P 18 rfl (v_nilCheck (congrArg Value.pointer hp_1)) (.P 19 rfl (v_fieldAddr fl_61_7 rfl) ?_)
        obtain ⟨xw_6, hxw_6, hwxw_6, hh⟩ := hh
        refine .w 20 (by kernel_rfl) rfl (by kernel_rfl) (.e (e_storeN (p := p_1) (nv := enc (t84_2 : Sl)) 8 rfl rfl rfl sz_31 (one_sl _) hxw_6 hwxw_6 (len_law19_Game _) (len_sl _) rfl (set_61_decided xw_6 (t84_2 : Sl)) ?_))
        refine ⟨⟨⟨trivial, .inl (by kernel_rfl)⟩, .inl (by kernel_rfl)⟩, ?_⟩
        refine .done (by kernel_rfl) ?_
        refine QN.blockN ?_
        exact QN.thenJ ⟨_, setl_eq ⟨rfl, ⟨rfl, ⟨rfl, ⟨rfl, ⟨rfl, trivial⟩⟩⟩⟩⟩, hh⟩
      ·rintro ρ h ⟨ρ', rfl, hh⟩
       unfold law19_RoundQuick.j2 at hh
       refine CW.region ?_
       refine .M (reg i) (.V (v_iadd rfl rfl) (.A (reg ((iadd i (1 : Int)) : Int)) ?_))
       refine .nil ?_
       exact QN.thenJ ⟨(iadd i (1 : Int)), ⟨_, setl_eq ⟨rfl, ⟨rfl, ⟨rfl, ⟨rfl, ⟨rfl, trivial⟩⟩⟩⟩⟩⟩, hh⟩
     ·have hh := hh.2 hb_3
      refine CW.exit ?_
      refine QN.thenExit ?_
      refine QN.thenExit ?_
      refine QN.blockExit ?_
      exact QN.thenJ ⟨_, setl_eq ⟨rfl, ⟨rfl, ⟨rfl, ⟨rfl, trivial⟩⟩⟩⟩, hh⟩
    ·have hh := hh.2 hb_2
     refine CW.skip ?_
     exact QN.thenJ ⟨_, setl_eq ⟨rfl, ⟨rfl, ⟨rfl, ⟨rfl, trivial⟩⟩⟩⟩, hh⟩
   ·rintro ρ h ⟨ρ', rfl, hh⟩
    unfold law19_RoundQuick.j1 at hh
    refine .sr (.M (reg n) (.M (reg height) ?_))
    refine .e (e_callP fn_30 rfl rfl hh ?_)
    intro h t91 hh
    refine .e (e_callP fn_29 rfl rfl hh ?_)
    intro h t92 hh
    refine .A (reg t92) (.nx (.seq (.sr (.M (reg t39) (.M (reg t92) (.M (reg t39) ?_))))))
    obtain ⟨p_2, hp_2, hh⟩ := hh
    refine .V (v_nilCheck (congrArg Value.pointer hp_2)) (.V (v_fieldAddr fl_61_2 rfl) (.L 3 na_55 get_61_cores hh rfl (fun t98 hh => .M (reg t92) ?_)))
    obtain ⟨t100, ht100, hh⟩ := hh
    refine .V (v_idx_slP sl_55 rfl rfl ht100.1 ht100.2.1 ht100.2.2) (.L 0 na_62 get_62_all hh rfl (fun t101 hh => ?_))
    refine .e (e_callP fn_32 rfl rfl hh ?_)
    intro h t102 hh
    refine .e (e_callP fn_31 rfl rfl hh ?_)
    intro h t103 hh
    refine .V (v_not rfl) (.nx ?_)
    refine CW.cond (!t103) rfl (fun hb_4 => ?_) (fun hb_4 => ?_)
    ·have hh := hh.1 hb_4
     refine .sr (.A (reg false) (.nx ?_))
     refine CW.ret ?_
     refine QN.thenRet ?_
     exact ret1 rfl rfl ⟨(false : Bool), rfl, hh⟩
    ·have hh := hh.2 hb_4
     refine CW.skip ?_
     refine QN.then_ ?_
     refine CW.join (fun ρ h => ∃ (ρ' : Env), ρ = setl ρ' [(7, reg t39)] ∧ (law19_RoundQuick.j3 k) t39 h) ?_ ?_
     ·refine .sr (.M (reg order) (.V (v_len_sl (sl_49).1 rfl) (.M (reg ((0 : Int) : Int)) (.nx ?_))))
      refine CW.block ?_
      unfold law19_RoundQuick.l2 at hh
      refine CW.loop (fun (σ0 : Int) ρ => match σ0 with | t107 => ∃ ρ' : Env, ρ = setl ρ' [(0, reg n), (7, reg t39), (105, reg order), (106, reg ((order.len : Int) : Int)), (107, reg t107)]) hh ⟨_, setl_eq ⟨rfl, ⟨rfl, ⟨rfl, ⟨rfl, ⟨rfl, trivial⟩⟩⟩⟩⟩⟩ ?_
      clear hh
      rintro s2 t107 ρ h ⟨ρ', rfl⟩ hh
      refine .sr (.V (v_ilss rfl rfl) (.nx (.seq ?_)))
      refine CW.cond (decide (t107 < (order.len : Int))) rfl (fun hb_5 => ?_) (fun hb_5 => ?_)
      ·have hh := hh.1 hb_5
       refine CW.skip ?_
       refine QN.then_ ?_
       refine CW.seq ?_
       refine CW.block ?_
       refine .sr ?_
       obtain ⟨t109, ht109, hh⟩ := hh
       refine .V (v_idx_slP sl_49 rfl rfl ht109.1 ht109.2.1 ht109.2.2) (.L 0 na_3 get_3_all hh rfl (fun t110 hh => .A (reg t110) (.nx ?_)))
       refine CW.join (fun ρ h => ∃ (ρ' : Env) (t137 : Bool), ρ = setl ρ' [(0, reg n), (7, reg t39), (105, reg order), (106, reg ((order.len : Int) : Int)), (107, reg t107), (137, reg t137)] ∧ (law19_RoundQuick.j4 k s2) n t39 order (order.len : Int) t107 t137 h) ?_ ?_
       ·refine CW.drawN 27 rfl follows_mixed [0, 1, 2, 3, 4, 5, 6, 7, 8, 9, 10, 11, 12, 13, 14, 15, 16, 17, 18, 19, 20, 21, 22, 23, 25, 26] ?_
        refine .P 0 rfl (v_move (v := reg t39) rfl) ?_
        obtain ⟨p_3, hp_3, hh⟩ := hh
        refine .P 1 rfl (v_nilCheck (congrArg Value.pointer hp_3)) (.P 2 rfl (v_fieldAddr fl_61_5 rfl) (.KL 3 6 na_57 get_61_order rfl hh rfl (fun t114 hh => .P 4 rfl (v_len_sl (sl_57).1 rfl) (.P 5 rfl (v_igtr rfl rfl) (.P 6 rfl (v_move (v := reg ((decide ((0 : Int) < (t114.len : Int))) : Bool)) rfl) ?_)))))
        refine ifb_cases hh (fun hb_6 hh => ?_) (fun hb_6 hh => ?_)
        ·refine .Y 7 117 rfl (cb hb_6) (v_move (v := reg t39) rfl) (.Y 8 117 rfl (cb hb_6) (v_move (v := reg t110) rfl) (.Y 9 117 rfl (cb hb_6) (v_conv_u64 un_3 un_71 rfl) (.Y 10 117 rfl (cb hb_6) (v_move (v := reg n) rfl) (.Y 11 117 rfl (cb hb_6) (v_conv_u64 un_3 un_71 rfl) ?_))))
         obtain ⟨hm, hh⟩ := hh
         refine .Y 12 117 rfl (cb hb_6) (v_rem64 (a := (toU64 t110)) (b := (toU64 n)) rfl rfl hm) (.Y 13 117 rfl (cb hb_6) (v_conv_i64 un_71 un_3 rfl) (.Y 14 117 rfl (cb hb_6) (v_move (v := reg t110) rfl) (.Y 15 117 rfl (cb hb_6) (v_conv_u64 un_3 un_71 rfl) (.Y 16 117 rfl (cb hb_6) (v_move (v := reg t39) rfl) (.Y 17 117 rfl (cb hb_6) (v_nilCheck (congrArg Value.pointer hp_3)) (.Y 18 117 rfl (cb hb_6) (v_fieldAddr fl_61_5 rfl) (.YL 19 117 6 na_57 get_61_order rfl (cb hb_6) hh rfl (fun t130 hh => .Y 20 117 rfl (cb hb_6) (v_len_sl (sl_57).1 rfl) (.Y 21 117 rfl (cb hb_6) (v_conv_u64 un_3 un_71 rfl) ?_)))))))))
         obtain ⟨hm_1, hh⟩ := hh
         refine .Y 22 117 rfl (cb hb_6) (v_rem64 (a := (toU64 t110)) (b := (toU64 (t130.len : Int))) rfl rfl hm_1) (.Y 23 117 rfl (cb hb_6) (v_conv_i64 un_71 un_3 rfl) ?_)
         refine .w 24 (by kernel_rfl) rfl (by kernel_rfl) (.ye 117 rfl (cb hb_6) rfl (e_callP fn_33 rfl rfl hh ?_))
         intro h t135 hh
         refine ⟨⟨⟨trivial, .inl (by kernel_rfl)⟩, .inl (by kernel_rfl)⟩, ?_⟩
         refine .Y 25 117 rfl (cb hb_6) (v_not rfl) (.P 26 rfl (v_pickT (v := reg ((!t135) : Bool)) rfl hb_6 rfl) ?_)
         refine .done (by kernel_rfl) ?_
         exact QN.thenJ ⟨_, (!t135), setl_eq ⟨rfl, ⟨rfl, ⟨rfl, ⟨rfl, ⟨rfl, ⟨rfl, trivial⟩⟩⟩⟩⟩⟩, hh⟩
        ·refine .N 7 117 rfl (cb hb_6) (.N 8 117 rfl (cb hb_6) (.N 9 117 rfl (cb hb_6) (.N 10 117 rfl (cb hb_6) (.N 11 117 rfl (cb hb_6) (.N 12 117 rfl (cb hb_6) (.N 13 117 rfl (cb hb_6) (.N 14 117 rfl (cb hb_6) (.N 15 117 rfl (cb hb_6) (.N 16 117 rfl (cb hb_6) ?_)))))))))
         refine .N 17 117 rfl (cb hb_6) (.N 18 117 rfl (cb hb_6) (.N 19 117 rfl (cb hb_6) (.N 20 117 rfl (cb hb_6) (.N 21 117 rfl (cb hb_6) (.N 22 117 rfl (cb hb_6) (.N 23 117 rfl (cb hb_6) ?_))))))
         refine .w 24 (by kernel_rfl) rfl (by kernel_rfl) (.no 117 rfl (cb hb_6) rfl rfl ⟨⟨trivial, .inl (by kernel_rfl)⟩, ?_⟩)
         refine .N 25 117 rfl (cb hb_6) (.P 26 rfl (v_pickF (v := reg false) rfl hb_6 rfl) ?_)
         refine .done (by kernel_rfl) ?_
         exact QN.thenJ ⟨_, false, setl_eq ⟨rfl, ⟨rfl, ⟨rfl, ⟨rfl, ⟨rfl, ⟨rfl, trivial⟩⟩⟩⟩⟩⟩, hh⟩
       ·rintro ρ h ⟨ρ', t137, rfl, hh⟩
        unfold law19_RoundQuick.j4 at hh
        refine CW.cond t137 rfl (fun hb_7 => ?_) (fun hb_7 => ?_)
        ·have hh := hh.1 hb_7
         refine .sr (.A (reg false) (.nx ?_))
         refine CW.ret ?_
         refine QN.blockRet ?_
         refine QN.thenRet ?_
         refine QN.thenRet ?_
         refine QN.blockRet ?_
         refine QN.thenRet ?_
         exact ret1 rfl rfl ⟨(false : Bool), rfl, hh⟩
        ·have hh := hh.2 hb_7
         refine CW.skip ?_
         refine QN.blockN ?_
         refine QN.then_ ?_
         refine CW.region ?_
         refine .V (v_iadd rfl rfl) (.M (reg ((iadd t107 (1 : Int)) : Int)) ?_)
         refine .nil ?_
         exact QN.thenJ ⟨(iadd t107 (1 : Int)), ⟨_, setl_eq ⟨rfl, ⟨rfl, ⟨rfl, ⟨rfl, ⟨rfl, trivial⟩⟩⟩⟩⟩⟩, hh⟩
      ·have hh := hh.2 hb_5
       refine CW.exit ?_
       refine QN.thenExit ?_
       refine QN.thenExit ?_
       refine QN.blockExit ?_
       exact QN.thenJ ⟨_, setl_eq ⟨rfl, trivial⟩, hh⟩
     ·rintro ρ h ⟨ρ', rfl, hh⟩
      unfold law19_RoundQuick.j3 at hh
      refine CW.join (fun ρ h => ∃ (ρ' : Env), ρ = setl ρ' [(7, reg t39)] ∧ (law19_RoundQuick.j5 k) t39 h) ?_ ?_
      ·refine .sr (.A (reg ((0 : Int) : Int)) (.nx ?_))
       refine CW.block ?_
       unfold law19_RoundQuick.l3 at hh
       refine CW.loop (fun (σ0 : Int) ρ => match σ0 with | i_2 => ∃ ρ' : Env, ρ = setl ρ' [(7, reg t39), (12, reg i_2)]) hh ⟨_, setl_eq ⟨rfl, ⟨rfl, trivial⟩⟩⟩ ?_
       clear hh
       rintro s3 i_2 ρ h ⟨ρ', rfl⟩ hh
       refine CW.seq ?_
       refine .sr (.M (reg i_2) (.M (reg t39) ?_))
       obtain ⟨p_4, hp_4, hh⟩ := hh
       refine .V (v_nilCheck (congrArg Value.pointer hp_4)) (.V (v_fieldAddr fl_61_5 rfl) (.L 6 na_57 get_61_order hh rfl (fun t143 hh => .V (v_len_sl (sl_57).1 rfl) (.V (v_ilss rfl rfl) (.nx ?_)))))
       refine CW.cond (decide (i_2 < (t143.len : Int))) rfl (fun hb_8 => ?_) (fun hb_8 => ?_)
       ·have hh := hh.1 hb_8
        refine CW.skip ?_
        refine QN.then_ ?_
        refine CW.join (fun ρ h => ∃ (ρ' : Env), ρ = setl ρ' [(7, reg t39), (12, reg i_2)] ∧ (law19_RoundQuick.j6 s3) t39 i_2 h) ?_ ?_
        ·refine CW.block ?_
         refine .sr (.M (reg t39) (.V (v_nilCheck (congrArg Value.pointer hp_4)) (.V (v_fieldAddr fl_61_2 rfl) (.L 3 na_55 get_61_cores hh rfl (fun t151 hh => .V (v_len_sl (sl_55).1 rfl) (.M (reg ((0 : Int) : Int)) (.nx ?_)))))))
         refine CW.block ?_
         unfold law19_RoundQuick.l4 at hh
         refine CW.loop (fun (σ0 : Int) ρ => match σ0 with | t153 => ∃ ρ' : Env, ρ = setl ρ' [(7, reg t39), (12, reg i_2), (152, reg ((t151.len : Int) : Int)), (153, reg t153)]) hh ⟨_, setl_eq ⟨rfl, ⟨rfl, ⟨rfl, ⟨rfl, trivial⟩⟩⟩⟩⟩ ?_
         clear hh
         rintro s4 t153 ρ h ⟨ρ', rfl⟩ hh
         refine .sr (.V (v_ilss rfl rfl) (.nx (.seq ?_)))
         refine CW.cond (decide (t153 < (t151.len : Int))) rfl (fun hb_9 => ?_) (fun hb_9 => ?_)
         ·have hh := hh.1 hb_9
          refine CW.skip ?_
          refine QN.then_ ?_
          refine CW.seq ?_
          refine CW.block ?_
          refine .sr (.M (reg t153) (.A (reg t153) (.nx (.sr (.M (reg t39) (.M (reg t153) (.M (reg i_2) ?_)))))))
          refine .e (e_callP fn_33 rfl rfl hh ?_)
          intro h t159 hh
          refine .V (v_not rfl) (.nx ?_)
          refine CW.cond (!t159) rfl (fun hb_10 => ?_) (fun hb_10 => ?_)
          ·have hh := hh.1 hb_10
           refine .sr (.A (reg false) (.nx ?_))
           refine CW.ret ?_
           refine QN.blockRet ?_
           refine QN.thenRet ?_
           refine QN.thenRet ?_
           refine QN.blockRet ?_
           refine QN.blockRet ?_
           refine QN.thenRet ?_
           refine QN.thenRet ?_
           refine QN.blockRet ?_
           refine QN.thenRet ?_
           exact ret1 rfl rfl ⟨(false : Bool), rfl, hh⟩
          ·have hh := hh.2 hb_10
           refine CW.skip ?_
           refine QN.blockN ?_
           refine QN.then_ ?_
           refine CW.region ?_
           refine .V (v_iadd rfl rfl) (.M (reg ((iadd t153 (1 : Int)) : Int)) ?_)
           refine .nil ?_
           exact QN.thenJ ⟨(iadd t153 (1 : Int)), ⟨_, setl_eq ⟨rfl, ⟨rfl, ⟨rfl, ⟨rfl, trivial⟩⟩⟩⟩⟩, hh⟩
         ·have hh := hh.2 hb_9
          refine CW.exit ?_
          refine QN.thenExit ?_
          refine QN.thenExit ?_
          refine QN.blockExit ?_
          refine QN.blockN ?_
          exact QN.thenJ ⟨_, setl_eq ⟨rfl, ⟨rfl, trivial⟩⟩, hh⟩
        ·rintro ρ h ⟨ρ', rfl, hh⟩
         unfold law19_RoundQuick.j6 at hh
         refine CW.region ?_
         refine .M (reg i_2) (.V (v_iadd rfl rfl) (.A (reg ((iadd i_2 (1 : Int)) : Int)) ?_))
         refine .nil ?_
         exact QN.thenJ ⟨(iadd i_2 (1 : Int)), ⟨_, setl_eq ⟨rfl, ⟨rfl, trivial⟩⟩⟩, hh⟩
       ·have hh := hh.2 hb_8
        refine CW.exit ?_
        refine QN.thenExit ?_
        refine QN.thenExit ?_
        refine QN.blockExit ?_
        exact QN.thenJ ⟨_, setl_eq ⟨rfl, trivial⟩, hh⟩
      ·rintro ρ h ⟨ρ', rfl, hh⟩
       unfold law19_RoundQuick.j5 at hh
       refine CW.seq ?_
       refine .sr (.M (reg t39) ?_)
       obtain ⟨p_5, hp_5, hh⟩ := hh
       refine .V (v_nilCheck (congrArg Value.pointer hp_5)) (.V (v_fieldAddr fl_61_3 rfl) (.L 4 na_56 get_61_plans hh rfl (fun t165 hh => .V (v_len_sl (sl_56).1 rfl) (.V (v_ieql rfl rfl) (.nx ?_)))))
       refine CW.cond ((t165.len : Int) == (0 : Int)) rfl (fun hb_11 => ?_) (fun hb_11 => ?_)
       ·have hh := hh.1 hb_11
        refine .sr (.A (reg false) (.nx ?_))
        refine CW.ret ?_
        refine QN.thenRet ?_
        exact ret1 rfl rfl ⟨(false : Bool), rfl, hh⟩
       ·have hh := hh.2 hb_11
        refine CW.skip ?_
        refine QN.then_ ?_
        refine CW.join (fun ρ h => ∃ (ρ' : Env), ρ = setl ρ' [] ∧ (law19_RoundQuick.j7 k)  h) ?_ ?_
        ·refine .sr (.M (reg t39) (.V (v_nilCheck (congrArg Value.pointer hp_5)) (.V (v_fieldAddr fl_61_7 rfl) (.L 8 na_31 get_61_decided hh rfl (fun t171 hh => .V (v_len_sl (sl_31).1 rfl) (.M (reg ((0 : Int) : Int)) (.nx ?_)))))))
         refine CW.block ?_
         unfold law19_RoundQuick.l5 at hh
         refine CW.loop (fun (σ0 : Int) ρ => match σ0 with | t173 => ∃ ρ' : Env, ρ = setl ρ' [(7, reg t39), (171, reg t171), (172, reg ((t171.len : Int) : Int)), (173, reg t173)]) hh ⟨_, setl_eq ⟨rfl, ⟨rfl, ⟨rfl, ⟨rfl, trivial⟩⟩⟩⟩⟩ ?_
         clear hh
         rintro s5 t173 ρ h ⟨ρ', rfl⟩ hh
         refine .sr (.V (v_ilss rfl rfl) (.nx (.seq ?_)))
         refine CW.cond (decide (t173 < (t171.len : Int))) rfl (fun hb_12 => ?_) (fun hb_12 => ?_)
         ·have hh := hh.1 hb_12
          refine CW.skip ?_
          refine QN.then_ ?_
          refine CW.seq ?_
          refine CW.block ?_
          refine .sr ?_
          obtain ⟨t175, ht175, hh⟩ := hh
          refine .V (v_idx_slP sl_31 rfl rfl ht175.1 ht175.2.1 ht175.2.2) (.LA 0 ag_24 get_24_all (fun _ => (arr_len (n := 32) _)) hh rfl (fun t176 hh => ?_))
          refine box_elim hh (fun d hd hh => ?_)
          refine .e (e_allocP hd zo_24 rfl ?_)
          refine .S (t176 : Arr 32 UInt8) 0 sz_24 (one_arr (n := 32) (fun _ => rfl) _) (fun _ => arr_len (n := 32) _) (arr_len (n := 32) _) (fun x => set_24_all x (t176 : Arr 32 UInt8)) hh rfl rfl (fun _ hh => .nx (.seq ?_))
          refine CW.drawN 10 rfl follows_mixed [0, 1, 2, 3, 4, 5, 6, 7, 9] ?_
          refine .KA 0 0 ag_24 get_24_all (fun _ => (arr_len (n := 32) _)) rfl hh rfl (fun t177 hh => .P 1 rfl (v_move (v := reg t39) rfl) ?_)
          obtain ⟨p_6, hp_6, hh⟩ := hh
          refine .P 2 rfl (v_nilCheck (congrArg Value.pointer hp_6)) (.P 3 rfl (v_fieldAddr fl_61_3 rfl) (.KL 4 4 na_56 get_61_plans rfl hh rfl (fun t181 hh => ?_)))
          obtain ⟨t182, ht182, hh⟩ := hh
          refine .P 5 rfl (v_idx_slP sl_56 rfl rfl ht182.1 ht182.2.1 ht182.2.2) (.P 6 rfl (v_fieldAddr fl_77_4 rfl) (.KA 7 4 ag_75 get_77_Block (fun _ => (len_api_Block _)) rfl hh rfl (fun t184 hh => ?_)))
          refine .w 8 (by kernel_rfl) rfl (by kernel_rfl) (.e (e_callP fn_34 rfl rfl hh ?_))
          intro h t185 hh
          obtain ⟨hc_15, hh⟩ := hh
          refine ⟨⟨⟨⟨trivial, .inr hc_15⟩, .inl (by kernel_rfl)⟩, .inl (by kernel_rfl)⟩, ?_⟩
          refine .P 9 rfl (v_ne_arr8 bt_24 rfl rfl) ?_
          refine .done (by kernel_rfl) ?_
          refine QN.then_ ?_
          refine CW.cond (!decide (t177 = t185)) rfl (fun hb_13 => ?_) (fun hb_13 => ?_)
          ·have hh := hh.1 hb_13
           refine .sr (.A (reg false) (.nx ?_))
           refine CW.ret ?_
           refine QN.blockRet ?_
           refine QN.thenRet ?_
           refine QN.thenRet ?_
           refine QN.blockRet ?_
           refine QN.thenRet ?_
           exact ret1 rfl rfl ⟨(false : Bool), rfl, hh⟩
          ·have hh := hh.2 hb_13
           refine CW.skip ?_
           refine QN.blockN ?_
           refine QN.then_ ?_
           refine CW.region ?_
           refine .V (v_iadd rfl rfl) (.M (reg ((iadd t173 (1 : Int)) : Int)) ?_)
           refine .nil ?_
           exact QN.thenJ ⟨(iadd t173 (1 : Int)), ⟨_, setl_eq ⟨rfl, ⟨rfl, ⟨rfl, ⟨rfl, trivial⟩⟩⟩⟩⟩, hh⟩
         ·have hh := hh.2 hb_12
          refine CW.exit ?_
          refine QN.thenExit ?_
          refine QN.thenExit ?_
          refine QN.blockExit ?_
          exact QN.thenJ ⟨_, setl_eq trivial, hh⟩
        ·rintro ρ h ⟨ρ', rfl, hh⟩
         unfold law19_RoundQuick.j7 at hh
         refine .sr (.A (reg true) (.nx ?_))
         refine CW.ret ?_
         exact ret1 rfl rfl ⟨(true : Bool), rfl, hh⟩
theorem Faults8_spec (n : Nat) (h1 : 1 ≤ n) (h10 : n ≤ 1000) {k : Int → H → Prop} {h : H} (hk : k (((n - 1) / 3 : Nat) : Int) h) : call (β := Int) Prog 27 [reg ((n : Int) : Int)] k h := by
  refine ref08_Faults.ok _ _ _ ?_
  unfold ref08_Faults.b ref08_Faults.l1
  refine ⟨fun (t : Int) h' => h' = h ∧ ∃ f : Nat, t = f ∧ f ≤ (n - 1) / 3, fun t _ => ((n : Int) - t).toNat, ⟨rfl, 0, rfl, Nat.zero_le _⟩, ?_⟩
  rintro t h' ⟨rfl, f, rfl, hf⟩
  have e1 : iadd (f : Int) 1 = ((f + 1 : Nat) : Int) := by rw [iadd_eq (by omega) (by omega)]; omega
  have e2 : imul 3 ((f + 1 : Nat) : Int) = 3 * ((f + 1 : Nat) : Int) := imul_eq (by omega) (by omega)
  have e3 : iadd (3 * ((f + 1 : Nat) : Int)) 1 = 3 * ((f + 1 : Nat) : Int) + 1 := iadd_eq (by omega) (by omega)
  rw [e1, e2, e3]
  refine ifb_i (fun hc => ?_) (fun hc => ?_)
  · have hc' : 3 * ((f + 1 : Nat) : Int) + 1 ≤ n := by simpa using hc
    exact ⟨⟨rfl, f + 1, rfl, by omega⟩, by dsimp only; omega⟩
  · have hc' : ¬ 3 * ((f + 1 : Nat) : Int) + 1 ≤ n := by simpa using hc
    have : f = (n - 1) / 3 := by omega
    unfold ref08_Faults.j1
    rw [this]; exact hk
/-- the game with so many cores, of which none has heard anything -/
def G0 (x : law19_Game) (cs : List CS) : GG := ⟨x, cs, [], [], [], List.replicate cs.length (Sl.nil, []), List.replicate cs.length dz, [], []⟩
section
variable {h0 h : H} {S : List Nat} {L : List En}
theorem more_core {g : Addr} {N : Nat} {x : law19_Game} {cs : List CS} {c : CS} {r1 r2 r3 : Sl}
    (hs : Sat h0 S h ([cel 61 g (enc { x with cores := r1, own := r2, decided := r3 }), own 110 34 x.config.Members (memN N), own 62 1 r1 (cs.map (fun c => (some c.p : Pt)) ++ [some c.p]), own 22 1 r2 ((List.replicate cs.length ((Sl.nil, []) : Sl × List api_Vote)).map (·.1) ++ [Sl.nil]), own 24 32 r3 (List.replicate cs.length dz ++ [dz]), own 77 108 x.plans (([] : List (api_Plan × List api_Request)).map (·.1)), own 37 41 x.votes ([] : List api_Vote), own 4 1 x.order ([] : List Bool), own 75 99 x.others (([] : List (api_Block × List api_Request)).map (·.1)), kE []] ++ (core c ++ ((List.replicate cs.length ((Sl.nil, []) : Sl × List api_Vote)).map owE ++ (cs.flatMap core ++ L))))) :
    Sat h0 S h (gmX g N (G0 { x with cores := r1, own := r2, decided := r3 } (cs ++ [c])) L) := by
  have h1 := hs.nilOwn (T := 37) (n := 41) (α := api_Vote)
  have e1 : (cs ++ [c]).flatMap core = cs.flatMap core ++ core c := by simp
  have e2 : (List.replicate (cs ++ [c]).length ((Sl.nil, []) : Sl × List api_Vote)) = List.replicate cs.length (Sl.nil, []) ++ [(Sl.nil, [])] := by simp [List.replicate_succ']
  have e3 : List.replicate (cs ++ [c]).length dz = List.replicate cs.length dz ++ [dz] := by simp [List.replicate_succ']
  have e4 : (cs ++ [c]).map (fun c => (some c.p : Pt)) = cs.map (fun c => (some c.p : Pt)) ++ [some c.p] := by simp
  unfold G0 gmX gpre
  rw [e2, e3]
  simp only
  rw [e1, e4, List.map_append, List.map_append]
  refine h1.perm ?_
  generalize core c = K
  generalize (List.replicate cs.length ((Sl.nil, []) : Sl × List api_Vote)).map owE = O
  generalize cs.flatMap core = C
  have p1 : ∀ G : List En, (own 37 41 Sl.nil ([] : List api_Vote) :: (G ++ (K ++ (O ++ (C ++ L))))).Perm ((G ++ (O ++ [owE (Sl.nil, [])])) ++ ((C ++ K) ++ L)) := by
    intro G
    have a1 := List.perm_append_comm_assoc [own 37 41 Sl.nil ([] : List api_Vote)] G (K ++ (O ++ (C ++ L)))
    have a2 := (List.perm_append_comm_assoc K O (C ++ L)).append_left [own 37 41 Sl.nil ([] : List api_Vote)]
    have a3 := ((List.perm_append_comm_assoc K C L).append_left O).append_left [own 37 41 Sl.nil ([] : List api_Vote)]
    have a4 := List.perm_append_comm_assoc [own 37 41 Sl.nil ([] : List api_Vote)] O (C ++ (K ++ L))
    have a5 := (a2.trans (a3.trans a4)).append_left G
    have a6 := a1.trans a5
    simpa [List.append_assoc, owE] using a6
  exact p1 _
theorem more_j2 {g : Addr} {N : Nat} {ht : Int} {x : law19_Game} {cs : List CS} {c : CS} {t1 t2 t3 : En} {r1 r2 r3 order : Sl} {s1 : Int → H → Prop}
    (hs : Sat h0 S h (t1 :: t2 :: t3 :: (core c ++ ([cel 61 g (enc { x with cores := r1, own := r2, decided := r3 }), own 110 34 x.config.Members (memN N), own 62 1 r1 (cs.map (fun c => (some c.p : Pt)) ++ [some c.p]), own 22 1 r2 ((List.replicate cs.length ((Sl.nil, []) : Sl × List api_Vote)).map (·.1) ++ [Sl.nil]), own 24 32 r3 (List.replicate cs.length dz ++ [dz]), own 77 108 x.plans (([] : List (api_Plan × List api_Request)).map (·.1)), own 37 41 x.votes ([] : List api_Vote), own 4 1 x.order ([] : List Bool), own 75 99 x.others (([] : List (api_Block × List api_Request)).map (·.1)), kE []] ++ ((List.replicate cs.length ((Sl.nil, []) : Sl × List api_Vote)).map owE ++ (cs.flatMap core ++ L))))))
    (hc : cs.length < 100) (hk : ∀ x' h', x'.height = x.height → x'.config.Epoch = x.config.Epoch → Sat h0 S h' (gmX g N (G0 x' (cs ++ [c])) L) → s1 ((cs.length + 1 : Nat) : Int) h') :
    law19_RoundQuick.j2 s1 (N : Int) ht order (some g) (cs.length : Int) h := by
  unfold law19_RoundQuick.j2
  have e : iadd (cs.length : Int) 1 = ((cs.length + 1 : Nat) : Int) := by rw [iadd_eq (by omega) (by omega)]; omega
  rw [e]
  have hs2 : Sat h0 S h ([cel 61 g (enc { x with cores := r1, own := r2, decided := r3 }), own 110 34 x.config.Members (memN N), own 62 1 r1 (cs.map (fun c => (some c.p : Pt)) ++ [some c.p]), own 22 1 r2 ((List.replicate cs.length ((Sl.nil, []) : Sl × List api_Vote)).map (·.1) ++ [Sl.nil]), own 24 32 r3 (List.replicate cs.length dz ++ [dz]), own 77 108 x.plans (([] : List (api_Plan × List api_Request)).map (·.1)), own 37 41 x.votes ([] : List api_Vote), own 4 1 x.order ([] : List Bool), own 75 99 x.others (([] : List (api_Block × List api_Request)).map (·.1)), kE []] ++ (core c ++ ((List.replicate cs.length ((Sl.nil, []) : Sl × List api_Vote)).map owE ++ (cs.flatMap core ++ L)))) :=
    hs.sel 21 [11, 12, 13, 14, 15, 16, 17, 18, 19, 20, 3, 4, 5, 6, 7, 8, 9, 10] (by decide) (by decide)
  have hs3 := more_core hs2
  exact hk { x with cores := r1, own := r2, decided := r3 } h rfl rfl hs3
end
section
variable {h0 h : H} {L : List En}
theorem more_app {g : Addr} {N : Nat} {ht : Int} {x : law19_Game} {cs : List CS} {c : CS} {order : Sl} {s1 : Int → H → Prop} (h10 : cs.length < 10)
    (hs : Sat h0 [] h (core c ++ gmX g N (G0 x cs) L)) (hk : ∀ x' h', x'.height = x.height → x'.config.Epoch = x.config.Epoch → Sat h0 [] h' (gmX g N (G0 x' (cs ++ [c])) L) → s1 ((cs.length + 1 : Nat) : Int) h') :
    (chk g (fun (x : law19_Game) => x.cores) x.cores <| mks 62 [((some c.p : Pt) : Pt)] fun t66 => chk g (fun (x : law19_Game) => x.cores) x.cores <| app 62 1 8 (enc (none : Pt)) x.cores t66 fun t67 => st g (fun (x : law19_Game) => { x with cores := t67 }) <| ld g (fun (x : law19_Game) => x.own) fun t75 => ld g (fun (x : law19_Game) => x.decided) fun t81 => both (mks 22 [(Sl.nil : Sl)] fun t76 => chk g (fun (x : law19_Game) => x.own) t75 <| chk g (fun (x : law19_Game) => x.decided) t81 <| both (app 22 1 24 (enc (Sl.nil : Sl)) t75 t76 fun t77 => chk g (fun (x : law19_Game) => x.decided) t81 <| mks 24 [((arrOf [0, 0, 0, 0, 0, 0, 0, 0, 0, 0, 0, 0, 0, 0, 0, 0, 0, 0, 0, 0, 0, 0, 0, 0, 0, 0, 0, 0, 0, 0, 0, 0] : Arr 32 UInt8) : Arr 32 UInt8)] fun t83 => chk g (fun (x : law19_Game) => x.own) t75 <| chk g (fun (x : law19_Game) => x.decided) t81 <| app 24 32 32 (enc ((fun _ => 0) : Arr 32 UInt8)) t81 t83 fun t84 => st g (fun (x : law19_Game) => { x with own := t77 }) <| st g (fun (x : law19_Game) => { x with decided := t84 }) <| (law19_RoundQuick.j2 s1) (N : Int) ht order (some g) (cs.length : Int)) (mks 24 [((arrOf [0, 0, 0, 0, 0, 0, 0, 0, 0, 0, 0, 0, 0, 0, 0, 0, 0, 0, 0, 0, 0, 0, 0, 0, 0, 0, 0, 0, 0, 0, 0, 0] : Arr 32 UInt8) : Arr 32 UInt8)] fun t83_1 => chk g (fun (x : law19_Game) => x.own) t75 <| chk g (fun (x : law19_Game) => x.decided) t81 <| app 22 1 24 (enc (Sl.nil : Sl)) t75 t76 fun t77_1 => chk g (fun (x : law19_Game) => x.decided) t81 <| app 24 32 32 (enc ((fun _ => 0) : Arr 32 UInt8)) t81 t83_1 fun t84_1 => st g (fun (x : law19_Game) => { x with own := t77_1 }) <| st g (fun (x : law19_Game) => { x with decided := t84_1 }) <| (law19_RoundQuick.j2 s1) (N : Int) ht order (some g) (cs.length : Int))) (mks 24 [((arrOf [0, 0, 0, 0, 0, 0, 0, 0, 0, 0, 0, 0, 0, 0, 0, 0, 0, 0, 0, 0, 0, 0, 0, 0, 0, 0, 0, 0, 0, 0, 0, 0] : Arr 32 UInt8) : Arr 32 UInt8)] fun t83_2 => chk g (fun (x : law19_Game) => x.own) t75 <| chk g (fun (x : law19_Game) => x.decided) t81 <| mks 22 [(Sl.nil : Sl)] fun t76_1 => chk g (fun (x : law19_Game) => x.own) t75 <| chk g (fun (x : law19_Game) => x.decided) t81 <| app 22 1 24 (enc (Sl.nil : Sl)) t75 t76_1 fun t77_2 => chk g (fun (x : law19_Game) => x.decided) t81 <| app 24 32 32 (enc ((fun _ => 0) : Arr 32 UInt8)) t81 t83_2 fun t84_2 => st g (fun (x : law19_Game) => { x with own := t77_2 }) <| st g (fun (x : law19_Game) => { x with decided := t84_2 }) <| (law19_RoundQuick.j2 s1) (N : Int) ht order (some g) (cs.length : Int))) h := by
  rw [zero32']
  refine hs.chk_ 8 rfl rfl ?_
  refine hs.mks_ (n := 1) (fun t66 h1 hs1 _ _ => ?_)
  refine hs1.chk_ 9 rfl rfl ?_
  refine hs1.app_ 11 rfl (hs1.ownSV 0 rfl (fun _ => rfl)) (fun _ => rfl) (fun _ => rfl) rfl ?_ ?_ (fun r1 h2 hs2 _ => ?_)
  · simp only [G0, List.length_map, List.length_cons, List.length_nil, maxBytes]; omega
  · simp only [G0, List.length_map, List.length_cons, List.length_nil]; omega
  refine hs2.st_ 9 rfl len_game (fun h3 hs3 _ => ?_)
  refine hs3.ld_ 9 rfl (hs3.ld_ 9 rfl ⟨?_, ?_⟩)
  · refine hs3.mks_ (n := 1) (fun t76 h4 hs4 _ _ => ?_)
    refine hs4.chk_ 10 rfl rfl (hs4.chk_ 10 rfl rfl ⟨?_, ?_⟩)
    · refine hs4.app_ 13 rfl (hs4.ownSV 0 rfl (fun _ => rfl)) (fun _ => rfl) (fun _ => rfl) rfl ?_ ?_ (fun r2 h5 hs5 _ => ?_)
      · simp only [G0, List.length_map, List.length_replicate, List.length_cons, List.length_nil, maxBytes]; omega
      · simp only [G0, List.length_map, List.length_replicate, List.length_cons, List.length_nil]; omega
      refine hs5.chk_ 10 rfl rfl ?_
      refine hs5.mks_ (n := 32) (fun t83 h6 hs6 _ _ => ?_)
      refine hs6.chk_ 11 rfl rfl (hs6.chk_ 11 rfl rfl ?_)
      refine hs6.app_ 15 rfl (hs6.ownSV 0 rfl arr_len) arr_len one_dig (arr_len _) ?_ ?_ (fun r3 h7 hs7 _ => ?_)
      · simp only [G0, List.length_replicate, List.length_cons, List.length_nil, maxBytes]; omega
      · simp only [G0, List.length_replicate, List.length_cons, List.length_nil]; omega
      refine hs7.st_ 11 rfl len_game (fun h8 hs8 _ => ?_)
      refine hs8.st_ 11 rfl len_game (fun h9 hs9 _ => ?_)
      exact more_j2 (r1 := r1) (r2 := r2) (r3 := r3) (x := x) hs9 (by omega) hk
    · refine hs4.mks_ (n := 32) (fun t83 h6 hs6 _ _ => ?_)
      refine hs6.chk_ 11 rfl rfl (hs6.chk_ 11 rfl rfl ?_)
      refine hs6.app_ 14 rfl (hs6.ownSV 1 rfl (fun _ => rfl)) (fun _ => rfl) (fun _ => rfl) rfl ?_ ?_ (fun r2 h5 hs5 _ => ?_)
      · simp only [G0, List.length_map, List.length_replicate, List.length_cons, List.length_nil, maxBytes]; omega
      · simp only [G0, List.length_map, List.length_replicate, List.length_cons, List.length_nil]; omega
      refine hs5.chk_ 11 rfl rfl ?_
      refine hs5.app_ 15 rfl (hs5.ownSV 0 rfl arr_len) arr_len one_dig (arr_len _) ?_ ?_ (fun r3 h7 hs7 _ => ?_)
      · simp only [G0, List.length_replicate, List.length_cons, List.length_nil, maxBytes]; omega
      · simp only [G0, List.length_replicate, List.length_cons, List.length_nil]; omega
      refine hs7.st_ 11 rfl len_game (fun h8 hs8 _ => ?_)
      refine hs8.st_ 11 rfl len_game (fun h9 hs9 _ => ?_)
      exact more_j2 (r1 := r1) (r2 := r2) (r3 := r3) (x := x) hs9 (by omega) hk
  · refine hs3.mks_ (n := 32) (fun t83 h4 hs4 _ _ => ?_)
    refine hs4.chk_ 10 rfl rfl (hs4.chk_ 10 rfl rfl ?_)
    refine hs4.mks_ (n := 1) (fun t76 h6 hs6 _ _ => ?_)
    refine hs6.chk_ 11 rfl rfl (hs6.chk_ 11 rfl rfl ?_)
    refine hs6.app_ 14 rfl (hs6.ownSV 0 rfl (fun _ => rfl)) (fun _ => rfl) (fun _ => rfl) rfl ?_ ?_ (fun r2 h5 hs5 _ => ?_)
    · simp only [G0, List.length_map, List.length_replicate, List.length_cons, List.length_nil, maxBytes]; omega
    · simp only [G0, List.length_map, List.length_replicate, List.length_cons, List.length_nil]; omega
    refine hs5.chk_ 11 rfl rfl ?_
    refine hs5.app_ 15 rfl (hs5.ownSV 1 rfl arr_len) arr_len one_dig (arr_len _) ?_ ?_ (fun r3 h7 hs7 _ => ?_)
    · simp only [G0, List.length_replicate, List.length_cons, List.length_nil, maxBytes]; omega
    · simp only [G0, List.length_replicate, List.length_cons, List.length_nil]; omega
    refine hs7.st_ 11 rfl len_game (fun h8 hs8 _ => ?_)
    refine hs8.st_ 11 rfl len_game (fun h9 hs9 _ => ?_)
    exact more_j2 (r1 := r1) (r2 := r2) (r3 := r3) (x := x) hs9 (by omega) hk
end
section
variable {h0 h : H} {L : List En}
theorem Ghear2 {n : Nat} {ht : Int} {I : AG → Nat → List PA → Prop} {g : Addr} {G : GG} {i : Nat} {m : Int} {k : Bool → H → Prop} (hI : GI n ht I) (hT : Tb h0)
    (hR : RawOk h0 ht G) (hA : i < G.ab.cs.length ∧ G.ab.own.length = G.ab.cs.length ∧ G.ab.dc.length = G.ab.cs.length ∧ G.ab.cs.length ≤ 10 ∧ (∀ (j : Nat) c, G.ab.cs[j]? = some c → Cok c ∧ c.acts = [] ∧ c.ht = ht ∧ c.vts.length + 1 < 2 ^ 19) ∧ G.ab.pls.length < 2 ^ 30 ∧ G.ab.vts.length < 2 ^ 30 ∧ G.ab.ord.length < 2 ^ 30 ∧ G.ab.oth.length < 2 ^ 30 ∧ (∀ l ∈ G.ab.own, l.length < 2 ^ 30) ∧ ([] : List PA).length < 2 ^ 30) (hO : OrdOk G.ab) (hpr : ∀ e ∈ G.pls, 0 ≤ e.1.Round ∧ e.1.Round ≤ 1024) (hvr : ∀ v ∈ G.vts, 0 ≤ v.Round ∧ v.Round ≤ 1024) (hs : Sat h0 [] h (gmX g n G L))
    (hplan : ∀ (j : Nat) e c c' out, m = j → PlanAt G.ab j e → G.cs[i]? = some c → reqsN e.2 < 2 ^ 30 → PlanO c e.1 e.2 c' out → out.length + nu c' ≤ nu c → I { G.ab with cs := G.cs.set i c' } i out)
    (hvote : ∀ (j : Nat) v c c' out, m = j → VoteAt G.ab j v → G.cs[i]? = some c → VoteO c v c' out → out.length + nu c' ≤ nu c → I { G.ab with cs := G.cs.set i c' } i out)
    (hk : ∀ G' h', RawOk h0 ht G' → I G'.ab i [] → Sat h0 [] h' (gmX g n G' L) → k true h') (hk0 : ∀ h', (m < 0 ∨ G.ord.length ≤ m) → Sat h0 [] h' (gmX g n G L) → k true h') :
    law19_Game_hear.b (some g) (i : Int) m k h := by
  unfold law19_Game_hear.b
  obtain ⟨d1, d2, d3, d4, d5, d6, d7, d8, d9, d10, d11⟩ := hA
  have d1' : i < G.cs.length := d1
  have d8' : G.ord.length < 2 ^ 30 := d8
  obtain ⟨c, hi⟩ : ∃ c, G.cs[i]? = some c := ⟨_, List.getElem?_eq_getElem d1'⟩
  obtain ⟨c1, c2, c3, c4⟩ := d5 i c hi
  refine nn_i (hs.ld_ 0 rfl ?_)
  have hosv : SV 1 h G.x.order G.ord := hs.ownSV 7 rfl len_b
  have hol : G.x.order.len = G.ord.length := hosv.2.1
  have hO1 : cT G.ord = G.pls.length := hO.1
  have hO2 : cF G.ord = G.vts.length := hO.2
  rw [hol]
  unfold law19_Game_hear.l1
  refine ⟨fun (t : Int × Int × Int) h' => ∃ j : Nat, t.2.2 = j ∧ j ≤ G.ord.length ∧ t.1 = (cT (G.ord.take j) : Int) ∧ t.2.1 = (cF (G.ord.take j) : Int) ∧ (m < 0 ∨ (j : Int) ≤ m) ∧ Sat h0 [] h' (gmX g n G L), fun t _ => (G.ord.length - t.2.2).toNat, ⟨0, rfl, Nat.zero_le _, by simp [cT], by simp [cF], by omega, hs⟩, ?_⟩
  clear hs hosv
  rintro ⟨t1, t2, t3⟩ h1 ⟨j, e3, hj, e1, e2, hm, hs⟩
  simp only at e1 e2 e3
  subst e1; subst e2; subst e3
  refine ifb_i (fun hc => ?_) (fun hc => ?_)
  · have hj' : j < G.ord.length := by have : (j : Int) < (G.ord.length : Int) := by simpa using hc
                                      omega
    obtain ⟨b, hb⟩ : ∃ b, G.ord[j]? = some b := ⟨_, List.getElem?_eq_getElem hj'⟩
    have hosv : SV 1 h1 G.x.order G.ord := hs.ownSV 7 rfl len_b
    refine sidx_ld len_b hosv (Int.natCast_nonneg _) (by rw [Int.toNat_natCast]; exact hb) ?_
    obtain ⟨ct1, ct2⟩ := cT_take G.ord j b hb
    obtain ⟨l1, l2⟩ := cT_le G.ord (j + 1)
    have hcsv : SV 1 h1 G.x.cores (G.cs.map fun c => (some c.p : Pt)) := hs.ownSV 2 rfl (fun _ => rfl)
    refine ifb_i (fun hb1 => ?_) (fun hb1 => ?_)
    · simp only [Bool.and_eq_true, beq_iff_eq] at hb1
      obtain ⟨hjm, hbt⟩ := hb1
      subst hbt
      simp only [if_true] at ct1
      have hpl : cT (G.ord.take j) < G.pls.length := by omega
      obtain ⟨e, he⟩ : ∃ e, G.pls[cT (G.ord.take j)]? = some e := ⟨_, List.getElem?_eq_getElem hpl⟩
      refine nn_i (hs.ld_ 0 rfl ?_)
      refine sidx_ld (n := 1) (x := (some c.p : Pt)) (fun _ => rfl) hcsv (Int.natCast_nonneg _) (by rw [Int.toNat_natCast, List.getElem?_map, hi]; rfl) ?_
      refine hs.ld_ 0 rfl ?_
      have hpsv : SV 108 h1 G.x.plans (G.pls.map (·.1)) := hs.ownSV 5 rfl len_api_Plan
      refine sidx_ld len_api_Plan hpsv (Int.natCast_nonneg _) (x := e.1) (by rw [Int.toNat_natCast, List.getElem?_map, he]; rfl) ?_
      have hem := List.mem_of_getElem? he
      have hcov := hR.pl e hem
      have hkE : (kE G.KG).A h1 := hs.at_ (i := 9) rfl
      have hs2 := forth (ms := []) hs hi
      refine PlanX c e.1 e.2 hT (by simp) c1 c2 (hpr e hem) hcov.1 hs2 (hcov.svz hkE hs2.fr) (fun c' out sl KA h9 hOo hpp hnu hK hs11 => ?_)
      exact first_acts hI hT hs11 hi hpp hR hK (hplan j e c c' out hjm.symm ⟨hb, he⟩ hi hcov.1 hOo hnu) hk
    · refine ifb_i (fun hb2 => ?_) (fun hb2 => ?_)
      · have hjm : (j : Int) = m := by simpa using hb2
        have hbf : b = false := by
          cases b with
          | false => rfl
          | true => rw [hb2] at hb1; cases hb1
        subst hbf
        simp only [Bool.false_eq_true, if_false] at ct2
        have hvl : cF (G.ord.take j) < G.vts.length := by omega
        obtain ⟨v, hv⟩ : ∃ v, G.vts[cF (G.ord.take j)]? = some v := ⟨_, List.getElem?_eq_getElem hvl⟩
        refine nn_i (hs.ld_ 0 rfl ?_)
        refine sidx_ld (n := 1) (x := (some c.p : Pt)) (fun _ => rfl) hcsv (Int.natCast_nonneg _) (by rw [Int.toNat_natCast, List.getElem?_map, hi]; rfl) ?_
        refine hs.ld_ 0 rfl ?_
        have hvsv : SV 41 h1 G.x.votes G.vts := hs.ownSV 6 rfl len_api_Vote
        refine sidx_ld len_api_Vote hvsv (Int.natCast_nonneg _) (x := v) (by rw [Int.toNat_natCast]; exact hv) ?_
        have hs2 := forth (ms := []) hs hi
        refine VoteX c v hT (by simp) c1 c2 (hvr v (List.mem_of_getElem? hv)) c4 hs2 (fun c' out sl KA h9 hOo hpp hnu hK hs11 => ?_)
        exact first_acts hI hT hs11 hi hpp hR hK (hvote j v c c' out hjm.symm ⟨hb, hv⟩ hi hOo hnu) hk
      · have hne : (j : Int) ≠ m := by simpa using hb2
        have ej : iadd (j : Int) 1 = ((j + 1 : Nat) : Int) := by rw [iadd_eq (by omega) (by omega)]; omega
        have e1 : iadd (cT (G.ord.take j) : Int) 1 = ((cT (G.ord.take j) + 1 : Nat) : Int) := by
          have := (cT_le G.ord j).1
          have : cT G.ord ≤ G.ord.length := List.length_filter_le _ _
          rw [iadd_eq (by omega) (by omega)]; omega
        have e2 : iadd (cF (G.ord.take j) : Int) 1 = ((cF (G.ord.take j) + 1 : Nat) : Int) := by
          have := (cT_le G.ord j).2
          have : cF G.ord ≤ G.ord.length := List.length_filter_le _ _
          rw [iadd_eq (by omega) (by omega)]; omega
        unfold law19_Game_hear.j2
        refine ifb_i (fun hbt => ?_) (fun hbt => ?_)
        · rw [if_pos hbt] at ct1 ct2
          rw [ej, e1]
          exact ⟨⟨j + 1, rfl, hj', by rw [ct1], by rw [ct2]; simp, by omega, hs⟩, by dsimp only; omega⟩
        · rw [if_neg (by rw [hbt]; decide)] at ct1 ct2
          rw [ej, e2]
          exact ⟨⟨j + 1, rfl, hj', by rw [ct1]; simp, by rw [ct2], by omega, hs⟩, by dsimp only; omega⟩
  · have hj' : j = G.ord.length := by have : ¬ (j : Int) < (G.ord.length : Int) := by simpa using hc
                                      omega
    unfold law19_Game_hear.j1
    exact hk0 h1 (by omega) hs
end
end Go.Proofs.YtimmoekliphobaaDoor

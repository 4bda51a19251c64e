/-
  The statement WorldLoses (law 23): where all letters are lost nobody decides anything. Part 16 of 30. No condition stands ahead of the statement. Parts of this text were printed by a program of ours.
-/
import Derived.Test.YtmpmildpioebhaaGreatDoorW10
set_option linter.all false
set_option maxRecDepth 100000
set_option maxHeartbeats 4000000
noncomputable section
namespace Go.Proofs.YtmpmildpioebhaaGreatDoor
open Go Go.Sh
open Go.Sh.Ty (reg)
theorem mail_Decode.ok (b : Sl) (k : (T2 api_Mail Int) → H → Prop) (h : H) (hh : mail_Decode.b b k h) : CallsH Prog 103 [reg b].toArray h fun v h' => ∃ r : T2 api_Mail Int, v = reg r ∧ k r h' := by
 unfold mail_Decode.b at hh
 refine CallsH.of 104 Tryz.func103 rfl Tryz.ntmps103 rfl (fun w0 => ?_)
 refine .sr ?_
 refine box_elim hh (fun t2 ht2 hh => ?_)
 refine .e (e_allocP ht2 zo_158 rfl ?_)
 refine .A (reg ((0 : Int) : Int)) (.nx (.seq (.sr (.M (reg b) (.V (v_len_sl (sl_173).1 rfl) (.V (v_igtr rfl rfl) (.nx ?_)))))))
 refine CW.cond (decide ((262144 : Int) < (b.len : Int))) rfl (fun hb => ?_) (fun hb => ?_)
 ·have hh := hh.1 hb
  refine .sr (.V (v_buildT api_Mail.zero zo_158 pl_158 rfl (rfl) rfl) (.S (api_Mail.zero : api_Mail) 0 sz_158 (one_api_Mail _) len_api_Mail (len_api_Mail _) (fun x => set_158_all x (api_Mail.zero : api_Mail)) hh rfl rfl (fun _ hh => .A (reg ((3 : Int) : Int)) (.nx ?_))))
  refine CW.ret ?_
  refine QN.thenRet ?_
  obtain ⟨r2, ⟨xr2, hxr2, hgr2⟩, hh⟩ := hh
  have hr2 := ld_id hxr2 hgr2
  exact retc1 rfl rfl ag_158 hr2 (len_api_Mail _) rfl ⟨(⟨r2, (3 : Int)⟩ : T2 api_Mail Int), rfl, hh⟩
 ·have hh := hh.2 hb
  refine CW.skip ?_
  refine QN.then_ ?_
  refine .sr (.M (reg b) ?_)
  refine .e (e_callP fn_163 rfl rfl hh ?_)
  intro h t13 hh
  refine .A (reg t13) (.nx (.sr (.M (reg t13) ?_)))
  refine .e (e_callP fn_164 rfl rfl hh ?_)
  intro h t15 hh
  refine .V (v_buildT ({ api_Mail.zero with Kind := t15 } : api_Mail) zo_158 pl_158 rfl (fill_step rfl rfl (len_i _) (len_api_Mail _) rfl (set_158_Kind _ _) (rfl)) rfl) ?_
  refine box_elim hh (fun m hm hh => ?_)
  refine .e (e_allocP hm zo_158 rfl ?_)
  refine .S (({ api_Mail.zero with Kind := t15 } : api_Mail) : api_Mail) 0 sz_158 (one_api_Mail _) len_api_Mail (len_api_Mail _) (fun x => set_158_all x (({ api_Mail.zero with Kind := t15 } : api_Mail) : api_Mail)) hh rfl rfl (fun _ hh => .nx ?_)
  refine CW.join (fun ρ h => ∃ (ρ' : Env), ρ = setl ρ' [(2, .pointer (some t2)), (4, reg t13), (5, .pointer (some m))] ∧ (mail_Decode.j1 k) t2 t13 m h) ?_ ?_
  ·refine .sr (.V (v_fieldAddr fl_158_0 rfl) (.L 0 na_3 get_158_Kind hh rfl (fun t18 hh => .nx ?_)))
   refine CW.block ?_
   refine .sr (.V (v_ieql rfl rfl) (.A (reg ((t18 == (1 : Int)) : Bool)) (.nx ?_)))
   refine CW.cond (t18 == (1 : Int)) rfl (fun hb_1 => ?_) (fun hb_1 => ?_)
   ·have hh := hh.1 hb_1
    refine CW.region ?_
    refine .M (reg t13) ?_
    refine .e (e_callP fn_165 rfl rfl hh ?_)
    intro h t22 hh
    refine .V (v_fieldAddr fl_158_1 rfl) (.S (t22 : api_Plan) 1 sz_150 (one_api_Plan _) len_api_Mail (len_api_Plan _) (fun x => set_158_Plan x (t22 : api_Plan)) hh rfl rfl (fun _ hh => ?_))
    refine .nil ?_
    refine QN.blockN ?_
    exact QN.thenJ ⟨_, setl_eq ⟨rfl, ⟨rfl, ⟨rfl, trivial⟩⟩⟩, hh⟩
   ·have hh := hh.2 hb_1
    refine .sr (.V (v_ieql rfl rfl) (.A (reg ((t18 == (2 : Int)) : Bool)) (.nx ?_)))
    refine CW.cond (t18 == (2 : Int)) rfl (fun hb_2 => ?_) (fun hb_2 => ?_)
    ·have hh := hh.1 hb_2
     refine CW.region ?_
     refine .M (reg t13) ?_
     refine .e (e_callP fn_166 rfl rfl hh ?_)
     intro h t27 hh
     refine .V (v_fieldAddr fl_158_2 rfl) (.S (t27 : api_Vote) 109 sz_152 (one_api_Vote _) len_api_Mail (len_api_Vote _) (fun x => set_158_Vote x (t27 : api_Vote)) hh rfl rfl (fun _ hh => ?_))
     refine .nil ?_
     refine QN.blockN ?_
     exact QN.thenJ ⟨_, setl_eq ⟨rfl, ⟨rfl, ⟨rfl, trivial⟩⟩⟩, hh⟩
    ·have hh := hh.2 hb_2
     refine .sr (.V (v_ieql rfl rfl) (.A (reg ((t18 == (3 : Int)) : Bool)) (.nx ?_)))
     refine CW.cond (t18 == (3 : Int)) rfl (fun hb_3 => ?_) (fun hb_3 => ?_)
     ·have hh := hh.1 hb_3
      refine CW.region ?_
      refine .M (reg t13) ?_
      refine .e (e_callP fn_167 rfl rfl hh ?_)
      intro h t32 hh
      refine .V (v_fieldAddr fl_158_3 rfl) (.S (t32 : api_Request) 150 sz_128 (one_api_Request _) len_api_Mail (len_api_Request _) (fun x => set_158_Request x (t32 : api_Request)) hh rfl rfl (fun _ hh => ?_))
      refine .nil ?_
      refine QN.blockN ?_
      exact QN.thenJ ⟨_, setl_eq ⟨rfl, ⟨rfl, ⟨rfl, trivial⟩⟩⟩, hh⟩
     ·have hh := hh.2 hb_3
      refine .sr (.V (v_ieql rfl rfl) (.A (reg ((t18 == (4 : Int)) : Bool)) (.nx ?_)))
      refine CW.cond (t18 == (4 : Int)) rfl (fun hb_4 => ?_) (fun hb_4 => ?_)
      ·have hh := hh.1 hb_4
       refine CW.region ?_
       refine .M (reg t13) ?_
       refine .e (e_callP fn_164 rfl rfl hh ?_)
       intro h t37 hh
       refine .M (reg t13) ?_
       refine .e (e_callP fn_168 rfl rfl hh ?_)
       intro h t39 hh
       refine .V (v_fieldAddr fl_158_5 rfl) (.S (t37 : Int) 196 sz_3 (one_i _) len_api_Mail (len_i _) (fun x => set_158_Height x (t37 : Int)) hh rfl rfl (fun _ hh => .V (v_fieldAddr fl_158_4 rfl) (.S (t39 : api_Reply) 192 sz_71 (one_api_Reply _) len_api_Mail (len_api_Reply _) (fun x => set_158_Reply x (t39 : api_Reply)) hh rfl rfl (fun _ hh => ?_))))
       refine .nil ?_
       refine QN.blockN ?_
       exact QN.thenJ ⟨_, setl_eq ⟨rfl, ⟨rfl, ⟨rfl, trivial⟩⟩⟩, hh⟩
      ·have hh := hh.2 hb_4
       refine .sr (.V (v_ieql rfl rfl) (.A (reg ((t18 == (5 : Int)) : Bool)) (.nx ?_)))
       refine CW.cond (t18 == (5 : Int)) rfl (fun hb_5 => ?_) (fun hb_5 => ?_)
       ·have hh := hh.1 hb_5
        refine CW.region ?_
        refine .M (reg t13) ?_
        refine .e (e_callP fn_169 rfl rfl hh ?_)
        intro h t45 hh
        refine .M (reg t13) ?_
        refine .e (e_callP fn_170 rfl rfl hh ?_)
        intro h t47 hh
        refine .V (v_fieldAddr fl_158_6 rfl) (.S (t45 : api_Block) 197 sz_144 (one_api_Block _) len_api_Mail (len_api_Block _) (fun x => set_158_Block x (t45 : api_Block)) hh rfl rfl (fun _ hh => .V (v_fieldAddr fl_158_7 rfl) (.S (t47 : api_Cert) 296 sz_155 (one_api_Cert _) len_api_Mail (len_api_Cert _) (fun x => set_158_Cert x (t47 : api_Cert)) hh rfl rfl (fun _ hh => ?_))))
        refine .nil ?_
        refine QN.blockN ?_
        exact QN.thenJ ⟨_, setl_eq ⟨rfl, ⟨rfl, ⟨rfl, trivial⟩⟩⟩, hh⟩
       ·have hh := hh.2 hb_5
        refine .sr (.V (v_ieql rfl rfl) (.A (reg ((t18 == (6 : Int)) : Bool)) (.nx ?_)))
        refine CW.cond (t18 == (6 : Int)) rfl (fun hb_6 => ?_) (fun hb_6 => ?_)
        ·have hh := hh.1 hb_6
         refine CW.region ?_
         refine .M (reg t13) ?_
         refine .e (e_callP fn_164 rfl rfl hh ?_)
         intro h t53 hh
         refine .V (v_fieldAddr fl_158_5 rfl) (.S (t53 : Int) 196 sz_3 (one_i _) len_api_Mail (len_i _) (fun x => set_158_Height x (t53 : Int)) hh rfl rfl (fun _ hh => ?_))
         refine .nil ?_
         refine QN.blockN ?_
         exact QN.thenJ ⟨_, setl_eq ⟨rfl, ⟨rfl, ⟨rfl, trivial⟩⟩⟩, hh⟩
        ·have hh := hh.2 hb_6
         refine .sr (.V (v_ieql rfl rfl) (.A (reg ((t18 == (8 : Int)) : Bool)) (.nx ?_)))
         refine CW.cond (t18 == (8 : Int)) rfl (fun hb_7 => ?_) (fun hb_7 => ?_)
         ·have hh := hh.1 hb_7
          refine .sr (.M (reg t13) ?_)
          refine .e (e_callP fn_164 rfl rfl hh ?_)
          intro h t58 hh
          refine .A (reg t58) (.nx ?_)
          refine CW.block ?_
          unfold mail_Decode.l1 at hh
          refine CW.loop (fun (σ0 : Int) ρ => match σ0 with | n => ∃ ρ' : Env, ρ = setl ρ' [(2, .pointer (some t2)), (4, reg t13), (5, .pointer (some m)), (6, reg n)]) hh ⟨_, setl_eq ⟨rfl, ⟨rfl, ⟨rfl, ⟨rfl, trivial⟩⟩⟩⟩⟩ ?_
          clear hh
          rintro s1 n ρ h ⟨ρ', rfl⟩ hh
          refine CW.seq ?_
          refine CW.join (fun ρ h => ∃ (ρ' : Env) (t64 : Bool), ρ = setl ρ' [(2, .pointer (some t2)), (4, reg t13), (5, .pointer (some m)), (6, reg n), (64, reg t64)] ∧ (mail_Decode.j2 (mail_Decode.j1 k) s1) t2 t13 m n t64 h) ?_ ?_
          ·refine CW.region ?_
           refine .M (reg n) (.V (v_igtr rfl rfl) (.M (reg ((decide ((0 : Int) < n)) : Bool)) ?_))
           refine ifb_cases hh (fun hb_8 hh => ?_) (fun hb_8 hh => ?_)
           ·refine .yv 61 rfl (cb hb_8) rfl (v_move (v := reg (t13 : Pt)) rfl) rfl ?_
            refine .ye 61 rfl (cb hb_8) rfl (e_callP fn_171 rfl rfl hh ?_)
            intro h t63 hh
            refine .V (v_pickT (v := reg t63) rfl hb_8 rfl) ?_
            refine .nil ?_
            exact QN.thenJ ⟨_, t63, setl_eq ⟨rfl, ⟨rfl, ⟨rfl, ⟨rfl, ⟨rfl, trivial⟩⟩⟩⟩⟩, hh⟩
           ·refine .no 61 rfl (cb hb_8) rfl rfl (.no 61 rfl (cb hb_8) rfl rfl (.V (v_pickF (v := reg false) rfl hb_8 rfl) ?_))
            refine .nil ?_
            exact QN.thenJ ⟨_, false, setl_eq ⟨rfl, ⟨rfl, ⟨rfl, ⟨rfl, ⟨rfl, trivial⟩⟩⟩⟩⟩, hh⟩
          ·rintro ρ h ⟨ρ', t64, rfl, hh⟩
           unfold mail_Decode.j2 at hh
           refine CW.cond t64 rfl (fun hb_9 => ?_) (fun hb_9 => ?_)
           ·have hh := hh.1 hb_9
            refine CW.skip ?_
            refine QN.then_ ?_
            refine CW.seq ?_
            refine CW.block ?_
            refine CW.drawN 8 rfl follows_mixed [0, 1, 2, 6] ?_
            refine .P 0 rfl (v_fieldAddr fl_158_8 rfl) (.KL 1 298 na_103 get_158_Links rfl hh rfl (fun t68 hh => .P 2 rfl (v_move (v := reg t13) rfl) ?_))
            refine .w 3 (by kernel_rfl) rfl (by kernel_rfl) (.e (e_callP fn_172 rfl rfl hh ?_))
            intro h t70 hh
            obtain ⟨hc, hh⟩ := hh
            refine ⟨⟨trivial, .inr hc⟩, ?_⟩
            refine mks_elim hh (fun pt71 t71 hpt71 ht71 hh => ?_)
            refine .w 4 (by kernel_rfl) rfl (by kernel_rfl) (.e (e_mks [(t70 : api_Link)] hpt71 ht71 zo_269 sl_103 rfl rfl rfl rfl rfl ?_))
            obtain ⟨hc_1, hh⟩ := hh
            refine ⟨⟨trivial, .inr hc_1⟩, ?_⟩
            refine .w 5 (by kernel_rfl) rfl (by kernel_rfl) (.e (e_app sl_103 zo_269 by_269 rfl rfl rfl hh ?_))
            intro h t72 hh
            refine ⟨⟨trivial, .inl (by kernel_rfl)⟩, ?_⟩
            refine .P 6 rfl (v_fieldAddr fl_158_8 rfl) ?_
            obtain ⟨xw_10, hxw_10, hwxw_10, hh⟩ := hh
            refine .w 7 (by kernel_rfl) rfl (by kernel_rfl) (.e (e_storeN (p := m) (nv := enc (t72 : Sl)) 298 rfl rfl rfl sz_103 (one_sl _) hxw_10 hwxw_10 (len_api_Mail _) (len_sl _) rfl (set_158_Links xw_10 (t72 : Sl)) ?_))
            refine ⟨⟨trivial, .inl (by kernel_rfl)⟩, ?_⟩
            refine .done (by kernel_rfl) ?_
            refine QN.blockN ?_
            refine QN.then_ ?_
            refine CW.region ?_
            refine .M (reg n) (.V (v_isub rfl rfl) (.A (reg ((isub n (1 : Int)) : Int)) ?_))
            refine .nil ?_
            exact QN.thenJ ⟨(isub n (1 : Int)), ⟨_, setl_eq ⟨rfl, ⟨rfl, ⟨rfl, ⟨rfl, trivial⟩⟩⟩⟩⟩, hh⟩
           ·have hh := hh.2 hb_9
            refine CW.exit ?_
            refine QN.thenExit ?_
            refine QN.thenExit ?_
            refine QN.blockExit ?_
            refine QN.blockN ?_
            exact QN.thenJ ⟨_, setl_eq ⟨rfl, ⟨rfl, ⟨rfl, trivial⟩⟩⟩, hh⟩
         ·have hh := hh.2 hb_7
          refine .sr (.V (v_ieql rfl rfl) (.A (reg ((t18 == (9 : Int)) : Bool)) (.nx ?_)))
          refine CW.cond (t18 == (9 : Int)) rfl (fun hb_10 => ?_) (fun hb_10 => ?_)
          ·have hh := hh.1 hb_10
           refine .sr (.M (reg t13) ?_)
           refine .e (e_callP fn_169 rfl rfl hh ?_)
           intro h t77 hh
           refine .M (reg t13) ?_
           refine .e (e_callP fn_170 rfl rfl hh ?_)
           intro h t79 hh
           refine .V (v_fieldAddr fl_158_6 rfl) (.S (t77 : api_Block) 197 sz_144 (one_api_Block _) len_api_Mail (len_api_Block _) (fun x => set_158_Block x (t77 : api_Block)) hh rfl rfl (fun _ hh => .V (v_fieldAddr fl_158_7 rfl) (.S (t79 : api_Cert) 296 sz_155 (one_api_Cert _) len_api_Mail (len_api_Cert _) (fun x => set_158_Cert x (t79 : api_Cert)) hh rfl rfl (fun _ hh => .nx (.sr (.M (reg t13) ?_))))))
           refine .e (e_callP fn_164 rfl rfl hh ?_)
           intro h t83 hh
           refine .A (reg t83) (.nx ?_)
           refine CW.block ?_
           unfold mail_Decode.l2 at hh
           refine CW.loop (fun (σ0 : Int) ρ => match σ0 with | n_2 => ∃ ρ' : Env, ρ = setl ρ' [(2, .pointer (some t2)), (4, reg t13), (5, .pointer (some m)), (7, reg n_2)]) hh ⟨_, setl_eq ⟨rfl, ⟨rfl, ⟨rfl, ⟨rfl, trivial⟩⟩⟩⟩⟩ ?_
           clear hh
           rintro s2 n_2 ρ h ⟨ρ', rfl⟩ hh
           refine CW.seq ?_
           refine CW.join (fun ρ h => ∃ (ρ' : Env) (t89 : Bool), ρ = setl ρ' [(2, .pointer (some t2)), (4, reg t13), (5, .pointer (some m)), (7, reg n_2), (89, reg t89)] ∧ (mail_Decode.j3 (mail_Decode.j1 k) s2) t2 t13 m n_2 t89 h) ?_ ?_
           ·refine CW.region ?_
            refine .M (reg n_2) (.V (v_igtr rfl rfl) (.M (reg ((decide ((0 : Int) < n_2)) : Bool)) ?_))
            refine ifb_cases hh (fun hb_11 hh => ?_) (fun hb_11 hh => ?_)
            ·refine .yv 86 rfl (cb hb_11) rfl (v_move (v := reg (t13 : Pt)) rfl) rfl ?_
             refine .ye 86 rfl (cb hb_11) rfl (e_callP fn_171 rfl rfl hh ?_)
             intro h t88 hh
             refine .V (v_pickT (v := reg t88) rfl hb_11 rfl) ?_
             refine .nil ?_
             exact QN.thenJ ⟨_, t88, setl_eq ⟨rfl, ⟨rfl, ⟨rfl, ⟨rfl, ⟨rfl, trivial⟩⟩⟩⟩⟩, hh⟩
            ·refine .no 86 rfl (cb hb_11) rfl rfl (.no 86 rfl (cb hb_11) rfl rfl (.V (v_pickF (v := reg false) rfl hb_11 rfl) ?_))
             refine .nil ?_
             exact QN.thenJ ⟨_, false, setl_eq ⟨rfl, ⟨rfl, ⟨rfl, ⟨rfl, ⟨rfl, trivial⟩⟩⟩⟩⟩, hh⟩
           ·rintro ρ h ⟨ρ', t89, rfl, hh⟩
            unfold mail_Decode.j3 at hh
            refine CW.cond t89 rfl (fun hb_12 => ?_) (fun hb_12 => ?_)
            ·have hh := hh.1 hb_12
             refine CW.skip ?_
             refine QN.then_ ?_
             refine CW.seq ?_
             refine CW.block ?_
             refine CW.drawN 8 rfl follows_mixed [0, 1, 2, 6] ?_
             refine .P 0 rfl (v_fieldAddr fl_158_9 rfl) (.KL 1 299 na_156 get_158_Pieces rfl hh rfl (fun t93 hh => .P 2 rfl (v_move (v := reg t13) rfl) ?_))
             refine .w 3 (by kernel_rfl) rfl (by kernel_rfl) (.e (e_callP fn_173 rfl rfl hh ?_))
             intro h t95 hh
             obtain ⟨hc_2, hh⟩ := hh
             refine ⟨⟨trivial, .inr hc_2⟩, ?_⟩
             refine mks_elim hh (fun pt96 t96 hpt96 ht96 hh => ?_)
             refine .w 4 (by kernel_rfl) rfl (by kernel_rfl) (.e (e_mks [(t95 : api_Piece)] hpt96 ht96 zo_329 sl_156 rfl rfl rfl rfl rfl ?_))
             obtain ⟨hc_3, hh⟩ := hh
             refine ⟨⟨trivial, .inr hc_3⟩, ?_⟩
             refine .w 5 (by kernel_rfl) rfl (by kernel_rfl) (.e (e_app sl_156 zo_329 by_329 rfl rfl rfl hh ?_))
             intro h t97 hh
             refine ⟨⟨trivial, .inl (by kernel_rfl)⟩, ?_⟩
             refine .P 6 rfl (v_fieldAddr fl_158_9 rfl) ?_
             obtain ⟨xw_13, hxw_13, hwxw_13, hh⟩ := hh
             refine .w 7 (by kernel_rfl) rfl (by kernel_rfl) (.e (e_storeN (p := m) (nv := enc (t97 : Sl)) 299 rfl rfl rfl sz_156 (one_sl _) hxw_13 hwxw_13 (len_api_Mail _) (len_sl _) rfl (set_158_Pieces xw_13 (t97 : Sl)) ?_))
             refine ⟨⟨trivial, .inl (by kernel_rfl)⟩, ?_⟩
             refine .done (by kernel_rfl) ?_
             refine QN.blockN ?_
             refine QN.then_ ?_
             refine CW.region ?_
             refine .M (reg n_2) (.V (v_isub rfl rfl) (.A (reg ((isub n_2 (1 : Int)) : Int)) ?_))
             refine .nil ?_
             exact QN.thenJ ⟨(isub n_2 (1 : Int)), ⟨_, setl_eq ⟨rfl, ⟨rfl, ⟨rfl, ⟨rfl, trivial⟩⟩⟩⟩⟩, hh⟩
            ·have hh := hh.2 hb_12
             refine CW.exit ?_
             refine QN.thenExit ?_
             refine QN.thenExit ?_
             refine QN.blockExit ?_
             refine QN.blockN ?_
             exact QN.thenJ ⟨_, setl_eq ⟨rfl, ⟨rfl, ⟨rfl, trivial⟩⟩⟩, hh⟩
          ·have hh := hh.2 hb_10
           refine CW.skip ?_
           refine QN.blockN ?_
           exact QN.thenJ ⟨_, setl_eq ⟨rfl, ⟨rfl, ⟨rfl, trivial⟩⟩⟩, hh⟩
  ·rintro ρ h ⟨ρ', rfl, hh⟩
   unfold mail_Decode.j1 at hh
   refine CW.seq ?_
   refine .sr (.M (reg t13) ?_)
   refine .e (e_callP fn_174 rfl rfl hh ?_)
   intro h t100 hh
   refine .V (v_not rfl) (.nx ?_)
   refine CW.cond (!t100) rfl (fun hb_13 => ?_) (fun hb_13 => ?_)
   ·have hh := hh.1 hb_13
    refine .sr (.V (v_buildT api_Mail.zero zo_158 pl_158 rfl (rfl) rfl) (.S (api_Mail.zero : api_Mail) 0 sz_158 (one_api_Mail _) len_api_Mail (len_api_Mail _) (fun x => set_158_all x (api_Mail.zero : api_Mail)) hh rfl rfl (fun _ hh => .A (reg ((4 : Int) : Int)) (.nx ?_))))
    refine CW.ret ?_
    refine QN.thenRet ?_
    obtain ⟨r2_1, ⟨xr2_1, hxr2_1, hgr2_1⟩, hh⟩ := hh
    have hr2_1 := ld_id hxr2_1 hgr2_1
    exact retc1 rfl rfl ag_158 hr2_1 (len_api_Mail _) rfl ⟨(⟨r2_1, (4 : Int)⟩ : T2 api_Mail Int), rfl, hh⟩
   ·have hh := hh.2 hb_13
    refine CW.skip ?_
    refine QN.then_ ?_
    refine .sr (.LA 0 ag_158 get_158_all (fun _ => (len_api_Mail _)) hh rfl (fun t103 hh => .S (t103 : api_Mail) 0 sz_158 (one_api_Mail _) len_api_Mail (len_api_Mail _) (fun x => set_158_all x (t103 : api_Mail)) hh rfl rfl (fun _ hh => .A (reg ((0 : Int) : Int)) (.nx ?_))))
    refine CW.ret ?_
    obtain ⟨r2_2, ⟨xr2_2, hxr2_2, hgr2_2⟩, hh⟩ := hh
    have hr2_2 := ld_id hxr2_2 hgr2_2
    exact retc1 rfl rfl ag_158 hr2_2 (len_api_Mail _) rfl ⟨(⟨r2_2, (0 : Int)⟩ : T2 api_Mail Int), rfl, hh⟩
end Go.Proofs.YtmpmildpioebhaaGreatDoor

/-
  THE CARD OF wapentakelaw19.RoundQuick: for every input that the row lets in, RoundQuick returns true and its arguments read as they did. Part 3 of 14. No condition stands ahead of the statement. Parts of this text were printed by a program of ours.
-/
import Derived.Test.YtimmoekliphobaaDoorQ02
import Derived.Sort.MapsRangeIn
import Derived.Shelf.SortM.Plain
import Derived.Shelf.SlIterI.Sorted
import Derived.Shelf.SortM.SortNone
import Derived.OpenShut
import Derived.Deep.Slices
set_option linter.all false
set_option maxRecDepth 100000
set_option maxHeartbeats 4000000
namespace Go.Proofs.YtimmoekliphobaaDoor
open Go Go.Sh
open Go.Sh.Ty (reg)
theorem sha_Of.ok (pieces : Sl) (k : (Arr 32 UInt8) → H → Prop) (h : H) (hh : sha_Of.b pieces k h) : CallsH Prog 60 [reg pieces].toArray h fun v h' => ∃ r : Arr 32 UInt8, v = reg r ∧ k r h' := by
 unfold sha_Of.b at hh
 refine CallsH.of 86 Tryd.func60 rfl Tryd.ntmps60 rfl (fun w0 => ?_)
 refine .sr ?_
 refine box_elim hh (fun t2 ht2 hh => ?_)
 refine .e (e_allocP ht2 zo_24 rfl ?_)
 refine .nx (.sr (.V (v_buildAT (arrOf [(1779033703 : UInt32), (3144134277 : UInt32), (1013904242 : UInt32), (2773480762 : UInt32), (1359893119 : UInt32), (2600822924 : UInt32), (528734635 : UInt32), (1541459225 : UInt32)] : Arr 8 UInt32) zo_187 ar_187 rfl rfl rfl) ?_))
 refine box_elim hh (fun hv hhv hh => ?_)
 refine .e (e_allocP hhv zo_187 rfl ?_)
 refine .S ((arrOf [(1779033703 : UInt32), (3144134277 : UInt32), (1013904242 : UInt32), (2773480762 : UInt32), (1359893119 : UInt32), (2600822924 : UInt32), (528734635 : UInt32), (1541459225 : UInt32)] : Arr 8 UInt32) : Arr 8 UInt32) 0 sz_187 (one_arr (n := 8) (fun _ => rfl) _) (fun _ => arr_len (n := 8) _) (arr_len (n := 8) _) (fun x => set_187_all x ((arrOf [(1779033703 : UInt32), (3144134277 : UInt32), (1013904242 : UInt32), (2773480762 : UInt32), (1359893119 : UInt32), (2600822924 : UInt32), (528734635 : UInt32), (1541459225 : UInt32)] : Arr 8 UInt32) : Arr 8 UInt32)) hh rfl rfl (fun _ hh => .nx (.sr ?_))
 refine box_elim hh (fun buf hbuf hh => ?_)
 refine .e (e_allocP hbuf zo_188 rfl ?_)
 refine .nx (.sr (.A (reg ((0 : Int) : Int)) (.A (reg ((0 : Int) : Int)) (.nx ?_))))
 refine CW.join (fun ρ h => ∃ (ρ' : Env) (n_3 : Int) (at__3 : Int), ρ = setl ρ' [(2, .pointer (some t2)), (3, .pointer (some hv)), (4, .pointer (some buf)), (5, reg n_3), (6, reg at__3)] ∧ (sha_Of.j1 k) t2 hv buf n_3 at__3 h) ?_ ?_
 ·refine .sr (.M (reg pieces) (.V (v_len_sl (sl_184).1 rfl) (.M (reg ((0 : Int) : Int)) (.nx ?_))))
  refine CW.block ?_
  unfold sha_Of.l1 at hh
  refine CW.loop (fun (σ0 : Int × Int × Int) ρ => match σ0 with | (n, at_, t16) => ∃ ρ' : Env, ρ = setl ρ' [(2, .pointer (some t2)), (3, .pointer (some hv)), (4, .pointer (some buf)), (14, reg pieces), (15, reg ((pieces.len : Int) : Int)), (5, reg n), (6, reg at_), (16, reg t16)]) hh ⟨_, setl_eq ⟨rfl, ⟨rfl, ⟨rfl, ⟨rfl, ⟨rfl, ⟨rfl, ⟨rfl, ⟨rfl, trivial⟩⟩⟩⟩⟩⟩⟩⟩⟩ ?_
  clear hh
  rintro s1 ⟨n, at_, t16⟩ ρ h ⟨ρ', rfl⟩ hh
  refine .sr (.V (v_ilss rfl rfl) (.nx (.seq ?_)))
  refine CW.cond (decide (t16 < (pieces.len : Int))) rfl (fun hb => ?_) (fun hb => ?_)
  ·have hh := hh.1 hb
   refine CW.skip ?_
   refine QN.then_ ?_
   refine CW.join (fun ρ h => ∃ (ρ' : Env) (n_2 : Int) (at__2 : Int), ρ = setl ρ' [(2, .pointer (some t2)), (3, .pointer (some hv)), (4, .pointer (some buf)), (5, reg n_2), (6, reg at__2), (14, reg pieces), (15, reg ((pieces.len : Int) : Int)), (16, reg t16)] ∧ (sha_Of.j2 s1) t2 hv buf n_2 at__2 pieces (pieces.len : Int) t16 h) ?_ ?_
   ·refine CW.block ?_
    refine .sr ?_
    obtain ⟨t18, ht18, hh⟩ := hh
    refine .V (v_idx_slP sl_184 rfl rfl ht18.1 ht18.2.1 ht18.2.2) (.L 0 na_130 get_130_all hh rfl (fun t19 hh => .A (reg t19) (.nx (.sr (.M (reg n) (.M (reg t19) (.V (v_len_sl (sl_130).1 rfl) (.V (v_iadd rfl rfl) (.A (reg ((iadd n (t19.len : Int)) : Int)) (.nx ?_))))))))))
    refine CW.block ?_
    unfold sha_Of.l2 at hh
    refine CW.loop (fun (σ0 : Int × Sl) ρ => match σ0 with | (at__1, p) => ∃ ρ' : Env, ρ = setl ρ' [(2, .pointer (some t2)), (3, .pointer (some hv)), (4, .pointer (some buf)), (5, reg ((iadd n (t19.len : Int)) : Int)), (14, reg pieces), (15, reg ((pieces.len : Int) : Int)), (16, reg t16), (6, reg at__1), (8, reg p)]) hh ⟨_, setl_eq ⟨rfl, ⟨rfl, ⟨rfl, ⟨rfl, ⟨rfl, ⟨rfl, ⟨rfl, ⟨rfl, ⟨rfl, trivial⟩⟩⟩⟩⟩⟩⟩⟩⟩⟩ ?_
    clear hh
    rintro s2 ⟨at__1, p⟩ ρ h ⟨ρ', rfl⟩ hh
    refine CW.seq ?_
    refine .sr (.M (reg p) (.V (v_len_sl (sl_130).1 rfl) (.V (v_igtr rfl rfl) (.nx ?_))))
    refine CW.cond (decide ((0 : Int) < (p.len : Int))) rfl (fun hb_1 => ?_) (fun hb_1 => ?_)
    ·have hh := hh.1 hb_1
     refine CW.skip ?_
     refine QN.then_ ?_
     refine CW.block ?_
     refine .sr (.M (reg at__1) ?_)
     obtain ⟨hm, hh⟩ := hh
     refine .V (v_slice_al ar_188 rfl rfl hm.1 hm.2) (.M (reg p) ?_)
     refine .e (e_cpy sl_130 rfl rfl rfl hh ?_)
     intro h t30 hh
     refine .A (reg t30) (.nx (.seq ?_))
     refine CW.drawN 8 rfl follows_mixed [0, 1, 2, 3, 4, 5, 6, 7] ?_
     refine .P 0 rfl (v_move (v := reg at__1) rfl) (.P 1 rfl (v_move (v := reg t30) rfl) (.P 2 rfl (v_iadd rfl rfl) (.P 3 rfl (v_move (v := reg p) rfl) (.P 4 rfl (v_move (v := reg t30) rfl) ?_))))
     obtain ⟨hm_1, hh⟩ := hh
     refine .P 5 rfl (v_slice_ll sl_130 rfl rfl hm_1.1 hm_1.2) (.P 6 rfl (v_assign (v := reg ((iadd at__1 t30) : Int)) rfl) (.P 7 rfl (v_assign (v := reg ((p.cut 1 t30.toNat p.len p.cap) : Sl)) rfl) ?_))
     refine .done (by kernel_rfl) ?_
     refine QN.then_ ?_
     refine .sr (.M (reg ((iadd at__1 t30) : Int)) (.V (v_ieql rfl rfl) (.nx ?_)))
     refine CW.cond ((iadd at__1 t30) == (64 : Int)) rfl (fun hb_2 => ?_) (fun hb_2 => ?_)
     ·have hh := hh.1 hb_2
      refine .sr (.V (v_slice_an ar_188 rfl) ?_)
      refine .e (e_callP fn_95 rfl rfl hh ?_)
      intro h t40 hh
      refine .nx ?_
      refine CW.region ?_
      refine .A (reg ((0 : Int) : Int)) ?_
      refine .nil ?_
      refine QN.blockN ?_
      exact QN.thenJ ⟨((0 : Int), (p.cut 1 t30.toNat p.len p.cap)), ⟨_, setl_eq ⟨rfl, ⟨rfl, ⟨rfl, ⟨rfl, ⟨rfl, ⟨rfl, ⟨rfl, ⟨rfl, ⟨rfl, trivial⟩⟩⟩⟩⟩⟩⟩⟩⟩⟩, hh⟩
     ·have hh := hh.2 hb_2
      refine CW.skip ?_
      refine QN.blockN ?_
      exact QN.thenJ ⟨((iadd at__1 t30), (p.cut 1 t30.toNat p.len p.cap)), ⟨_, setl_eq ⟨rfl, ⟨rfl, ⟨rfl, ⟨rfl, ⟨rfl, ⟨rfl, ⟨rfl, ⟨rfl, ⟨rfl, trivial⟩⟩⟩⟩⟩⟩⟩⟩⟩⟩, hh⟩
    ·have hh := hh.2 hb_1
     refine CW.exit ?_
     refine QN.thenExit ?_
     refine QN.thenExit ?_
     refine QN.blockExit ?_
     refine QN.blockN ?_
     exact QN.thenJ ⟨_, (iadd n (t19.len : Int)), at__1, setl_eq ⟨rfl, ⟨rfl, ⟨rfl, ⟨rfl, ⟨rfl, ⟨rfl, ⟨rfl, ⟨rfl, trivial⟩⟩⟩⟩⟩⟩⟩⟩, hh⟩
   ·rintro ρ h ⟨ρ', n_2, at__2, rfl, hh⟩
    unfold sha_Of.j2 at hh
    refine CW.region ?_
    refine .V (v_iadd rfl rfl) (.M (reg ((iadd t16 (1 : Int)) : Int)) ?_)
    refine .nil ?_
    exact QN.thenJ ⟨(n_2, at__2, (iadd t16 (1 : Int))), ⟨_, setl_eq ⟨rfl, ⟨rfl, ⟨rfl, ⟨rfl, ⟨rfl, ⟨rfl, ⟨rfl, ⟨rfl, trivial⟩⟩⟩⟩⟩⟩⟩⟩⟩, hh⟩
  ·have hh := hh.2 hb
   refine CW.exit ?_
   refine QN.thenExit ?_
   refine QN.thenExit ?_
   refine QN.blockExit ?_
   exact QN.thenJ ⟨_, n, at_, setl_eq ⟨rfl, ⟨rfl, ⟨rfl, ⟨rfl, ⟨rfl, trivial⟩⟩⟩⟩⟩, hh⟩
 ·rintro ρ h ⟨ρ', n_3, at__3, rfl, hh⟩
  unfold sha_Of.j1 at hh
  refine .sr (.M (reg at__3) ?_)
  obtain ⟨i43, hi43, hh⟩ := hh
  refine .V (v_idx_arrP ar_188 rfl rfl hi43) ?_
  obtain ⟨xw_1, hxw_1, hwxw_1, hh⟩ := hh
  refine .e (e_store (p := buf) (nv := enc ((128 : UInt8) : UInt8)) i43.val rfl rfl rfl sz_5 rfl hxw_1 hwxw_1 (arr_ble i43 xw_1 _ rfl) (arr_set i43 xw_1 ((128 : UInt8) : UInt8) rfl) ?_)
  refine .nx (.sr (.M (reg at__3) (.V (v_iadd rfl rfl) ?_)))
  obtain ⟨hm_3, hh⟩ := hh
  refine .V (v_slice_al ar_188 rfl rfl hm_3.1 hm_3.2) ?_
  refine .e (e_clr sl_130 zo_5 rfl rfl rfl hh ?_)
  intro h hh
  refine .nx ?_
  refine CW.join (fun ρ h => ∃ (ρ' : Env), ρ = setl ρ' [(2, .pointer (some t2)), (3, .pointer (some hv)), (4, .pointer (some buf)), (5, reg n_3)] ∧ (sha_Of.j3 k) t2 hv buf n_3 h) ?_ ?_
  ·refine .sr (.M (reg at__3) (.V (v_igeq rfl rfl) (.nx ?_)))
   refine CW.cond (decide ((56 : Int) ≤ at__3)) rfl (fun hb_3 => ?_) (fun hb_3 => ?_)
   ·have hh := hh.1 hb_3
    refine .sr (.V (v_slice_an ar_188 rfl) ?_)
    refine .e (e_callP fn_95 rfl rfl hh ?_)
    intro h t50 hh
    refine .nx ?_
    refine CW.region ?_
    refine .V (v_slice_an ar_188 rfl) ?_
    refine .e (e_clr sl_130 zo_5 rfl rfl rfl hh ?_)
    intro h hh
    refine .nil ?_
    exact QN.thenJ ⟨_, setl_eq ⟨rfl, ⟨rfl, ⟨rfl, ⟨rfl, trivial⟩⟩⟩⟩, hh⟩
   ·have hh := hh.2 hb_3
    refine CW.skip ?_
    exact QN.thenJ ⟨_, setl_eq ⟨rfl, ⟨rfl, ⟨rfl, ⟨rfl, trivial⟩⟩⟩⟩, hh⟩
  ·rintro ρ h ⟨ρ', rfl, hh⟩
   unfold sha_Of.j3 at hh
   refine CW.join (fun ρ h => ∃ (ρ' : Env), ρ = setl ρ' [(2, .pointer (some t2)), (3, .pointer (some hv)), (4, .pointer (some buf))] ∧ (sha_Of.j4 k) t2 hv buf h) ?_ ?_
   ·refine .sr (.M (reg ((0 : Int) : Int)) (.nx ?_))
    refine CW.block ?_
    unfold sha_Of.l3 at hh
    refine CW.loop (fun (σ0 : Int) ρ => match σ0 with | t52 => ∃ ρ' : Env, ρ = setl ρ' [(2, .pointer (some t2)), (3, .pointer (some hv)), (4, .pointer (some buf)), (5, reg n_3), (52, reg t52)]) hh ⟨_, setl_eq ⟨rfl, ⟨rfl, ⟨rfl, ⟨rfl, ⟨rfl, trivial⟩⟩⟩⟩⟩⟩ ?_
    clear hh
    rintro s3 t52 ρ h ⟨ρ', rfl⟩ hh
    refine .sr (.V (v_ilss rfl rfl) (.nx (.seq ?_)))
    refine CW.cond (decide (t52 < (8 : Int))) rfl (fun hb_4 => ?_) (fun hb_4 => ?_)
    ·have hh := hh.1 hb_4
     refine CW.skip ?_
     refine QN.then_ ?_
     refine CW.seq ?_
     refine CW.block ?_
     refine .sr (.M (reg t52) (.A (reg t52) (.nx ?_)))
     refine CW.region ?_
     refine .M (reg t52) (.V (v_iadd rfl rfl) (.M (reg n_3) (.V (v_conv_u64 un_3 un_190 rfl) (.V (v_shl64 (a := (toU64 n_3)) (b := 3) rfl rfl (by decide)) (.M (reg t52) (.V (v_imul rfl rfl) (.V (v_isub rfl rfl) ?_)))))))
     obtain ⟨hm_6, hh⟩ := hh
     refine .V (v_shr64 (a := (shl64 (toU64 n_3) 3)) rfl rfl hm_6) (.V (v_conv_u8 un_190 un_5 rfl) ?_)
     obtain ⟨i65, hi65, hh⟩ := hh
     refine .V (v_idx_arrP ar_188 rfl rfl hi65) ?_
     obtain ⟨xw_2, hxw_2, hwxw_2, hh⟩ := hh
     refine .e (e_store (p := buf) (nv := enc ((toU8 ((shr64 (shl64 (toU64 n_3) 3) (isub (56 : Int) (imul (8 : Int) t52)).toNat).toNat : Int)) : UInt8)) i65.val rfl rfl rfl sz_5 rfl hxw_2 hwxw_2 (arr_ble i65 xw_2 _ rfl) (arr_set i65 xw_2 ((toU8 ((shr64 (shl64 (toU64 n_3) 3) (isub (56 : Int) (imul (8 : Int) t52)).toNat).toNat : Int)) : UInt8) rfl) ?_)
     refine .nil ?_
     refine QN.blockN ?_
     refine QN.then_ ?_
     refine CW.region ?_
     refine .V (v_iadd rfl rfl) (.M (reg ((iadd t52 (1 : Int)) : Int)) ?_)
     refine .nil ?_
     exact QN.thenJ ⟨(iadd t52 (1 : Int)), ⟨_, setl_eq ⟨rfl, ⟨rfl, ⟨rfl, ⟨rfl, ⟨rfl, trivial⟩⟩⟩⟩⟩⟩, hh⟩
    ·have hh := hh.2 hb_4
     refine CW.exit ?_
     refine QN.thenExit ?_
     refine QN.thenExit ?_
     refine QN.blockExit ?_
     exact QN.thenJ ⟨_, setl_eq ⟨rfl, ⟨rfl, ⟨rfl, trivial⟩⟩⟩, hh⟩
   ·rintro ρ h ⟨ρ', rfl, hh⟩
    unfold sha_Of.j4 at hh
    refine .sr (.V (v_slice_an ar_188 rfl) ?_)
    refine .e (e_callP fn_95 rfl rfl hh ?_)
    intro h t68 hh
    refine .nx (.sr ?_)
    refine box_elim hh (fun out hout hh => ?_)
    refine .e (e_allocP hout zo_24 rfl ?_)
    refine .nx ?_
    refine CW.join (fun ρ h => ∃ (ρ' : Env), ρ = setl ρ' [(2, .pointer (some t2)), (11, .pointer (some out))] ∧ (sha_Of.j5 k) t2 out h) ?_ ?_
    ·refine .sr (.M (reg ((0 : Int) : Int)) (.nx ?_))
     refine CW.block ?_
     unfold sha_Of.l4 at hh
     refine CW.loop (fun (σ0 : Int) ρ => match σ0 with | t69 => ∃ ρ' : Env, ρ = setl ρ' [(2, .pointer (some t2)), (3, .pointer (some hv)), (11, .pointer (some out)), (69, reg t69)]) hh ⟨_, setl_eq ⟨rfl, ⟨rfl, ⟨rfl, ⟨rfl, trivial⟩⟩⟩⟩⟩ ?_
     clear hh
     rintro s4 t69 ρ h ⟨ρ', rfl⟩ hh
     refine .sr (.V (v_ilss rfl rfl) (.nx (.seq ?_)))
     refine CW.cond (decide (t69 < (32 : Int))) rfl (fun hb_5 => ?_) (fun hb_5 => ?_)
     ·have hh := hh.1 hb_5
      refine CW.skip ?_
      refine QN.then_ ?_
      refine CW.seq ?_
      refine CW.block ?_
      refine .sr (.M (reg t69) (.A (reg t69) (.nx ?_)))
      refine CW.region ?_
      refine .M (reg t69) (.M (reg t69) (.V (v_iquo rfl rfl (by decide)) ?_))
      obtain ⟨i75, hi75, hh⟩ := hh
      refine .V (v_idx_arrP ar_187 rfl rfl hi75) (.L i75.val na_185 (arr_get i75) hh rfl (fun t76 hh => .M (reg t69) (.V (v_irem rfl rfl (by decide)) (.V (v_imul rfl rfl) (.V (v_isub rfl rfl) ?_)))))
      obtain ⟨hm_8, hh⟩ := hh
      refine .V (v_shr32 (a := t76) rfl rfl hm_8) (.V (v_conv_u8 un_185 un_5 rfl) ?_)
      obtain ⟨i83, hi83, hh⟩ := hh
      refine .V (v_idx_arrP ar_24 rfl rfl hi83) ?_
      obtain ⟨xw_3, hxw_3, hwxw_3, hh⟩ := hh
      refine .e (e_store (p := out) (nv := enc ((toU8 ((shr32 t76 (isub (24 : Int) (imul (8 : Int) (irem t69 (4 : Int)))).toNat).toNat : Int)) : UInt8)) i83.val rfl rfl rfl sz_5 rfl hxw_3 hwxw_3 (arr_ble i83 xw_3 _ rfl) (arr_set i83 xw_3 ((toU8 ((shr32 t76 (isub (24 : Int) (imul (8 : Int) (irem t69 (4 : Int)))).toNat).toNat : Int)) : UInt8) rfl) ?_)
      refine .nil ?_
      refine QN.blockN ?_
      refine QN.then_ ?_
      refine CW.region ?_
      refine .V (v_iadd rfl rfl) (.M (reg ((iadd t69 (1 : Int)) : Int)) ?_)
      refine .nil ?_
      exact QN.thenJ ⟨(iadd t69 (1 : Int)), ⟨_, setl_eq ⟨rfl, ⟨rfl, ⟨rfl, ⟨rfl, trivial⟩⟩⟩⟩⟩, hh⟩
     ·have hh := hh.2 hb_5
      refine CW.exit ?_
      refine QN.thenExit ?_
      refine QN.thenExit ?_
      refine QN.blockExit ?_
      exact QN.thenJ ⟨_, setl_eq ⟨rfl, ⟨rfl, trivial⟩⟩, hh⟩
    ·rintro ρ h ⟨ρ', rfl, hh⟩
     unfold sha_Of.j5 at hh
     refine .sr (.LA 0 ag_24 get_24_all (fun _ => (arr_len (n := 32) _)) hh rfl (fun t85 hh => .S (t85 : Arr 32 UInt8) 0 sz_24 (one_arr (n := 32) (fun _ => rfl) _) (fun _ => arr_len (n := 32) _) (arr_len (n := 32) _) (fun x => set_24_all x (t85 : Arr 32 UInt8)) hh rfl rfl (fun _ hh => .nx ?_)))
     refine CW.ret ?_
     obtain ⟨r2, ⟨xr2, hxr2, hgr2⟩, hh⟩ := hh
     have hr2 := ld_id hxr2 hgr2
     exact retc rfl rfl ag_24 hr2 (arr_len (n := 32) _) ⟨(r2 : Arr 32 UInt8), rfl, hh⟩
/-- one byte more: a full block is taken in -/
def absorb1 (st : Arr 8 UInt32 × List UInt8) (b : UInt8) : Arr 8 UInt32 × List UInt8 := if st.2.length = 63 then (blockF st.1 (st.2 ++ [b]), []) else (st.1, st.2 ++ [b])
def absorb (st : Arr 8 UInt32 × List UInt8) (l : List UInt8) : Arr 8 UInt32 × List UInt8 := l.foldl absorb1 st
theorem absorb_short : ∀ (l : List UInt8) (x : Arr 8 UInt32) (r : List UInt8), r.length + l.length < 64 → absorb (x, r) l = (x, r ++ l)
  | [], x, r, _ => by simp [absorb]
  | b :: l, x, r, h => by
    simp only [List.length_cons] at h
    have : absorb1 (x, r) b = (x, r ++ [b]) := by simp [absorb1]; omega
    show absorb (absorb1 (x, r) b) l = _
    rw [this, absorb_short l x (r ++ [b]) (by simp; omega)]
    simp
theorem absorb_full : ∀ (l : List UInt8) (x : Arr 8 UInt32) (r : List UInt8), r.length + l.length = 64 → l ≠ [] → absorb (x, r) l = (blockF x (r ++ l), [])
  | [], x, r, _, hne => absurd rfl hne
  | b :: l, x, r, h, _ => by
    simp only [List.length_cons] at h
    by_cases hl : l = []
    · subst hl
      simp only [List.length_nil] at h
      have : r.length = 63 := by omega
      simp [absorb, absorb1, this]
    · have hl' : 0 < l.length := List.length_pos_iff.2 hl
      have : absorb1 (x, r) b = (x, r ++ [b]) := by simp [absorb1]; omega
      show absorb (absorb1 (x, r) b) l = _
      rw [this, absorb_full l x (r ++ [b]) (by simp; omega) hl]
      simp
theorem absorb_app (st : Arr 8 UInt32 × List UInt8) (a b : List UInt8) : absorb st (a ++ b) = absorb (absorb st a) b := by simp [absorb]
def iv : Arr 8 UInt32 := arrOf [(1779033703 : UInt32), (3144134277 : UInt32), (1013904242 : UInt32), (2773480762 : UInt32), (1359893119 : UInt32), (2600822924 : UInt32), (528734635 : UInt32), (1541459225 : UInt32)]
def lenByte (n : Int) (i : Nat) : UInt8 := toU8 ((shr64 (shl64 (toU64 n) 3) (56 - 8 * i)).toNat : Int)
def lenBytes (n : Int) : List UInt8 := (List.range 8).map (lenByte n)
def finish (x : Arr 8 UInt32) (r : List UInt8) (n : Int) : Arr 8 UInt32 :=
  let p := r ++ (128 : UInt8) :: List.replicate (63 - r.length) 0
  if 56 ≤ r.length then blockF (blockF x p) (List.replicate 56 0 ++ lenBytes n) else blockF x (p.take 56 ++ lenBytes n)
def outB (x : Arr 8 UInt32) (i : Nat) : UInt8 := toU8 ((shr32 (getN x (i / 4)) (24 - 8 * (i % 4))).toNat : Int)
def outF (x : Arr 8 UInt32) : Dig := fun i => outB x i.val
/-- the digest of bytes -/
def shaF (bs : List UInt8) : Dig := let st := absorb (iv, []) bs; outF (finish st.1 st.2 (bs.length : Int))
theorem absorb_len : ∀ (l : List UInt8) (st : Arr 8 UInt32 × List UInt8), st.2.length < 64 → (absorb st l).2.length < 64
  | [], st, h => h
  | b :: l, st, h => by
    show (absorb (absorb1 st b) l).2.length < 64
    refine absorb_len l _ ?_
    unfold absorb1
    split
    · simp
    · simp; omega
/-- slices of bytes in a slice -/
def SVV (h : H) (s : Sl) (ps : List (List UInt8)) : Prop := ∃ ss : List Sl, SV 1 h s ss ∧ ss.length = ps.length ∧ ∀ (i : Nat) (x : Sl), ss[i]? = some x → ∃ l, ps[i]? = some l ∧ SV 1 h x l
theorem SVV.ext {h h' : H} (f : Ext h h') {s : Sl} {ps : List (List UInt8)} (H : SVV h s ps) : SVV h' s ps := by
  obtain ⟨ss, h1, h2, h3⟩ := H
  refine ⟨ss, h1.ext f, h2, fun i x hi => ?_⟩
  obtain ⟨l, hl, hv⟩ := h3 i x hi
  exact ⟨l, hl, hv.ext f⟩
theorem itF_upd {n : Nat} (v : Nat → UInt8) (z : Arr n UInt8) : ∀ m : Nat, m ≤ n → ∀ j : Fin n, itF (fun i w => updN w i (v i)) m z j = if j.val < m then v j.val else z j
  | 0, _, j => by simp [itF]
  | m + 1, hm, j => by
    show (if j.val = m then v m else itF (fun i w => updN w i (v i)) m z j) = _
    by_cases h : j.val = m
    · simp [h]
    · rw [if_neg h, itF_upd v z m (by omega) j]
      by_cases h2 : j.val < m
      · rw [if_pos h2, if_pos (by omega)]
      · rw [if_neg h2, if_neg (by omega)]
theorem iquo_eq {a b : Int} (h0 : 0 ≤ a) (h1 : a < 9223372036854775808) (hb : 0 < b) : iquo a b = a / b := by
  unfold iquo
  rw [Int.tdiv_eq_ediv_of_nonneg h0]
  have : 0 ≤ a / b := Int.ediv_nonneg h0 (by omega)
  have : a / b ≤ a := Int.ediv_le_self _ h0
  exact wrap_eq (by omega) (by omega)
theorem irem_eq {a b : Int} (h0 : 0 ≤ a) : irem a b = a % b := Int.tmod_eq_emod_of_nonneg h0
theorem Of_spec (s : Sl) (ps : List (List UInt8)) {k : Dig → H → Prop} {h : H} (hT : Tb h) (hp : SVV h s ps) (hn : ps.flatten.length < 2 ^ 40) (hps : ps.length < 2 ^ 40) (hk : ∀ h', Ext h h' → k (shaF ps.flatten) h') : sha_Of.b s k h := by
  have h00 : 0 < h.size := by obtain ⟨_, _, _, _, hb, _⟩ := hT; rw [Array.getElem?_eq_some_iff] at hb; exact hb.1
  unfold sha_Of.b
  refine (Sat.init h).box_ (fun t2 h1 hs1 hz2 _ => ?_)
  refine hs1.box_ (fun hv h2 hs2 hzv hx2 => ?_)
  refine hs2.st_ 0 rfl u32len (fun h3 hs3 hsz3 => ?_)
  refine hs3.box_ (fun buf h4 hs4 hzb _ => ?_)
  have hv0 : hv.block ≠ 0 := by have := hs1.fr.size; omega
  have hbv : buf.block ≠ hv.block := by
    have := (hs3.ok _ (List.mem_of_getElem? (i := 0) rfl)).2.2 hv.block (by simp [cel]); omega
  have hT' : ∀ h', Ext h h' → Tb h' := fun h' f => hT.fr f (by simp)
  have hs4' : Sat h [] h4 [cel 188 buf (enc (arrOf (List.replicate 64 0) : Arr 64 UInt8)), cel 187 hv (enc iv), cel 24 t2 (enc ((fun _ => 0) : Arr 32 UInt8))] := by
    have e : (arrOf (List.replicate 64 0) : Arr 64 UInt8) = fun _ => 0 := by
      funext i; simp only [arrOf, List.getD_eq_getElem?_getD]; rw [List.getElem?_replicate]; simp [i.2]
    rw [e]; exact hs4
  obtain ⟨ss, hss, hsl, hse⟩ := hp
  unfold sha_Of.l1
  -- what the state is behind pieces and a part of one
  let St : List UInt8 → Int → H → Prop := fun pre at_ h' => ∃ bl : List UInt8, bl.length = 64 ∧ at_ = ((absorb (iv, []) pre).2.length : Int) ∧ bl.take (absorb (iv, []) pre).2.length = (absorb (iv, []) pre).2 ∧
    Sat h [] h' [cel 188 buf (enc (arrOf bl : Arr 64 UInt8)), cel 187 hv (enc (absorb (iv, []) pre).1), cel 24 t2 (enc ((fun _ => 0) : Arr 32 UInt8))]
  have tail : ∀ (x : Arr 8 UInt32) (bl : List UInt8) (n : Nat) (h' : H), bl.length = 64 → Sat h [] h' [cel 188 buf (enc (arrOf bl : Arr 64 UInt8)), cel 187 hv (enc x), cel 24 t2 (enc ((fun _ => 0) : Arr 32 UInt8))] →
      (∀ h'', Ext h h'' → k (outF (blockF x (bl.take 56 ++ lenBytes n))) h'') → sha_Of.j3 k t2 hv buf (n : Int) h' := by
    intro x bl n h5 hbl hs5 hk5
    unfold sha_Of.j3 sha_Of.l3
    have hll : (lenBytes n).length = 8 := by simp [lenBytes]
    refine ⟨fun (i : Int) h' => 0 ≤ i ∧ i ≤ 8 ∧ Sat h [] h' [cel 188 buf (enc (arrOf (bl.take 56 ++ (lenBytes n).take i.toNat ++ bl.drop (56 + i.toNat)) : Arr 64 UInt8)), cel 187 hv (enc x), cel 24 t2 (enc ((fun _ => 0) : Arr 32 UInt8))], fun i _ => (8 - i).toNat, ⟨by omega, by omega, by simpa using hs5⟩, ?_⟩
    clear hs5
    rintro i h6 ⟨h0, h8, hs6⟩
    refine ifb_i (fun hc => ?_) (fun hc => ?_)
    · have hi : i < 8 := by simpa using hc
      have e8 : imul 8 i = 8 * i := imul_eq (by omega) (by omega)
      have e56 : isub 56 (8 * i) = 56 - 8 * i := isub_eq (by omega) (by omega)
      have ea : iadd 56 i = 56 + i := iadd_eq (by omega) (by omega)
      have e1 : iadd i 1 = i + 1 := iadd_eq (by omega) (by omega)
      rw [e8, e56, ea, e1]
      refine ⟨by omega, ?_⟩
      refine hs6.bst 0 rfl arr_len (by omega) (by omega) (fun h7 hs7 => ?_)
      refine ⟨⟨by omega, by omega, ?_⟩, by dsimp only; omega⟩
      rw [updN_arrOf _ _ _ (by simp; omega)] at hs7
      have e9 : (bl.take 56 ++ (lenBytes n).take i.toNat ++ bl.drop (56 + i.toNat)).set (56 + i).toNat (toU8 ((shr64 (shl64 (toU64 (n : Int)) 3) (56 - 8 * i).toNat).toNat : Int)) = bl.take 56 ++ (lenBytes n).take (i + 1).toNat ++ bl.drop (56 + (i + 1).toNat) := by
        have hA : (bl.take 56 ++ (lenBytes n).take i.toNat).length = (56 + i).toNat := by simp [hll]; omega
        rw [← hA, List.set_append_right _ _ (Nat.le_refl _), Nat.sub_self]
        have hd : bl.drop (56 + i.toNat) = bl[56 + i.toNat]'(by omega) :: bl.drop (56 + i.toNat + 1) := List.drop_eq_getElem_cons (by omega)
        rw [hd, List.set_cons_zero, show (i + 1).toNat = i.toNat + 1 by omega]
        have hv8 : (lenBytes n)[i.toNat]? = some (toU8 ((shr64 (shl64 (toU64 (n : Int)) 3) (56 - 8 * i).toNat).toNat : Int)) := by
          simp only [lenBytes, List.getElem?_map, List.getElem?_range (show i.toNat < 8 by omega), Option.map_some, lenByte]
          rw [show 56 - 8 * i.toNat = (56 - 8 * i).toNat by omega]
        have ht : (lenBytes n).take (i.toNat + 1) = (lenBytes n).take i.toNat ++ [toU8 ((shr64 (shl64 (toU64 (n : Int)) 3) (56 - 8 * i).toNat).toNat : Int)] := by
          rw [List.take_add_one, hv8]; rfl
        rw [ht]
        simp [Nat.add_assoc]
      rw [List.set_cons_zero, e9] at hs7
      exact hs7
    · have hi : i = 8 := by have : ¬ i < 8 := by simpa using hc
                            omega
      subst hi
      have e9 : bl.take 56 ++ (lenBytes n).take (8 : Int).toNat ++ bl.drop (56 + (8 : Int).toNat) = bl.take 56 ++ lenBytes n := by
        rw [show (8 : Int).toNat = 8 from rfl, List.take_of_length_le (l := lenBytes n) (i := 8) (by omega), List.drop_of_length_le (by omega), List.append_nil]
      rw [e9] at hs6
      unfold sha_Of.j4
      have hbl2 : (bl.take 56 ++ lenBytes n).length = 64 := by simp [hll, hbl]
      have hbuf := hs6.arrSV 0 rfl hbl2
      have hbuf2 := hbuf.cut len_u8 (lo := 0) (hi := 64) (mx := 64) (by omega) (Nat.le_refl _) (Nat.le_refl _)
      refine sha_state_block.ok _ _ _ _ (block_spec hv x _ _ (hT' _ hs6.fr) (hs6.at_ (i := 1) rfl) hv0 hbuf2 (by simp [hll, hbl]) ?_ (fun h8 hf8 hc8 => ?_))
      · intro a ha
        simp [Sl.cut] at ha
        rw [← ha, show buf.add 0 = buf from rfl]; exact hbv
      have hs8 := hs6.upd (i := 1) (e := cel 187 hv (enc x)) (e' := cel 187 hv (enc (blockF x _))) rfl hf8 hc8 (cel_loc _ _ _) (by intro b hb; simp only [cel, List.mem_singleton] at hb; subst hb; exact ⟨Cel.lt hc8, .inl (by simp [cel])⟩)
      have e10 : (((bl.take 56 ++ lenBytes n).drop 0).take (64 - 0)) = bl.take 56 ++ lenBytes n := by rw [List.drop_zero, List.take_of_length_le (by omega)]
      rw [e10] at hs8
      clear hf8 hc8 hbuf hbuf2 hs6 e9 e10
      generalize blockF x (bl.take 56 ++ lenBytes n) = y at *
      refine hs8.box_ (fun out h9 hs9 _ _ => ?_)
      unfold sha_Of.l4
      refine ⟨fun (i : Int) h' => 0 ≤ i ∧ i ≤ 32 ∧ Sat h [] h' [cel 24 out (enc (itF (fun i w => updN w i (outB y i)) i.toNat (fun _ => 0) : Arr 32 UInt8)), cel 188 buf (enc (arrOf (bl.take 56 ++ lenBytes n) : Arr 64 UInt8)), cel 187 hv (enc y), cel 24 t2 (enc ((fun _ => 0) : Arr 32 UInt8))], fun i _ => (32 - i).toNat, ⟨by omega, by omega, hs9⟩, ?_⟩
      clear hs8
      rintro i h10 ⟨h0', h32, hs10⟩
      refine ifb_i (fun hc' => ?_) (fun hc' => ?_)
      · have hi : i < 32 := by simpa using hc'
        have q4 : iquo i 4 = i / 4 := iquo_eq h0' (by omega) (by omega)
        have r4 : irem i 4 = i % 4 := irem_eq h0'
        have m4 : imul 8 (i % 4) = 8 * (i % 4) := imul_eq (by omega) (by omega)
        have s4 : isub 24 (8 * (i % 4)) = 24 - 8 * (i % 4) := isub_eq (by omega) (by omega)
        have e1 : iadd i 1 = i + 1 := iadd_eq (by omega) (by omega)
        rw [q4, r4, m4, s4, e1]
        refine hs10.bld 2 rfl (by omega) (by omega) ?_
        refine ⟨by omega, ?_⟩
        refine hs10.bst 0 rfl arr_len (by omega) (by omega) (fun h11 hs11 => ?_)
        refine ⟨⟨by omega, by omega, ?_⟩, by dsimp only; omega⟩
        rw [show (i + 1).toNat = i.toNat + 1 by omega]
        have : outB y i.toNat = toU8 ((shr32 (getN y (i / 4).toNat) (24 - 8 * (i % 4)).toNat).toNat : Int) := by
          unfold outB
          rw [show i.toNat / 4 = (i / 4).toNat by omega, show 24 - 8 * (i.toNat % 4) = (24 - 8 * (i % 4)).toNat by omega]
        rw [← this] at hs11
        exact hs11
      · have hi : i = 32 := by have : ¬ i < 32 := by simpa using hc'
                               omega
        subst hi
        have e11 : (itF (fun i w => updN w i (outB y i)) (32 : Int).toNat (fun _ => 0) : Arr 32 UInt8) = outF y := by
          funext j
          rw [itF_upd _ _ _ (by decide), if_pos (by simp)]
          rfl
        rw [e11] at hs10
        unfold sha_Of.j5
        refine hs10.ld_ 0 rfl ?_
        refine hs10.st_ 3 rfl arr_len (fun h11 hs11 _ => ?_)
        refine hs11.ld_ 3 rfl ?_
        exact hk5 _ hs11.fr
  refine ⟨fun (st : Int × Int × Int) h' => ∃ i : Nat, st.2.2 = i ∧ i ≤ ps.length ∧ st.1 = ((ps.take i).flatten.length : Int) ∧ St (ps.take i).flatten st.2.1 h', fun st _ => (ps.length - st.2.2).toNat,
    ⟨0, rfl, Nat.zero_le _, by simp, List.replicate 64 0, by simp, by simp [absorb], by simp [absorb], by simpa [absorb] using hs4'⟩, ?_⟩
  clear hs1 hs2 hs3 hs4 hs4'
  rintro ⟨n, at_, t16⟩ h5 ⟨i, hi, hil, hnn, bl, hbl, hat, htk, hs5⟩
  simp only at hi hnn hat
  subst hi
  have hslen : (s.len : Int) = ps.length := by have := hss.2.1; omega
  refine ifb_i (fun hc => ?_) (fun hc => ?_)
  · have hi : i < ps.length := by have : (i : Int) < s.len := by simpa using hc
                                  omega
    obtain ⟨x, hx⟩ : ∃ x, ss[i]? = some x := ⟨_, List.getElem?_eq_getElem (by omega)⟩
    obtain ⟨l, hl, hxl⟩ := hse i x hx
    refine sidx_ld len_sl (hss.ext hs5.fr) (Int.natCast_nonneg _) (by simpa using hx) ?_
    have hflat : (ps.take (i + 1)).flatten = (ps.take i).flatten ++ l := by
      have : ps.take (i + 1) = ps.take i ++ [l] := by rw [List.take_add_one, hl]; rfl
      rw [this]; simp
    have hle : (ps.take (i + 1)).flatten.length ≤ ps.flatten.length := by
      conv => rhs; rw [← List.take_append_drop (i + 1) ps]
      rw [List.flatten_append, List.length_append]; omega
    have hxlen : x.len = l.length := hxl.2.1
    unfold sha_Of.l2
    refine ⟨fun (st : Int × Sl) h' => ∃ j : Nat, j ≤ l.length ∧ SV 1 h st.2 (l.drop j) ∧ St ((ps.take i).flatten ++ l.take j) st.1 h', fun st _ => st.2.len, ⟨0, Nat.zero_le _, by simpa using hxl, bl, hbl, by simpa using hat, by simpa using htk, by simpa using hs5⟩, ?_⟩
    clear hs5 hat htk hbl
    rintro ⟨at2, p⟩ h6 ⟨j, hj, hpl, bl, hbl, hat, htk, hs6⟩
    simp only at hpl hat
    have hplen : p.len = l.length - j := by rw [hpl.2.1]; simp
    have hlt := absorb_len ((ps.take i).flatten ++ l.take j) (iv, []) (by simp)
    refine ifb_i (fun hc => ?_) (fun hc => ?_)
    · have hj' : j < l.length := by have : (0 : Int) < p.len := by simpa using hc
                                    omega
      refine ⟨⟨by omega, by omega⟩, ?_⟩
      have e1 : at2.toNat = (absorb (iv, []) ((ps.take i).flatten ++ l.take j)).2.length := by omega
      rw [e1]
      refine hs6.cpy_ 0 rfl hbl _ hlt (hpl.ext hs6.fr) (fun h7 hs7 => ?_)
      generalize hst : absorb (iv, []) ((ps.take i).flatten ++ l.take j) = stt at *
      obtain ⟨xx, r⟩ := stt
      simp only at *
      have hm : min (l.drop j).length (64 - r.length) = min (l.length - j) (64 - r.length) := by simp
      rw [hm]
      have hmle : min (l.length - j) (64 - r.length) ≤ l.length - j := Nat.min_le_left _ _
      have hmle2 : min (l.length - j) (64 - r.length) ≤ 64 - r.length := Nat.min_le_right _ _
      have hmpos : 0 < min (l.length - j) (64 - r.length) := by omega
      generalize hmm : min (l.length - j) (64 - r.length) = m at *
      have htake : (l.drop j).take (64 - r.length) = (l.drop j).take m := by
        by_cases hcase : l.length - j ≤ 64 - r.length
        · rw [List.take_of_length_le (by simp; omega), List.take_of_length_le (by simp; omega)]
        · rw [show m = 64 - r.length by omega]
      rw [htake] at hs7
      have hml : ((l.drop j).take m).length = m := by simp; omega
      rw [hml, htk] at hs7
      have happ : l.take (j + m) = l.take j ++ (l.drop j).take m := by rw [List.take_add]
      have hadd : iadd at2 (m : Int) = ((r.length + m : Nat) : Int) := by rw [iadd_eq (by omega) (by omega)]; omega
      refine ⟨⟨by omega, by omega⟩, ?_⟩
      rw [hadd]
      have hcut := hpl.cut len_u8 (lo := m) (hi := p.len) (mx := p.cap) (by omega) (Nat.le_refl _) hpl.2.2
      have hcut2 : SV 1 h (p.cut 1 m p.len p.cap) (l.drop (j + m)) := by
        rw [List.drop_drop, List.take_of_length_le (by simp; omega)] at hcut; exact hcut
      have hbl2 : (r ++ (l.drop j).take m ++ bl.drop (r.length + m)).length = 64 := by simp; omega
      rw [show ((m : Int)).toNat = m by simp]
      refine ifb_i (fun hc2 => ?_) (fun hc2 => ?_)
      · have h64' : (r.length : Int) + m = 64 := by simpa using hc2
        have h64 : r.length + m = 64 := by omega
        have hbuf := hs7.arrSV 0 rfl hbl2
        have hbuf2 := hbuf.cut len_u8 (lo := 0) (hi := 64) (mx := 64) (by omega) (Nat.le_refl _) (Nat.le_refl _)
        refine sha_state_block.ok _ _ _ _ (block_spec hv xx _ _ (hT' _ hs7.fr) (hs7.at_ (i := 1) rfl) hv0 hbuf2 (by simp; omega) ?_ (fun h8 hf8 hc8 => ?_))
        · intro a ha
          simp [Sl.cut] at ha
          rw [← ha, show buf.add 0 = buf from rfl]; exact hbv
        · have hs8 := hs7.upd (i := 1) (e := cel 187 hv (enc xx)) (e' := cel 187 hv (enc (blockF xx _))) rfl hf8 hc8 (cel_loc _ _ _) (by intro b hb; simp only [cel, List.mem_singleton] at hb; subst hb; exact ⟨Cel.lt hc8, .inl (by simp [cel])⟩)
          have hfull : absorb (iv, []) ((ps.take i).flatten ++ l.take (j + m)) = (blockF xx (r ++ (l.drop j).take m), []) := by
            rw [happ, ← List.append_assoc, absorb_app, hst]
            exact absorb_full _ _ _ (by rw [hml]; exact h64) (by intro h0; rw [h0] at hml; simp at hml; omega)
          refine ⟨⟨j + m, by omega, hcut2, _, hbl2, ?_, ?_, ?_⟩, ?_⟩
          · rw [hfull]; rfl
          · rw [hfull]; rfl
          · rw [hfull]
            have e9 : (((r ++ (l.drop j).take m ++ bl.drop (r.length + m)).drop 0).take (64 - 0)) = r ++ (l.drop j).take m := by
              rw [List.drop_zero, List.take_append_of_le_length (by simp; omega), List.take_of_length_le (by simp; omega)]
            rw [e9] at hs8
            exact hs8
          · show (p.cut 1 m p.len p.cap).len < p.len
            simp only [Sl.cut]; omega
      · have h64 : r.length + m ≠ 64 := by intro h0; apply absurd hc2; simp [h0]
        have hsh : absorb (iv, []) ((ps.take i).flatten ++ l.take (j + m)) = (xx, r ++ (l.drop j).take m) := by
          rw [happ, ← List.append_assoc, absorb_app, hst]
          exact absorb_short _ _ _ (by rw [hml]; omega)
        refine ⟨⟨j + m, by omega, hcut2, _, hbl2, ?_, ?_, ?_⟩, ?_⟩
        · rw [hsh]; simp only [List.length_append, hml]
        · rw [hsh]; rw [List.take_append_of_le_length (by simp), List.take_of_length_le (by simp)]
        · rw [hsh]; exact hs7
        · show (p.cut 1 m p.len p.cap).len < p.len
          simp only [Sl.cut]; omega
    · have hj2 : j = l.length := by
        have : ¬ (0 : Int) < p.len := by simpa using hc
        omega
      subst hj2
      unfold sha_Of.j2
      have e1 : iadd (i : Int) 1 = ((i + 1 : Nat) : Int) := by rw [iadd_eq (by omega) (by omega)]; omega
      have e2 : iadd n (x.len : Int) = ((ps.take (i + 1)).flatten.length : Int) := by
        rw [hflat, List.length_append] at hle ⊢
        rw [iadd_eq (by omega) (by omega)]; omega
      refine ⟨⟨i + 1, e1, by omega, e2, bl, hbl, ?_, ?_, ?_⟩, ?_⟩
      · rw [hflat]; simpa using hat
      · rw [hflat]; simpa using htk
      · rw [hflat]; simpa using hs6
      · show (ps.length - iadd (i : Int) 1).toNat < (ps.length - (i : Int)).toNat
        rw [e1]; omega
  · have hi : i = ps.length := by
      have : ¬ (i : Int) < s.len := by simpa using hc
      omega
    subst hi
    rw [List.take_length] at hat htk hs5 hnn
    have hlt := absorb_len ps.flatten (iv, []) (by simp)
    have hfin : shaF ps.flatten = outF (finish (absorb (iv, []) ps.flatten).1 (absorb (iv, []) ps.flatten).2 (ps.flatten.length : Int)) := rfl
    rw [hfin] at hk
    generalize absorb (iv, []) ps.flatten = stt at *
    obtain ⟨xx, r⟩ := stt
    simp only at *
    subst hat hnn
    unfold sha_Of.j1
    refine hs5.bst 0 rfl arr_len (by omega) (by omega) (fun h6 hs6 => ?_)
    rw [updN_arrOf _ _ _ (by omega)] at hs6
    have ea : iadd (r.length : Int) 1 = ((r.length + 1 : Nat) : Int) := by rw [iadd_eq (by omega) (by omega)]; omega
    rw [ea]
    refine ⟨⟨by omega, by omega⟩, ?_⟩
    rw [show ((r.length + 1 : Nat) : Int).toNat = r.length + 1 by simp]
    refine hs6.clr_ 0 rfl (by simp [hbl]) (r.length + 1) (by omega) (fun h7 hs7 => ?_)
    have e12 : ((bl.set (r.length : Int).toNat 128).take (r.length + 1) ++ List.replicate (64 - (r.length + 1)) (0 : UInt8)) = r ++ (128 : UInt8) :: List.replicate (63 - r.length) 0 := by
      have hb2 : bl = r ++ bl.drop r.length := by conv => lhs; rw [← List.take_append_drop r.length bl, htk]
      have hd : bl.drop r.length = bl[r.length]'(by omega) :: bl.drop (r.length + 1) := List.drop_eq_getElem_cons (by omega)
      rw [hd] at hb2
      rw [show ((r.length : Nat) : Int).toNat = r.length by simp]
      conv => lhs; rw [hb2]
      rw [List.set_append_right _ _ (Nat.le_refl _), Nat.sub_self, List.set_cons_zero]
      rw [show r ++ (128 : UInt8) :: bl.drop (r.length + 1) = (r ++ [128]) ++ bl.drop (r.length + 1) by simp, List.take_left' (by simp)]
      simp [show 64 - (r.length + 1) = 63 - r.length by omega]
    rw [e12] at hs7
    simp only [List.set_cons_zero] at hs7
    have hpl : (r ++ (128 : UInt8) :: List.replicate (63 - r.length) 0).length = 64 := by simp; omega
    refine ifb_i (fun hc2 => ?_) (fun hc2 => ?_)
    · have h56 : 56 ≤ r.length := by have : (56 : Int) ≤ r.length := by simpa using hc2
                                     omega
      have hbuf := hs7.arrSV 0 rfl hpl
      have hbuf2 := hbuf.cut len_u8 (lo := 0) (hi := 64) (mx := 64) (by omega) (Nat.le_refl _) (Nat.le_refl _)
      refine sha_state_block.ok _ _ _ _ (block_spec hv xx _ _ (hT' _ hs7.fr) (hs7.at_ (i := 1) rfl) hv0 hbuf2 (by simp; omega) ?_ (fun h8 hf8 hc8 => ?_))
      · intro a ha
        simp [Sl.cut] at ha
        rw [← ha, show buf.add 0 = buf from rfl]; exact hbv
      have hs8 := hs7.upd (i := 1) (e := cel 187 hv (enc xx)) (e' := cel 187 hv (enc (blockF xx _))) rfl hf8 hc8 (cel_loc _ _ _) (by intro b hb; simp only [cel, List.mem_singleton] at hb; subst hb; exact ⟨Cel.lt hc8, .inl (by simp [cel])⟩)
      have e10 : (((r ++ (128 : UInt8) :: List.replicate (63 - r.length) 0).drop 0).take (64 - 0)) = r ++ (128 : UInt8) :: List.replicate (63 - r.length) 0 := by rw [List.drop_zero, List.take_of_length_le (by omega)]
      rw [e10] at hs8
      refine hs8.clr_ 0 rfl hpl 0 (by omega) (fun h9 hs9 => ?_)
      refine tail _ _ ps.flatten.length h9 (by simp) hs9 (fun h10 hx10 => ?_)
      have := hk h10 hx10
      unfold finish at this
      rw [if_pos h56] at this
      simpa using this
    · have h56 : ¬ 56 ≤ r.length := by have : ¬ (56 : Int) ≤ r.length := by simpa using hc2
                                       omega
      refine tail _ _ ps.flatten.length h7 hpl hs7 (fun h10 hx10 => ?_)
      have := hk h10 hx10
      unfold finish at this
      rw [if_neg h56] at this
      exact this
theorem code_Writer_Num.ok (w : Pt) (list : Sl) (k : Unit → H → Prop) (h : H) (hh : code_Writer_Num.b w list k h) : CallsH Prog 92 [reg w, reg list].toArray h fun v h' => ∃ r : Unit, v = reg r ∧ k r h' := by
 unfold code_Writer_Num.b at hh
 refine CallsH.of 34 Tryd.func92 rfl Tryd.ntmps92 rfl (fun w0 => ?_)
 refine CW.seq ?_
 refine .sr (.M (reg w) (.V (v_eq_nil pt_143 rfl rfl) (.nx ?_)))
 refine CW.cond w.isNone rfl (fun hb => ?_) (fun hb => ?_)
 ·have hh := hh.1 hb
  refine CW.ret ?_
  refine QN.thenRet ?_
  exact ret0 rfl ⟨(), rfl, hh⟩
 ·have hh := hh.2 hb
  refine CW.skip ?_
  refine QN.then_ ?_
  refine .sr (.M (reg list) (.V (v_len_sl (sl_49).1 rfl) (.M (reg ((0 : Int) : Int)) (.nx ?_))))
  refine CW.block ?_
  unfold code_Writer_Num.l1 at hh
  refine CW.loop (fun (σ0 : Int) ρ => match σ0 with | t11 => ∃ ρ' : Env, ρ = setl ρ' [(0, reg w), (9, reg list), (10, reg ((list.len : Int) : Int)), (11, reg t11)]) hh ⟨_, setl_eq ⟨rfl, ⟨rfl, ⟨rfl, ⟨rfl, trivial⟩⟩⟩⟩⟩ ?_
  clear hh
  rintro s1 t11 ρ h ⟨ρ', rfl⟩ hh
  refine .sr (.V (v_ilss rfl rfl) (.nx (.seq ?_)))
  refine CW.cond (decide (t11 < (list.len : Int))) rfl (fun hb_1 => ?_) (fun hb_1 => ?_)
  ·have hh := hh.1 hb_1
   refine CW.skip ?_
   refine QN.then_ ?_
   refine CW.join (fun ρ h => ∃ (ρ' : Env), ρ = setl ρ' [(0, reg w), (9, reg list), (10, reg ((list.len : Int) : Int)), (11, reg t11)] ∧ (code_Writer_Num.j1 s1) w list (list.len : Int) t11 h) ?_ ?_
   ·refine CW.block ?_
    refine .sr ?_
    obtain ⟨t13, ht13, hh⟩ := hh
    refine .V (v_idx_slP sl_49 rfl rfl ht13.1 ht13.2.1 ht13.2.2) (.L 0 na_3 get_3_all hh rfl (fun t14 hh => .A (reg t14) (.nx (.sr (.A (reg ((56 : Int) : Int)) (.nx ?_))))))
    refine CW.block ?_
    unfold code_Writer_Num.l2 at hh
    refine CW.loop (fun (σ0 : Int) ρ => match σ0 with | i => ∃ ρ' : Env, ρ = setl ρ' [(0, reg w), (5, reg t14), (9, reg list), (10, reg ((list.len : Int) : Int)), (11, reg t11), (6, reg i)]) hh ⟨_, setl_eq ⟨rfl, ⟨rfl, ⟨rfl, ⟨rfl, ⟨rfl, ⟨rfl, trivial⟩⟩⟩⟩⟩⟩⟩ ?_
    clear hh
    rintro s2 i ρ h ⟨ρ', rfl⟩ hh
    refine CW.seq ?_
    refine .sr (.M (reg i) (.V (v_igeq rfl rfl) (.nx ?_)))
    refine CW.cond (decide ((0 : Int) ≤ i)) rfl (fun hb_2 => ?_) (fun hb_2 => ?_)
    ·have hh := hh.1 hb_2
     refine CW.skip ?_
     refine QN.then_ ?_
     refine CW.seq ?_
     refine CW.block ?_
     refine CW.drawN 15 rfl follows_mixed [0, 1, 2, 3, 4, 5, 6, 7, 8, 9, 12, 13] ?_
     refine .P 0 rfl (v_move (v := reg w) rfl) (.P 1 rfl (v_move (v := reg w) rfl) ?_)
     obtain ⟨p, hp, hh⟩ := hh
     refine .P 2 rfl (v_nilCheck (congrArg Value.pointer hp)) (.P 3 rfl (v_fieldAddr fl_145_0 rfl) (.KL 4 0 na_130 get_145_b rfl hh rfl (fun t23 hh => .P 5 rfl (v_move (v := reg t14) rfl) (.P 6 rfl (v_conv_u64 un_3 un_190 rfl) (.P 7 rfl (v_move (v := reg i) rfl) ?_)))))
     obtain ⟨hm, hh⟩ := hh
     refine .P 8 rfl (v_shr64 (a := (toU64 t14)) rfl rfl hm) (.P 9 rfl (v_conv_u8 un_190 un_5 rfl) ?_)
     refine mks_elim hh (fun pt29 t29 hpt29 ht29 hh => ?_)
     refine .w 10 (by kernel_rfl) rfl (by kernel_rfl) (.e (e_mks [((toU8 ((shr64 (toU64 t14) i.toNat).toNat : Int)) : UInt8)] hpt29 ht29 zo_5 sl_130 rfl rfl rfl rfl rfl ?_))
     obtain ⟨hc, hh⟩ := hh
     refine ⟨⟨trivial, .inr hc⟩, ?_⟩
     refine .w 11 (by kernel_rfl) rfl (by kernel_rfl) (.e (e_app sl_130 zo_5 by_5 rfl rfl rfl hh ?_))
     intro h t30 hh
     refine ⟨⟨trivial, .inl (by kernel_rfl)⟩, ?_⟩
     refine .P 12 rfl (v_nilCheck (congrArg Value.pointer hp)) (.P 13 rfl (v_fieldAddr fl_145_0 rfl) ?_)
     obtain ⟨xw_3, hxw_3, hwxw_3, hh⟩ := hh
     refine .w 14 (by kernel_rfl) rfl (by kernel_rfl) (.e (e_storeN (p := p) (nv := enc (t30 : Sl)) 0 rfl rfl rfl sz_130 (one_sl _) hxw_3 hwxw_3 (len_code_Writer _) (len_sl _) rfl (set_145_b xw_3 (t30 : Sl)) ?_))
     refine ⟨⟨trivial, .inl (by kernel_rfl)⟩, ?_⟩
     refine .done (by kernel_rfl) ?_
     refine QN.blockN ?_
     refine QN.then_ ?_
     refine CW.region ?_
     refine .M (reg i) (.V (v_isub rfl rfl) (.A (reg ((isub i (8 : Int)) : Int)) ?_))
     refine .nil ?_
     exact QN.thenJ ⟨(isub i (8 : Int)), ⟨_, setl_eq ⟨rfl, ⟨rfl, ⟨rfl, ⟨rfl, ⟨rfl, ⟨rfl, trivial⟩⟩⟩⟩⟩⟩⟩, hh⟩
    ·have hh := hh.2 hb_2
     refine CW.exit ?_
     refine QN.thenExit ?_
     refine QN.thenExit ?_
     refine QN.blockExit ?_
     refine QN.blockN ?_
     exact QN.thenJ ⟨_, setl_eq ⟨rfl, ⟨rfl, ⟨rfl, ⟨rfl, trivial⟩⟩⟩⟩, hh⟩
   ·rintro ρ h ⟨ρ', rfl, hh⟩
    unfold code_Writer_Num.j1 at hh
    refine CW.region ?_
    refine .V (v_iadd rfl rfl) (.M (reg ((iadd t11 (1 : Int)) : Int)) ?_)
    refine .nil ?_
    exact QN.thenJ ⟨(iadd t11 (1 : Int)), ⟨_, setl_eq ⟨rfl, ⟨rfl, ⟨rfl, ⟨rfl, trivial⟩⟩⟩⟩⟩, hh⟩
  ·have hh := hh.2 hb_1
   refine CW.exit ?_
   refine QN.thenExit ?_
   refine QN.thenExit ?_
   refine QN.blockExit ?_
   exact ret0n rfl ⟨(), rfl, hh⟩
theorem code_Writer_Digest.ok (w : Pt) (list : Sl) (k : Unit → H → Prop) (h : H) (hh : code_Writer_Digest.b w list k h) : CallsH Prog 93 [reg w, reg list].toArray h fun v h' => ∃ r : Unit, v = reg r ∧ k r h' := by
 unfold code_Writer_Digest.b at hh
 refine CallsH.of 24 Tryd.func93 rfl Tryd.ntmps93 rfl (fun w0 => ?_)
 refine CW.seq ?_
 refine .sr (.M (reg w) (.V (v_eq_nil pt_143 rfl rfl) (.nx ?_)))
 refine CW.cond w.isNone rfl (fun hb => ?_) (fun hb => ?_)
 ·have hh := hh.1 hb
  refine CW.ret ?_
  refine QN.thenRet ?_
  exact ret0 rfl ⟨(), rfl, hh⟩
 ·have hh := hh.2 hb
  refine CW.skip ?_
  refine QN.then_ ?_
  refine .sr (.M (reg list) (.V (v_len_sl (sl_31).1 rfl) (.M (reg ((0 : Int) : Int)) (.nx ?_))))
  refine CW.block ?_
  unfold code_Writer_Digest.l1 at hh
  refine CW.loop (fun (σ0 : Int) ρ => match σ0 with | t10 => ∃ ρ' : Env, ρ = setl ρ' [(0, reg w), (8, reg list), (9, reg ((list.len : Int) : Int)), (10, reg t10)]) hh ⟨_, setl_eq ⟨rfl, ⟨rfl, ⟨rfl, ⟨rfl, trivial⟩⟩⟩⟩⟩ ?_
  clear hh
  rintro s1 t10 ρ h ⟨ρ', rfl⟩ hh
  refine .sr (.V (v_ilss rfl rfl) (.nx (.seq ?_)))
  refine CW.cond (decide (t10 < (list.len : Int))) rfl (fun hb_1 => ?_) (fun hb_1 => ?_)
  ·have hh := hh.1 hb_1
   refine CW.skip ?_
   refine QN.then_ ?_
   refine CW.seq ?_
   refine CW.block ?_
   refine .sr ?_
   obtain ⟨t12, ht12, hh⟩ := hh
   refine .V (v_idx_slP sl_31 rfl rfl ht12.1 ht12.2.1 ht12.2.2) (.LA 0 ag_24 get_24_all (fun _ => (arr_len (n := 32) _)) hh rfl (fun t13 hh => ?_))
   refine box_elim hh (fun d hd hh => ?_)
   refine .e (e_allocP hd zo_24 rfl ?_)
   refine .S (t13 : Arr 32 UInt8) 0 sz_24 (one_arr (n := 32) (fun _ => rfl) _) (fun _ => arr_len (n := 32) _) (arr_len (n := 32) _) (fun x => set_24_all x (t13 : Arr 32 UInt8)) hh rfl rfl (fun _ hh => .nx ?_)
   refine CW.drawN 10 rfl follows_mixed [0, 1, 2, 3, 4, 5, 7, 8] ?_
   refine .P 0 rfl (v_move (v := reg w) rfl) (.P 1 rfl (v_move (v := reg w) rfl) ?_)
   obtain ⟨p, hp, hh⟩ := hh
   refine .P 2 rfl (v_nilCheck (congrArg Value.pointer hp)) (.P 3 rfl (v_fieldAddr fl_145_0 rfl) (.KL 4 0 na_130 get_145_b rfl hh rfl (fun t18 hh => .P 5 rfl (v_slice_an ar_24 rfl) ?_)))
   refine .w 6 (by kernel_rfl) rfl (by kernel_rfl) (.e (e_app sl_130 zo_5 by_5 rfl rfl rfl hh ?_))
   intro h t20 hh
   refine ⟨⟨trivial, .inl (by kernel_rfl)⟩, ?_⟩
   refine .P 7 rfl (v_nilCheck (congrArg Value.pointer hp)) (.P 8 rfl (v_fieldAddr fl_145_0 rfl) ?_)
   obtain ⟨xw_3, hxw_3, hwxw_3, hh⟩ := hh
   refine .w 9 (by kernel_rfl) rfl (by kernel_rfl) (.e (e_storeN (p := p) (nv := enc (t20 : Sl)) 0 rfl rfl rfl sz_130 (one_sl _) hxw_3 hwxw_3 (len_code_Writer _) (len_sl _) rfl (set_145_b xw_3 (t20 : Sl)) ?_))
   refine ⟨⟨trivial, .inl (by kernel_rfl)⟩, ?_⟩
   refine .done (by kernel_rfl) ?_
   refine QN.blockN ?_
   refine QN.then_ ?_
   refine CW.region ?_
   refine .V (v_iadd rfl rfl) (.M (reg ((iadd t10 (1 : Int)) : Int)) ?_)
   refine .nil ?_
   exact QN.thenJ ⟨(iadd t10 (1 : Int)), ⟨_, setl_eq ⟨rfl, ⟨rfl, ⟨rfl, ⟨rfl, trivial⟩⟩⟩⟩⟩, hh⟩
  ·have hh := hh.2 hb_1
   refine CW.exit ?_
   refine QN.thenExit ?_
   refine QN.thenExit ?_
   refine QN.blockExit ?_
   exact ret0n rfl ⟨(), rfl, hh⟩
theorem code_Writer_Bytes.ok (w : Pt) (k : Sl → H → Prop) (h : H) (hh : code_Writer_Bytes.b w k h) : CallsH Prog 61 [reg w].toArray h fun v h' => ∃ r : Sl, v = reg r ∧ k r h' := by
 unfold code_Writer_Bytes.b at hh
 refine CallsH.of 15 Tryd.func61 rfl Tryd.ntmps61 rfl (fun w0 => ?_)
 refine .sr (.A (reg (Sl.nil : Sl)) (.nx (.seq (.sr (.M (reg w) (.V (v_eq_nil pt_143 rfl rfl) (.nx ?_)))))))
 refine CW.cond w.isNone rfl (fun hb => ?_) (fun hb => ?_)
 ·have hh := hh.1 hb
  refine .sr (.A (reg (Sl.nil : Sl)) (.nx ?_))
  refine CW.ret ?_
  refine QN.thenRet ?_
  exact ret1 rfl rfl ⟨(Sl.nil : Sl), rfl, hh⟩
 ·have hh := hh.2 hb
  refine CW.skip ?_
  refine QN.then_ ?_
  refine CW.seq ?_
  refine CW.drawN 11 rfl follows_mixed [0, 1, 2, 3, 4, 5, 6, 7, 8, 10] ?_
  refine .P 0 rfl (v_move (v := reg w) rfl) ?_
  obtain ⟨p, hp, hh⟩ := hh
  refine .P 1 rfl (v_nilCheck (congrArg Value.pointer hp)) (.P 2 rfl (v_fieldAddr fl_145_0 rfl) (.KL 3 0 na_130 get_145_b rfl hh rfl (fun t8 hh => ?_)))
  obtain ⟨hm, hh⟩ := hh
  refine .P 4 rfl (v_slice_hm sl_130 rfl rfl rfl hm.1 hm.2.1 hm.2.2) (.P 5 rfl (v_move (v := reg w) rfl) (.P 6 rfl (v_nilCheck (congrArg Value.pointer hp)) (.P 7 rfl (v_fieldAddr fl_145_0 rfl) (.KL 8 0 na_130 get_145_b rfl hh rfl (fun t13 hh => ?_)))))
  refine .w 9 (by kernel_rfl) rfl (by kernel_rfl) (.e (e_app sl_130 zo_5 by_5 rfl rfl rfl hh ?_))
  intro h t14 hh
  refine ⟨⟨⟨trivial, .inl (by kernel_rfl)⟩, .inl (by kernel_rfl)⟩, ?_⟩
  refine .P 10 rfl (v_assign (v := reg t14) rfl) ?_
  refine .done (by kernel_rfl) ?_
  refine QN.then_ ?_
  refine CW.ret ?_
  exact ret1 rfl rfl ⟨(t14 : Sl), rfl, hh⟩
def numB (n : Int) : List UInt8 := [56, 48, 40, 32, 24, 16, 8, 0].map fun i => toU8 ((shr64 (toU64 n) i).toNat : Int)
theorem numB_len (n : Int) : (numB n).length = 8 := rfl
def WrA (p : Addr) (sl : Sl) (bs : List UInt8) (h : H) : Prop := Cel 145 p (enc (⟨sl⟩ : code_Writer)) h ∧ OwnA 5 1 sl bs h ∧ p.block ∉ blk sl
def wrt (p : Addr) (sl : Sl) (bs : List UInt8) : En := ⟨p.block :: blk sl, WrA p sl bs⟩
theorem wrt_loc (p : Addr) (sl : Sl) (bs : List UInt8) : Go.Sh.Loc (wrt p sl bs) := fun h h' hb H =>
  ⟨cel_loc 145 p _ h h' (fun b hb' => hb b (by simp only [cel, List.mem_singleton] at hb'; subst hb'; simp [wrt])) H.1, own_loc 5 1 sl bs h h' (fun b hb' => hb b (by simp only [own] at hb'; simp [wrt, hb'])) H.2.1, H.2.2⟩
theorem WrA.lt {p : Addr} {sl : Sl} {bs : List UInt8} {h : H} (H : WrA p sl bs h) : ∀ b ∈ p.block :: blk sl, b < h.size := by
  intro b hb
  rcases List.mem_cons.1 hb with rfl | hb
  · exact H.1.lt
  · exact H.2.1.lt b hb
theorem Sat.initW {p : Addr} {sl : Sl} {bs : List UInt8} {h : H} (H : WrA p sl bs h) : Sat h (p.block :: blk sl) h [cel 145 p (enc (⟨sl⟩ : code_Writer)), own 5 1 sl bs] := by
  refine ⟨Fr.refl _ _, ?_, ?_⟩
  · intro e he
    simp only [List.mem_cons, List.not_mem_nil, or_false] at he
    rcases he with rfl | rfl
    · exact ⟨H.1, cel_loc _ _ _, fun b hb => ⟨by simp only [cel, List.mem_singleton] at hb; subst hb; exact H.1.lt, .inl (by simp only [cel, List.mem_singleton] at hb; simp [hb])⟩⟩
    · exact ⟨H.2.1, own_loc _ _ _ _, fun b hb => ⟨H.2.1.lt b hb, .inl (by simp only [own] at hb; simp [hb])⟩⟩
  · rw [List.pairwise_cons]
    refine ⟨?_, by simp⟩
    intro e he x hx
    simp only [List.mem_singleton] at he
    subst he
    simp only [cel, List.mem_singleton] at hx
    subst hx
    exact H.2.2
theorem Sat.toW {h0 h : H} {S : List Nat} {L : List En} {p : Addr} {sl : Sl} {bs : List UInt8} (i j : Nat) (hs : Sat h0 S h L) (hi : L[i]? = some (cel 145 p (enc (⟨sl⟩ : code_Writer)))) (hj : L[j]? = some (own 5 1 sl bs)) (hne : i ≠ j) :
    WrA p sl bs h ∧ ∀ b ∈ blk sl, b < h.size ∧ (b ∈ S ∨ h0.size ≤ b) :=
  ⟨⟨hs.at_ hi, hs.at_ hj, hs.disj hi hj hne p.block (by simp [cel])⟩, fun b hb => (hs.ok _ (List.mem_of_getElem? hj)).2.2 b hb⟩
theorem len_wr (y : code_Writer) : (enc y).length = 1 := len_code_Writer y
theorem Num_spec (p : Addr) (sl : Sl) (bs : List UInt8) (s : Sl) (ns : List Int) {k : Unit → H → Prop} {h : H} (hw : WrA p sl bs h) (hv : SV 1 h s ns) (hd : ∀ b ∈ blk s, b ∉ p.block :: blk sl) (hbig : bs.length + 8 * ns.length < 2 ^ 40)
    (hk : ∀ sl' h', Fr (p.block :: blk sl) h h' → WrA p sl' (bs ++ (ns.map numB).flatten) h' → (∀ b ∈ blk sl', b < h'.size ∧ (b ∈ p.block :: blk sl ∨ h.size ≤ b)) → k () h') : code_Writer_Num.b (some p) s k h := by
  unfold code_Writer_Num.b
  refine ifb_i (fun hc => by cases hc) (fun _ => ?_)
  unfold code_Writer_Num.l1
  have hsl : s.len = ns.length := hv.2.1
  refine ⟨fun (t : Int) h' => ∃ i : Nat, t = i ∧ i ≤ ns.length ∧ ∃ sl', Sat h (p.block :: blk sl) h' [cel 145 p (enc (⟨sl'⟩ : code_Writer)), own 5 1 sl' (bs ++ ((ns.take i).map numB).flatten)], fun t _ => (ns.length - t).toNat, ⟨0, rfl, Nat.zero_le _, sl, by simpa using Sat.initW hw⟩, ?_⟩
  rintro t h2 ⟨i, rfl, hi, sl', hs⟩
  refine ifb_i (fun hc => ?_) (fun hc => ?_)
  · have hi' : i < ns.length := by have : (i : Int) < s.len := by simpa using hc
                                   omega
    have hflat : ∀ j ≤ ns.length, ((ns.take j).map numB).flatten.length = 8 * j := by
      intro j hj
      rw [flatten_len 8 _ (by intro x hx; simp only [List.mem_map] at hx; obtain ⟨y, _, rfl⟩ := hx; rfl)]
      simp; omega
    have hgi : ns[i]? = some ns[i] := List.getElem?_eq_getElem hi'
    refine sidx_ld len_i (hv.fr' hs.fr hd) (Int.natCast_nonneg _) (by rw [Int.toNat_natCast]; exact hgi) ?_
    generalize hni : ns[i] = n at *
    unfold code_Writer_Num.l2
    refine ⟨fun (t : Int) h' => ∃ j : Nat, j ≤ 8 ∧ t = 56 - 8 * (j : Int) ∧ ∃ sl', Sat h (p.block :: blk sl) h' [cel 145 p (enc (⟨sl'⟩ : code_Writer)), own 5 1 sl' (bs ++ ((ns.take i).map numB).flatten ++ (numB n).take j)], fun t _ => (t + 8).toNat, ⟨0, by omega, rfl, sl', by simpa using hs⟩, ?_⟩
    clear hs
    rintro t h3 ⟨j, hj, rfl, sl2, hs⟩
    refine ifb_i (fun hc2 => ?_) (fun hc2 => ?_)
    · have hj' : j < 8 := by have : (0 : Int) ≤ 56 - 8 * (j : Int) := by simpa using hc2
                             omega
      refine nn_i ?_
      refine hs.ld_ 0 rfl ?_
      refine ⟨by omega, ?_⟩
      refine hs.mks_ (n := 1) (fun s1 h4 hs4 hl4 _ => ?_)
      refine hs4.chk_ 1 rfl rfl ?_
      refine hs4.app_ 2 rfl (hs4.ownSV 0 rfl len_u8) len_u8 one_u8 rfl ?_ ?_ (fun r h5 hs5 hl5 => ?_)
      · simp only [List.length_append, hflat i hi, List.length_take, numB_len, maxBytes, List.length_cons, List.length_nil]; omega
      · simp only [List.length_append, hflat i hi, List.length_take, numB_len, List.length_cons, List.length_nil]; omega
      refine hs5.st_ 1 rfl len_wr (fun h6 hs6 _ => ?_)
      have e : isub (56 - 8 * (j : Int)) 8 = 56 - 8 * ((j + 1 : Nat) : Int) := by rw [isub_eq (by omega) (by omega)]; omega
      rw [e]
      refine ⟨⟨j + 1, hj', rfl, r, ?_⟩, by dsimp only; omega⟩
      have hnb : (numB n)[j]? = some (toU8 ((shr64 (toU64 n) (56 - 8 * (j : Int)).toNat).toNat : Int)) := by
        have : (56 - 8 * (j : Int)).toNat = 56 - 8 * j := by omega
        rw [this]
        have : j = 0 ∨ j = 1 ∨ j = 2 ∨ j = 3 ∨ j = 4 ∨ j = 5 ∨ j = 6 ∨ j = 7 := by omega
        rcases this with rfl | rfl | rfl | rfl | rfl | rfl | rfl | rfl <;> rfl
      have ht : (numB n).take (j + 1) = (numB n).take j ++ [toU8 ((shr64 (toU64 n) (56 - 8 * (j : Int)).toNat).toNat : Int)] := by
        rw [List.take_add_one, hnb]; rfl
      rw [ht]
      have := hs6.drop (L' := [cel 145 p (enc (⟨r⟩ : code_Writer)), own 5 1 r (bs ++ ((ns.take i).map numB).flatten ++ (numB n).take j ++ [toU8 ((shr64 (toU64 n) (56 - 8 * (j : Int)).toNat).toNat : Int)])]) (List.sublist_cons_self _ _)
      simpa using this
    · have hj' : j = 8 := by
        have : ¬ (0 : Int) ≤ 56 - 8 * (j : Int) := by simpa using hc2
        omega
      subst hj'
      unfold code_Writer_Num.j1
      have e : iadd (i : Int) 1 = ((i + 1 : Nat) : Int) := by rw [iadd_eq (by omega) (by omega)]; omega
      rw [e]
      refine ⟨⟨i + 1, rfl, hi', sl2, ?_⟩, by dsimp only; omega⟩
      have ht : ns.take (i + 1) = ns.take i ++ [n] := by rw [List.take_add_one, hgi]; rfl
      rw [ht]
      have e8 : (numB n).take 8 = numB n := rfl
      rw [e8] at hs
      simpa using hs
  · have hi' : i = ns.length := by
      have : ¬ (i : Int) < s.len := by simpa using hc
      omega
    subst hi'
    rw [List.take_length] at hs
    obtain ⟨h1, h3⟩ := Sat.toW 0 1 hs rfl rfl (by decide)
    exact hk sl' _ hs.fr h1 h3
theorem Digest_spec (p : Addr) (sl : Sl) (bs : List UInt8) (s : Sl) (ds : List Dig) {k : Unit → H → Prop} {h : H} (hw : WrA p sl bs h) (hv : SV 32 h s ds) (hd : ∀ b ∈ blk s, b ∉ p.block :: blk sl) (hbig : bs.length + 32 * ds.length < 2 ^ 40)
    (hk : ∀ sl' h', Fr (p.block :: blk sl) h h' → WrA p sl' (bs ++ (ds.map List.ofFn).flatten) h' → (∀ b ∈ blk sl', b < h'.size ∧ (b ∈ p.block :: blk sl ∨ h.size ≤ b)) → k () h') : code_Writer_Digest.b (some p) s k h := by
  unfold code_Writer_Digest.b
  refine ifb_i (fun hc => by cases hc) (fun _ => ?_)
  unfold code_Writer_Digest.l1
  have hsl : s.len = ds.length := hv.2.1
  refine ⟨fun (t : Int) h' => ∃ i : Nat, t = i ∧ i ≤ ds.length ∧ ∃ sl', Sat h (p.block :: blk sl) h' [cel 145 p (enc (⟨sl'⟩ : code_Writer)), own 5 1 sl' (bs ++ ((ds.take i).map List.ofFn).flatten)], fun t _ => (ds.length - t).toNat, ⟨0, rfl, Nat.zero_le _, sl, by simpa using Sat.initW hw⟩, ?_⟩
  rintro t h2 ⟨i, rfl, hi, sl', hs⟩
  refine ifb_i (fun hc => ?_) (fun hc => ?_)
  · have hi' : i < ds.length := by have : (i : Int) < s.len := by simpa using hc
                                   omega
    have hflat : ∀ j ≤ ds.length, ((ds.take j).map List.ofFn).flatten.length = 32 * j := by
      intro j hj
      rw [flatten_len 32 _ (by intro x hx; simp only [List.mem_map] at hx; obtain ⟨y, _, rfl⟩ := hx; simp)]
      simp; omega
    have hgi : ds[i]? = some ds[i] := List.getElem?_eq_getElem hi'
    refine sidx_ld arr_len (hv.fr' hs.fr hd) (Int.natCast_nonneg _) (by rw [Int.toNat_natCast]; exact hgi) ?_
    generalize hni : ds[i] = n at *
    refine hs.box_ (fun d h3 hs3 _ _ => ?_)
    refine hs3.st_ 0 rfl arr_len (fun h4 hs4 _ => ?_)
    refine nn_i ?_
    refine hs4.ld_ 1 rfl ?_
    have hs4' : Sat h (p.block :: blk sl) h4 [cel 24 d (enc (arrOf (List.ofFn n) : Arr 32 UInt8)), cel 145 p (enc (⟨sl'⟩ : code_Writer)), own 5 1 sl' (bs ++ ((ds.take i).map List.ofFn).flatten)] := by
      rw [arrOf_ofFn]; exact hs4
    have hx := (hs4'.arrSV 0 rfl (by simp)).cut len_u8 (lo := 0) (hi := 32) (mx := 32) (by omega) (Nat.le_refl _) (Nat.le_refl _)
    have ex : ((List.ofFn n).drop 0).take (32 - 0) = List.ofFn n := by rw [List.drop_zero, List.take_of_length_le (by simp)]
    rw [ex] at hx
    refine hs4.app_ 2 rfl hx len_u8 one_u8 rfl ?_ ?_ (fun r h5 hs5 hl5 => ?_)
    · simp only [List.length_append, hflat i hi, List.length_ofFn, maxBytes]; omega
    · simp only [List.length_append, hflat i hi, List.length_ofFn]; omega
    refine hs5.st_ 1 rfl len_wr (fun h6 hs6 _ => ?_)
    have e : iadd (i : Int) 1 = ((i + 1 : Nat) : Int) := by rw [iadd_eq (by omega) (by omega)]; omega
    rw [e]
    refine ⟨⟨i + 1, rfl, hi', r, ?_⟩, by dsimp only; omega⟩
    have ht : ds.take (i + 1) = ds.take i ++ [n] := by rw [List.take_add_one, hgi]; rfl
    rw [ht]
    have := hs6.drop (L' := [cel 145 p (enc (⟨r⟩ : code_Writer)), own 5 1 r (bs ++ ((ds.take i).map List.ofFn).flatten ++ List.ofFn n)]) (List.sublist_cons_self _ _)
    simpa only [List.map_append, List.flatten_append, List.map_cons, List.map_nil, List.flatten_cons, List.flatten_nil, List.append_nil, List.append_assoc] using this
  · have hi' : i = ds.length := by
      have : ¬ (i : Int) < s.len := by simpa using hc
      omega
    subst hi'
    rw [List.take_length] at hs
    obtain ⟨h1, h3⟩ := Sat.toW 0 1 hs rfl rfl (by decide)
    exact hk sl' _ hs.fr h1 h3
/-- the bytes of a writer, copied -/
theorem Bytes_spec (p : Addr) (sl : Sl) (bs : List UInt8) {k : Sl → H → Prop} {h : H} (hw : WrA p sl bs h) (hne : bs ≠ []) (hbig : bs.length < 2 ^ 40)
    (hk : ∀ r h', Ext h h' → OwnA 5 1 r bs h' → (∀ b ∈ blk r, h.size ≤ b ∧ b < h'.size) → k r h') : code_Writer_Bytes.b (some p) k h := by
  unfold code_Writer_Bytes.b
  refine ifb_i (fun hc => by cases hc) (fun _ => ?_)
  refine nn_i ?_
  have hW : AtH h p (enc (⟨sl⟩ : code_Writer)) := hw.1.at_
  refine ld_old hW ?_
  refine ⟨⟨by omega, by omega, by omega⟩, ?_⟩
  refine ld_old hW ?_
  have hsv := hw.2.1.sv len_u8
  have hcut : ∀ h, SV 1 h sl bs → SV 1 h (sl.cut 1 0 (0 : Int).toNat (0 : Int).toNat) ([] : List UInt8) := by
    intro h hv
    have := hv.cut len_u8 (lo := 0) (hi := 0) (mx := 0) (Nat.le_refl _) (Nat.zero_le _) (Nat.le_refl _)
    simpa using this
  refine ⟨[], bs.map reg, by simpa using (hcut h hsv).1, .inl hsv.bytes, one_bytes _, fun hroom => ?_, fun hgrow => ⟨?_, ?_, fun q cap r hq hcap hr => ?_⟩⟩
  · have hl0 : sl.len = 0 := by simp only [Sl.cut] at hroom; omega
    have hb0 : bs = [] := List.eq_nil_of_length_eq_zero (by rw [← hsv.2.1]; exact hl0)
    exact absurd hb0 hne
  · simp only [Sl.cut, maxBytes]; rw [hsv.2.1]; omega
  · simp only [Sl.cut]; rw [hsv.2.1]; omega
  · subst hq
    have hlen : sl.len = bs.length := hsv.2.1
    refine hk r _ (Fr.push _ _) (.inr ⟨h.size, (List.replicate (cap - ((sl.cut 1 0 (0 : Int).toNat (0 : Int).toNat).len + sl.len)) (enc (0 : UInt8))).flatten, by subst hr; rfl, ?_, by subst hr; simp [Sl.cut, hlen], by subst hr; simp [Sl.cut, hlen] at hcap ⊢; exact hcap, ?_⟩) ?_
    · have := Cel.new h 5 ([] ++ bs.map reg ++ (List.replicate (cap - ((sl.cut 1 0 (0 : Int).toNat (0 : Int).toNat).len + sl.len)) (enc (0 : UInt8))).flatten)
      rw [map_enc8]
      simpa using this
    · subst hr
      rw [flatten_len 1 _ (by intro y hy; simp only [List.mem_replicate] at hy; rw [hy.2]; rfl)]
      simp [Sl.cut, hlen]
    · subst hr
      intro b hb
      simp only [blk, List.mem_singleton] at hb
      subst hb
      simp [newC]
inductive All2 {α β : Type} (R : α → β → Prop) : List α → List β → Prop
  | nil : All2 R [] []
  | cons {a b l m} : R a b → All2 R l m → All2 R (a :: l) (b :: m)
theorem All2.len {α β : Type} {R : α → β → Prop} {l : List α} {m : List β} (h : All2 R l m) : l.length = m.length := by
  induction h with
  | nil => rfl
  | cons _ _ ih => simp [ih]
theorem All2.get {α β : Type} {R : α → β → Prop} {l : List α} {m : List β} (h : All2 R l m) : ∀ (i : Nat) (x : α), l[i]? = some x → ∃ y, m[i]? = some y ∧ R x y := by
  induction h with
  | nil => intro i x h; simp at h
  | cons hr _ ih =>
    intro i x hx
    cases i with
    | zero => simp at hx; subst hx; exact ⟨_, by simp, hr⟩
    | succ i => simp at hx; simpa using ih i x hx
theorem SVV.of {h : H} {s : Sl} {ss : List Sl} {ps : List (List UInt8)} (hv : SV 1 h s ss) (ha : All2 (fun x l => SV 1 h x l) ss ps) : SVV h s ps := ⟨ss, hv, ha.len, ha.get⟩
section
variable {h0 h : H} {S : List Nat} {L : List En}
/-- an array of bytes as a slice -/
theorem _root_.Go.Sh.Sat.wholeSV {T n : Nat} {p : Addr} {x : Arr n UInt8} (i : Nat) (hs : Sat h0 S h L) (hi : L[i]? = some (cel T p (enc x))) (hn : 0 < n) : SV 1 h ((⟨some p, n, n⟩ : Sl).cut 1 0 n n) (List.ofFn x) := by
  have hv := hs.arrSV (l := List.ofFn x) i (by rw [arrOf_ofFn]; exact hi) (by simp)
  have := hv.cut len_u8 (lo := 0) (hi := n) (mx := n) (by omega) (Nat.le_refl _) (Nat.le_refl _)
  rwa [List.drop_zero, List.take_of_length_le (by simp)] at this
end
theorem one_dig (y : Dig) : (enc y).all (·.oneCell') = true := one_arr (fun _ => rfl) y
theorem slices_IndexFunc_Member.ok (s : Sl) (f : Fv) (k : Int → H → Prop) (h : H) (hh : slices_IndexFunc_Member.b s f k h) : CallsH Prog 106 [reg s, reg f].toArray h fun v h' => ∃ r : Int, v = reg r ∧ k r h' := by
 unfold slices_IndexFunc_Member.b at hh
 refine CallsH.of 19 Tryd.func106 rfl Tryd.ntmps106 rfl (fun w0 => ?_)
 refine .sr (.A (reg ((0 : Int) : Int)) (.nx ?_))
 refine CW.join (fun ρ h => ∃ (ρ' : Env), ρ = setl ρ' [] ∧ (slices_IndexFunc_Member.j1 k)  h) ?_ ?_
 ·refine .sr (.M (reg s) (.V (v_len_sl (sl_52).1 rfl) (.M (reg ((0 : Int) : Int)) (.nx ?_))))
  refine CW.block ?_
  unfold slices_IndexFunc_Member.l1 at hh
  refine CW.loop (fun (σ0 : Int) ρ => match σ0 with | t8 => ∃ ρ' : Env, ρ = setl ρ' [(0, reg s), (1, reg f), (7, reg ((s.len : Int) : Int)), (8, reg t8)]) hh ⟨_, setl_eq ⟨rfl, ⟨rfl, ⟨rfl, ⟨rfl, trivial⟩⟩⟩⟩⟩ ?_
  clear hh
  rintro s1 t8 ρ h ⟨ρ', rfl⟩ hh
  refine .sr (.V (v_ilss rfl rfl) (.nx (.seq ?_)))
  refine CW.cond (decide (t8 < (s.len : Int))) rfl (fun hb => ?_) (fun hb => ?_)
  ·have hh := hh.1 hb
   refine CW.skip ?_
   refine QN.then_ ?_
   refine CW.seq ?_
   refine CW.block ?_
   refine .sr (.M (reg t8) (.A (reg t8) (.nx (.sr (.M (reg f) (.M (reg s) (.M (reg t8) ?_)))))))
   obtain ⟨t14, ht14, hh⟩ := hh
   refine .V (v_idx_slP sl_52 rfl rfl ht14.1 ht14.2.1 ht14.2.2) (.LA 0 ag_110 get_110_all (fun _ => (len_api_Member _)) hh rfl (fun t15 hh => ?_))
   refine .e (e_callv rfl rfl rfl hh ?_)
   intro h t16 hh
   refine .nx ?_
   refine CW.cond t16 rfl (fun hb_1 => ?_) (fun hb_1 => ?_)
   ·have hh := hh.1 hb_1
    refine .sr (.M (reg t8) (.A (reg t8) (.nx ?_)))
    refine CW.ret ?_
    refine QN.blockRet ?_
    refine QN.thenRet ?_
    refine QN.thenRet ?_
    refine QN.blockRet ?_
    refine QN.thenRet ?_
    exact ret1 rfl rfl ⟨(t8 : Int), rfl, hh⟩
   ·have hh := hh.2 hb_1
    refine CW.skip ?_
    refine QN.blockN ?_
    refine QN.then_ ?_
    refine CW.region ?_
    refine .V (v_iadd rfl rfl) (.M (reg ((iadd t8 (1 : Int)) : Int)) ?_)
    refine .nil ?_
    exact QN.thenJ ⟨(iadd t8 (1 : Int)), ⟨_, setl_eq ⟨rfl, ⟨rfl, ⟨rfl, ⟨rfl, trivial⟩⟩⟩⟩⟩, hh⟩
  ·have hh := hh.2 hb
   refine CW.exit ?_
   refine QN.thenExit ?_
   refine QN.thenExit ?_
   refine QN.blockExit ?_
   exact QN.thenJ ⟨_, setl_eq trivial, hh⟩
 ·rintro ρ h ⟨ρ', rfl, hh⟩
  unfold slices_IndexFunc_Member.j1 at hh
  refine .sr (.A (reg ((-1 : Int) : Int)) (.nx ?_))
  refine CW.ret ?_
  exact ret1 rfl rfl ⟨((-1 : Int) : Int), rfl, hh⟩
theorem config_Find_c1.ok (m : api_Member) (c1 : Addr) (k : Bool → H → Prop) (h : H) (hh : config_Find_c1.b m c1 k h) : CallsH Prog 107 [reg m, .pointer (some c1)].toArray h fun v h' => ∃ r : Bool, v = reg r ∧ k r h' := by
 unfold config_Find_c1.b at hh
 refine CallsH.of 8 Tryd.func107 rfl Tryd.ntmps107 rfl (fun w0 => ?_)
 refine .sr ?_
 refine box_elim hh (fun m_1 hm_1 hh => ?_)
 refine .e (e_boxP hm_1 rfl rfl rfl ?_)
 refine .A (reg false) (.nx (.sr (.V (v_fieldAddr fl_110_0 rfl) (.L 0 na_3 get_110_Id hh rfl (fun t5 hh => .L 0 na_3 get_3_all hh rfl (fun t6 hh => .V (v_ieql rfl rfl) (.A (reg ((t5 == t6) : Bool)) (.nx ?_))))))))
 refine CW.ret ?_
 exact ret1 rfl rfl ⟨((t5 == t6) : Bool), rfl, hh⟩
theorem config_Find.ok (c : api_Config) (id : Int) (k : (T3 api_Member Int Bool) → H → Prop) (h : H) (hh : config_Find.b c id k h) : CallsH Prog 77 [reg c, reg id].toArray h fun v h' => ∃ r : T3 api_Member Int Bool, v = reg r ∧ k r h' := by
 unfold config_Find.b at hh
 refine CallsH.of 21 Tryd.func77 rfl Tryd.ntmps77 rfl (fun w0 => ?_)
 refine .sr ?_
 refine box_elim hh (fun c_1 hc_1 hh => ?_)
 refine .e (e_boxP hc_1 rfl rfl rfl ?_)
 refine box_elim hh (fun id_1 hid_1 hh => ?_)
 refine .e (e_boxP hid_1 rfl rfl rfl ?_)
 refine box_elim hh (fun t4 ht4 hh => ?_)
 refine .e (e_allocP ht4 zo_110 rfl ?_)
 refine .A (reg ((0 : Int) : Int)) (.A (reg false) (.nx (.sr (.V (v_fieldAddr fl_54_1 rfl) (.L 1 na_52 get_54_Members hh rfl (fun t9 hh => .V (v_makeFunc rfl) ?_))))))
 refine .e (e_callP fn_106 rfl rfl hh ?_)
 intro h t11 hh
 refine .A (reg t11) (.nx (.seq (.sr (.M (reg t11) (.V (v_ilss rfl rfl) (.nx ?_))))))
 refine CW.cond (decide (t11 < (0 : Int))) rfl (fun hb => ?_) (fun hb => ?_)
 ·have hh := hh.1 hb
  refine .sr (.V (v_buildT api_Member.zero zo_110 pl_110 rfl (rfl) rfl) (.S (api_Member.zero : api_Member) 0 sz_110 (one_api_Member _) len_api_Member (len_api_Member _) (fun x => set_110_all x (api_Member.zero : api_Member)) hh rfl rfl (fun _ hh => .A (reg ((0 : Int) : Int)) (.A (reg false) (.nx ?_)))))
  refine CW.ret ?_
  refine QN.thenRet ?_
  obtain ⟨r4, ⟨xr4, hxr4, hgr4⟩, hh⟩ := hh
  have hr4 := ld_id hxr4 hgr4
  exact retc2 rfl rfl ag_110 hr4 (len_api_Member _) rfl rfl ⟨(⟨r4, (0 : Int), false⟩ : T3 api_Member Int Bool), rfl, hh⟩
 ·have hh := hh.2 hb
  refine CW.skip ?_
  refine QN.then_ ?_
  refine .sr (.V (v_fieldAddr fl_54_1 rfl) (.L 1 na_52 get_54_Members hh rfl (fun t16 hh => .M (reg t11) ?_)))
  obtain ⟨t18, ht18, hh⟩ := hh
  refine .V (v_idx_slP sl_52 rfl rfl ht18.1 ht18.2.1 ht18.2.2) (.LA 0 ag_110 get_110_all (fun _ => (len_api_Member _)) hh rfl (fun t19 hh => .M (reg t11) (.S (t19 : api_Member) 0 sz_110 (one_api_Member _) len_api_Member (len_api_Member _) (fun x => set_110_all x (t19 : api_Member)) hh rfl rfl (fun _ hh => .A (reg t11) (.A (reg true) (.nx ?_))))))
  refine CW.ret ?_
  obtain ⟨r4_1, ⟨xr4_1, hxr4_1, hgr4_1⟩, hh⟩ := hh
  have hr4_1 := ld_id hxr4_1 hgr4_1
  exact retc2 rfl rfl ag_110 hr4_1 (len_api_Member _) rfl rfl ⟨(⟨r4_1, t11, true⟩ : T3 api_Member Int Bool), rfl, hh⟩
section
variable {h0 h : H} {S : List Nat} {L : List En}
theorem _root_.Go.Sh.Sat.num_ {p : Addr} {sl s : Sl} {bs : List UInt8} {ns : List Int} {k : Unit → H → Prop} (i : Nat) (hs : Sat h0 S h L) (hi : L[i]? = some (wrt p sl bs)) (hv : SV 1 h s ns) (hd : ∀ b ∈ blk s, b ∉ p.block :: blk sl) (hbig : bs.length + 8 * ns.length < 2 ^ 40)
    (hk : ∀ sl' h', Sat h0 S h' (L.set i (wrt p sl' (bs ++ (ns.map numB).flatten))) → k () h') : call (β := Unit) Prog 92 [reg ((some p : Pt) : Pt), reg (s : Sl)] k h := by
  have hw : WrA p sl bs h := hs.at_ hi
  refine code_Writer_Num.ok _ _ _ _ (Num_spec p sl bs s ns hw hv hd hbig (fun sl' h3 hf3 hw3 hb3 => ?_))
  refine hk sl' h3 (hs.upd hi hf3 hw3 (wrt_loc _ _ _) ?_)
  intro b hb
  simp only [wrt, List.mem_cons] at hb ⊢
  rcases hb with rfl | hb
  · exact ⟨hw3.1.lt, .inl (.inl rfl)⟩
  · simpa using hb3 b hb
theorem _root_.Go.Sh.Sat.dig_ {p : Addr} {sl s : Sl} {bs : List UInt8} {ds : List Dig} {k : Unit → H → Prop} (i : Nat) (hs : Sat h0 S h L) (hi : L[i]? = some (wrt p sl bs)) (hv : SV 32 h s ds) (hd : ∀ b ∈ blk s, b ∉ p.block :: blk sl) (hbig : bs.length + 32 * ds.length < 2 ^ 40)
    (hk : ∀ sl' h', Sat h0 S h' (L.set i (wrt p sl' (bs ++ (ds.map List.ofFn).flatten))) → k () h') : call (β := Unit) Prog 93 [reg ((some p : Pt) : Pt), reg (s : Sl)] k h := by
  have hw : WrA p sl bs h := hs.at_ hi
  refine code_Writer_Digest.ok _ _ _ _ (Digest_spec p sl bs s ds hw hv hd hbig (fun sl' h3 hf3 hw3 hb3 => ?_))
  refine hk sl' h3 (hs.upd hi hf3 hw3 (wrt_loc _ _ _) ?_)
  intro b hb
  simp only [wrt, List.mem_cons] at hb ⊢
  rcases hb with rfl | hb
  · exact ⟨hw3.1.lt, .inl (.inl rfl)⟩
  · simpa using hb3 b hb
/-- a new writer -/
theorem _root_.Go.Sh.Sat.newW {k : Addr → H → Prop} (hs : Sat h0 S h L) (hk : ∀ p h', Sat h0 S h' (wrt p Sl.nil [] :: L) → k p h') : box 145 (code_Writer.zero : code_Writer) k h := by
  refine hs.box_ (fun w h2 hs2 _ _ => ?_)
  have hW : WrA w Sl.nil [] h2 := ⟨hs2.at_ (i := 0) rfl, .inl ⟨rfl, rfl, rfl, rfl⟩, by simp [blk, Sl.nil]⟩
  exact hk w h2 (hs2.upd (i := 0) (e := cel 145 w (enc code_Writer.zero)) rfl (Fr.refl _ _) hW (wrt_loc _ _ _) (by intro b hb; simp only [wrt, blk, Sl.nil, List.mem_singleton] at hb; subst hb; exact ⟨hW.1.lt, .inl (by simp [cel])⟩))
theorem _root_.Go.Sh.Sat.bytes_ {p : Addr} {sl : Sl} {bs : List UInt8} {k : Sl → H → Prop} (i : Nat) (hs : Sat h0 S h L) (hi : L[i]? = some (wrt p sl bs)) (hne : bs ≠ []) (hbig : bs.length < 2 ^ 40)
    (hk : ∀ r h', Sat h0 S h' (own 5 1 r bs :: L) → k r h') : call (β := Sl) Prog 61 [reg ((some p : Pt) : Pt)] k h := by
  have hw : WrA p sl bs h := hs.at_ hi
  exact code_Writer_Bytes.ok _ _ _ (Bytes_spec p sl bs hw hne hbig (fun r h4 hx4 ho4 hb4 => hk r h4 (hs.add hx4 ho4 (own_loc _ _ _ _) hb4)))
end
def fidxOf (ms : List api_Member) (pr : api_Member → Bool) : Int := match ms.findIdx? pr with
  | some i => i
  | none => -1
theorem IndexFunc_spec (s : Sl) (ms : List api_Member) (f : Fv) (pr : api_Member → Bool) {k : Int → H → Prop} {h : H}
    (hf : ∀ (x : api_Member) (h' : H) (k : Bool → H → Prop), Ext h h' → (∀ h'', Ext h' h'' → k (pr x) h'') → callv (β := Bool) Prog f [reg x] k h')
    (hv : SV 34 h s ms) (hb : ms.length < 2 ^ 40) (hk : ∀ h', Ext h h' → k (fidxOf ms pr) h') : slices_IndexFunc_Member.b s f k h := by
  unfold slices_IndexFunc_Member.b slices_IndexFunc_Member.l1
  have hsl : s.len = ms.length := hv.2.1
  refine ⟨fun (t : Int) h' => ∃ i : Nat, t = i ∧ i ≤ ms.length ∧ Ext h h' ∧ (ms.take i).findIdx? pr = none, fun t _ => (ms.length - t).toNat, ⟨0, rfl, Nat.zero_le _, Fr.refl _ _, by simp⟩, ?_⟩
  rintro t h2 ⟨i, rfl, hi, hx, hno⟩
  refine ifb_i (fun hc => ?_) (fun hc => ?_)
  · have hi' : i < ms.length := by have : (i : Int) < s.len := by simpa using hc
                                   omega
    refine sidx_ld len_api_Member (hv.ext hx) (Int.natCast_nonneg _) (by rw [Int.toNat_natCast]; exact List.getElem?_eq_getElem hi') ?_
    refine hf _ _ _ hx (fun h3 hx3 => ?_)
    refine ifb_i (fun hp => ?_) (fun hp => ?_)
    · have : fidxOf ms pr = (i : Int) := by
        unfold fidxOf
        have : ms.findIdx? pr = some i := by
          rw [List.findIdx?_eq_some_iff_getElem]
          refine ⟨hi', hp, fun j hj hpj => ?_⟩
          rw [List.findIdx?_eq_none_iff] at hno
          have := hno ms[j] (by rw [List.mem_take_iff_getElem]; exact ⟨j, by omega, rfl⟩)
          rw [this] at hpj; cases hpj
        rw [this]
      rw [← this]
      exact hk _ (hx.trans hx3)
    · have e1 : iadd (i : Int) 1 = ((i + 1 : Nat) : Int) := by rw [iadd_eq (by omega) (by omega)]; omega
      rw [e1]
      refine ⟨⟨i + 1, rfl, hi', hx.trans hx3, ?_⟩, by dsimp only; omega⟩
      rw [List.take_add_one, List.getElem?_eq_getElem hi', List.findIdx?_append, hno]
      simp [hp]
  · have hi' : i = ms.length := by
      have : ¬ (i : Int) < s.len := by simpa using hc
      omega
    subst hi'
    rw [List.take_length] at hno
    have : fidxOf ms pr = -1 := by unfold fidxOf; rw [hno]
    have h9 := hk _ hx
    rw [this] at h9
    exact h9
theorem fn107 : FnOk Prog 107 := ⟨_, Tryd.func107, by kernel_rfl, by kernel_rfl⟩
theorem Findc1_spec (m : api_Member) (c : Addr) (id : Int) {k : Bool → H → Prop} {h : H} (hc : AtH h c (enc id)) (hk : ∀ h', Ext h h' → k (m.Id == id) h') : config_Find_c1.b m c k h := by
  unfold config_Find_c1.b
  refine (Sat.init h).box_ (fun a h1 hs1 _ _ => ?_)
  refine hs1.ld_ 0 rfl ?_
  refine ld_old (hc.ext hs1.fr) ?_
  exact hk _ hs1.fr
/-- a member by its number -/
def findF (ms : List api_Member) (id : Int) : T3 api_Member Int Bool := match ms.findIdx? (·.Id == id) with
  | some i => ⟨ms.getD i api_Member.zero, i, true⟩
  | none => ⟨api_Member.zero, 0, false⟩
theorem Find_spec (c : api_Config) (ms : List api_Member) (id : Int) {k : T3 api_Member Int Bool → H → Prop} {h : H} (hv : SV 34 h c.Members ms) (hb : ms.length < 2 ^ 40) (hk : ∀ h', Ext h h' → k (findF ms id) h') : config_Find.b c id k h := by
  unfold config_Find.b
  refine (Sat.init h).box_ (fun a h1 hs1 _ _ => ?_)
  refine hs1.box_ (fun t1 h2 hs2 _ _ => ?_)
  refine hs2.box_ (fun t2 h3 hs3 _ _ => ?_)
  refine hs3.ld_ 2 rfl ?_
  refine slices_IndexFunc_Member.ok _ _ _ _ (IndexFunc_spec c.Members ms _ (·.Id == id) (fun x h' k' hx hk' => ?_) (hv.ext hs3.fr) hb (fun h4 hx4 => ?_))
  · refine ⟨fn107, ?_⟩
    have hs' := hs3.ext hx
    exact config_Find_c1.ok x t1 k' h' (Findc1_spec x t1 id (Cel.at_ (hs'.at_ (i := 1) rfl)) hk')
  have hs4 := hs3.ext hx4
  unfold fidxOf
  cases hfi : ms.findIdx? (·.Id == id) with
  | none =>
    refine ifb_i (fun _ => ?_) (fun hc => by simp at hc)
    refine hs4.st_ 0 rfl len_api_Member (fun h5 hs5 _ => ?_)
    refine hs5.ld_ 0 rfl ?_
    have := hk h5 hs5.fr
    unfold findF at this
    rw [hfi] at this
    exact this
  | some i =>
    have hi : i < ms.length := by rw [List.findIdx?_eq_some_iff_getElem] at hfi; exact hfi.1
    refine ifb_i (fun hc => by simp at hc; omega) (fun _ => ?_)
    refine hs4.ld_ 2 rfl ?_
    refine sidx_ld len_api_Member (hv.ext hs4.fr) (Int.natCast_nonneg _) (by rw [Int.toNat_natCast]; exact List.getElem?_eq_getElem hi) ?_
    refine hs4.st_ 0 rfl len_api_Member (fun h5 hs5 _ => ?_)
    refine hs5.ld_ 0 rfl ?_
    have := hk h5 hs5.fr
    unfold findF at this
    rw [hfi] at this
    simpa [hi] using this
theorem vote_NewBox.ok (k : Pt → H → Prop) (h : H) (hh : vote_NewBox.b k h) : CallsH Prog 9 ([] : List Value).toArray h fun v h' => ∃ r : Pt, v = reg r ∧ k r h' := by
 unfold vote_NewBox.b at hh
 refine CallsH.of 4 Tryd.func9 rfl Tryd.ntmps9 rfl (fun w0 => ?_)
 refine .sr (.A (reg ((none : Pt) : Pt)) (.nx (.sr ?_)))
 refine .e (e_mkmap rfl hh ?_)
 intro h t1 hh
 refine .V (v_buildT ({ votes := t1 } : vote_Box) zo_113 pl_113 rfl (fill_step rfl rfl (len_mp _) (len_vote_Box _) rfl (set_113_votes _ _) (rfl)) rfl) ?_
 refine box_elim hh (fun t3 ht3 hh => ?_)
 refine .e (e_boxP ht3 rfl rfl rfl ?_)
 refine .A (.pointer (some t3)) (.nx ?_)
 refine CW.ret ?_
 exact ret1 rfl rfl ⟨((some t3) : Pt), rfl, hh⟩
theorem vote_Box_Add.ok (b : Pt) (v : api_Vote) (k : Bool → H → Prop) (h : H) (hh : vote_Box_Add.b b v k h) : CallsH Prog 12 [reg b, reg v].toArray h fun v h' => ∃ r : Bool, v = reg r ∧ k r h' := by
 unfold vote_Box_Add.b at hh
 refine CallsH.of 33 Tryd.func12 rfl Tryd.ntmps12 rfl (fun w0 => ?_)
 refine .sr ?_
 refine box_elim hh (fun v_1 hv_1 hh => ?_)
 refine .e (e_boxP hv_1 rfl rfl rfl ?_)
 refine .A (reg false) (.nx (.seq (.sr (.M (reg b) (.V (v_eq_nil pt_26 rfl rfl) (.nx ?_))))))
 refine CW.cond b.isNone rfl (fun hb => ?_) (fun hb => ?_)
 ·have hh := hh.1 hb
  refine .sr (.A (reg false) (.nx ?_))
  refine CW.ret ?_
  refine QN.thenRet ?_
  exact ret1 rfl rfl ⟨(false : Bool), rfl, hh⟩
 ·have hh := hh.2 hb
  refine CW.skip ?_
  refine QN.then_ ?_
  refine .sr (.V (v_fieldAddr fl_37_0 rfl) (.L 0 na_3 get_37_Kind hh rfl (fun t11 hh => .V (v_fieldAddr fl_37_3 rfl) (.L 3 na_3 get_37_Round hh rfl (fun t13 hh => .V (v_fieldAddr fl_37_5 rfl) (.L 36 na_3 get_37_From hh rfl (fun t15 hh => .V (v_buildT ({ kind := t11, round := t13, from_ := t15 } : vote_place) zo_115 pl_115 rfl (fill_step rfl rfl (len_i _) (len_vote_place _) rfl (set_115_kind _ _) (fill_step rfl rfl (len_i _) (len_vote_place _) rfl (set_115_round _ _) (fill_step rfl rfl (len_i _) (len_vote_place _) rfl (set_115_from _ _) (rfl)))) rfl) ?_)))))))
  refine box_elim hh (fun at_ hat_ hh => ?_)
  refine .e (e_allocP hat_ zo_115 rfl ?_)
  refine .S (({ kind := t11, round := t13, from_ := t15 } : vote_place) : vote_place) 0 sz_115 (one_vote_place _) len_vote_place (len_vote_place _) (fun x => set_115_all x (({ kind := t11, round := t13, from_ := t15 } : vote_place) : vote_place)) hh rfl rfl (fun _ hh => .nx (.seq ?_))
  refine CW.seq ?_
  refine CW.drawN 12 rfl follows_mixed [0, 1, 2, 3, 4, 5, 6, 7, 8, 11] ?_
  refine .P 0 rfl (v_move (v := reg b) rfl) ?_
  obtain ⟨p, hp, hh⟩ := hh
  refine .P 1 rfl (v_nilCheck (congrArg Value.pointer hp)) (.P 2 rfl (v_fieldAddr fl_113_0 rfl) (.KL 3 0 na_111 get_113_votes rfl hh rfl (fun t21 hh => .KA 4 0 ag_115 get_115_all (fun _ => (len_vote_place _)) rfl hh rfl (fun t22 hh => ?_))))
  obtain ⟨t23, ⟨xt23, hxt23, hgt23⟩, hh⟩ := hh
  refine .K 5 (fun h' => ∃ l : List (vote_place × api_Vote), MapIs h' t21 l ∧ (fun (l : List (vote_place × api_Vote)) => mlook (api_Vote.zero : api_Vote) l (t22 : vote_place)) l = t23) rfl ⟨xt23, hxt23, hgt23⟩ (fun h' hS => hS.elim fun _ hS => v_lookupOk mt_111 kt_115 zv_37 rfl rfl hS.1 hS.2) (.P 6 rfl (v_move (v := reg (t23 : T2 api_Vote Bool)) rfl) (.P 7 rfl (v_extract (v := reg (t23.a : api_Vote)) rfl rfl) (.P 8 rfl (v_extract (v := reg (t23.b : Bool)) rfl rfl) ?_)))
  refine box_elim hh (fun t6 ht6 hh => ?_)
  refine .w 9 (by kernel_rfl) rfl (by kernel_rfl) (.e (e_allocP ht6 zo_37 rfl ?_))
  obtain ⟨hc, hh⟩ := hh
  obtain ⟨hc_1, hh⟩ := hh
  obtain ⟨hc_2, hh⟩ := hh
  refine ⟨⟨⟨⟨trivial, .inr hc⟩, .inr hc_1⟩, .inr hc_2⟩, ?_⟩
  obtain ⟨xw_1, hxw_1, hwxw_1, hh⟩ := hh
  refine .w 10 (by kernel_rfl) rfl (by kernel_rfl) (.e (e_storeN (p := t6) (nv := enc (t23.a : api_Vote)) 0 rfl rfl rfl sz_37 (one_api_Vote _) hxw_1 hwxw_1 (len_api_Vote _) (len_api_Vote _) rfl (set_37_all xw_1 (t23.a : api_Vote)) ?_))
  refine ⟨⟨⟨⟨trivial, .inl (by kernel_rfl)⟩, .inl (by kernel_rfl)⟩, .inl (by kernel_rfl)⟩, ?_⟩
  refine .P 11 rfl (v_assign (v := reg (t23.b : Bool)) rfl) ?_
  refine .done (by kernel_rfl) ?_
  refine QN.then_ ?_
  refine .sr (.M (reg (t23.b : Bool)) (.nx ?_))
  refine CW.cond t23.b rfl (fun hb_1 => ?_) (fun hb_1 => ?_)
  ·have hh := hh.1 hb_1
   refine .sr (.A (reg false) (.nx ?_))
   refine CW.ret ?_
   refine QN.thenRet ?_
   exact ret1 rfl rfl ⟨(false : Bool), rfl, hh⟩
  ·have hh := hh.2 hb_1
   refine CW.skip ?_
   refine QN.then_ ?_
   refine CW.seq ?_
   refine CW.drawN 7 rfl follows_mixed [0, 1, 2, 3, 4, 5] ?_
   refine .P 0 rfl (v_move (v := reg b) rfl) (.P 1 rfl (v_nilCheck (congrArg Value.pointer hp)) (.P 2 rfl (v_fieldAddr fl_113_0 rfl) (.KL 3 0 na_111 get_113_votes rfl hh rfl (fun t30 hh => .KA 4 0 ag_115 get_115_all (fun _ => (len_vote_place _)) rfl hh rfl (fun t31 hh => .KA 5 0 ag_37 get_37_all (fun _ => (len_api_Vote _)) rfl hh rfl (fun t32 hh => ?_))))))
   refine .w 6 (by kernel_rfl) rfl (by kernel_rfl) (.e (e_mput mt_111 kt_115 rfl rfl rfl hh ?_))
   intro h hh
   refine ⟨⟨⟨⟨trivial, .inl (by kernel_rfl)⟩, .inl (by kernel_rfl)⟩, .inl (by kernel_rfl)⟩, ?_⟩
   refine .done (by kernel_rfl) ?_
   refine QN.then_ ?_
   refine .sr (.A (reg true) (.nx ?_))
   refine CW.ret ?_
   exact ret1 rfl rfl ⟨(true : Bool), rfl, hh⟩
theorem vote_Box_For.ok (b : Pt) (kind : Int) (round : Int) (d : Arr 32 UInt8) (k : Sl → H → Prop) (h : H) (hh : vote_Box_For.b b kind round d k h) : CallsH Prog 14 [reg b, reg kind, reg round, reg d].toArray h fun v h' => ∃ r : Sl, v = reg r ∧ k r h' := by
 unfold vote_Box_For.b at hh
 refine CallsH.of 45 Tryd.func14 rfl Tryd.ntmps14 rfl (fun w0 => ?_)
 refine .sr ?_
 refine box_elim hh (fun d_1 hd_1 hh => ?_)
 refine .e (e_boxP hd_1 rfl rfl rfl ?_)
 refine .A (reg (Sl.nil : Sl)) (.nx (.sr (.A (reg (Sl.nil : Sl)) (.nx ?_))))
 refine CW.join (fun ρ h => ∃ (ρ' : Env) (out_2 : Sl), ρ = setl ρ' [(9, reg out_2)] ∧ (vote_Box_For.j1 k) out_2 h) ?_ ?_
 ·refine .sr (.A (reg ((1 : Int) : Int)) (.nx ?_))
  refine CW.block ?_
  unfold vote_Box_For.l1 at hh
  refine CW.loop (fun (σ0 : Sl × Int) ρ => match σ0 with | (out, from_) => ∃ ρ' : Env, ρ = setl ρ' [(0, reg b), (1, reg kind), (2, reg round), (7, .pointer (some d_1)), (9, reg out), (10, reg from_)]) hh ⟨_, setl_eq ⟨rfl, ⟨rfl, ⟨rfl, ⟨rfl, ⟨rfl, ⟨rfl, trivial⟩⟩⟩⟩⟩⟩⟩ ?_
  clear hh
  rintro s1 ⟨out, from_⟩ ρ h ⟨ρ', rfl⟩ hh
  refine CW.seq ?_
  refine .sr (.M (reg b) (.V (v_ne_nil pt_26 rfl rfl) (.M (reg (b.isSome : Bool)) (.tv 15 rfl rfl rfl (fun hb => v_move (v := reg (from_ : Int)) rfl) rfl (.tv 15 rfl rfl rfl (fun hb => v_ileq (gt hb) rfl) rfl (.V (v_pick_and rfl (fun hb => gt hb) rfl) (.nx ?_)))))))
  refine CW.cond (b.isSome && (decide (from_ ≤ (63 : Int)))) rfl (fun hb => ?_) (fun hb => ?_)
  ·have hh := hh.1 hb
   refine CW.skip ?_
   refine QN.then_ ?_
   refine CW.join (fun ρ h => ∃ (ρ' : Env) (out_1 : Sl), ρ = setl ρ' [(0, reg b), (1, reg kind), (2, reg round), (7, .pointer (some d_1)), (9, reg out_1), (10, reg from_)] ∧ (vote_Box_For.j2 s1) b kind round d_1 out_1 from_ h) ?_ ?_
   ·refine CW.block ?_
    refine .sr (.M (reg b) ?_)
    obtain ⟨p, hp, hh⟩ := hh
    refine .V (v_nilCheck (congrArg Value.pointer hp)) (.V (v_fieldAddr fl_113_0 rfl) (.L 0 na_111 get_113_votes hh rfl (fun t25 hh => .M (reg kind) (.M (reg round) (.M (reg from_) (.V (v_buildT ({ kind := kind, round := round, from_ := from_ } : vote_place) zo_115 pl_115 rfl (fill_step rfl rfl (len_i _) (len_vote_place _) rfl (set_115_kind _ _) (fill_step rfl rfl (len_i _) (len_vote_place _) rfl (set_115_round _ _) (fill_step rfl rfl (len_i _) (len_vote_place _) rfl (set_115_from _ _) (rfl)))) rfl) ?_))))))
    obtain ⟨t30, ⟨xt30, hxt30, hgt30⟩, hh⟩ := hh
    refine .V (v_lookupOk mt_111 kt_115 zv_37 rfl rfl hxt30 hgt30) (.M (reg (t30 : T2 api_Vote Bool)) (.V (v_extract (v := reg (t30.a : api_Vote)) rfl rfl) (.V (v_extract (v := reg (t30.b : Bool)) rfl rfl) ?_)))
    refine box_elim hh (fun v hv hh => ?_)
    refine .e (e_allocP hv zo_37 rfl ?_)
    refine .S (t30.a : api_Vote) 0 sz_37 (one_api_Vote _) len_api_Vote (len_api_Vote _) (fun x => set_37_all x (t30.a : api_Vote)) hh rfl rfl (fun _ hh => .A (reg (t30.b : Bool)) (.nx (.sr (.M (reg (t30.b : Bool)) (.M (reg (t30.b : Bool)) (.tv 34 rfl rfl rfl (fun hb => v_fieldAddr fl_37_4 rfl) rfl ?_))))))
    obtain ⟨t36, ⟨xt36, hxt36, hgt36⟩, hh⟩ := hh
    refine .tv 34 rfl rfl rfl (fun hb => v_ldA (p := v) 4 ag_24 (gt hb) hxt36 hgt36 get_37_Digest (fun _ => (arr_len (n := 32) _)) (fun _ => rfl)) rfl ?_
    obtain ⟨t37, ⟨xt37, hxt37, hgt37⟩, hh⟩ := hh
    refine .tv 34 rfl rfl rfl (fun hb => v_ldA (p := d_1) 0 ag_24 rfl hxt37 hgt37 get_24_all (fun _ => (arr_len (n := 32) _)) (fun _ => rfl)) rfl (.tv 34 rfl rfl rfl (fun hb => v_eq_arr8 bt_24 (gt hb) (gt hb)) rfl (.V (v_pick_and rfl (fun hb => gt hb) rfl) (.nx ?_)))
    refine CW.cond (t30.b && (decide (t36 = t37))) rfl (fun hb_1 => ?_) (fun hb_1 => ?_)
    ·have hh := hh.1 hb_1
     refine CW.region ?_
     refine .M (reg out) (.LA 0 ag_37 get_37_all (fun _ => (len_api_Vote _)) hh rfl (fun t41 hh => ?_))
     refine mks_elim hh (fun pt42 t42 hpt42 ht42 hh => ?_)
     refine .e (e_mks [(t41 : api_Vote)] hpt42 ht42 zo_37 sl_22 rfl rfl rfl rfl rfl ?_)
     refine .e (e_app sl_22 zo_37 by_37 rfl rfl rfl hh ?_)
     intro h t43 hh
     refine .A (reg t43) ?_
     refine .nil ?_
     refine QN.blockN ?_
     exact QN.thenJ ⟨_, t43, setl_eq ⟨rfl, ⟨rfl, ⟨rfl, ⟨rfl, ⟨rfl, ⟨rfl, trivial⟩⟩⟩⟩⟩⟩, hh⟩
    ·have hh := hh.2 hb_1
     refine CW.skip ?_
     refine QN.blockN ?_
     exact QN.thenJ ⟨_, out, setl_eq ⟨rfl, ⟨rfl, ⟨rfl, ⟨rfl, ⟨rfl, ⟨rfl, trivial⟩⟩⟩⟩⟩⟩, hh⟩
   ·rintro ρ h ⟨ρ', out_1, rfl, hh⟩
    unfold vote_Box_For.j2 at hh
    refine CW.region ?_
    refine .M (reg from_) (.V (v_iadd rfl rfl) (.A (reg ((iadd from_ (1 : Int)) : Int)) ?_))
    refine .nil ?_
    exact QN.thenJ ⟨(out_1, (iadd from_ (1 : Int))), ⟨_, setl_eq ⟨rfl, ⟨rfl, ⟨rfl, ⟨rfl, ⟨rfl, ⟨rfl, trivial⟩⟩⟩⟩⟩⟩⟩, hh⟩
  ·have hh := hh.2 hb
   refine CW.exit ?_
   refine QN.thenExit ?_
   refine QN.thenExit ?_
   refine QN.blockExit ?_
   exact QN.thenJ ⟨_, out, setl_eq ⟨rfl, trivial⟩, hh⟩
 ·rintro ρ h ⟨ρ', out_2, rfl, hh⟩
  unfold vote_Box_For.j1 at hh
  refine .sr (.M (reg out_2) (.A (reg out_2) (.nx ?_)))
  refine CW.ret ?_
  exact ret1 rfl rfl ⟨(out_2 : Sl), rfl, hh⟩
theorem vote_Box_Count.ok (b : Pt) (kind : Int) (round : Int) (d : Arr 32 UInt8) (k : Int → H → Prop) (h : H) (hh : vote_Box_Count.b b kind round d k h) : CallsH Prog 16 [reg b, reg kind, reg round, reg d].toArray h fun v h' => ∃ r : Int, v = reg r ∧ k r h' := by
 unfold vote_Box_Count.b at hh
 refine CallsH.of 15 Tryd.func16 rfl Tryd.ntmps16 rfl (fun w0 => ?_)
 refine .sr ?_
 refine box_elim hh (fun d_1 hd_1 hh => ?_)
 refine .e (e_boxP hd_1 rfl rfl rfl ?_)
 refine .A (reg ((0 : Int) : Int)) (.nx (.sr (.M (reg b) (.M (reg kind) (.M (reg round) (.LA 0 ag_24 get_24_all (fun _ => (arr_len (n := 32) _)) hh rfl (fun t12 hh => ?_)))))))
 refine .e (e_callP fn_14 rfl rfl hh ?_)
 intro h t13 hh
 refine .V (v_len_sl (sl_22).1 rfl) (.A (reg ((t13.len : Int) : Int)) (.nx ?_))
 refine CW.ret ?_
 exact ret1 rfl rfl ⟨((t13.len : Int) : Int), rfl, hh⟩
/-! maps as things that are owned -/
def mpE {κ ν : Type} [Ty κ] [Ty ν] (r : Nat) (l : List (κ × ν)) : En := ⟨[r], fun h => ∃ es clk, h[r]? = some (.map es clk) ∧ MapO es clk l⟩
theorem mpE_loc {κ ν : Type} [Ty κ] [Ty ν] (r : Nat) (l : List (κ × ν)) : Go.Sh.Loc (mpE r l) := fun h h' hb ⟨es, clk, h1, h2⟩ => ⟨es, clk, by rw [hb r (by simp [mpE])]; exact h1, h2⟩
theorem mpE_is {κ ν : Type} [Ty κ] [Ty ν] {r : Nat} {l : List (κ × ν)} {h : H} (H : (mpE r l).A h) : MapIs h ⟨some r⟩ l := by
  obtain ⟨es, clk, h1, h2⟩ := H
  exact .inr ⟨r, es, clk, rfl, h1, h2⟩
theorem mpE_lt {κ ν : Type} [Ty κ] [Ty ν] {r : Nat} {l : List (κ × ν)} {h : H} (H : (mpE r l).A h) : r < h.size := by
  obtain ⟨es, clk, h1, _⟩ := H
  rw [Array.getElem?_eq_some_iff] at h1; exact h1.1
section
variable {h0 h : H} {S : List Nat} {L : List En} {κ ν : Type} [Ty κ] [Ty ν]
theorem _root_.Go.Sh.Sat.mkmap_ {k : Mp → H → Prop} (hs : Sat h0 S h L) (hk : ∀ r h', Sat h0 S h' (mpE r ([] : List (κ × ν)) :: L) → r = h.size → k ⟨some r⟩ h') : mkmap k h := by
  intro m hm
  subst hm
  refine hk h.size _ (hs.add (Fr.push _ _) ⟨#[], 0, by simp, ⟨rfl, by simp, by simp⟩⟩ (mpE_loc _ _) ?_) rfl
  intro b hb; simp only [mpE, List.mem_singleton] at hb; subst hb; simp
theorem _root_.Go.Sh.Sat.mget_ {α : Type} {r : Nat} {l : List (κ × ν)} [DecidableEq κ] {g : List (κ × ν) → α} {k : α → H → Prop} (i : Nat) (hs : Sat h0 S h L) (hi : L[i]? = some (mpE r l)) (hk : k (g l) h) : mget ⟨some r⟩ g k h :=
  ⟨_, ⟨l, mpE_is (hs.at_ hi), rfl⟩, hk⟩
theorem _root_.Go.Sh.Sat.mchk_ {α : Type} {r : Nat} {l : List (κ × ν)} {g : List (κ × ν) → α} {y : α} {k : H → Prop} (i : Nat) (hs : Sat h0 S h L) (hi : L[i]? = some (mpE r l)) (hg : g l = y) (hk : k h) : mchk ⟨some r⟩ g y k h :=
  ⟨⟨l, mpE_is (hs.at_ hi), hg⟩, hk⟩
theorem _root_.Go.Sh.Sat.mput_ {r : Nat} {l : List (κ × ν)} [DecidableEq κ] {key : κ} {v : ν} {k : H → Prop} (i : Nat) (hs : Sat h0 S h L) (hi : L[i]? = some (mpE r l)) (hk : ∀ h', Sat h0 S h' (L.set i (mpE r (mins l key v))) → k h') : mput ⟨some r⟩ key v k h := by
  obtain ⟨es, clk, h1, h2⟩ := (show (mpE r l).A h from hs.at_ hi)
  refine ⟨r, es, clk, l, rfl, h1, h2, fun es' clk' h3 => hk _ (hs.upd hi (by simp only [mpE]; exact Fr.set _ _ _) ⟨es', clk', AtLast h1, h3⟩ (mpE_loc _ _) ?_)⟩
  intro b hb
  simp only [mpE, List.mem_singleton] at hb
  subst hb
  rw [Array.getElem?_eq_some_iff] at h1
  exact ⟨by simpa using h1.1, .inl (by simp [mpE])⟩
end
/-! boxes -/
abbrev Vts := List (vote_place × api_Vote)
def BoxA (p : Addr) (r : Nat) (l : Vts) (h : H) : Prop := Cel 113 p (enc (⟨⟨some r⟩⟩ : vote_Box)) h ∧ (mpE r l).A h ∧ p.block ≠ r
def bxE (p : Addr) (r : Nat) (l : Vts) : En := ⟨[p.block, r], BoxA p r l⟩
theorem bxE_loc (p : Addr) (r : Nat) (l : Vts) : Go.Sh.Loc (bxE p r l) := fun h h' hb H =>
  ⟨cel_loc 113 p _ h h' (fun b hb' => hb b (by simp only [cel, List.mem_singleton] at hb'; subst hb'; simp [bxE])) H.1, mpE_loc r l h h' (fun b hb' => hb b (by simp only [mpE, List.mem_singleton] at hb'; subst hb'; simp [bxE])) H.2.1, H.2.2⟩
theorem BoxA.ext {p : Addr} {r : Nat} {l : Vts} {h h' : H} (f : Ext h h') (H : BoxA p r l h) : BoxA p r l h' :=
  bxE_loc p r l h h' (fun b hb => f.same b (by simp only [bxE, List.mem_cons, List.not_mem_nil, or_false] at hb; rcases hb with rfl | rfl; exact H.1.lt; exact mpE_lt H.2.1) (by simp)) H
theorem NewBox_spec {k : Pt → H → Prop} {h : H} (hk : ∀ p r h', Ext h h' → BoxA p r [] h' → (∀ b ∈ [p.block, r], h.size ≤ b ∧ b < h'.size) → k (some p) h') : vote_NewBox.b k h := by
  unfold vote_NewBox.b
  refine (Sat.init h).mkmap_ (κ := vote_place) (ν := api_Vote) (fun r h1 hs1 hr => ?_)
  refine hs1.box_ (fun p h2 hs2 hp _ => ?_)
  have hlt := mpE_lt (hs1.at_ (i := 0) rfl)
  refine hk p r h2 hs2.fr ⟨hs2.at_ (i := 0) rfl, hs2.at_ (i := 1) rfl, by omega⟩ ?_
  intro b hb
  simp only [List.mem_cons, List.not_mem_nil, or_false] at hb
  rcases hb with rfl | rfl
  · have := (hs2.ok _ (List.mem_of_getElem? (i := 0) rfl)).2.2 p.block (by simp [cel]); simp at this; omega
  · have := (hs2.ok _ (List.mem_of_getElem? (i := 1) rfl)).2.2 b (by simp [mpE]); simp at this; omega
def placeOf (v : api_Vote) : vote_place := ⟨v.Kind, v.Round, v.From⟩
theorem Add_spec (p : Addr) (r : Nat) (l : Vts) (v : api_Vote) {k : Bool → H → Prop} {h : H} (hb : BoxA p r l h)
    (hk1 : ∀ u h', mfind l (placeOf v) = some u → Ext h h' → k false h') (hk2 : ∀ h', mfind l (placeOf v) = none → Fr [p.block, r] h h' → BoxA p r (mins l (placeOf v) v) h' → k true h') : vote_Box_Add.b (some p) v k h := by
  unfold vote_Box_Add.b
  have hrlt := mpE_lt hb.2.1
  have hbx : ∀ h', Ext h h' → AtH h' p (enc (⟨⟨some r⟩⟩ : vote_Box)) := fun h' f => hb.1.at_.ext f
  have hmx : ∀ h', Ext h h' → (mpE r l).A h' := fun h' f => mpE_loc r l h h' (fun b hb' => f.same b (by simp only [mpE, List.mem_singleton] at hb'; omega) (by simp)) hb.2.1
  refine (Sat.init h).box_ (fun a h1 hs1 _ _ => ?_)
  refine ifb_i (fun hc => by cases hc) (fun _ => ?_)
  refine hs1.ld_ 0 rfl ?_
  refine hs1.ld_ 0 rfl ?_
  refine hs1.ld_ 0 rfl ?_
  refine hs1.box_ (fun at_ h2 hs2 _ _ => ?_)
  refine hs2.st_ 0 rfl len_vote_place (fun h3 hs3 _ => ?_)
  refine nn_i ?_
  refine ld_old (hbx _ hs3.fr) ?_
  refine hs3.ld_ 0 rfl ?_
  refine ⟨_, ⟨l, mpE_is (hmx _ hs3.fr), rfl⟩, ?_⟩
  refine hs3.box_ (fun t6 h4 hs4 _ _ => ?_)
  refine ⟨⟨_, hbx _ hs4.fr, rfl⟩, ?_⟩
  refine hs4.chk_ 1 rfl rfl ?_
  refine ⟨⟨l, mpE_is (hmx _ hs4.fr), rfl⟩, ?_⟩
  refine hs4.st_ 0 rfl len_api_Vote (fun h5 hs5 _ => ?_)
  show ifb (mlook api_Vote.zero l (placeOf v)).b _ _ h5
  cases hm : mfind l (placeOf v) with
  | some u =>
    refine ifb_i (fun _ => ?_) (fun hc => by simp [mlook, hm] at hc)
    exact hk1 u h5 hm hs5.fr
  | none =>
    refine ifb_i (fun hc => by simp [mlook, hm] at hc) (fun _ => ?_)
    refine ld_old (hbx _ hs5.fr) ?_
    refine hs5.ld_ 1 rfl ?_
    refine hs5.ld_ 2 rfl ?_
    obtain ⟨es, clk, q1, q2⟩ := hmx _ hs5.fr
    refine ⟨r, es, clk, l, rfl, q1, q2, fun es' clk' q3 => ?_⟩
    have hf : Fr [r] h (h5.setIfInBounds r (.map es' clk')) := (hs5.fr.mono (by simp)).trans (Fr.set h5 r (.map es' clk')) (by simp)
    exact hk2 _ hm (hf.mono (by simp)) ⟨hb.1.fr hf (by simp; exact hb.2.2), ⟨es', clk', AtLast q1, q3⟩, hb.2.2⟩
/-- the votes for a digest, by rising members -/
def pick1 (l : Vts) (kind round : Int) (d : Dig) (i : Nat) : List api_Vote := match mfind l ⟨kind, round, (i : Int)⟩ with
  | some v => if v.Digest = d then [v] else []
  | none => []
def forF (l : Vts) (kind round : Int) (d : Dig) (n : Nat) : List api_Vote := (List.range n).flatMap fun i : Nat => pick1 l kind round d (i + 1)
theorem forF_succ (l : Vts) (kind round : Int) (d : Dig) (n : Nat) : forF l kind round d (n + 1) = forF l kind round d n ++ pick1 l kind round d (n + 1) := by simp [forF, List.range_succ]
theorem forF_len (l : Vts) (kind round : Int) (d : Dig) (n : Nat) : (forF l kind round d n).length ≤ n := by
  induction n with
  | zero => simp [forF]
  | succ n ih =>
    rw [forF_succ, List.length_append]
    have : (pick1 l kind round d (n + 1)).length ≤ 1 := by unfold pick1; split <;> try split
                                                           all_goals simp
    omega
theorem For_spec (p : Addr) (r : Nat) (l : Vts) (kind round : Int) (d : Dig) {k : Sl → H → Prop} {h : H} (hb : BoxA p r l h)
    (hk : ∀ s h', Ext h h' → OwnA 37 41 s (forF l kind round d 63) h' → (∀ b ∈ blk s, h.size ≤ b ∧ b < h'.size) → k s h') : vote_Box_For.b (some p) kind round d k h := by
  unfold vote_Box_For.b
  refine (Sat.init h).box_ (fun a h1 hs1 _ _ => ?_)
  unfold vote_Box_For.l1
  refine ⟨fun (x : Sl × Int) h' => ∃ i : Nat, x.2 = ((i + 1 : Nat) : Int) ∧ i ≤ 63 ∧ Sat h [] h' [own 37 41 x.1 (forF l kind round d i), cel 24 a (enc d)], fun x _ => (64 - x.2).toNat, ⟨0, rfl, by omega, hs1.nilOwn⟩, ?_⟩
  rintro ⟨out, t⟩ h2 ⟨i, hi, hil, hs2⟩
  simp only at hi hs2
  subst hi
  refine ifb_i (fun hc => ?_) (fun hc => ?_)
  · have hi : i < 63 := by have : ((i + 1 : Nat) : Int) ≤ 63 := by simpa using hc
                           omega
    have e1 : iadd ((i + 1 : Nat) : Int) 1 = ((i + 1 + 1 : Nat) : Int) := by rw [iadd_eq (by omega) (by omega)]; omega
    have hbs := hb.ext hs2.fr
    obtain ⟨y, hy⟩ : ∃ y, mlook api_Vote.zero l ⟨kind, round, ((i + 1 : Nat) : Int)⟩ = y := ⟨_, rfl⟩
    refine nn_i ?_
    refine ld_old hbs.1.at_ ?_
    refine ⟨y, ⟨l, mpE_is hbs.2.1, hy⟩, ?_⟩
    refine hs2.box_ (fun v h3 hs3 _ _ => ?_)
    refine hs3.st_ 0 rfl len_api_Vote (fun h4 hs4 _ => ?_)
    refine hs4.ld_ 0 rfl ?_
    refine hs4.ld_ 2 rfl ?_
    have hlen := forF_len l kind round d i
    cases hm : mfind l ⟨kind, round, ((i + 1 : Nat) : Int)⟩ with
    | none =>
      have hml : mlook api_Vote.zero l ⟨kind, round, ((i + 1 : Nat) : Int)⟩ = ⟨api_Vote.zero, false⟩ := by unfold mlook; rw [hm]
      rw [hml] at hy
      subst hy
      refine ifb_i (fun hc => by cases hc) (fun _ => ?_)
      show _ ∧ _
      dsimp only
      rw [e1]
      refine ⟨⟨i + 1, rfl, hi, ?_⟩, by omega⟩
      have : pick1 l kind round d (i + 1) = [] := by unfold pick1; rw [hm]
      rw [forF_succ, this, List.append_nil]
      exact hs4.drop (List.sublist_cons_self _ _)
    | some u =>
      have hml : mlook api_Vote.zero l ⟨kind, round, ((i + 1 : Nat) : Int)⟩ = ⟨u, true⟩ := by unfold mlook; rw [hm]
      rw [hml] at hy
      subst hy
      by_cases hd : u.Digest = d
      · refine ifb_i (fun _ => ?_) (fun hc => by simp [hd] at hc)
        refine hs4.ld_ 0 rfl ?_
        refine hs4.mks_ (n := 41) (fun sl h5 hs5 _ _ => ?_)
        refine hs5.app_ 2 rfl (hs5.ownSV 0 rfl len_api_Vote) len_api_Vote one_api_Vote (len_api_Vote _) ?_ ?_ (fun r' h6 hs6 hl6 => ?_)
        · simp only [List.length_cons, List.length_nil, maxBytes]; omega
        · simp only [List.length_cons, List.length_nil]; omega
        show _ ∧ _
        dsimp only
        rw [e1]
        refine ⟨⟨i + 1, rfl, hi, ?_⟩, by omega⟩
        have : pick1 l kind round d (i + 1) = [u] := by unfold pick1; rw [hm]; simp [hd]
        rw [forF_succ, this]
        exact (hs6.drop (List.sublist_cons_self _ _)).drop (List.sublist_cons_self _ _)
      · refine ifb_i (fun hc => by simp [hd] at hc) (fun _ => ?_)
        show _ ∧ _
        dsimp only
        rw [e1]
        refine ⟨⟨i + 1, rfl, hi, ?_⟩, by omega⟩
        have : pick1 l kind round d (i + 1) = [] := by unfold pick1; rw [hm]; simp [hd]
        rw [forF_succ, this, List.append_nil]
        exact hs4.drop (List.sublist_cons_self _ _)
  · have hi : i = 63 := by
      have : ¬ ((i + 1 : Nat) : Int) ≤ 63 := by simpa using hc
      omega
    subst hi
    refine hk out h2 hs2.fr (hs2.at_ (i := 0) rfl) (fun b hb' => ?_)
    have := (hs2.ok _ (List.mem_of_getElem? (i := 0) rfl)).2.2 b hb'
    simp at this; omega
theorem Count_spec (p : Addr) (r : Nat) (l : Vts) (kind round : Int) (d : Dig) {k : Int → H → Prop} {h : H} (hb : BoxA p r l h) (hk : ∀ h', Ext h h' → k ((forF l kind round d 63).length : Int) h') : vote_Box_Count.b (some p) kind round d k h := by
  unfold vote_Box_Count.b
  refine (Sat.init h).box_ (fun a h1 hs1 _ _ => ?_)
  refine hs1.ld_ 0 rfl ?_
  refine vote_Box_For.ok _ _ _ _ _ _ (For_spec p r l kind round d (hb.ext hs1.fr) (fun s h2 hx2 ho2 _ => ?_))
  have := (ho2.sv len_api_Vote).2.1
  rw [this]
  exact hk _ (hs1.ext hx2).fr
/-! loops over maps -/
def rawE (b : Nat) (o : Obj) : En := ⟨[b], fun h => h[b]? = some o⟩
theorem rawE_loc (b : Nat) (o : Obj) : Go.Sh.Loc (rawE b o) := fun h h' hb H => by
  show h'[b]? = some o
  rw [hb b (by simp [rawE])]; exact H
section
variable {h0 h : H} {S : List Nat} {L : List En} {κ ν : Type} [Ty κ] [Ty ν]
theorem Rng_tr {h h' : H} {p : Addr} {m : Mp} {todo : List (κ × ν)} (R : Rng h p m todo) (h1 : h'[p.block]? = h[p.block]?) (h2 : ∀ r, m.r = some r → h'[r]? = h[r]?) : Rng h' p m todo := by
  obtain ⟨hp, hc⟩ := R
  refine ⟨hp, ?_⟩
  rcases hc with ⟨a, b, s0, s1, s2, c⟩ | ⟨r, es, clk, l, seen, a, b, c, d, e⟩
  · exact .inl ⟨a, b, s0, s1, s2, by rw [h1]; exact c⟩
  · exact .inr ⟨r, es, clk, l, seen, a, by rw [h1]; exact b, by rw [h2 r a]; exact c, d, e⟩
theorem _root_.Go.Sh.Sat.rng_ {m : Mp} {l l0 : List (κ × ν)} {k : Addr → H → Prop} (hs : Sat h0 S h L) (hm : MapIs h m l) (hk : ∀ p h' o, Sat h0 S h' (rawE p.block o :: L) → Rng h' p m l → Ext h h' → k p h') : rng m l0 k h := by
  refine ⟨l, hm, fun p o hp hR => ?_⟩
  subst hp
  exact hk _ _ o (hs.add (e := rawE h.size o) (Fr.push _ _) (by show (h.push o)[h.size]? = some o; simp) (rawE_loc _ _) (by intro b hb; simp only [rawE, List.mem_singleton] at hb; subst hb; simp)) hR (Fr.push _ _)
theorem _root_.Go.Sh.Sat.nxt_ {p : Addr} {m : Mp} {todo : List (κ × ν)} {o : Obj} {k : Nx κ ν → H → Prop} (i : Nat) (hs : Sat h0 S h L) (hi : L[i]? = some (rawE p.block o)) (hR : Rng h p m todo) (hk0 : todo = [] → k ⟨none⟩ h)
    (hk1 : ∀ q rest h' o', todo.Perm (q :: rest) → Sat h0 S h' (L.set i (rawE p.block o')) → Rng h' p m rest → EntIs h' p m (⟨q.1, q.2⟩ : T2 κ ν) → k ⟨some ⟨q.1, q.2⟩⟩ h') : nxt p k h := by
  refine ⟨m, todo, hR, hk0, fun q rest o' hp hR' hE => hk1 q rest _ o' hp ?_ hR' hE⟩
  have ho : h[p.block]? = some o := hs.at_ hi
  refine hs.upd hi (by simp only [rawE]; exact Fr.set _ _ _) (by show (h.setIfInBounds p.block o')[p.block]? = some o'; exact AtLast ho) (rawE_loc _ _) ?_
  intro b hb
  simp only [rawE, List.mem_singleton] at hb
  subst hb
  rw [Array.getElem?_eq_some_iff] at ho
  exact ⟨by simpa using ho.1, .inl (by simp [rawE])⟩
end
def tlen (h : H) (p : Addr) : Nat := match h[p.block]? with
  | some (.mapIter (some r) _ seen _) => match h[r]? with
    | some (.map es _) => (es.toList.filter fun e => !seen.contains e.born).length
    | _ => 0
  | _ => 0
theorem zip_filter_len {α β : Type} (f : α → Bool) : ∀ (a : List α) (b : List β), a.length = b.length → ((a.zip b).filter fun q => f q.1).length = (a.filter f).length
  | [], [], _ => rfl
  | x :: a, y :: b, h => by
    simp only [List.length_cons, Nat.add_right_cancel_iff] at h
    have ih := zip_filter_len f a b h
    simp only [List.zip_cons_cons, List.filter_cons]
    split <;> simp [ih]
  | [], _ :: _, h => by simp at h
  | _ :: _, [], h => by simp at h
theorem Rng_tlen {κ ν : Type} [Ty κ] [Ty ν] {h : H} {p : Addr} {m : Mp} {todo : List (κ × ν)} (R : Rng h p m todo) : tlen h p = todo.length := by
  obtain ⟨_, hc⟩ := R
  rcases hc with ⟨a, b, s0, s1, s2, c⟩ | ⟨r, es, clk, l, seen, a, b, c, d, e⟩
  · unfold YtimmoekliphobaaDoor.tlen; rw [c, b]; rfl
  · unfold YtimmoekliphobaaDoor.tlen; rw [b]; simp only []; rw [c, e]
    simp only [List.length_map]
    exact (zip_filter_len (fun e : MapEntry => !seen.contains e.born) es.toList l (by have := congrArg List.length d.kv; simpa using this)).symm
end Go.Proofs.YtimmoekliphobaaDoor
namespace Go.Proofs.YtimmoekliphobaaDoor
open Go Go.Sh Go.RowKit Go.Maps Go.Sort Go.Shelf
open Go.Sh.Ty (reg)
section
variable {F : Fence} {n : Nat} {P : Program} (w : World) {ops : Array Oper} {rest : List Oper} {o : Oper} {a : Act} {Q : Exit → Act → World → Prop}
theorem wpListIn_rng (hg : o.guard = none) (m : Operand) (t : TypeId) (hop : o.op = Op.range t m) (k e : TypeId) (ht : P.underlying t = some (.map k e)) (b : Nat) (es : Array MapEntry) (clk : Nat)
    (hm : a.eval m = .map (some b)) (hb : w.heap[b]? = some (.map es clk))
    (hK : wpListIn F n P ops Q rest (a.put o.dst (.pointer (some ⟨w.heap.size, 0, none⟩))) (w.alloc (.mapIter (some b) clk #[] clk))) :
    wpListIn F n P ops Q (o :: rest) a w := by
  refine wpListIn_plain hg fun K' hK' => ?_
  unfold Oper.wpIn
  refine ⟨?_, ?_⟩
  · simp [Oper.about, hop]
  · rw [Oper.semAt_plain F _ _ (by rw [hop]; intro c hc'; cases hc')]
    have hrun : (Instr.range t (.map (some b))).run P w = .ok (.pointer (some ⟨w.heap.size, 0, none⟩)) (w.alloc (.mapIter (some b) clk #[] clk)) := by
      simp only [Instr.range, Sem.run_bind, run_underlying ht, Result.andThen, run_getObjH hb]
      rfl
    simp [execOp, hop, hm, hrun, Result.andThen]
    exact hK' _ _ hK
theorem wpListIn_nxt (hg : o.guard = none) (it : Operand) (hop : o.op = Op.next it false) (r : Nat) (m : Mp) (todo : List (Int × Int))
    (hit : a.eval it = .pointer (some ⟨r, 0, none⟩)) (h : Rng w.heap ⟨r, 0, none⟩ m todo)
    (hDone : todo = [] → wpListIn F n P ops Q rest (a.put o.dst (.tuple #[.bool false])) w)
    (hMore : ∀ (x c : Int) (w' : World) (rest' : List (Int × Int)), todo.Perm ((x, c) :: rest') → Rng w'.heap ⟨r, 0, none⟩ m rest' → w.grownBy w' (some r) → w'.heap.size = w.heap.size → (∃ o : Obj, w.heap[r]? = some o ∧ o.isWalk = true) →
      (Instr.entry (.pointer (some ⟨r, 0, none⟩))).run P w' = .ok (.tuple #[.int .i64 x, .int .i64 c]) w' → wpListIn F n P ops Q rest (a.put o.dst (.tuple #[.bool true, .int .i64 x, .int .i64 c])) w') :
    wpListIn F n P ops Q (o :: rest) a w := by
  refine wpListIn_plain hg fun K' hK' => ?_
  unfold Oper.wpIn
  refine ⟨by simp [Oper.about, hop], ?_⟩
  rw [Oper.semAt_plain F _ _ (by rw [hop]; intro c hc'; cases hc')]
  obtain ⟨⟨b, hbb⟩, hcase⟩ := h
  obtain rfl : r = b := by cases hbb; rfl
  rcases hcase with ⟨hr, h0, s0, s1, s2, hb⟩ | ⟨b, es, clk, l, seen, hr, hi, hb, H, htodo⟩
  · simp [execOp, hop, hit, Instr.next, run_getItH hb, Result.andThen]
    exact hK' _ _ (hDone h0)
  · have hl : es.toList.length = l.length := by have := congrArg List.length H.kv; simpa using this
    have hne : r ≠ b := fun e => by subst e; simp only at hi; rw [hi] at hb; cases hb
    rcases run_next_at (P := P) w o.type r b clk clk seen es clk hi hb H.born (Nat.le_refl _) with ⟨hz, hrun⟩ | ⟨e, he, w1, hw1, hrun⟩
    · simp [execOp, hop, hit, hrun, Result.andThen]
      refine hK' _ _ (hDone ?_)
      have hz' : ∀ e ∈ es.toList, seen.contains e.born = true := by
        have : leftOf es seen = #[] := Array.eq_empty_of_size_eq_zero hz
        unfold leftOf at this
        rw [Array.filter_eq_empty_iff] at this
        intro e he
        simpa using this e (by simpa using he)
      rw [htodo]
      simp only [List.map_eq_nil_iff, List.filter_eq_nil_iff]
      intro q hq
      have := hz' q.1 (List.of_mem_zip hq).1
      rw [this]; decide
    · have hel : e ∈ es.toList ∧ seen.contains e.born = false := by
        unfold leftOf at he
        simp at he
        exact ⟨by simpa using he.1, by simpa using he.2⟩
      obtain ⟨j, hj'⟩ := List.mem_iff_getElem?.1 hel.1
      have hjl : j < l.length := by
        rw [List.getElem?_eq_some_iff] at hj'; obtain ⟨h9, _⟩ := hj'; omega
      have hkv := congrArg (fun l => l[j]?) H.kv
      simp only [List.getElem?_map, hj', Option.map_some, List.getElem?_eq_getElem hjl, Option.some.injEq, Prod.mk.injEq] at hkv
      have hw1h : w1.heap = w.heap := by rcases hw1 with rfl | rfl <;> rfl
      have hk1 : e.key = .int .i64 l[j].1 := hkv.1
      have hv1 : e.val = .int .i64 l[j].2 := hkv.2
      simp [execOp, hop, hit, hrun, Result.andThen, hk1, hv1]
      have hit2 : (Go.ChangeMaps.setBlock w1 r (.mapIter (some b) clk (seen.push e.born) clk)).heap[r]? = some (.mapIter (some b) clk (seen.push e.born) clk) := by
        simp only [Go.ChangeMaps.setBlock, hw1h]; exact AtLast hi
      have hb2 : (Go.ChangeMaps.setBlock w1 r (.mapIter (some b) clk (seen.push e.born) clk)).heap[b]? = some (.map es clk) := by
        simp only [Go.ChangeMaps.setBlock, hw1h]; rw [Array.getElem?_setIfInBounds_ne hne]; exact hb
      refine hK' _ _ (hMore l[j].1 l[j].2 _ (((es.toList.zip l).filter fun q => !(seen.push e.born).contains q.1.born).map (·.2)) ?_ ⟨⟨r, rfl⟩, .inr ⟨b, es, clk, l, seen.push e.born, hr, hit2, hb2, H, rfl⟩⟩ ?_ ?_ ⟨_, hi, rfl⟩ ?_)
      · rw [htodo]
        exact todo_perm es.toList l seen hl H.nodup hj' (List.getElem?_eq_getElem hjl) hel.2
      · refine ⟨?_, ?_, ?_, ?_, ?_⟩
        · rcases hw1 with rfl | rfl <;> rfl
        · rcases hw1 with rfl | rfl <;> rfl
        · rcases hw1 with rfl | rfl <;> rfl
        · simp [Go.ChangeMaps.setBlock, hw1h]
        · intro k _ hk
          simp only [Go.ChangeMaps.setBlock, hw1h]
          exact Array.getElem?_setIfInBounds_ne (fun e => hk (by rw [e]))
      · simp [Go.ChangeMaps.setBlock, hw1h]
      · have := run_entry_at (P := P) _ r b clk seen es clk e hit2 hb2 hel.1 H.nodup
        rw [this, hk1, hv1]
end
theorem Rng_walks {W W' : World} {r : Nat} {m : Mp} {todo : List (Int × Int)} (R : Rng W.heap ⟨r, 0, none⟩ m todo) (hk : KeepsWalks W W') : Rng W'.heap ⟨r, 0, none⟩ m todo := by
  obtain ⟨hp, hc⟩ := R
  refine ⟨hp, ?_⟩
  rcases hc with ⟨a, b, s0, s1, s2, c⟩ | ⟨r, es, clk, l, seen, a, b, c, d, e⟩
  · exact .inl ⟨a, b, s0, s1, s2, hk.same _ _ c rfl⟩
  · exact .inr ⟨r, es, clk, l, seen, a, hk.same _ _ b rfl, hk.same _ _ c rfl, d, e⟩
set_option maxHeartbeats 1000000 in
theorem values_gives (n Bm b : Nat) (l : List (Int × Int)) (W0 : World) (hn : 1 ≤ n) (hbox : W0.cell? ⟨Bm, 0, none⟩ = some (.map (some b))) (hB : Bm < W0.heap.size) (hm : (mpE b l).A W0.heap) :
    SeqGives Fence.wide n Tryd.prog 83 #[.pointer (some ⟨Bm, 0, none⟩)] encZ (fun ss => ss.Perm (l.map (·.2))) l.length W0 := by
  intro y J W hW hJ hY h0
  have hbx : W.cell? ⟨Bm, 0, none⟩ = some (.map (some b)) := by
    rw [World.cell?_of_block (hW.block Bm hB)]; exact hbox
  obtain ⟨es, clk, hes, HO⟩ := hm
  have hbl : b < W0.heap.size := (Array.getElem?_eq_some_iff.1 hes).1
  have hb1 : W.heap[b]? = some (.map es clk) := (hW.block b hbl).trans hes
  have u118 : Tryd.prog.underlying 118 = some (.map 3 3) := Tryd.underlying118
  refine callsIn_of_wp Tryd.func83 rfl trivial ?_ rfl
  simp only [Tryd.ntmps83, List.size_toArray, List.length_cons, List.length_nil, Nat.reduceAdd, Nat.reduceSub, Array.replicate_succ, Array.replicate_zero, List.push_toArray, List.append_toArray, List.nil_append, List.cons_append]
  have hrg0 : Rng (W.alloc (.mapIter (some b) clk #[] clk)).heap ⟨W.heap.size, 0, none⟩ ⟨some b⟩ l := by
    refine ⟨⟨_, rfl⟩, .inr ⟨b, es, clk, l, #[], rfl, by show (W.heap.push _)[W.heap.size]? = _; simp, ?_, HO, ?_⟩⟩
    · exact (Below.heap_alloc W _ b (Array.getElem?_eq_some_iff.1 hb1).1).trans hb1
    · have hl : es.toList.length = l.length := by have := congrArg List.length HO.kv; simpa using this
      rw [List.filter_eq_self.2 (by simp)]
      exact (List.map_snd_zip (by omega)).symm
  have hg0 : W.grownBy (W.alloc (.mapIter (some b) clk #[] clk)) none := ⟨rfl, rfl, rfl, by simp, fun k hk _ => Below.heap_alloc W _ k hk⟩
  have hJ0 := hJ [] W _ none h0 hg0 (fun r e => by cases e)
  gi_wp2_with (first
    | (gi_at_range; refine wpListIn_rng _ rfl _ 118 rfl 3 3 u118 b es clk rfl hb1 ?_)
    | gi_in)
  go_frame
  gi_loopw [4] (fun _ wr => ∃ (pre : List Int) (todo : List (Int × Int)), Rng wr.heap ⟨W.heap.size, 0, none⟩ ⟨some b⟩ todo ∧ (pre ++ todo.map (·.2)).Perm (l.map (·.2)) ∧ J pre wr)
    (fun _ wr => tlen wr.heap ⟨W.heap.size, 0, none⟩)
  case atStart =>
    exact ⟨[], l, hrg0, by simp, hJ0⟩
  case round =>
    obtain ⟨pre, todo, hrg, hp, hJs⟩ := hrel
    gi_wp2_with (first
      | (gi_at_next; refine wpListIn_nxt _ rfl _ rfl W.heap.size ⟨some b⟩ todo rfl hrg ?_ ?_)
      | gi_in)
    · intro h00
      gi_wp2
      go_end0
      subst h00
      exact ⟨⟨_, rfl⟩, pre, by simpa using hp, hJs⟩
    · intro x c w2 rest' hpm hrg2 hg2 hs2 o9 hw1 hw2 hen
      have hJ2 : J pre w2 := hJ pre wr w2 (some W.heap.size) hJs hg2 (fun r e => by cases e; exact ⟨Nat.le_refl _, o9, hw1, hw2⟩)
      have hlen : pre.length < l.length := by
        have h1 := hp.length_eq
        have h2 := hpm.length_eq
        simp at h1 h2
        omega
      obtain ⟨fn, tmps, assign, body, hy, hR⟩ := hY pre c w2 hJ2 hlen
      clear hs2
      gi_wp2
      refine hR.mono ?_
      rintro e W3 ⟨rfl, hJ3, hk3⟩
      gi_wp2
      have hrg3 := Rng_walks hrg2 hk3
      have hpm2 : ((pre ++ [c]) ++ rest'.map (·.2)).Perm (l.map (·.2)) := by
        refine List.Perm.trans ?_ hp
        have := hpm.map (·.2)
        simp only [List.append_assoc, List.singleton_append]
        exact List.Perm.append_left _ (by simpa using this.symm)
      go_roundw
      case rel => exact ⟨pre ++ [c], rest', hrg3, hpm2, hJ3⟩
      case measure => rw [Rng_tlen hrg3, Rng_tlen hrg]; have := hpm.length_eq; simp at this; omega
theorem maps_Values_int.ok (m : Mp) (k : Fv → H → Prop) (h : H) (hh : maps_Values_int.b m k h) : CallsH Prog 49 [reg m].toArray h fun v h' => ∃ r : Fv, v = reg r ∧ k r h' := by
 unfold maps_Values_int.b at hh
 refine CallsH.of 4 Tryd.func49 rfl Tryd.ntmps49 rfl (fun w0 => ?_)
 refine .sr ?_
 refine box_elim hh (fun m_1 hm_1 hh => ?_)
 refine .e (e_boxP hm_1 rfl rfl rfl ?_)
 refine .V (v_assign rfl) (.nx (.sr (.V (v_makeFunc rfl) (.A (reg ((⟨83, #[.pointer (some m_1)]⟩ : Fv) : Fv)) (.nx ?_)))))
 refine CW.ret ?_
 exact ret1 rfl rfl ⟨((⟨83, #[.pointer (some m_1)]⟩ : Fv) : Fv), rfl, hh⟩
end Go.Proofs.YtimmoekliphobaaDoor
namespace Go.Proofs.YtimmoekliphobaaDoor
open Go Go.Sh Go.RowKit Go.Maps Go.Sort Go.Shelf
open Go.Sh.Ty (reg)
def sortedA_ren : Go.Shelf.Ren := ⟨fun | 6 => 48 | 8 => 81 | 9 => 82 | 11 => 110 | 13 => 112 | 12 => 111 | 23 => 131 | 24 => 132 | 14 => 122 | 15 => 123 | 16 => 124 | 17 => 125 | 18 => 126 | 19 => 127 | 20 => 128 | 21 => 129 | 22 => 130 | 25 => 135 | 26 => 136 | 27 => 137 | 28 => 138 | 29 => 139 | 30 => 140 | 31 => 141 | n => n, fun | 26 => 3 | 28 => 122 | 24 => 49 | 0 => 0 | 3 => 3 | 37 => 71 | 48 => 185 | 50 => 190 | 4 => 4 | 40 => 223 | 39 => 222 | 45 => 119 | 5 => 5 | 9 => 9 | 51 => 232 | 55 => 236 | 57 => 238 | 58 => 239 | 33 => 168 | n => n, fun | n => n⟩
theorem sortedA : Go.Proofs.SlLaysZI.n6 Tryd.prog sortedA_ren := {
  mixed := by kernel_rfl,
  f6 := ⟨Tryd.f48.name, by decide, Tryd.func48.trans (congrArg some (by kernel_rfl))⟩,
  f8 := ⟨Tryd.f81.name, by decide, Tryd.func81.trans (congrArg some (by kernel_rfl))⟩,
  f11 := ⟨Tryd.f110.name, by decide, Tryd.func110.trans (congrArg some (by kernel_rfl))⟩,
  t0 := Tryd.underlying0,
  a0 := Tryd.isAgg0,
  z0 := Tryd.sizeOf0,
  v0 := Tryd.zeroValue0,
  t24 := Tryd.underlying49,
  a24 := Tryd.isAgg49,
  z24 := Tryd.sizeOf49,
  v24 := Tryd.zeroValue49,
  t26 := Tryd.underlying3,
  a26 := Tryd.isAgg3,
  z26 := Tryd.sizeOf3,
  v26 := Tryd.zeroValue3,
  t28 := Tryd.underlying122,
  a28 := Tryd.isAgg122,
  z28 := Tryd.sizeOf122,
  v28 := Tryd.zeroValue122,
  i26 := by kernel_rfl }
def sortA_ren : Go.Shelf.Ren := ⟨fun | 5 => 82 | 8 => 112 | 7 => 111 | 19 => 131 | 20 => 132 | 10 => 122 | 11 => 123 | 12 => 124 | 13 => 125 | 14 => 126 | 15 => 127 | 16 => 128 | 17 => 129 | 18 => 130 | 30 => 135 | 31 => 136 | 32 => 137 | 33 => 138 | 34 => 139 | 35 => 140 | 40 => 141 | n => n, fun | 23 => 49 | 25 => 3 | 3 => 3 | 32 => 71 | 22 => 49 | 0 => 0 | 44 => 185 | 46 => 190 | 4 => 4 | 36 => 223 | 35 => 222 | 41 => 119 | 5 => 5 | 9 => 9 | 53 => 232 | 57 => 236 | 63 => 238 | 64 => 239 | n => n, fun | n => n⟩
theorem sortA : Go.Proofs.SlLaysM.n5 Tryd.prog sortA_ren := {
  mixed := by kernel_rfl,
  f5 := ⟨Tryd.f82.name, by decide, Tryd.func82.trans (congrArg some (by kernel_rfl))⟩,
  f7 := ⟨Tryd.f111.name, by decide, Tryd.func111.trans (congrArg some (by kernel_rfl))⟩,
  f8 := Tryd.func112.trans (congrArg some (by kernel_rfl)),
  f10 := ⟨Tryd.f122.name, by decide, Tryd.func122.trans (congrArg some (by kernel_rfl))⟩,
  f11 := ⟨Tryd.f123.name, by decide, Tryd.func123.trans (congrArg some (by kernel_rfl))⟩,
  f12 := ⟨Tryd.f124.name, by decide, Tryd.func124.trans (congrArg some (by kernel_rfl))⟩,
  f13 := ⟨Tryd.f125.name, by decide, Tryd.func125.trans (congrArg some (by kernel_rfl))⟩,
  f14 := ⟨Tryd.f126.name, by decide, Tryd.func126.trans (congrArg some (by kernel_rfl))⟩,
  f15 := ⟨Tryd.f127.name, by decide, Tryd.func127.trans (congrArg some (by kernel_rfl))⟩,
  f16 := ⟨Tryd.f128.name, by decide, Tryd.func128.trans (congrArg some (by kernel_rfl))⟩,
  f17 := ⟨Tryd.f129.name, by decide, Tryd.func129.trans (congrArg some (by kernel_rfl))⟩,
  f18 := ⟨Tryd.f130.name, by decide, Tryd.func130.trans (congrArg some (by kernel_rfl))⟩,
  f19 := Tryd.func131.trans (congrArg some (by kernel_rfl)),
  f20 := Tryd.func132.trans (congrArg some (by kernel_rfl)),
  f30 := ⟨Tryd.f135.name, by decide, Tryd.func135.trans (congrArg some (by kernel_rfl))⟩,
  f31 := Tryd.func136.trans (congrArg some (by kernel_rfl)),
  f32 := Tryd.func137.trans (congrArg some (by kernel_rfl)),
  f33 := ⟨Tryd.f138.name, by decide, Tryd.func138.trans (congrArg some (by kernel_rfl))⟩,
  f34 := ⟨Tryd.f139.name, by decide, Tryd.func139.trans (congrArg some (by kernel_rfl))⟩,
  f35 := ⟨Tryd.f140.name, by decide, Tryd.func140.trans (congrArg some (by kernel_rfl))⟩,
  f40 := ⟨Tryd.f141.name, by decide, Tryd.func141.trans (congrArg some (by kernel_rfl))⟩,
  t0 := Tryd.underlying0,
  a0 := Tryd.isAgg0,
  z0 := Tryd.sizeOf0,
  v0 := Tryd.zeroValue0,
  t3 := Tryd.underlying3,
  a3 := Tryd.isAgg3,
  z3 := Tryd.sizeOf3,
  v3 := Tryd.zeroValue3,
  t4 := Tryd.underlying4,
  a4 := Tryd.isAgg4,
  z4 := Tryd.sizeOf4,
  v4 := Tryd.zeroValue4,
  t5 := Tryd.underlying5,
  a5 := Tryd.isAgg5,
  z5 := Tryd.sizeOf5,
  v5 := Tryd.zeroValue5,
  t9 := Tryd.underlying9,
  a9 := Tryd.isAgg9,
  z9 := Tryd.sizeOf9,
  v9 := Tryd.zeroValue9,
  t22 := Tryd.underlying49,
  a22 := Tryd.isAgg49,
  z22 := Tryd.sizeOf49,
  v22 := Tryd.zeroValue49,
  t23 := Tryd.underlying49,
  a23 := Tryd.isAgg49,
  z23 := Tryd.sizeOf49,
  v23 := Tryd.zeroValue49,
  t25 := Tryd.underlying3,
  a25 := Tryd.isAgg3,
  z25 := Tryd.sizeOf3,
  v25 := Tryd.zeroValue3,
  t32 := Tryd.underlying71,
  a32 := Tryd.isAgg71,
  z32 := Tryd.sizeOf71,
  v32 := Tryd.zeroValue71,
  t35 := Tryd.underlying222,
  a35 := Tryd.isAgg222,
  z35 := Tryd.sizeOf222,
  v35 := Tryd.zeroValue222,
  t36 := Tryd.underlying223,
  a36 := Tryd.isAgg223,
  z36 := Tryd.sizeOf223,
  v36 := Tryd.zeroValue223,
  t41 := Tryd.underlying119,
  a41 := Tryd.isAgg119,
  z41 := Tryd.sizeOf119,
  v41 := Tryd.zeroValue119,
  t44 := Tryd.underlying185,
  a44 := Tryd.isAgg185,
  z44 := Tryd.sizeOf185,
  v44 := Tryd.zeroValue185,
  t46 := Tryd.underlying190,
  a46 := Tryd.isAgg190,
  z46 := Tryd.sizeOf190,
  v46 := Tryd.zeroValue190,
  t53 := Tryd.underlying232,
  a53 := Tryd.isAgg232,
  z53 := Tryd.sizeOf232,
  v53 := Tryd.zeroValue232,
  t57 := Tryd.underlying236,
  a57 := Tryd.isAgg236,
  z57 := Tryd.sizeOf236,
  v57 := Tryd.zeroValue236,
  t63 := Tryd.underlying238,
  a63 := Tryd.isAgg238,
  z63 := Tryd.sizeOf238,
  v63 := Tryd.zeroValue238,
  t64 := Tryd.underlying239,
  a64 := Tryd.isAgg239,
  z64 := Tryd.sizeOf239,
  v64 := Tryd.zeroValue239 }
theorem sortsA (m : Nat) : AnyZI.SortsIn Tryd.prog sortedA_ren Fence.wide m :=
  ⟨fun blk off cap ss W hH hblk hsz => callsIn_wide.2 (AnyM.slices_Sort_int sortA blk off cap ss W hH hblk hsz),
   fun p cap W => callsIn_wide.2 (AnyM.slices_Sort_int_none sortA p cap W)⟩
theorem mergeSort_perm_eq {a b : List Int} (h : a.Perm b) : (a.mergeSort fun x y => decide (x ≤ y)) = b.mergeSort fun x y => decide (x ≤ y) := by
  have tr : ∀ a b c : Int, decide (a ≤ b) = true → decide (b ≤ c) = true → decide (a ≤ c) = true := by
    intro a b c; simp only [decide_eq_true_eq]; omega
  have tot : ∀ a b : Int, (decide (a ≤ b) || decide (b ≤ a)) = true := by
    intro a b; simp only [Bool.or_eq_true, decide_eq_true_eq]; omega
  have h1 := List.pairwise_mergeSort tr tot a
  have h2 := List.pairwise_mergeSort tr tot b
  refine List.Perm.eq_of_pairwise ?_ h1 h2 (((List.mergeSort_perm a _).trans h).trans (List.mergeSort_perm b _).symm)
  intro x y _ _ hx hy
  simp only [decide_eq_true_eq] at hx hy
  omega
set_option maxHeartbeats 1000000 in
theorem sorted_spec (r : Nat) (l : List (Int × Int)) {k : Sl → H → Prop} {h : H} (hm : (mpE r l).A h) (hl : l.length < 2 ^ 20) (hne : l ≠ []) (hk : ∀ s h', Ext h h' → SV 1 h' s ((l.map (·.2)).mergeSort fun x y => decide (x ≤ y)) → k s h') :
    call (β := Fv) Prog 49 [reg (⟨some r⟩ : Mp)] (fun t51 => call (β := Sl) Prog 48 [reg (t51 : Fv)] k) h := by
  refine maps_Values_int.ok _ _ _ ?_
  unfold maps_Values_int.b
  refine (Sat.init h).box_ (fun p h1 hs1 hp hx1 => ?_)
  have hm1 : (mpE r l).A h1 := mpE_loc r l h h1 (fun b hb => hx1.same b (by simp only [mpE, List.mem_singleton] at hb; subst hb; exact mpE_lt hm) (by simp)) hm
  have hc := hs1.at_ (i := 0) rfl
  intro w hw
  subst hw
  have hbox : w.cell? ⟨p.block, 0, none⟩ = some (.map (some r)) := by
    have h2 : w.heap[p.block]? = some (.cells #[.map (some r)] 118 (0, 0)) := hc.2
    simp [World.cell?, h2]
  have hseq := values_gives 2 p.block r l w (by omega) hbox hc.lt hm1
  have hlen : l.length ≤ maxLen := by simp only [maxLen]; omega
  have cS := AnyZI.sorted_in sortedA Fence.wide 5 trivial trivial trivial trivial rfl (by omega) (sortsA _) (enters_of Tryd.func82 (by kernel_rfl) rfl) 83 #[.pointer (some ⟨p.block, 0, none⟩)] trivial (enters_of Tryd.func83 (by kernel_rfl) rfl) _ _ hlen (by omega) _ hseq
  have cS2 := callsIn_wide.1 cS
  have hpe : p = ⟨p.block, 0, none⟩ := hc.1
  have goal : Calls Tryd.prog 48 #[Value.func (Fn.func 83) #[] #[Value.pointer (some ⟨p.block, 0, none⟩)]] w fun e w' => ∃ v, e = Ending.returned v ∧ w'.tape = w.tape ∧ w'.os = w.os ∧ w'.output = w.output ∧ (fun v h' => ∃ r : Sl, v = reg r ∧ k r h') v w'.heap := by
    refine Calls.mono (show Calls Tryd.prog 48 _ w _ from cS2) ?_
    rintro e w' ⟨v, ss, rfl, hperm, hrow, _, hb⟩
    refine ⟨v, rfl, hb.tape, hb.os, hb.output, ?_⟩
    have hss : ss.length ≠ 0 := by
      rw [hperm.length_eq]; simpa using hne
    rcases hrow.2 with ⟨_, h0⟩ | ⟨g, cap, cur, rfl, _, hg, hcap, _, hsz, htake⟩
    · exact absurd h0 hss
    · refine ⟨⟨some ⟨g, 0, none⟩, ss.length, cap⟩, rfl, hk _ _ (hx1.trans ⟨hb.size, fun i hi _ => hb.block i hi⟩) ?_⟩
      have hmse := mergeSort_perm_eq hperm
      rw [← hmse]
      refine ⟨.inr ⟨_, rfl, ⟨rfl, cur, _, _, hg, fun i v hi => ?_⟩, ?_⟩, by simp, hcap⟩
      · have e1 : (List.map enc (ss.mergeSort fun x y => decide (x ≤ y))).flatten = (ss.mergeSort fun x y => decide (x ≤ y)).map encZ := by
          generalize (ss.mergeSort fun x y => decide (x ≤ y)) = z
          induction z with
          | nil => rfl
          | cons a z ih => simp only [List.map_cons, List.flatten_cons, ih]; rfl
        rw [e1, ← htake, Nat.mul_one] at hi
        rw [List.getElem?_take] at hi
        split at hi
        · simpa using hi
        · cases hi
      · generalize hz : (ss.mergeSort fun x y => decide (x ≤ y)) = z
        have hzl : z.length = ss.length := by rw [← hz]; simp
        have : ∀ z : List Int, (List.map enc z).flatten.length = z.length := by
          intro z; induction z with
          | nil => rfl
          | cons a z ih => simp only [List.map_cons, List.flatten_cons, List.length_append, List.length_cons, ih]; show 1 + _ = _; omega
        rw [this, hzl, Nat.mul_one]
  rw [hpe]; exact goal
theorem vote_Box_Voters.ok (b : Pt) (round : Int) (k : Int → H → Prop) (h : H) (hh : vote_Box_Voters.b b round k h) : CallsH Prog 17 [reg b, reg round].toArray h fun v h' => ∃ r : Int, v = reg r ∧ k r h' := by
 unfold vote_Box_Voters.b at hh
 refine CallsH.of 28 Tryd.func17 rfl Tryd.ntmps17 rfl (fun w0 => ?_)
 refine .sr (.A (reg ((0 : Int) : Int)) (.nx (.sr ?_)))
 refine .e (e_mkmap rfl hh ?_)
 intro h t7 hh
 refine .A (reg t7) (.nx ?_)
 refine CW.join (fun ρ h => ∃ (ρ' : Env), ρ = setl ρ' [(5, reg t7)] ∧ (vote_Box_Voters.j1 k) t7 h) ?_ ?_
 ·refine .sr (.M (reg b) (.V (v_ne_nil pt_26 rfl rfl) (.nx ?_)))
  refine CW.cond b.isSome rfl (fun hb => ?_) (fun hb => ?_)
  ·have hh := hh.1 hb
   refine .sr (.M (reg b) ?_)
   obtain ⟨p, hp, hh⟩ := hh
   refine .V (v_nilCheck (congrArg Value.pointer hp)) (.V (v_fieldAddr fl_113_0 rfl) (.L 0 na_111 get_113_votes hh rfl (fun t13 hh => ?_)))
   refine .e (e_rng ([] : List (vote_place × api_Vote)) mt_111 rfl rfl hh ?_)
   intro h t14 hh
   refine .nx ?_
   refine CW.block ?_
   unfold vote_Box_Voters.l1 at hh
   refine CW.loop (fun (σ0 : Unit) ρ => match σ0 with | _ => ∃ ρ' : Env, ρ = setl ρ' [(1, reg round), (5, reg t7), (14, .pointer (some t14))]) hh ⟨_, setl_eq ⟨rfl, ⟨rfl, ⟨rfl, trivial⟩⟩⟩⟩ ?_
   clear hh
   rintro s1 ⟨⟩ ρ h ⟨ρ', rfl⟩ hh
   refine .sr ?_
   refine .e (e_nxt rfl rfl hh ?_)
   intro h t15 hh
   refine .V (v_extnx (n := t15) rfl) (.nx (.seq ?_))
   refine CW.cond t15.o.isSome rfl (fun hb_1 => ?_) (fun hb_1 => ?_)
   ·have hh := hh.1 hb_1
    refine CW.skip ?_
    refine QN.then_ ?_
    refine CW.block ?_
    refine .sr ?_
    obtain ⟨t17, hxt17, hh⟩ := hh
    refine .V (v_ent (q := (t17 : T2 vote_place api_Vote)) rfl hxt17) (.V (v_extract (v := reg (t17.a : vote_place)) rfl rfl) ?_)
    refine box_elim hh (fun at_ hat_ hh => ?_)
    refine .e (e_allocP hat_ zo_115 rfl ?_)
    refine .S (t17.a : vote_place) 0 sz_115 (one_vote_place _) len_vote_place (len_vote_place _) (fun x => set_115_all x (t17.a : vote_place)) hh rfl rfl (fun _ hh => .nx (.sr (.V (v_fieldAddr fl_115_1 rfl) (.L 1 na_3 get_115_round hh rfl (fun t20 hh => .M (reg round) (.V (v_igeq rfl rfl) (.nx ?_)))))))
    refine CW.cond (decide (round ≤ t20)) rfl (fun hb_2 => ?_) (fun hb_2 => ?_)
    ·have hh := hh.1 hb_2
     refine CW.region ?_
     refine .M (reg t7) (.V (v_fieldAddr fl_115_2 rfl) (.L 2 na_3 get_115_from hh rfl (fun t25 hh => ?_)))
     refine .e (e_mput mt_117 kt_3 rfl rfl rfl hh ?_)
     intro h hh
     refine .nil ?_
     refine QN.blockN ?_
     exact QN.thenJ ⟨(), ⟨_, setl_eq ⟨rfl, ⟨rfl, ⟨rfl, trivial⟩⟩⟩⟩, hh⟩
    ·have hh := hh.2 hb_2
     refine CW.skip ?_
     refine QN.blockN ?_
     exact QN.thenJ ⟨(), ⟨_, setl_eq ⟨rfl, ⟨rfl, ⟨rfl, trivial⟩⟩⟩⟩, hh⟩
   ·have hh := hh.2 hb_1
    refine CW.exit ?_
    refine QN.thenExit ?_
    refine QN.thenExit ?_
    refine QN.blockExit ?_
    exact QN.thenJ ⟨_, setl_eq ⟨rfl, trivial⟩, hh⟩
  ·have hh := hh.2 hb
   refine CW.skip ?_
   exact QN.thenJ ⟨_, setl_eq ⟨rfl, trivial⟩, hh⟩
 ·rintro ρ h ⟨ρ', rfl, hh⟩
  unfold vote_Box_Voters.j1 at hh
  refine .sr (.M (reg t7) ?_)
  obtain ⟨t27, ⟨xt27, hxt27, hgt27⟩, hh⟩ := hh
  refine .V (v_lenm mt_117 rfl hxt27 hgt27) (.A (reg t27) (.nx ?_))
  refine CW.ret ?_
  exact ret1 rfl rfl ⟨(t27 : Int), rfl, hh⟩
theorem vote_Box_Reached.ok (b : Pt) (n : Int) (k : Int → H → Prop) (h : H) (hh : vote_Box_Reached.b b n k h) : CallsH Prog 19 [reg b, reg n].toArray h fun v h' => ∃ r : Int, v = reg r ∧ k r h' := by
 unfold vote_Box_Reached.b at hh
 refine CallsH.of 60 Tryd.func19 rfl Tryd.ntmps19 rfl (fun w0 => ?_)
 refine .sr (.A (reg ((0 : Int) : Int)) (.nx (.sr ?_)))
 refine .e (e_mkmap rfl hh ?_)
 intro h t10 hh
 refine .A (reg t10) (.nx ?_)
 refine CW.join (fun ρ h => ∃ (ρ' : Env), ρ = setl ρ' [(1, reg n), (5, reg t10)] ∧ (vote_Box_Reached.j1 k) n t10 h) ?_ ?_
 ·refine .sr (.M (reg b) (.V (v_ne_nil pt_26 rfl rfl) (.nx ?_)))
  refine CW.cond b.isSome rfl (fun hb => ?_) (fun hb => ?_)
  ·have hh := hh.1 hb
   refine .sr (.M (reg b) ?_)
   obtain ⟨p, hp, hh⟩ := hh
   refine .V (v_nilCheck (congrArg Value.pointer hp)) (.V (v_fieldAddr fl_113_0 rfl) (.L 0 na_111 get_113_votes hh rfl (fun t16 hh => ?_)))
   refine .e (e_rng ([] : List (vote_place × api_Vote)) mt_111 rfl rfl hh ?_)
   intro h t17 hh
   refine .nx ?_
   refine CW.block ?_
   unfold vote_Box_Reached.l1 at hh
   refine CW.loop (fun (σ0 : Unit) ρ => match σ0 with | _ => ∃ ρ' : Env, ρ = setl ρ' [(1, reg n), (5, reg t10), (17, .pointer (some t17))]) hh ⟨_, setl_eq ⟨rfl, ⟨rfl, ⟨rfl, trivial⟩⟩⟩⟩ ?_
   clear hh
   rintro s1 ⟨⟩ ρ h ⟨ρ', rfl⟩ hh
   refine .sr ?_
   refine .e (e_nxt rfl rfl hh ?_)
   intro h t18 hh
   refine .V (v_extnx (n := t18) rfl) (.nx (.seq ?_))
   refine CW.cond t18.o.isSome rfl (fun hb_1 => ?_) (fun hb_1 => ?_)
   ·have hh := hh.1 hb_1
    refine CW.skip ?_
    refine QN.then_ ?_
    refine CW.block ?_
    refine .sr ?_
    obtain ⟨t20, hxt20, hh⟩ := hh
    refine .V (v_ent (q := (t20 : T2 vote_place api_Vote)) rfl hxt20) (.V (v_extract (v := reg (t20.a : vote_place)) rfl rfl) ?_)
    refine box_elim hh (fun at_ hat_ hh => ?_)
    refine .e (e_allocP hat_ zo_115 rfl ?_)
    refine .S (t20.a : vote_place) 0 sz_115 (one_vote_place _) len_vote_place (len_vote_place _) (fun x => set_115_all x (t20.a : vote_place)) hh rfl rfl (fun _ hh => .nx (.sr (.M (reg t10) (.V (v_fieldAddr fl_115_2 rfl) (.L 2 na_3 get_115_from hh rfl (fun t25 hh => ?_))))))
    obtain ⟨t26, ⟨xt26, hxt26, hgt26⟩, hh⟩ := hh
    refine .V (v_lookupOk mt_118 kt_3 zv_3 rfl rfl hxt26 hgt26) (.M (reg (t26 : T2 Int Bool)) (.V (v_extract (v := reg (t26.a : Int)) rfl rfl) (.V (v_extract (v := reg (t26.b : Bool)) rfl rfl) (.A (reg (t26.a : Int)) (.A (reg (t26.b : Bool)) (.nx (.sr (.M (reg (t26.b : Bool)) (.V (v_not rfl) (.M (reg ((!t26.b) : Bool)) ?_))))))))))
    refine .fv 31 rfl rfl rfl (fun hb => v_fieldAddr fl_115_1 rfl) rfl ?_
    obtain ⟨t33, ⟨xt33, hxt33, hgt33⟩, hh⟩ := hh
    refine .fv 31 rfl rfl rfl (fun hb => v_ld1 (p := at_) 1 na_3 (gf hb) hxt33 hgt33 get_115_round) rfl (.fv 31 rfl rfl rfl (fun hb => v_move (v := reg (t26.a : Int)) rfl) rfl (.fv 31 rfl rfl rfl (fun hb => v_igtr (gf hb) (gf hb)) rfl (.V (v_pick_or rfl rfl (fun hb => gf hb)) (.nx ?_))))
    refine CW.cond ((!t26.b) || (decide (t26.a < t33))) rfl (fun hb_2 => ?_) (fun hb_2 => ?_)
    ·have hh := hh.1 hb_2
     refine CW.region ?_
     refine .M (reg t10) (.V (v_fieldAddr fl_115_2 rfl) (.L 2 na_3 get_115_from hh rfl (fun t39 hh => .V (v_fieldAddr fl_115_1 rfl) (.L 1 na_3 get_115_round hh rfl (fun t41 hh => ?_)))))
     refine .e (e_mput mt_118 kt_3 rfl rfl rfl hh ?_)
     intro h hh
     refine .nil ?_
     refine QN.blockN ?_
     exact QN.thenJ ⟨(), ⟨_, setl_eq ⟨rfl, ⟨rfl, ⟨rfl, trivial⟩⟩⟩⟩, hh⟩
    ·have hh := hh.2 hb_2
     refine CW.skip ?_
     refine QN.blockN ?_
     exact QN.thenJ ⟨(), ⟨_, setl_eq ⟨rfl, ⟨rfl, ⟨rfl, trivial⟩⟩⟩⟩, hh⟩
   ·have hh := hh.2 hb_1
    refine CW.exit ?_
    refine QN.thenExit ?_
    refine QN.thenExit ?_
    refine QN.blockExit ?_
    exact QN.thenJ ⟨_, setl_eq ⟨rfl, ⟨rfl, trivial⟩⟩, hh⟩
  ·have hh := hh.2 hb
   refine CW.skip ?_
   exact QN.thenJ ⟨_, setl_eq ⟨rfl, ⟨rfl, trivial⟩⟩, hh⟩
 ·rintro ρ h ⟨ρ', rfl, hh⟩
  unfold vote_Box_Reached.j1 at hh
  refine CW.seq ?_
  refine CW.join (fun ρ h => ∃ (ρ' : Env) (t49 : Bool), ρ = setl ρ' [(1, reg n), (5, reg t10), (49, reg t49)] ∧ (vote_Box_Reached.j2 k) n t10 t49 h) ?_ ?_
  ·refine CW.region ?_
   refine .M (reg n) (.V (v_ilss rfl rfl) (.M (reg ((decide (n < (1 : Int))) : Bool)) ?_))
   refine ifb_cases hh (fun hb_3 hh => ?_) (fun hb_3 hh => ?_)
   ·refine .no 44 rfl (cb hb_3) rfl rfl (.no 44 rfl (cb hb_3) rfl rfl (.no 44 rfl (cb hb_3) rfl rfl (.no 44 rfl (cb hb_3) rfl rfl (.V (v_pickT (v := reg true) rfl hb_3 rfl) ?_))))
    refine .nil ?_
    exact QN.thenJ ⟨_, true, setl_eq ⟨rfl, ⟨rfl, ⟨rfl, trivial⟩⟩⟩, hh⟩
   ·refine .yv 44 rfl (cb hb_3) rfl (v_move (v := reg (n : Int)) rfl) rfl (.yv 44 rfl (cb hb_3) rfl (v_move (v := reg (t10 : Mp)) rfl) rfl ?_)
    obtain ⟨t47, ⟨xt47, hxt47, hgt47⟩, hh⟩ := hh
    refine .yv 44 rfl (cb hb_3) rfl (v_lenm mt_118 rfl hxt47 hgt47) rfl (.yv 44 rfl (cb hb_3) rfl (v_igtr rfl rfl) rfl (.V (v_pickF (v := reg ((decide (t47 < n)) : Bool)) rfl hb_3 rfl) ?_))
    refine .nil ?_
    exact QN.thenJ ⟨_, (decide (t47 < n)), setl_eq ⟨rfl, ⟨rfl, ⟨rfl, trivial⟩⟩⟩, hh⟩
  ·rintro ρ h ⟨ρ', t49, rfl, hh⟩
   unfold vote_Box_Reached.j2 at hh
   refine CW.cond t49 rfl (fun hb_4 => ?_) (fun hb_4 => ?_)
   ·have hh := hh.1 hb_4
    refine .sr (.A (reg ((-1 : Int) : Int)) (.nx ?_))
    refine CW.ret ?_
    refine QN.thenRet ?_
    exact ret1 rfl rfl ⟨((-1 : Int) : Int), rfl, hh⟩
   ·have hh := hh.2 hb_4
    refine CW.skip ?_
    refine QN.then_ ?_
    refine .sr (.M (reg t10) ?_)
    refine .e (e_callP fn_49 rfl rfl hh ?_)
    intro h t51 hh
    refine .e (e_callP fn_48 rfl rfl hh ?_)
    intro h t52 hh
    refine .A (reg t52) (.nx (.sr (.M (reg t52) (.M (reg t52) (.V (v_len_sl (sl_49).1 rfl) (.M (reg n) (.V (v_isub rfl rfl) ?_)))))))
    obtain ⟨t58, ht58, hh⟩ := hh
    refine .V (v_idx_slP sl_49 rfl rfl ht58.1 ht58.2.1 ht58.2.2) (.L 0 na_3 get_3_all hh rfl (fun t59 hh => .A (reg t59) (.nx ?_)))
    refine CW.ret ?_
    exact ret1 rfl rfl ⟨(t59 : Int), rfl, hh⟩
/-! keys of lists that maps stand for -/
section
variable {κ ν : Type} [DecidableEq κ]
theorem mins_mem (k : κ) (v : ν) : ∀ (l : List (κ × ν)) (x : κ), x ∈ (mins l k v).map (·.1) ↔ x = k ∨ x ∈ l.map (·.1)
  | [], x => by simp [mins]
  | p :: l, x => by
    unfold mins
    by_cases hc : k = p.1
    · subst hc
      simp
    · rw [if_neg hc]
      simp only [List.map_cons, List.mem_cons, mins_mem k v l x]
      constructor
      · rintro (h | h | h)
        · exact .inr (.inl h)
        · exact .inl h
        · exact .inr (.inr h)
      · rintro (h | h | h)
        · exact .inr (.inl h)
        · exact .inl h
        · exact .inr (.inr h)
theorem mins_nodup (k : κ) (v : ν) : ∀ (l : List (κ × ν)), (l.map (·.1)).Nodup → ((mins l k v).map (·.1)).Nodup
  | [], _ => by simp [mins]
  | p :: l, h => by
    simp only [List.map_cons, List.nodup_cons] at h
    unfold mins
    by_cases hc : k = p.1
    · subst hc; simpa using h
    · rw [if_neg hc]
      simp only [List.map_cons, List.nodup_cons]
      refine ⟨fun hm => ?_, mins_nodup k v l h.2⟩
      rcases (mins_mem k v l p.1).1 hm with h1 | h1
      · exact hc h1.symm
      · exact h.1 h1
theorem mfind_mins (k : κ) (v : ν) : ∀ (l : List (κ × ν)) (x : κ), mfind (mins l k v) x = if x = k then some v else mfind l x
  | [], x => by by_cases h : x = k <;> simp [mins, mfind, h]
  | p :: l, x => by
    unfold mins
    by_cases hc : k = p.1
    · subst hc
      by_cases h : x = p.1
      · simp [mfind, h]
      · simp [mfind, h]
    · rw [if_neg hc]
      by_cases h : x = p.1
      · have : x ≠ k := fun e => hc (by rw [← e, h])
        subst h
        rw [if_neg this]
        simp [mfind]
      · have h1 : mfind (p :: mins l k v) x = mfind (mins l k v) x := by simp [mfind, h]
        have h2 : mfind (p :: l) x = mfind l x := by simp [mfind, h]
        rw [h1, h2]; exact mfind_mins k v l x
theorem mfind_mem {l : List (κ × ν)} {k : κ} {v : ν} (h : mfind l k = some v) : (k, v) ∈ l := by
  unfold mfind at h
  rw [Option.map_eq_some_iff] at h
  obtain ⟨p, hp, rfl⟩ := h
  have h1 := List.mem_of_find?_eq_some hp
  have h2 := List.find?_some hp
  simp only [decide_eq_true_eq] at h2
  subst h2; exact h1
theorem mfind_of_mem {l : List (κ × ν)} {k : κ} {v : ν} (hn : (l.map (·.1)).Nodup) (h : (k, v) ∈ l) : mfind l k = some v := by
  induction l with
  | nil => simp at h
  | cons p l ih =>
    simp only [List.map_cons, List.nodup_cons] at hn
    rcases List.mem_cons.1 h with h | h
    · subst h; simp [mfind]
    · have hne : k ≠ p.1 := fun e => hn.1 (by rw [← e]; exact List.mem_map.2 ⟨(k, v), h, rfl⟩)
      have : mfind (p :: l) k = mfind l k := by simp [mfind, hne]
      rw [this]; exact ih hn.2 h
end
theorem Voters_spec (p : Addr) (r : Nat) (l : Vts) (round : Int) {k : Int → H → Prop} {h : H} (hb : BoxA p r l h)
    (hk : ∀ (ks : List Int) h', Ext h h' → ks.Nodup → (∀ x, x ∈ ks ↔ ∃ q ∈ l, round ≤ q.1.round ∧ q.1.from_ = x) → k (ks.length : Int) h') : vote_Box_Voters.b (some p) round k h := by
  unfold vote_Box_Voters.b
  have hrlt := mpE_lt hb.2.1
  refine (Sat.init h).mkmap_ (κ := Int) (ν := Bool) (fun sn h1 hs1 hr => ?_)
  refine ifb_i (fun _ => ?_) (fun hc => by cases hc)
  refine nn_i ?_
  refine ld_old (hb.1.at_.ext hs1.fr) ?_
  refine hs1.rng_ (mpE_is (hb.ext hs1.fr).2.1) (fun it h2 o hs2 hR2 hx2 => ?_)
  unfold vote_Box_Voters.l1
  refine ⟨fun _ h' => ∃ (ks : List (Int × Bool)) (o : Obj) (done todo : Vts), Sat h [] h' [rawE it.block o, mpE sn ks] ∧ Rng h' it ⟨some r⟩ todo ∧ (done ++ todo).Perm l ∧ (ks.map (·.1)).Nodup ∧ ∀ x, x ∈ ks.map (·.1) ↔ ∃ q ∈ done, round ≤ q.1.round ∧ q.1.from_ = x,
    fun _ h' => tlen h' it, ⟨[], o, [], l, hs2, hR2, by simp, by simp, by simp⟩, ?_⟩
  clear hs1 hs2 hR2 hx2
  rintro ⟨⟩ h3 ⟨ks, o, done, todo, hs3, hR3, hp3, hn3, hk3⟩
  have ht3 := Rng_tlen hR3
  refine hs3.nxt_ 0 rfl hR3 (fun h0 => ?_) (fun q rest h4 o' hq hs4 hR4 hE4 => ?_)
  · refine ifb_i (fun hc => by cases hc) (fun _ => ?_)
    unfold vote_Box_Voters.j1
    refine hs3.mget_ 1 rfl ?_
    subst h0
    rw [List.append_nil] at hp3
    have := hk (ks.map (·.1)) _ hs3.fr hn3 (fun x => by
      rw [hk3]
      exact ⟨fun ⟨q, hq, h⟩ => ⟨q, hp3.mem_iff.1 hq, h⟩, fun ⟨q, hq, h⟩ => ⟨q, hp3.mem_iff.2 hq, h⟩⟩)
    simpa using this
  · refine ifb_i (fun _ => ?_) (fun hc => by cases hc)
    refine ⟨⟨q.1, q.2⟩, ⟨_, hE4⟩, ?_⟩
    have hlen : rest.length < todo.length := by rw [hq.length_eq]; simp
    have hdone : ((done ++ [q]) ++ rest).Perm l := by
      refine List.Perm.trans ?_ hp3
      rw [List.append_assoc]
      exact List.Perm.append_left _ hq.symm
    refine hs4.box_ (fun at_ h5 hs5 _ _ => ?_)
    refine hs5.st_ 0 rfl len_vote_place (fun h6 hs6 _ => ?_)
    refine hs6.ld_ 0 rfl ?_
    have tr : ∀ {h' L'}, Sat h [] h' L' → h'[it.block]? = some o' → Rng h' it ⟨some r⟩ rest := fun {h' L'} hs' hi' => Rng_tr hR4 (by
        rw [hi']; exact (hs4.at_ (i := 0) rfl).symm) (fun r' hr' => by
        obtain rfl : r = r' := Option.some.inj hr'
        rw [hs'.fr.same r hrlt (by simp), hs4.fr.same r hrlt (by simp)])
    refine ifb_i (fun hc => ?_) (fun hc => ?_)
    · have hc' : round ≤ q.1.round := by simpa using hc
      refine hs6.ld_ 0 rfl ?_
      refine hs6.mput_ 2 rfl (fun h7 hs7 => ?_)
      have hR7 := tr hs7 (hs7.at_ (i := 1) rfl)
      refine ⟨⟨_, o', done ++ [q], rest, hs7.drop (List.sublist_cons_self _ _), hR7, hdone, mins_nodup _ _ _ hn3, fun x => ?_⟩, by dsimp only; rw [Rng_tlen hR7, ht3]; exact hlen⟩
      rw [mins_mem, hk3]
      constructor
      · rintro (rfl | ⟨q', hq', h⟩)
        · exact ⟨q, by simp, hc', rfl⟩
        · exact ⟨q', by simp [hq'], h⟩
      · rintro ⟨q', hq', h⟩
        simp only [List.mem_append, List.mem_singleton] at hq'
        rcases hq' with hq' | rfl
        · exact .inr ⟨q', hq', h⟩
        · exact .inl h.2.symm
    · have hc' : ¬ round ≤ q.1.round := by simpa using hc
      have hR7 := tr hs6 (hs6.at_ (i := 1) rfl)
      refine ⟨⟨ks, o', done ++ [q], rest, hs6.drop (List.sublist_cons_self _ _), hR7, hdone, hn3, fun x => ?_⟩, by dsimp only; rw [Rng_tlen hR7, ht3]; exact hlen⟩
      rw [hk3]
      constructor
      · rintro ⟨q', hq', h⟩; exact ⟨q', by simp [hq'], h⟩
      · rintro ⟨q', hq', h⟩
        simp only [List.mem_append, List.mem_singleton] at hq'
        rcases hq' with hq' | rfl
        · exact ⟨q', hq', h⟩
        · exact absurd h.1 hc'
theorem mins_len {κ ν : Type} [DecidableEq κ] (k : κ) (v : ν) : ∀ l : List (κ × ν), (mins l k v).length ≤ l.length + 1
  | [] => by simp [mins]
  | p :: l => by
    unfold mins
    split
    · simp
    · have := mins_len k v l; simp; omega
/-- the last round of each member -/
structure LastOf (ks : List (Int × Int)) (done : Vts) : Prop where
  nodup : (ks.map (·.1)).Nodup
  len : ks.length ≤ done.length
  no : ∀ x, mfind ks x = none ↔ ∀ q ∈ done, q.1.from_ ≠ x
  yes : ∀ x y, mfind ks x = some y → (∃ q ∈ done, q.1.from_ = x ∧ q.1.round = y) ∧ ∀ q ∈ done, q.1.from_ = x → q.1.round ≤ y
theorem LastOf.perm {ks : List (Int × Int)} {a b : Vts} (h : LastOf ks a) (hp : a.Perm b) : LastOf ks b :=
  ⟨h.nodup, by rw [← hp.length_eq]; exact h.len, fun x => by rw [h.no]; exact ⟨fun h q hq => h q (hp.mem_iff.2 hq), fun h q hq => h q (hp.mem_iff.1 hq)⟩,
   fun x y hy => by
    obtain ⟨⟨q, hq, h1⟩, h2⟩ := h.yes x y hy
    exact ⟨⟨q, hp.mem_iff.1 hq, h1⟩, fun q hq => h2 q (hp.mem_iff.2 hq)⟩⟩
theorem LastOf.put {ks : List (Int × Int)} {done : Vts} (h : LastOf ks done) (q : vote_place × api_Vote) (hq : ∀ y, mfind ks q.1.from_ = some y → y < q.1.round) : LastOf (mins ks q.1.from_ q.1.round) (done ++ [q]) := by
  refine ⟨mins_nodup _ _ _ h.nodup, by have := mins_len q.1.from_ q.1.round ks; have := h.len; simp; omega, fun x => ?_, fun x y hy => ?_⟩
  · rw [mfind_mins]
    by_cases hx : x = q.1.from_
    · rw [if_pos hx]
      exact ⟨fun h0 => (by cases h0), fun h0 => absurd hx.symm (h0 q (by simp))⟩
    · rw [if_neg hx, h.no]
      constructor
      · intro h0 q' hq'
        simp only [List.mem_append, List.mem_singleton] at hq'
        rcases hq' with hq' | rfl
        · exact h0 q' hq'
        · exact fun e => hx e.symm
      · exact fun h0 q' hq' => h0 q' (by simp [hq'])
  · rw [mfind_mins] at hy
    by_cases hx : x = q.1.from_
    · rw [if_pos hx] at hy
      obtain rfl := Option.some.inj hy
      refine ⟨⟨q, by simp, hx.symm, rfl⟩, fun q' hq' hf => ?_⟩
      simp only [List.mem_append, List.mem_singleton] at hq'
      rcases hq' with hq' | rfl
      · cases hm : mfind ks q.1.from_ with
        | none => exact absurd (hf.trans hx) ((h.no _).1 hm q' hq')
        | some y => have := (h.yes _ _ hm).2 q' hq' (hf.trans hx); have := hq y hm; omega
      · omega
    · rw [if_neg hx] at hy
      obtain ⟨⟨q', hq', h1⟩, h2⟩ := h.yes x y hy
      refine ⟨⟨q', by simp [hq'], h1⟩, fun q' hq' hf => ?_⟩
      simp only [List.mem_append, List.mem_singleton] at hq'
      rcases hq' with hq' | rfl
      · exact h2 q' hq' hf
      · exact absurd hf.symm hx
theorem LastOf.skip {ks : List (Int × Int)} {done : Vts} (h : LastOf ks done) (q : vote_place × api_Vote) {y : Int} (hy : mfind ks q.1.from_ = some y) (hq : q.1.round ≤ y) : LastOf ks (done ++ [q]) := by
  refine ⟨h.nodup, by have := h.len; simp; omega, fun x => ?_, fun x z hz => ?_⟩
  · rw [h.no]
    constructor
    · intro h0 q' hq'
      simp only [List.mem_append, List.mem_singleton] at hq'
      rcases hq' with hq' | rfl
      · exact h0 q' hq'
      · intro e
        rw [e] at hy
        rw [(h.no x).2 h0] at hy; cases hy
    · exact fun h0 q' hq' => h0 q' (by simp [hq'])
  · obtain ⟨⟨q', hq', h1⟩, h2⟩ := h.yes x z hz
    refine ⟨⟨q', by simp [hq'], h1⟩, fun q' hq' hf => ?_⟩
    simp only [List.mem_append, List.mem_singleton] at hq'
    rcases hq' with hq' | rfl
    · exact h2 q' hq' hf
    · rw [hf, hz] at hy; obtain rfl := Option.some.inj hy; exact hq
def reachedF (ks : List (Int × Int)) (n : Int) : Int := if n < 1 ∨ (ks.length : Int) < n then -1 else ((ks.map (·.2)).mergeSort fun x y => decide (x ≤ y)).getD (ks.length - n).toNat 0
theorem Reached_spec (p : Addr) (r : Nat) (l : Vts) (n : Int) {k : Int → H → Prop} {h : H} (hb : BoxA p r l h) (hl : l.length < 2 ^ 20)
    (hk : ∀ (ks : List (Int × Int)) h', Ext h h' → LastOf ks l → k (reachedF ks n) h') : vote_Box_Reached.b (some p) n k h := by
  unfold vote_Box_Reached.b
  have hrlt := mpE_lt hb.2.1
  refine (Sat.init h).mkmap_ (κ := Int) (ν := Int) (fun sn h1 hs1 hr => ?_)
  refine ifb_i (fun _ => ?_) (fun hc => by cases hc)
  refine nn_i ?_
  refine ld_old (hb.1.at_.ext hs1.fr) ?_
  refine hs1.rng_ (mpE_is (hb.ext hs1.fr).2.1) (fun it h2 o hs2 hR2 hx2 => ?_)
  unfold vote_Box_Reached.l1
  refine ⟨fun _ h' => ∃ (ks : List (Int × Int)) (o : Obj) (done todo : Vts), Sat h [] h' [rawE it.block o, mpE sn ks] ∧ Rng h' it ⟨some r⟩ todo ∧ (done ++ todo).Perm l ∧ LastOf ks done,
    fun _ h' => tlen h' it, ⟨[], o, [], l, hs2, hR2, by simp, ⟨by simp, by simp, by simp [mfind], by simp [mfind]⟩⟩, ?_⟩
  clear hs1 hs2 hR2 hx2
  rintro ⟨⟩ h3 ⟨ks, o, done, todo, hs3, hR3, hp3, hL3⟩
  have ht3 := Rng_tlen hR3
  refine hs3.nxt_ 0 rfl hR3 (fun h0 => ?_) (fun q rest h4 o' hq hs4 hR4 hE4 => ?_)
  · refine ifb_i (fun hc => by cases hc) (fun _ => ?_)
    subst h0
    rw [List.append_nil] at hp3
    have hL := hL3.perm hp3
    unfold vote_Box_Reached.j1
    refine ifb_i (fun hc => ?_) (fun hc => ?_)
    · have hn : n < 1 := by simpa using hc
      unfold vote_Box_Reached.j2
      refine ifb_i (fun _ => ?_) (fun hc => by cases hc)
      have := hk ks _ hs3.fr hL
      unfold reachedF at this
      rw [if_pos (.inl hn)] at this
      exact this
    · have hn : ¬ n < 1 := by simpa using hc
      refine hs3.mget_ 1 rfl ?_
      unfold vote_Box_Reached.j2
      refine ifb_i (fun hc2 => ?_) (fun hc2 => ?_)
      · have hn2 : (ks.length : Int) < n := by simpa using hc2
        have := hk ks _ hs3.fr hL
        unfold reachedF at this
        rw [if_pos (.inr hn2)] at this
        exact this
      · have hn2 : ¬ (ks.length : Int) < n := by simpa using hc2
        have hkl : ks.length < 2 ^ 20 := by have := hL.len; omega
        have hne : ks ≠ [] := by intro h0; subst h0; simp at hn2; omega
        refine sorted_spec sn ks (hs3.at_ (i := 1) rfl) hkl hne (fun s h4 hx4 hv4 => ?_)
        have hs4 := hs3.ext hx4
        have hsl : s.len = ks.length := by rw [hv4.2.1]; simp
        have e1 : isub (s.len : Int) n = ks.length - n := by rw [isub_eq (by omega) (by omega)]; omega
        rw [e1]
        have hlt : (ks.length - n).toNat < ((ks.map (·.2)).mergeSort fun x y => decide (x ≤ y)).length := by simp; omega
        refine sidx_ld len_i hv4 (by omega) (x := ((ks.map (·.2)).mergeSort fun x y => decide (x ≤ y)).getD (ks.length - n).toNat 0) ?_ ?_
        · rw [List.getD_eq_getElem?_getD, List.getElem?_eq_getElem hlt]; rfl
        · have := hk ks _ hs4.fr hL
          unfold reachedF at this
          rw [if_neg (by omega)] at this
          exact this
  · refine ifb_i (fun _ => ?_) (fun hc => by cases hc)
    refine ⟨⟨q.1, q.2⟩, ⟨_, hE4⟩, ?_⟩
    have hlen : rest.length < todo.length := by rw [hq.length_eq]; simp
    have hdone : ((done ++ [q]) ++ rest).Perm l := by
      refine List.Perm.trans ?_ hp3
      rw [List.append_assoc]
      exact List.Perm.append_left _ hq.symm
    have tr : ∀ {h' L'}, Sat h [] h' L' → h'[it.block]? = some o' → Rng h' it ⟨some r⟩ rest := fun {h' L'} hs' hi' => Rng_tr hR4 (by
        rw [hi']; exact (hs4.at_ (i := 0) rfl).symm) (fun r' hr' => by
        obtain rfl : r = r' := Option.some.inj hr'
        rw [hs'.fr.same r hrlt (by simp), hs4.fr.same r hrlt (by simp)])
    refine hs4.box_ (fun at_ h5 hs5 _ _ => ?_)
    refine hs5.st_ 0 rfl len_vote_place (fun h6 hs6 _ => ?_)
    refine hs6.ld_ 0 rfl ?_
    refine hs6.mget_ 2 rfl ?_
    refine hs6.ld_ 0 rfl ?_
    show ifb ((!(mlook (0 : Int) ks q.1.from_).b) || decide ((mlook (0 : Int) ks q.1.from_).a < q.1.round)) _ _ h6
    refine ifb_i (fun hc => ?_) (fun hc => ?_)
    · refine hs6.ld_ 0 rfl ?_
      refine hs6.ld_ 0 rfl ?_
      refine hs6.mput_ 2 rfl (fun h7 hs7 => ?_)
      have hR7 := tr hs7 (hs7.at_ (i := 1) rfl)
      refine ⟨⟨_, o', done ++ [q], rest, hs7.drop (List.sublist_cons_self _ _), hR7, hdone, hL3.put q (fun y hy => ?_)⟩, by dsimp only; rw [Rng_tlen hR7, ht3]; exact hlen⟩
      simpa [mlook, hy] using hc
    · have hR7 := tr hs6 (hs6.at_ (i := 1) rfl)
      cases hm : mfind ks q.1.from_ with
      | none => simp [mlook, hm] at hc
      | some y =>
        have hc' : ¬ y < q.1.round := by simpa [mlook, hm] using hc
        exact ⟨⟨ks, o', done ++ [q], rest, hs6.drop (List.sublist_cons_self _ _), hR7, hdone, hL3.skip q hm (by omega)⟩, by dsimp only; rw [Rng_tlen hR7, ht3]; exact hlen⟩
theorem slices_Compare_byte.ok (s1v : Sl) (s2v : Sl) (k : Int → H → Prop) (h : H) (hh : slices_Compare_byte.b s1v s2v k h) : CallsH Prog 52 [reg s1v, reg s2v].toArray h fun v h' => ∃ r : Int, v = reg r ∧ k r h' := by
 unfold slices_Compare_byte.b at hh
 refine CallsH.of 36 Tryd.func52 rfl Tryd.ntmps52 rfl (fun w0 => ?_)
 refine .sr (.A (reg ((0 : Int) : Int)) (.nx ?_))
 refine CW.join (fun ρ h => ∃ (ρ' : Env), ρ = setl ρ' [(0, reg s1v), (1, reg s2v)] ∧ (slices_Compare_byte.j1 k) s1v s2v h) ?_ ?_
 ·refine .sr (.M (reg s1v) (.V (v_len_sl (sl_130).1 rfl) (.M (reg ((0 : Int) : Int)) (.nx ?_))))
  refine CW.block ?_
  unfold slices_Compare_byte.l1 at hh
  refine CW.loop (fun (σ0 : Int) ρ => match σ0 with | t11 => ∃ ρ' : Env, ρ = setl ρ' [(0, reg s1v), (1, reg s2v), (9, reg s1v), (10, reg ((s1v.len : Int) : Int)), (11, reg t11)]) hh ⟨_, setl_eq ⟨rfl, ⟨rfl, ⟨rfl, ⟨rfl, ⟨rfl, trivial⟩⟩⟩⟩⟩⟩ ?_
  clear hh
  rintro s1 t11 ρ h ⟨ρ', rfl⟩ hh
  refine .sr (.V (v_ilss rfl rfl) (.nx (.seq ?_)))
  refine CW.cond (decide (t11 < (s1v.len : Int))) rfl (fun hb => ?_) (fun hb => ?_)
  ·have hh := hh.1 hb
   refine CW.skip ?_
   refine QN.then_ ?_
   refine CW.seq ?_
   refine CW.block ?_
   refine .sr (.M (reg t11) ?_)
   obtain ⟨t14, ht14, hh⟩ := hh
   refine .V (v_idx_slP sl_130 rfl rfl ht14.1 ht14.2.1 ht14.2.2) (.L 0 na_5 get_5_all hh rfl (fun t15 hh => .A (reg t11) (.A (reg t15) (.nx (.seq (.sr (.M (reg t11) (.M (reg s2v) (.V (v_len_sl (sl_130).1 rfl) (.V (v_igeq rfl rfl) ?_))))))))))
   refine .nx ?_
   refine CW.cond (decide ((s2v.len : Int) ≤ t11)) rfl (fun hb_1 => ?_) (fun hb_1 => ?_)
   ·have hh := hh.1 hb_1
    refine .sr (.A (reg ((1 : Int) : Int)) (.nx ?_))
    refine CW.ret ?_
    refine QN.thenRet ?_
    refine QN.blockRet ?_
    refine QN.thenRet ?_
    refine QN.thenRet ?_
    refine QN.blockRet ?_
    refine QN.thenRet ?_
    exact ret1 rfl rfl ⟨((1 : Int) : Int), rfl, hh⟩
   ·have hh := hh.2 hb_1
    refine CW.skip ?_
    refine QN.then_ ?_
    refine .sr (.M (reg s2v) (.M (reg t11) ?_))
    obtain ⟨t22, ht22, hh⟩ := hh
    refine .V (v_idx_slP sl_130 rfl rfl ht22.1 ht22.2.1 ht22.2.2) (.L 0 na_5 get_5_all hh rfl (fun t23 hh => .A (reg t23) (.nx (.sr (.M (reg t15) (.M (reg t23) ?_))))))
    refine .e (e_callP fn_86 rfl rfl hh ?_)
    intro h t26 hh
    refine .A (reg t26) (.nx (.sr (.M (reg t26) (.V (v_ineq rfl rfl) (.nx ?_)))))
    refine CW.cond (t26 != (0 : Int)) rfl (fun hb_2 => ?_) (fun hb_2 => ?_)
    ·have hh := hh.1 hb_2
     refine .sr (.M (reg t26) (.A (reg t26) (.nx ?_)))
     refine CW.ret ?_
     refine QN.blockRet ?_
     refine QN.thenRet ?_
     refine QN.thenRet ?_
     refine QN.blockRet ?_
     refine QN.thenRet ?_
     exact ret1 rfl rfl ⟨(t26 : Int), rfl, hh⟩
    ·have hh := hh.2 hb_2
     refine CW.skip ?_
     refine QN.blockN ?_
     refine QN.then_ ?_
     refine CW.region ?_
     refine .V (v_iadd rfl rfl) (.M (reg ((iadd t11 (1 : Int)) : Int)) ?_)
     refine .nil ?_
     exact QN.thenJ ⟨(iadd t11 (1 : Int)), ⟨_, setl_eq ⟨rfl, ⟨rfl, ⟨rfl, ⟨rfl, ⟨rfl, trivial⟩⟩⟩⟩⟩⟩, hh⟩
  ·have hh := hh.2 hb
   refine CW.exit ?_
   refine QN.thenExit ?_
   refine QN.thenExit ?_
   refine QN.blockExit ?_
   exact QN.thenJ ⟨_, setl_eq ⟨rfl, ⟨rfl, trivial⟩⟩, hh⟩
 ·rintro ρ h ⟨ρ', rfl, hh⟩
  unfold slices_Compare_byte.j1 at hh
  refine CW.seq ?_
  refine .sr (.M (reg s1v) (.V (v_len_sl (sl_130).1 rfl) (.M (reg s2v) (.V (v_len_sl (sl_130).1 rfl) (.V (v_ilss rfl rfl) (.nx ?_))))))
  refine CW.cond (decide ((s1v.len : Int) < (s2v.len : Int))) rfl (fun hb_3 => ?_) (fun hb_3 => ?_)
  ·have hh := hh.1 hb_3
   refine .sr (.A (reg ((-1 : Int) : Int)) (.nx ?_))
   refine CW.ret ?_
   refine QN.thenRet ?_
   exact ret1 rfl rfl ⟨((-1 : Int) : Int), rfl, hh⟩
  ·have hh := hh.2 hb_3
   refine CW.skip ?_
   refine QN.then_ ?_
   refine .sr (.A (reg ((0 : Int) : Int)) (.nx ?_))
   refine CW.ret ?_
   exact ret1 rfl rfl ⟨((0 : Int) : Int), rfl, hh⟩
theorem cmp_Compare_byte.ok (x : UInt8) (y : UInt8) (k : Int → H → Prop) (h : H) (hh : cmp_Compare_byte.b x y k h) : CallsH Prog 86 [reg x, reg y].toArray h fun v h' => ∃ r : Int, v = reg r ∧ k r h' := by
 unfold cmp_Compare_byte.b at hh
 refine CallsH.of 20 Tryd.func86 rfl Tryd.ntmps86 rfl (fun w0 => ?_)
 refine .sr (.A (reg ((0 : Int) : Int)) (.nx (.sr (.M (reg x) ?_))))
 refine .e (e_callP fn_113 rfl rfl hh ?_)
 intro h t8 hh
 refine .A (reg t8) (.nx (.sr (.M (reg y) ?_)))
 refine .e (e_callP fn_113 rfl rfl hh ?_)
 intro h t10 hh
 refine .A (reg t10) (.nx (.seq (.sr (.M (reg t8) (.nx ?_)))))
 refine CW.cond t8 rfl (fun hb => ?_) (fun hb => ?_)
 ·have hh := hh.1 hb
  refine CW.seq ?_
  refine .sr (.M (reg t10) (.nx ?_))
  refine CW.cond t10 rfl (fun hb_1 => ?_) (fun hb_1 => ?_)
  ·have hh := hh.1 hb_1
   refine .sr (.A (reg ((0 : Int) : Int)) (.nx ?_))
   refine CW.ret ?_
   refine QN.thenRet ?_
   refine QN.thenRet ?_
   exact ret1 rfl rfl ⟨((0 : Int) : Int), rfl, hh⟩
  ·have hh := hh.2 hb_1
   refine CW.skip ?_
   refine QN.then_ ?_
   refine .sr (.A (reg ((-1 : Int) : Int)) (.nx ?_))
   refine CW.ret ?_
   refine QN.thenRet ?_
   exact ret1 rfl rfl ⟨((-1 : Int) : Int), rfl, hh⟩
 ·have hh := hh.2 hb
  refine CW.skip ?_
  refine QN.then_ ?_
  refine CW.seq ?_
  refine .sr (.M (reg t10) (.nx ?_))
  refine CW.cond t10 rfl (fun hb_2 => ?_) (fun hb_2 => ?_)
  ·have hh := hh.1 hb_2
   refine .sr (.A (reg ((1 : Int) : Int)) (.nx ?_))
   refine CW.ret ?_
   refine QN.thenRet ?_
   exact ret1 rfl rfl ⟨((1 : Int) : Int), rfl, hh⟩
  ·have hh := hh.2 hb_2
   refine CW.skip ?_
   refine QN.then_ ?_
   refine CW.seq ?_
   refine .sr (.M (reg x) (.M (reg y) (.V (v_u8lss (a := x) (b := y) rfl rfl) (.nx ?_))))
   refine CW.cond (decide (x < y)) rfl (fun hb_3 => ?_) (fun hb_3 => ?_)
   ·have hh := hh.1 hb_3
    refine .sr (.A (reg ((-1 : Int) : Int)) (.nx ?_))
    refine CW.ret ?_
    refine QN.thenRet ?_
    exact ret1 rfl rfl ⟨((-1 : Int) : Int), rfl, hh⟩
   ·have hh := hh.2 hb_3
    refine CW.skip ?_
    refine QN.then_ ?_
    refine CW.seq ?_
    refine .sr (.M (reg x) (.M (reg y) (.V (v_u8gtr (a := x) (b := y) rfl rfl) (.nx ?_))))
    refine CW.cond (decide (y < x)) rfl (fun hb_4 => ?_) (fun hb_4 => ?_)
    ·have hh := hh.1 hb_4
     refine .sr (.A (reg ((1 : Int) : Int)) (.nx ?_))
     refine CW.ret ?_
     refine QN.thenRet ?_
     exact ret1 rfl rfl ⟨((1 : Int) : Int), rfl, hh⟩
    ·have hh := hh.2 hb_4
     refine CW.skip ?_
     refine QN.then_ ?_
     refine .sr (.A (reg ((0 : Int) : Int)) (.nx ?_))
     refine CW.ret ?_
     exact ret1 rfl rfl ⟨((0 : Int) : Int), rfl, hh⟩
theorem cmp_isNaN_byte.ok (x : UInt8) (k : Bool → H → Prop) (h : H) (hh : cmp_isNaN_byte.b x k h) : CallsH Prog 113 [reg x].toArray h fun v h' => ∃ r : Bool, v = reg r ∧ k r h' := by
 unfold cmp_isNaN_byte.b at hh
 refine CallsH.of 6 Tryd.func113 rfl Tryd.ntmps113 rfl (fun w0 => ?_)
 refine .sr (.A (reg false) (.nx (.sr (.M (reg x) (.M (reg x) (.V (v_u8neq (a := x) (b := x) rfl rfl) (.A (reg ((x != x) : Bool)) (.nx ?_))))))))
 refine CW.ret ?_
 exact ret1 rfl rfl ⟨((x != x) : Bool), rfl, hh⟩
theorem vote_none.ok (k : (Arr 32 UInt8) → H → Prop) (h : H) (hh : vote_none.b k h) : CallsH Prog 51 ([] : List Value).toArray h fun v h' => ∃ r : Arr 32 UInt8, v = reg r ∧ k r h' := by
 unfold vote_none.b at hh
 refine CallsH.of 3 Tryd.func51 rfl Tryd.ntmps51 rfl (fun w0 => ?_)
 refine .sr ?_
 refine box_elim hh (fun t0 ht0 hh => ?_)
 refine .e (e_allocP ht0 zo_24 rfl ?_)
 refine .nx (.sr ?_)
 refine box_elim hh (fun z hz hh => ?_)
 refine .e (e_allocP hz zo_24 rfl ?_)
 refine .nx (.sr (.LA 0 ag_24 get_24_all (fun _ => (arr_len (n := 32) _)) hh rfl (fun t2 hh => .S (t2 : Arr 32 UInt8) 0 sz_24 (one_arr (n := 32) (fun _ => rfl) _) (fun _ => arr_len (n := 32) _) (arr_len (n := 32) _) (fun x => set_24_all x (t2 : Arr 32 UInt8)) hh rfl rfl (fun _ hh => .nx ?_))))
 refine CW.ret ?_
 obtain ⟨r0, ⟨xr0, hxr0, hgr0⟩, hh⟩ := hh
 have hr0 := ld_id hxr0 hgr0
 exact retc rfl rfl ag_24 hr0 (arr_len (n := 32) _) ⟨(r0 : Arr 32 UInt8), rfl, hh⟩
theorem vote_Box_Winner.ok (b : Pt) (kind : Int) (quorum : Int) (k : (T3 (Arr 32 UInt8) Int Bool) → H → Prop) (h : H) (hh : vote_Box_Winner.b b kind quorum k h) : CallsH Prog 22 [reg b, reg kind, reg quorum].toArray h fun v h' => ∃ r : T3 (Arr 32 UInt8) Int Bool, v = reg r ∧ k r h' := by
 unfold vote_Box_Winner.b at hh
 refine CallsH.of 94 Tryd.func22 rfl Tryd.ntmps22 rfl (fun w0 => ?_)
 refine .sr ?_
 refine box_elim hh (fun t6 ht6 hh => ?_)
 refine .e (e_allocP ht6 zo_24 rfl ?_)
 refine .A (reg ((0 : Int) : Int)) (.A (reg false) (.nx (.sr ?_)))
 refine .e (e_callP fn_51 rfl rfl hh ?_)
 intro h t18 hh
 refine box_elim hh (fun best hbest hh => ?_)
 refine .e (e_allocP hbest zo_24 rfl ?_)
 refine .S (t18 : Arr 32 UInt8) 0 sz_24 (one_arr (n := 32) (fun _ => rfl) _) (fun _ => arr_len (n := 32) _) (arr_len (n := 32) _) (fun x => set_24_all x (t18 : Arr 32 UInt8)) hh rfl rfl (fun _ hh => .A (reg ((0 : Int) : Int)) (.A (reg false) (.nx (.seq (.sr (.M (reg b) (.V (v_eq_nil pt_26 rfl rfl) (.nx ?_))))))))
 refine CW.cond b.isNone rfl (fun hb => ?_) (fun hb => ?_)
 ·have hh := hh.1 hb
  refine .sr ?_
  refine .e (e_callP fn_51 rfl rfl hh ?_)
  intro h t21 hh
  refine .S (t21 : Arr 32 UInt8) 0 sz_24 (one_arr (n := 32) (fun _ => rfl) _) (fun _ => arr_len (n := 32) _) (arr_len (n := 32) _) (fun x => set_24_all x (t21 : Arr 32 UInt8)) hh rfl rfl (fun _ hh => .A (reg ((0 : Int) : Int)) (.A (reg false) (.nx ?_)))
  refine CW.ret ?_
  refine QN.thenRet ?_
  obtain ⟨r6, ⟨xr6, hxr6, hgr6⟩, hh⟩ := hh
  have hr6 := ld_id hxr6 hgr6
  exact retc2 rfl rfl ag_24 hr6 (arr_len (n := 32) _) rfl rfl ⟨(⟨r6, (0 : Int), false⟩ : T3 (Arr 32 UInt8) Int Bool), rfl, hh⟩
 ·have hh := hh.2 hb
  refine CW.skip ?_
  refine QN.then_ ?_
  refine .sr ?_
  refine .e (e_mkmap rfl hh ?_)
  intro h t22 hh
  refine .A (reg t22) (.nx ?_)
  refine CW.join (fun ρ h => ∃ (ρ' : Env), ρ = setl ρ' [(2, reg quorum), (6, .pointer (some t6)), (9, .pointer (some best)), (10, reg ((0 : Int) : Int)), (11, reg false), (12, reg t22)] ∧ (vote_Box_Winner.j1 k) quorum t6 best (0 : Int) false t22 h) ?_ ?_
  ·refine .sr (.M (reg b) ?_)
   obtain ⟨p, hp, hh⟩ := hh
   refine .V (v_nilCheck (congrArg Value.pointer hp)) (.V (v_fieldAddr fl_113_0 rfl) (.L 0 na_111 get_113_votes hh rfl (fun t26 hh => ?_)))
   refine .e (e_rng ([] : List (vote_place × api_Vote)) mt_111 rfl rfl hh ?_)
   intro h t27 hh
   refine .nx ?_
   refine CW.block ?_
   unfold vote_Box_Winner.l1 at hh
   refine CW.loop (fun (σ0 : Unit) ρ => match σ0 with | _ => ∃ ρ' : Env, ρ = setl ρ' [(1, reg kind), (2, reg quorum), (6, .pointer (some t6)), (9, .pointer (some best)), (10, reg ((0 : Int) : Int)), (11, reg false), (12, reg t22), (27, .pointer (some t27))]) hh ⟨_, setl_eq ⟨rfl, ⟨rfl, ⟨rfl, ⟨rfl, ⟨rfl, ⟨rfl, ⟨rfl, ⟨rfl, trivial⟩⟩⟩⟩⟩⟩⟩⟩⟩ ?_
   clear hh
   rintro s1 ⟨⟩ ρ h ⟨ρ', rfl⟩ hh
   refine .sr ?_
   refine .e (e_nxt rfl rfl hh ?_)
   intro h t28 hh
   refine .V (v_extnx (n := t28) rfl) (.nx (.seq ?_))
   refine CW.cond t28.o.isSome rfl (fun hb_1 => ?_) (fun hb_1 => ?_)
   ·have hh := hh.1 hb_1
    refine CW.skip ?_
    refine QN.then_ ?_
    refine CW.block ?_
    refine .sr ?_
    obtain ⟨t30, hxt30, hh⟩ := hh
    refine .V (v_ent (q := (t30 : T2 vote_place api_Vote)) rfl hxt30) (.V (v_extract (v := reg (t30.a : vote_place)) rfl rfl) (.V (v_extract (v := reg (t30.b : api_Vote)) rfl rfl) ?_))
    refine box_elim hh (fun p_1 hp_1 hh => ?_)
    refine .e (e_allocP hp_1 zo_115 rfl ?_)
    refine box_elim hh (fun v hv hh => ?_)
    refine .e (e_allocP hv zo_37 rfl ?_)
    refine .S (t30.a : vote_place) 0 sz_115 (one_vote_place _) len_vote_place (len_vote_place _) (fun x => set_115_all x (t30.a : vote_place)) hh rfl rfl (fun _ hh => .S (t30.b : api_Vote) 0 sz_37 (one_api_Vote _) len_api_Vote (len_api_Vote _) (fun x => set_37_all x (t30.b : api_Vote)) hh rfl rfl (fun _ hh => .nx ?_))
    refine CW.join (fun ρ h => ∃ (ρ' : Env) (t42 : Bool), ρ = setl ρ' [(1, reg kind), (2, reg quorum), (6, .pointer (some t6)), (9, .pointer (some best)), (10, reg ((0 : Int) : Int)), (11, reg false), (12, reg t22), (13, .pointer (some p_1)), (14, .pointer (some v)), (27, .pointer (some t27)), (42, reg t42)] ∧ (vote_Box_Winner.j2 s1) kind quorum t6 best (0 : Int) false t22 p_1 v t27 t42 h) ?_ ?_
    ·refine CW.drawN 10 rfl follows_mixed [0, 1, 2, 3, 4, 5, 6, 8, 9] ?_
     refine .P 0 rfl (v_fieldAddr fl_115_0 rfl) (.KL 1 0 na_3 get_115_kind rfl hh rfl (fun t34 hh => .P 2 rfl (v_move (v := reg kind) rfl) (.P 3 rfl (v_ieql rfl rfl) (.P 4 rfl (v_move (v := reg ((t34 == kind) : Bool)) rfl) ?_))))
     refine ifb_cases hh (fun hb_2 hh => ?_) (fun hb_2 hh => ?_)
     ·refine .Y 5 37 rfl (cb hb_2) (v_fieldAddr fl_37_4 rfl) ?_
      obtain ⟨t39, ⟨xt39, hxt39, hgt39⟩, hh⟩ := hh
      refine .YK 6 37 (fun h' => ∃ x : api_Vote, AtH h' v (enc x) ∧ ((fun (x : api_Vote) => x.Digest) : api_Vote → Arr 32 UInt8) x = t39) rfl (cb hb_2) ⟨xt39, hxt39, hgt39⟩ (fun h' hS => hS.elim fun _ hS => v_ldA (p := v) 4 ag_24 rfl hS.1 hS.2 get_37_Digest (fun _ => (arr_len (n := 32) _)) (fun _ => rfl)) ?_
      refine .w 7 (by kernel_rfl) rfl (by kernel_rfl) (.ye 37 rfl (cb hb_2) rfl (e_callP fn_51 rfl rfl hh ?_))
      intro h t40 hh
      obtain ⟨hc, hh⟩ := hh
      refine ⟨⟨⟨trivial, .inl (by kernel_rfl)⟩, .inr hc⟩, ?_⟩
      refine .Y 8 37 rfl (cb hb_2) (v_ne_arr8 bt_24 rfl rfl) (.P 9 rfl (v_pickT (v := reg ((!decide (t39 = t40)) : Bool)) rfl hb_2 rfl) ?_)
      refine .done (by kernel_rfl) ?_
      exact QN.thenJ ⟨_, (!decide (t39 = t40)), setl_eq ⟨rfl, ⟨rfl, ⟨rfl, ⟨rfl, ⟨rfl, ⟨rfl, ⟨rfl, ⟨rfl, ⟨rfl, ⟨rfl, ⟨rfl, trivial⟩⟩⟩⟩⟩⟩⟩⟩⟩⟩⟩, hh⟩
     ·refine .N 5 37 rfl (cb hb_2) (.N 6 37 rfl (cb hb_2) ?_)
      refine .w 7 (by kernel_rfl) rfl (by kernel_rfl) (.no 37 rfl (cb hb_2) rfl rfl ⟨⟨trivial, .inl (by kernel_rfl)⟩, ?_⟩)
      refine .N 8 37 rfl (cb hb_2) (.P 9 rfl (v_pickF (v := reg false) rfl hb_2 rfl) ?_)
      refine .done (by kernel_rfl) ?_
      exact QN.thenJ ⟨_, false, setl_eq ⟨rfl, ⟨rfl, ⟨rfl, ⟨rfl, ⟨rfl, ⟨rfl, ⟨rfl, ⟨rfl, ⟨rfl, ⟨rfl, ⟨rfl, trivial⟩⟩⟩⟩⟩⟩⟩⟩⟩⟩⟩, hh⟩
    ·rintro ρ h ⟨ρ', t42, rfl, hh⟩
     unfold vote_Box_Winner.j2 at hh
     refine CW.cond t42 rfl (fun hb_3 => ?_) (fun hb_3 => ?_)
     ·have hh := hh.1 hb_3
      refine CW.drawN 11 rfl follows_mixed [0, 1, 2, 3, 4, 5, 6, 7, 9] ?_
      refine .P 0 rfl (v_move (v := reg t22) rfl) (.P 1 rfl (v_fieldAddr fl_115_1 rfl) (.KL 2 1 na_3 get_115_round rfl hh rfl (fun t45 hh => .P 3 rfl (v_fieldAddr fl_37_4 rfl) (.KA 4 4 ag_24 get_37_Digest (fun _ => (arr_len (n := 32) _)) rfl hh rfl (fun t47 hh => .P 5 rfl (v_buildT ({ round := t45, digest := t47 } : vote_choice) zo_128 pl_128 rfl (fill_step rfl rfl (len_i _) (len_vote_choice _) rfl (set_128_round _ _) (fill_step rfl rfl (arr_len (n := 32) _) (len_vote_choice _) rfl (set_128_digest _ _) (rfl))) rfl) ?_)))))
      obtain ⟨t49, ⟨xt49, hxt49, hgt49⟩, hh⟩ := hh
      refine .K 6 (fun h' => ∃ l : List (vote_choice × Int), MapIs h' t22 l ∧ (fun (l : List (vote_choice × Int)) => (mlook (0 : Int) l (({ round := t45, digest := t47 } : vote_choice) : vote_choice)).a) l = t49) rfl ⟨xt49, hxt49, hgt49⟩ (fun h' hS => hS.elim fun _ hS => v_lookup mt_126 kt_128 zv_3 rfl rfl hS.1 hS.2) (.P 7 rfl (v_iadd rfl rfl) ?_)
      refine .w 8 (by kernel_rfl) rfl (by kernel_rfl) (.e (e_ment mt_126 kt_128 zv_3 rfl rfl rfl hh ?_))
      intro h t51 hh
      obtain ⟨hc_1, hh⟩ := hh
      refine ⟨⟨⟨⟨trivial, .inl (by kernel_rfl)⟩, .inl (by kernel_rfl)⟩, .inr hc_1⟩, ?_⟩
      refine .P 9 rfl (v_extract (v := reg (t51.b : Int)) rfl rfl) ?_
      refine .w 10 (by kernel_rfl) rfl (by kernel_rfl) (.e (e_mste ([] : List (vote_choice × Int)) rfl rfl rfl hh ?_))
      intro h hh
      refine ⟨⟨⟨⟨trivial, .inl (by kernel_rfl)⟩, .inl (by kernel_rfl)⟩, .inl (by kernel_rfl)⟩, ?_⟩
      refine .done (by kernel_rfl) ?_
      refine QN.blockN ?_
      exact QN.thenJ ⟨(), ⟨_, setl_eq ⟨rfl, ⟨rfl, ⟨rfl, ⟨rfl, ⟨rfl, ⟨rfl, ⟨rfl, ⟨rfl, trivial⟩⟩⟩⟩⟩⟩⟩⟩⟩, hh⟩
     ·have hh := hh.2 hb_3
      refine CW.skip ?_
      refine QN.blockN ?_
      exact QN.thenJ ⟨(), ⟨_, setl_eq ⟨rfl, ⟨rfl, ⟨rfl, ⟨rfl, ⟨rfl, ⟨rfl, ⟨rfl, ⟨rfl, trivial⟩⟩⟩⟩⟩⟩⟩⟩⟩, hh⟩
   ·have hh := hh.2 hb_1
    refine CW.exit ?_
    refine QN.thenExit ?_
    refine QN.thenExit ?_
    refine QN.blockExit ?_
    exact QN.thenJ ⟨_, setl_eq ⟨rfl, ⟨rfl, ⟨rfl, ⟨rfl, ⟨rfl, ⟨rfl, trivial⟩⟩⟩⟩⟩⟩, hh⟩
  ·rintro ρ h ⟨ρ', rfl, hh⟩
   unfold vote_Box_Winner.j1 at hh
   refine CW.join (fun ρ h => ∃ (ρ' : Env) (at__5 : Int) (found_5 : Bool), ρ = setl ρ' [(6, .pointer (some t6)), (9, .pointer (some best)), (10, reg at__5), (11, reg found_5)] ∧ (vote_Box_Winner.j3 k) t6 best at__5 found_5 h) ?_ ?_
   ·refine .sr (.M (reg t22) ?_)
    refine .e (e_rng ([] : List (vote_choice × Int)) mt_126 rfl rfl hh ?_)
    intro h t54 hh
    refine .nx ?_
    refine CW.block ?_
    unfold vote_Box_Winner.l2 at hh
    refine CW.loop (fun (σ0 : Int × Bool) ρ => match σ0 with | (at__3, found_3) => ∃ ρ' : Env, ρ = setl ρ' [(2, reg quorum), (6, .pointer (some t6)), (9, .pointer (some best)), (54, .pointer (some t54)), (10, reg at__3), (11, reg found_3)]) hh ⟨_, setl_eq ⟨rfl, ⟨rfl, ⟨rfl, ⟨rfl, ⟨rfl, ⟨rfl, trivial⟩⟩⟩⟩⟩⟩⟩ ?_
    clear hh
    rintro s2 ⟨at__3, found_3⟩ ρ h ⟨ρ', rfl⟩ hh
    refine .sr ?_
    refine .e (e_nxt rfl rfl hh ?_)
    intro h t55 hh
    refine .V (v_extnx (n := t55) rfl) (.nx (.seq ?_))
    refine CW.cond t55.o.isSome rfl (fun hb_4 => ?_) (fun hb_4 => ?_)
    ·have hh := hh.1 hb_4
     refine CW.skip ?_
     refine QN.then_ ?_
     refine CW.block ?_
     refine .sr ?_
     obtain ⟨t57, hxt57, hh⟩ := hh
     refine .V (v_ent (q := (t57 : T2 vote_choice Int)) rfl hxt57) (.V (v_extract (v := reg (t57.a : vote_choice)) rfl rfl) (.V (v_extract (v := reg (t57.b : Int)) rfl rfl) ?_))
     refine box_elim hh (fun c hc hh => ?_)
     refine .e (e_allocP hc zo_128 rfl ?_)
     refine .S (t57.a : vote_choice) 0 sz_128 (one_vote_choice _) len_vote_choice (len_vote_choice _) (fun x => set_128_all x (t57.a : vote_choice)) hh rfl rfl (fun _ hh => .A (reg (t57.b : Int)) (.nx ?_))
     refine CW.join (fun ρ h => ∃ (ρ' : Env) (first : Bool), ρ = setl ρ' [(2, reg quorum), (6, .pointer (some t6)), (9, .pointer (some best)), (10, reg at__3), (11, reg found_3), (15, .pointer (some c)), (16, reg (t57.b : Int)), (17, reg first), (54, .pointer (some t54))] ∧ (vote_Box_Winner.j4 s2) quorum t6 best at__3 found_3 c t57.b first t54 h) ?_ ?_
     ·refine CW.drawN 22 rfl follows_mixed [0, 1, 2, 3, 4, 5, 6, 7, 8, 9, 10, 11, 12, 13, 14, 15, 16, 18, 19, 20, 21] ?_
      refine .P 0 rfl (v_move (v := reg found_3) rfl) (.P 1 rfl (v_not rfl) (.P 2 rfl (v_move (v := reg ((!found_3) : Bool)) rfl) ?_))
      refine .fp 3 62 rfl rfl rfl rfl (by kernel_rfl) (NoPanic.then_ (NoPanic.block (NoPanic.then_ (NoPanic.block (NoPanic.then_ (NoPanic.body)))))) (fun hb _ => v_fieldAddr fl_128_0 rfl) ?_
      obtain ⟨t64, ⟨xt64, hxt64, hgt64⟩, hh⟩ := hh
      refine .fr 4 62 (fun h' => ∃ x : vote_choice, AtH h' c (enc x) ∧ ((fun (x : vote_choice) => x.round) : vote_choice → Int) x = t64) rfl rfl rfl rfl (by kernel_rfl) (NoPanic.then_ (NoPanic.block (NoPanic.then_ (NoPanic.block (NoPanic.then_ (NoPanic.body)))))) ⟨xt64, hxt64, hgt64⟩ (fun hb => fun h' hS => hS.elim fun _ hS => v_ld1 (p := c) 0 na_3 (gf hb) hS.1 hS.2 get_128_round) ?_
      refine .fp 5 62 rfl rfl rfl rfl (by kernel_rfl) (NoPanic.then_ (NoPanic.block (NoPanic.then_ (NoPanic.block (NoPanic.then_ (NoPanic.body)))))) (fun hb _ => v_move (v := reg (at__3 : Int)) rfl) ?_
      refine .fp 6 62 rfl rfl rfl rfl (by kernel_rfl) (NoPanic.then_ (NoPanic.block (NoPanic.then_ (NoPanic.block (NoPanic.then_ (NoPanic.body)))))) (fun hb _ => v_igtr (gf hb) (gf hb)) ?_
      refine .P 7 rfl (v_pick_or rfl rfl (fun hb => gf hb)) (.P 8 rfl (v_move (v := reg (((!found_3) || (decide (at__3 < t64))) : Bool)) rfl) ?_)
      refine ifb_cases hh (fun hb_5 hh => ?_) (fun hb_5 hh => ?_)
      ·refine .N 9 68 rfl (cb hb_5) (.N 10 68 rfl (cb hb_5) (.N 11 68 rfl (cb hb_5) (.N 12 68 rfl (cb hb_5) (.N 13 68 rfl (cb hb_5) (.nu 14 73 rfl rfl rfl rfl (by kernel_rfl) (NoPanic.then_ (NoPanic.block (NoPanic.then_ (NoPanic.block (NoPanic.then_ (NoPanic.body)))))) (.nu 15 73 rfl rfl rfl rfl (by kernel_rfl) (NoPanic.then_ (NoPanic.block (NoPanic.then_ (NoPanic.block (NoPanic.then_ (NoPanic.body)))))) (.nu 16 73 rfl rfl rfl rfl (by kernel_rfl) (NoPanic.then_ (NoPanic.block (NoPanic.then_ (NoPanic.block (NoPanic.then_ (NoPanic.body)))))) ?_)))))))
       refine .w 17 (by kernel_rfl) rfl (by kernel_rfl) (.nu 73 rfl rfl rfl rfl ⟨⟨trivial, .inl (by kernel_rfl)⟩, ?_⟩)
       refine .nu 18 73 rfl rfl rfl rfl (by kernel_rfl) (NoPanic.then_ (NoPanic.block (NoPanic.then_ (NoPanic.block (NoPanic.then_ (NoPanic.body)))))) (.N 19 68 rfl (cb hb_5) (.P 20 rfl (v_pickT (v := reg true) rfl hb_5 rfl) (.P 21 rfl (v_assign (v := reg true) rfl) ?_)))
       refine .done (by kernel_rfl) ?_
       exact QN.thenJ ⟨_, true, setl_eq ⟨rfl, ⟨rfl, ⟨rfl, ⟨rfl, ⟨rfl, ⟨rfl, ⟨rfl, ⟨rfl, ⟨rfl, trivial⟩⟩⟩⟩⟩⟩⟩⟩⟩, hh⟩
      ·refine .Y 9 68 rfl (cb hb_5) (v_fieldAddr fl_128_0 rfl) (.YL 10 68 0 na_3 get_128_round rfl (cb hb_5) hh rfl (fun t70 hh => .Y 11 68 rfl (cb hb_5) (v_move (v := reg at__3) rfl) (.Y 12 68 rfl (cb hb_5) (v_ieql rfl rfl) (.Y 13 68 rfl (cb hb_5) (v_move (v := reg ((t70 == at__3) : Bool)) rfl) ?_))))
       refine ifb_cases hh (fun hb_6 hh => ?_) (fun hb_6 hh => ?_)
       ·refine .Y 14 73 rfl (cb hb_6) (v_fieldAddr fl_128_1 rfl) (.Y 15 73 rfl (cb hb_6) (v_slice_an ar_24 rfl) (.Y 16 73 rfl (cb hb_6) (v_slice_an ar_24 rfl) ?_))
        refine .w 17 (by kernel_rfl) rfl (by kernel_rfl) (.ye 73 rfl (cb hb_6) rfl (e_callP fn_52 rfl rfl hh ?_))
        intro h t77 hh
        refine ⟨⟨⟨trivial, .inl (by kernel_rfl)⟩, .inl (by kernel_rfl)⟩, ?_⟩
        refine .Y 18 73 rfl (cb hb_6) (v_ilss rfl rfl) (.Y 19 68 rfl (cb hb_5) (v_pickT (v := reg ((decide (t77 < (0 : Int))) : Bool)) rfl hb_6 rfl) (.P 20 rfl (v_pickF (v := reg ((decide (t77 < (0 : Int))) : Bool)) rfl hb_5 rfl) (.P 21 rfl (v_assign (v := reg ((decide (t77 < (0 : Int))) : Bool)) rfl) ?_)))
        refine .done (by kernel_rfl) ?_
        exact QN.thenJ ⟨_, (decide (t77 < (0 : Int))), setl_eq ⟨rfl, ⟨rfl, ⟨rfl, ⟨rfl, ⟨rfl, ⟨rfl, ⟨rfl, ⟨rfl, ⟨rfl, trivial⟩⟩⟩⟩⟩⟩⟩⟩⟩, hh⟩
       ·refine .N 14 73 rfl (cb hb_6) (.N 15 73 rfl (cb hb_6) (.N 16 73 rfl (cb hb_6) ?_))
        refine .w 17 (by kernel_rfl) rfl (by kernel_rfl) (.no 73 rfl (cb hb_6) rfl rfl ⟨⟨⟨trivial, .inl (by kernel_rfl)⟩, .inl (by kernel_rfl)⟩, ?_⟩)
        refine .N 18 73 rfl (cb hb_6) (.Y 19 68 rfl (cb hb_5) (v_pickF (v := reg false) rfl hb_6 rfl) (.P 20 rfl (v_pickF (v := reg false) rfl hb_5 rfl) (.P 21 rfl (v_assign (v := reg false) rfl) ?_)))
        refine .done (by kernel_rfl) ?_
        exact QN.thenJ ⟨_, false, setl_eq ⟨rfl, ⟨rfl, ⟨rfl, ⟨rfl, ⟨rfl, ⟨rfl, ⟨rfl, ⟨rfl, ⟨rfl, trivial⟩⟩⟩⟩⟩⟩⟩⟩⟩, hh⟩
     ·rintro ρ h ⟨ρ', first, rfl, hh⟩
      unfold vote_Box_Winner.j4 at hh
      refine .sr (.M (reg (t57.b : Int)) (.M (reg quorum) (.V (v_igeq rfl rfl) (.M (reg ((decide (quorum ≤ t57.b)) : Bool)) (.tv 84 rfl rfl rfl (fun hb => v_move (v := reg (first : Bool)) rfl) rfl (.V (v_pick_and rfl (fun hb => gt hb) rfl) (.nx ?_)))))))
      refine CW.cond ((decide (quorum ≤ t57.b)) && first) rfl (fun hb_7 => ?_) (fun hb_7 => ?_)
      ·have hh := hh.1 hb_7
       refine CW.region ?_
       refine .V (v_fieldAddr fl_128_1 rfl) (.LA 1 ag_24 get_128_digest (fun _ => (arr_len (n := 32) _)) hh rfl (fun t88 hh => .V (v_fieldAddr fl_128_0 rfl) (.L 0 na_3 get_128_round hh rfl (fun t90 hh => .S (t88 : Arr 32 UInt8) 0 sz_24 (one_arr (n := 32) (fun _ => rfl) _) (fun _ => arr_len (n := 32) _) (arr_len (n := 32) _) (fun x => set_24_all x (t88 : Arr 32 UInt8)) hh rfl rfl (fun _ hh => .A (reg t90) (.A (reg true) ?_))))))
       refine .nil ?_
       refine QN.blockN ?_
       exact QN.thenJ ⟨(t90, true), ⟨_, setl_eq ⟨rfl, ⟨rfl, ⟨rfl, ⟨rfl, ⟨rfl, ⟨rfl, trivial⟩⟩⟩⟩⟩⟩⟩, hh⟩
      ·have hh := hh.2 hb_7
       refine CW.skip ?_
       refine QN.blockN ?_
       exact QN.thenJ ⟨(at__3, found_3), ⟨_, setl_eq ⟨rfl, ⟨rfl, ⟨rfl, ⟨rfl, ⟨rfl, ⟨rfl, trivial⟩⟩⟩⟩⟩⟩⟩, hh⟩
    ·have hh := hh.2 hb_4
     refine CW.exit ?_
     refine QN.thenExit ?_
     refine QN.thenExit ?_
     refine QN.blockExit ?_
     exact QN.thenJ ⟨_, at__3, found_3, setl_eq ⟨rfl, ⟨rfl, ⟨rfl, ⟨rfl, trivial⟩⟩⟩⟩, hh⟩
   ·rintro ρ h ⟨ρ', at__5, found_5, rfl, hh⟩
    unfold vote_Box_Winner.j3 at hh
    refine .sr (.LA 0 ag_24 get_24_all (fun _ => (arr_len (n := 32) _)) hh rfl (fun t91 hh => .M (reg at__5) (.M (reg found_5) (.S (t91 : Arr 32 UInt8) 0 sz_24 (one_arr (n := 32) (fun _ => rfl) _) (fun _ => arr_len (n := 32) _) (arr_len (n := 32) _) (fun x => set_24_all x (t91 : Arr 32 UInt8)) hh rfl rfl (fun _ hh => .A (reg at__5) (.A (reg found_5) (.nx ?_)))))))
    refine CW.ret ?_
    obtain ⟨r6_1, ⟨xr6_1, hxr6_1, hgr6_1⟩, hh⟩ := hh
    have hr6_1 := ld_id hxr6_1 hgr6_1
    exact retc2 rfl rfl ag_24 hr6_1 (arr_len (n := 32) _) rfl rfl ⟨(⟨r6_1, at__5, found_5⟩ : T3 (Arr 32 UInt8) Int Bool), rfl, hh⟩
def cmpL : List UInt8 → List UInt8 → Int
  | x :: xs, y :: ys => if x < y then -1 else if y < x then 1 else cmpL xs ys
  | _, _ => 0
theorem cmpL_trans : ∀ a b c : List UInt8, a.length = b.length → b.length = c.length → 0 ≤ cmpL a b → cmpL c b < 0 → 0 ≤ cmpL a c
  | [], [], [], _, _, _, h => by simp [cmpL] at h
  | x :: a, y :: b, z :: c, h1, h2, h3, h4 => by
    simp only [List.length_cons, Nat.add_right_cancel_iff] at h1 h2
    simp only [cmpL] at h3 h4 ⊢
    by_cases hxy : x < y
    · rw [if_pos hxy] at h3; omega
    · rw [if_neg hxy] at h3
      by_cases hzy : z < y
      · have hxz : ¬ x < z := fun h => hxy (UInt8.lt_trans h hzy)
        rw [if_neg hxz]
        split
        · decide
        · rename_i hzx
          exfalso
          have e1 : x.toNat = z.toNat := by
            simp only [UInt8.lt_iff_toNat_lt] at hxz hzx; omega
          simp only [UInt8.lt_iff_toNat_lt] at hxy hzy; omega
      · rw [if_neg hzy] at h4
        by_cases hyz : y < z
        · rw [if_pos hyz] at h4; omega
        · rw [if_neg hyz] at h4
          have e2 : y.toNat = z.toNat := by simp only [UInt8.lt_iff_toNat_lt] at hzy hyz; omega
          have e3 : y = z := UInt8.toNat_inj.1 e2
          subst e3
          rw [if_neg hxy]
          split
          · decide
          · rename_i hyx
            rw [if_neg hyx] at h3
            exact cmpL_trans a b c h1 h2 h3 h4
theorem isNaN_spec (x : UInt8) {k : Bool → H → Prop} {h : H} (hk : k false h) : cmp_isNaN_byte.b x k h := by
  unfold cmp_isNaN_byte.b
  have : (x != x) = false := by simp
  rw [this]; exact hk
theorem Cmp_spec (x y : UInt8) {k : Int → H → Prop} {h : H} (hk : k (if x < y then -1 else if y < x then 1 else 0) h) : cmp_Compare_byte.b x y k h := by
  unfold cmp_Compare_byte.b
  refine cmp_isNaN_byte.ok _ _ _ (isNaN_spec _ ?_)
  refine cmp_isNaN_byte.ok _ _ _ (isNaN_spec _ ?_)
  refine ifb_i (fun hc => by cases hc) (fun _ => ?_)
  refine ifb_i (fun hc => by cases hc) (fun _ => ?_)
  refine ifb_i (fun hc => ?_) (fun hc => ?_)
  · rw [if_pos (by simpa using hc)] at hk; exact hk
  · rw [if_neg (by simpa using hc)] at hk
    refine ifb_i (fun hc => ?_) (fun hc => ?_)
    · rw [if_pos (by simpa using hc)] at hk; exact hk
    · rw [if_neg (by simpa using hc)] at hk; exact hk
theorem Compare_spec (s t : Sl) (xs ys : List UInt8) {k : Int → H → Prop} {h : H} (hx : SV 1 h s xs) (hy : SV 1 h t ys) (hl : xs.length = ys.length) (hb : xs.length < 2 ^ 40) (hk : k (cmpL xs ys) h) : slices_Compare_byte.b s t k h := by
  unfold slices_Compare_byte.b slices_Compare_byte.l1
  have hsl : s.len = xs.length := hx.2.1
  have htl : t.len = ys.length := hy.2.1
  refine ⟨fun (j : Int) h' => h' = h ∧ ∃ i : Nat, j = i ∧ i ≤ xs.length ∧ cmpL xs ys = cmpL (xs.drop i) (ys.drop i), fun j _ => (xs.length - j).toNat, ⟨rfl, 0, rfl, Nat.zero_le _, by simp⟩, ?_⟩
  rintro j h' ⟨rfl, i, rfl, hi, hc⟩
  refine ifb_i (fun hc1 => ?_) (fun hc1 => ?_)
  · have hi' : i < xs.length := by have : (i : Int) < s.len := by simpa using hc1
                                   omega
    refine sidx_ld len_u8 hx (Int.natCast_nonneg _) (by rw [Int.toNat_natCast]; exact List.getElem?_eq_getElem hi') ?_
    refine ifb_i (fun hc2 => by simp at hc2; omega) (fun _ => ?_)
    refine sidx_ld len_u8 hy (Int.natCast_nonneg _) (by rw [Int.toNat_natCast]; exact List.getElem?_eq_getElem (by omega)) ?_
    have e1 : xs.drop i = xs[i] :: xs.drop (i + 1) := List.drop_eq_getElem_cons hi'
    have e2 : ys.drop i = ys[i]'(by omega) :: ys.drop (i + 1) := List.drop_eq_getElem_cons (by omega)
    rw [e1, e2] at hc
    simp only [cmpL] at hc
    refine cmp_Compare_byte.ok _ _ _ _ (Cmp_spec _ _ ?_)
    have e3 : iadd (i : Int) 1 = ((i + 1 : Nat) : Int) := by rw [iadd_eq (by omega) (by omega)]; omega
    by_cases h1 : xs[i] < ys[i]'(by omega)
    · rw [if_pos h1] at hc ⊢
      refine ifb_i (fun _ => ?_) (fun hc => by cases hc)
      rw [← hc]; exact hk
    · rw [if_neg h1] at hc ⊢
      by_cases h2 : ys[i]'(by omega) < xs[i]
      · rw [if_pos h2] at hc ⊢
        refine ifb_i (fun _ => ?_) (fun hc => by cases hc)
        rw [← hc]; exact hk
      · rw [if_neg h2] at hc ⊢
        refine ifb_i (fun hc => by cases hc) (fun _ => ?_)
        rw [e3]
        exact ⟨⟨rfl, i + 1, rfl, hi', hc⟩, by dsimp only; omega⟩
  · have hi' : i = xs.length := by
      have : ¬ (i : Int) < s.len := by simpa using hc1
      omega
    subst hi'
    unfold slices_Compare_byte.j1
    refine ifb_i (fun hc2 => by simp at hc2; omega) (fun _ => ?_)
    have e : cmpL xs ys = 0 := by rw [hc, List.drop_length]; rfl
    rw [e] at hk; exact hk
theorem none_spec {k : Dig → H → Prop} {h : H} (hk : ∀ h', Ext h h' → k (fun _ => 0) h') : vote_none.b k h := by
  unfold vote_none.b
  refine (Sat.init h).box_ (fun a h1 hs1 _ _ => ?_)
  refine hs1.box_ (fun z h2 hs2 _ _ => ?_)
  refine hs2.ld_ 0 rfl ?_
  refine hs2.st_ 1 rfl arr_len (fun h3 hs3 _ => ?_)
  refine hs3.ld_ 1 rfl ?_
  exact hk _ hs3.fr
/-- a place in a map, taken -/
def stE {κ ν : Type} [Ty κ] [Ty ν] [DecidableEq κ] (r : Nat) (l : List (κ × ν)) (key : κ) (s : Int) : En := ⟨[r], fun h => (mpE r l).A h ∧ Stamp h ⟨some r⟩ l key s⟩
theorem stE_loc {κ ν : Type} [Ty κ] [Ty ν] [DecidableEq κ] (r : Nat) (l : List (κ × ν)) (key : κ) (s : Int) : Go.Sh.Loc (stE r l key s) := fun h h' hb ⟨h1, r', es, clk, h2, h3, h4⟩ => by
  refine ⟨mpE_loc r l h h' hb h1, r', es, clk, h2, ?_, h4⟩
  obtain rfl : r = r' := Option.some.inj h2
  rw [hb r (by simp [stE])]; exact h3
section
variable {h0 h : H} {S : List Nat} {L : List En} {κ ν : Type} [Ty κ] [Ty ν] [DecidableEq κ]
theorem mapIs_mpE {h : H} {r : Nat} {l : List (κ × ν)} (H : MapIs h ⟨some r⟩ l) : (mpE r l).A h := by
  rcases H with ⟨h1, _⟩ | ⟨r', es, clk, h1, h2, h3⟩
  · cases h1
  · obtain rfl : r = r' := Option.some.inj h1
    exact ⟨es, clk, h2, h3⟩
theorem _root_.Go.Sh.Sat.ment_ {r : Nat} {l : List (κ × ν)} {z : ν} {key : κ} {k : T2 ν Int → H → Prop} (i : Nat) (hs : Sat h0 S h L) (hi : L[i]? = some (mpE r l)) (hk : ∀ s h', Sat h0 S h' (L.set i (stE r (mins l key (mins0 z l key)) key s)) → k ⟨mins0 z l key, s⟩ h') : ment z ⟨some r⟩ key k h := by
  obtain ⟨es, clk, h1, h2⟩ := (show (mpE r l).A h from hs.at_ hi)
  refine ⟨r, es, clk, l, rfl, h1, h2, fun o s hm hst => hk s _ (hs.upd hi (by simp only [mpE]; exact Fr.set _ _ _) ⟨mapIs_mpE hm, hst⟩ (stE_loc _ _ _ _) ?_)⟩
  intro b hb
  simp only [stE, List.mem_singleton] at hb
  subst hb
  rw [Array.getElem?_eq_some_iff] at h1
  exact ⟨by simpa using h1.1, .inl (by simp [mpE])⟩
theorem _root_.Go.Sh.Sat.mste_ {r : Nat} {l l0 : List (κ × ν)} {key : κ} {s : Int} {v : ν} {k : H → Prop} (i : Nat) (hs : Sat h0 S h L) (hi : L[i]? = some (stE r l key s)) (hk : ∀ h', Sat h0 S h' (L.set i (mpE r (mins l key v))) → k h') : mste l0 ⟨some r⟩ s v k h := by
  obtain ⟨h1, h2⟩ := (show (stE r l key s).A h from hs.at_ hi)
  refine ⟨l, key, h2, fun r' o hr hm => ?_⟩
  obtain rfl : r = r' := Option.some.inj hr
  refine hk _ (hs.upd hi (by simp only [stE]; exact Fr.set _ _ _) (mapIs_mpE hm) (mpE_loc _ _) ?_)
  intro b hb
  simp only [mpE, List.mem_singleton] at hb
  subst hb
  exact ⟨by simpa using mpE_lt h1, .inl (by simp [stE])⟩
theorem _root_.Go.Sh.Sat.stchk_ {α : Type} {r : Nat} {l : List (κ × ν)} {key : κ} {s : Int} {g : List (κ × ν) → α} {y : α} {k : H → Prop} (i : Nat) (hs : Sat h0 S h L) (hi : L[i]? = some (stE r l key s)) (hg : g l = y) (hk : k h) : mchk ⟨some r⟩ g y k h :=
  ⟨⟨l, mpE_is (show (stE r l key s).A h from hs.at_ hi).1, hg⟩, hk⟩
end
def dz : Dig := fun _ => 0
def chq (q : vote_place × api_Vote) : vote_choice := ⟨q.1.round, q.2.Digest⟩
def cntF (done : Vts) (kind : Int) (ch : vote_choice) : Nat := (done.filter fun q => decide (q.1.kind = kind) && !decide (q.2.Digest = dz) && decide (chq q = ch)).length
structure CountOf (cs : List (vote_choice × Int)) (done : Vts) (kind : Int) : Prop where
  nodup : (cs.map (·.1)).Nodup
  cnt : ∀ ch, mfind cs ch = if cntF done kind ch = 0 then none else some (cntF done kind ch : Int)
theorem cntF_perm {a b : Vts} (h : a.Perm b) (kind : Int) (ch : vote_choice) : cntF a kind ch = cntF b kind ch := (h.filter _).length_eq
theorem CountOf.perm {cs : List (vote_choice × Int)} {a b : Vts} {kind : Int} (h : CountOf cs a kind) (hp : a.Perm b) : CountOf cs b kind := ⟨h.nodup, fun ch => by rw [h.cnt, cntF_perm hp]⟩
theorem cntF_snoc (done : Vts) (q : vote_place × api_Vote) (kind : Int) (ch : vote_choice) : cntF (done ++ [q]) kind ch = cntF done kind ch + if q.1.kind = kind ∧ q.2.Digest ≠ dz ∧ chq q = ch then 1 else 0 := by
  unfold cntF
  rw [List.filter_append, List.length_append]
  congr 1
  by_cases h1 : q.1.kind = kind <;> by_cases h2 : q.2.Digest = dz <;> by_cases h3 : chq q = ch <;> simp [h1, h2, h3]
theorem cntF_le (done : Vts) (kind : Int) (ch : vote_choice) : cntF done kind ch ≤ done.length := List.length_filter_le _ _
theorem CountOf.skip {cs : List (vote_choice × Int)} {done : Vts} {kind : Int} (h : CountOf cs done kind) (q : vote_place × api_Vote) (hq : ¬ (q.1.kind = kind ∧ q.2.Digest ≠ dz)) : CountOf cs (done ++ [q]) kind := by
  refine ⟨h.nodup, fun ch => ?_⟩
  have hz : (if q.1.kind = kind ∧ q.2.Digest ≠ dz ∧ chq q = ch then 1 else 0) = 0 := if_neg (fun hx => hq ⟨hx.1, hx.2.1⟩)
  rw [h.cnt, cntF_snoc, hz, Nat.add_zero]
theorem CountOf.put {cs : List (vote_choice × Int)} {done : Vts} {kind : Int} (h : CountOf cs done kind) (q : vote_place × api_Vote) (h1 : q.1.kind = kind) (h2 : q.2.Digest ≠ dz) : CountOf (mins (mins cs (chq q) (cntF done kind (chq q) : Int)) (chq q) ((cntF done kind (chq q) + 1 : Nat) : Int)) (done ++ [q]) kind := by
  refine ⟨mins_nodup _ _ _ (mins_nodup _ _ _ h.nodup), fun ch => ?_⟩
  rw [mfind_mins, mfind_mins, cntF_snoc]
  by_cases hc : ch = chq q
  · subst hc
    simp [h1, h2]
  · have hz : (if q.1.kind = kind ∧ q.2.Digest ≠ dz ∧ chq q = ch then 1 else 0) = 0 := if_neg (fun hx => hc hx.2.2.symm)
    rw [if_neg hc, if_neg hc, h.cnt, hz, Nat.add_zero]
def digL (d : Dig) : List UInt8 := List.ofFn d
def WinOf (cs : List (vote_choice × Int)) (quorum : Int) (best : Dig) (at_ : Int) (found : Bool) : Prop :=
  (found = false ∧ at_ = 0 ∧ best = dz ∧ ∀ p ∈ cs, ¬ quorum ≤ p.2) ∨ (found = true ∧ ∃ n, ((⟨at_, best⟩ : vote_choice), n) ∈ cs ∧ quorum ≤ n ∧ ∀ p ∈ cs, quorum ≤ p.2 → p.1.round < at_ ∨ (p.1.round = at_ ∧ 0 ≤ cmpL (digL p.1.digest) (digL best)))
theorem WinOf.perm {a b : List (vote_choice × Int)} {quorum : Int} {best : Dig} {at_ : Int} {found : Bool} (h : WinOf a quorum best at_ found) (hp : a.Perm b) : WinOf b quorum best at_ found := by
  rcases h with ⟨h1, h2, h3, h4⟩ | ⟨h1, n, h2, h3, h4⟩
  · exact .inl ⟨h1, h2, h3, fun p hb => h4 p (hp.mem_iff.2 hb)⟩
  · exact .inr ⟨h1, n, hp.mem_iff.1 h2, h3, fun p hb => h4 p (hp.mem_iff.2 hb)⟩
theorem len_choice (y : vote_choice) : (enc y).length = 33 := len_vote_choice y
theorem choice_dig {h : H} {c : Addr} {x : vote_choice} (H : AtH h c (enc x)) : SV 1 h ((⟨some (c.add 1), 32, 32⟩ : Sl).cut 1 0 32 32) (List.ofFn x.digest) := by
  have h1 := H.sub 1 32
  have e : ((enc x).drop 1).take 32 = enc x.digest := by
    have : enc x = enc x.round ++ enc x.digest := rfl
    rw [this]
    have h2 : enc x.round = [reg x.round] := rfl
    rw [h2]
    have := arr_len x.digest
    simp only [List.cons_append, List.nil_append, List.drop_succ_cons, List.drop_zero]
    rw [List.take_of_length_le (by omega)]
  rw [e] at h1
  have hv := arr_SV (n := 32) (l := List.ofFn x.digest) (by simp) (by rw [arrOf_ofFn]; exact h1)
  have := hv.cut len_u8 (lo := 0) (hi := 32) (mx := 32) (by omega) (Nat.le_refl _) (Nat.le_refl _)
  rwa [List.drop_zero, List.take_of_length_le (by simp)] at this
theorem Winner_spec (p : Addr) (r : Nat) (l : Vts) (kind quorum : Int) {k : T3 Dig Int Bool → H → Prop} {h : H} (hb : BoxA p r l h) (hl : l.length < 2 ^ 20)
    (hk : ∀ (cs : List (vote_choice × Int)) best at_ found h', Ext h h' → CountOf cs l kind → WinOf cs quorum best at_ found → k ⟨best, at_, found⟩ h') : vote_Box_Winner.b (some p) kind quorum k h := by
  unfold vote_Box_Winner.b
  have hrlt := mpE_lt hb.2.1
  refine (Sat.init h).box_ (fun t6 h1 hs1 _ _ => ?_)
  refine vote_none.ok _ _ (none_spec (fun h2 hx2 => ?_))
  have hs2 := hs1.ext hx2
  refine hs2.box_ (fun best h3 hs3 _ _ => ?_)
  refine hs3.st_ 0 rfl arr_len (fun h4 hs4 _ => ?_)
  refine ifb_i (fun hc => by cases hc) (fun _ => ?_)
  refine hs4.mkmap_ (κ := vote_choice) (ν := Int) (fun sn h5 hs5 _ => ?_)
  refine nn_i ?_
  refine ld_old (hb.1.at_.ext hs5.fr) ?_
  refine hs5.rng_ (mpE_is (hb.ext hs5.fr).2.1) (fun it h6 o hs6 hR6 _ => ?_)
  unfold vote_Box_Winner.l1
  refine ⟨fun _ h' => ∃ (cs : List (vote_choice × Int)) (o : Obj) (done todo : Vts), Sat h [] h' [rawE it.block o, mpE sn cs, cel 24 best (enc dz), cel 24 t6 (enc dz)] ∧ Rng h' it ⟨some r⟩ todo ∧ (done ++ todo).Perm l ∧ CountOf cs done kind,
    fun _ h' => tlen h' it, ⟨[], o, [], l, hs6, hR6, by simp, ⟨by simp, fun ch => by simp [mfind, cntF]⟩⟩, ?_⟩
  clear hs1 hs2 hs3 hs4 hs5 hs6 hR6 hx2
  rintro ⟨⟩ h3 ⟨cs, o, done, todo, hs3, hR3, hp3, hC3⟩
  have ht3 := Rng_tlen hR3
  refine hs3.nxt_ 0 rfl hR3 (fun h0 => ?_) (fun q rest h4 o' hq hs4 hR4 hE4 => ?_)
  · refine ifb_i (fun hc => by cases hc) (fun _ => ?_)
    subst h0
    rw [List.append_nil] at hp3
    have hC := hC3.perm hp3
    clear hC3 hR3 ht3
    unfold vote_Box_Winner.j1
    obtain ⟨es, clk, q1, q2⟩ := (show (mpE sn cs).A h3 from hs3.at_ (i := 1) rfl)
    have hs4 : Sat h [] h3 [rawE it.block o, rawE sn (.map es clk), cel 24 best (enc dz), cel 24 t6 (enc dz)] :=
      hs3.upd (i := 1) (e := mpE sn cs) rfl (Fr.refl _ _) q1 (rawE_loc _ _) (by intro b hb'; simp only [rawE, List.mem_singleton] at hb'; subst hb'; rw [Array.getElem?_eq_some_iff] at q1; exact ⟨q1.1, .inl (by simp [mpE])⟩)
    refine hs4.rng_ (.inr ⟨sn, es, clk, rfl, q1, q2⟩) (fun it2 h5 o2 hs5 hR5 _ => ?_)
    unfold vote_Box_Winner.l2
    refine ⟨fun (st : Int × Bool) h' => ∃ (bd : Dig) (o2 : Obj) (done todo : List (vote_choice × Int)), Sat h [] h' [rawE it2.block o2, rawE it.block o, rawE sn (.map es clk), cel 24 best (enc bd), cel 24 t6 (enc dz)] ∧ Rng h' it2 ⟨some sn⟩ todo ∧ (done ++ todo).Perm cs ∧ WinOf done quorum bd st.1 st.2,
      fun _ h' => tlen h' it2, ⟨dz, o2, [], cs, hs5, hR5, by simp, .inl ⟨rfl, rfl, rfl, by simp⟩⟩, ?_⟩
    clear hs3 hs4 hs5 hR5
    rintro ⟨at_, found⟩ h6 ⟨bd, o2, done2, todo2, hs6, hR6, hp6, hW6⟩
    simp only at hW6
    have ht6 := Rng_tlen hR6
    refine hs6.nxt_ 0 rfl hR6 (fun h0 => ?_) (fun c rest2 h7 o3 hq2 hs7 hR7 hE7 => ?_)
    · refine ifb_i (fun hc => by cases hc) (fun _ => ?_)
      subst h0
      rw [List.append_nil] at hp6
      unfold vote_Box_Winner.j3
      refine hs6.ld_ 3 rfl ?_
      refine hs6.st_ 4 rfl arr_len (fun h8 hs8 _ => ?_)
      refine hs8.ld_ 4 rfl ?_
      exact hk cs bd at_ found _ hs8.fr hC (hW6.perm hp6)
    · refine ifb_i (fun _ => ?_) (fun hc => by cases hc)
      refine ⟨⟨c.1, c.2⟩, ⟨_, hE7⟩, ?_⟩
      have hlen2 : rest2.length < todo2.length := by rw [hq2.length_eq]; simp
      have hdone2 : ((done2 ++ [c]) ++ rest2).Perm cs := by
        refine List.Perm.trans ?_ hp6
        rw [List.append_assoc]
        exact List.Perm.append_left _ hq2.symm
      have hmap7 : h7[sn]? = some (.map es clk) := hs7.at_ (i := 2) rfl
      have hit7 : h7[it2.block]? = some o3 := hs7.at_ (i := 0) rfl
      have tr2 : ∀ {h' : H}, h'[it2.block]? = some o3 → h'[sn]? = some (.map es clk) → Rng h' it2 ⟨some sn⟩ rest2 := fun {h'} ha hb' => Rng_tr hR7 (by rw [ha, hit7]) (fun r' hr' => by
        obtain rfl : sn = r' := Option.some.inj hr'
        rw [hb', hmap7])
      refine hs7.box_ (fun cc h8 hs8 _ _ => ?_)
      refine hs8.st_ 0 rfl len_choice (fun h9 hs9 _ => ?_)
      refine hs9.ld_ 0 rfl ?_
      -- what is done with the test's answer
      have tail : ∀ (first : Bool) h', Sat h [] h' [cel 128 cc (enc c.1), rawE it2.block o3, rawE it.block o, rawE sn (.map es clk), cel 24 best (enc bd), cel 24 t6 (enc dz)] →
          (first = true → (found = false ∨ at_ < c.1.round ∨ (c.1.round = at_ ∧ cmpL (digL c.1.digest) (digL bd) < 0))) →
          (first = false → found = true ∧ (c.1.round < at_ ∨ (c.1.round = at_ ∧ 0 ≤ cmpL (digL c.1.digest) (digL bd)))) →
          vote_Box_Winner.j4 (fun s' h' => (fun (st : Int × Bool) h' => ∃ (bd : Dig) (o2 : Obj) (done todo : List (vote_choice × Int)), Sat h [] h' [rawE it2.block o2, rawE it.block o, rawE sn (.map es clk), cel 24 best (enc bd), cel 24 t6 (enc dz)] ∧ Rng h' it2 ⟨some sn⟩ todo ∧ (done ++ todo).Perm cs ∧ WinOf done quorum bd st.1 st.2) s' h' ∧ (fun (_ : Int × Bool) h' => tlen h' it2) s' h' < (fun (_ : Int × Bool) h' => tlen h' it2) (at_, found) h6) quorum t6 best at_ found cc c.2 first it2 h' := by
        intro first h' hs' ht hf
        unfold vote_Box_Winner.j4
        refine ifb_i (fun hc => ?_) (fun hc => ?_)
        · simp only [Bool.and_eq_true, decide_eq_true_eq] at hc
          refine hs'.ld_ 0 rfl ?_
          refine hs'.ld_ 0 rfl ?_
          refine hs'.st_ 4 rfl arr_len (fun h10 hs10 _ => ?_)
          have hR10 := tr2 (h' := h10) (hs10.at_ (i := 1) rfl) (hs10.at_ (i := 3) rfl)
          refine ⟨⟨c.1.digest, o3, done2 ++ [c], rest2, hs10.drop (List.sublist_cons_self _ _), hR10, hdone2, .inr ⟨rfl, c.2, by simp, hc.1, fun q hq hqq => ?_⟩⟩, by dsimp only; rw [Rng_tlen hR10, ht6]; exact hlen2⟩
          simp only [List.mem_append, List.mem_singleton] at hq
          have self : ∀ l : List UInt8, cmpL l l = 0 := by
            intro l; induction l with
            | nil => rfl
            | cons x l ih => simp [cmpL, UInt8.lt_irrefl, ih]
          rcases hq with hq | rfl
          · rcases hW6 with ⟨_, _, _, h4⟩ | ⟨_, n, _, _, h4⟩
            · exact absurd hqq (h4 q hq)
            · have h5 := h4 q hq hqq
              rcases ht hc.2 with h0 | h0 | ⟨h0, h1⟩
              · simp_all
              · left; show q.1.round < c.1.round; omega
              · rcases h5 with h5 | ⟨h5, h6⟩
                · left; show q.1.round < c.1.round; omega
                · right
                  refine ⟨by show q.1.round = c.1.round; omega, cmpL_trans _ _ _ (by simp [digL]) (by simp [digL]) h6 h1⟩
          · right
            exact ⟨rfl, by rw [self]; exact Int.le_refl _⟩
        · have hR10 := tr2 (h' := h') (hs'.at_ (i := 1) rfl) (hs'.at_ (i := 3) rfl)
          refine ⟨⟨bd, o3, done2 ++ [c], rest2, hs'.drop (List.sublist_cons_self _ _), hR10, hdone2, ?_⟩, by dsimp only; rw [Rng_tlen hR10, ht6]; exact hlen2⟩
          rcases hW6 with ⟨h1, h2, h3, h4⟩ | ⟨h1, n, h2, h3, h4⟩
          · refine .inl ⟨h1, h2, h3, fun q hq => ?_⟩
            simp only [List.mem_append, List.mem_singleton] at hq
            rcases hq with hq | rfl
            · exact h4 q hq
            · intro hqq
              cases hfi : first with
              | true => simp [hfi, hqq] at hc
              | false => have := (hf hfi).1; rw [h1] at this; cases this
          · refine .inr ⟨h1, n, by simp [h2], h3, fun q hq hqq => ?_⟩
            simp only [List.mem_append, List.mem_singleton] at hq
            rcases hq with hq | rfl
            · exact h4 q hq hqq
            · cases hfi : first with
              | true => simp [hfi, hqq] at hc
              | false => exact (hf hfi).2
      refine ifb_i (fun hc => ?_) (fun hc => ?_)
      · refine tail true h9 hs9 (fun _ => ?_) (fun h => by cases h)
        cases found with
        | false => exact .inl rfl
        | true => right; left; simpa using hc
      · have hfo : found = true ∧ ¬ at_ < c.1.round := by
          cases found with
          | false => simp at hc
          | true => exact ⟨rfl, by simpa using hc⟩
        refine hs9.ld_ 0 rfl ?_
        refine ifb_i (fun hc2 => ?_) (fun hc2 => ?_)
        · have he : c.1.round = at_ := by simpa using hc2
          refine slices_Compare_byte.ok _ _ _ _ (Compare_spec _ _ (List.ofFn c.1.digest) (List.ofFn bd) (choice_dig (Cel.at_ (hs9.at_ (i := 0) rfl))) (hs9.wholeSV 4 rfl (by decide)) (by simp) (by simp) ?_)
          refine tail _ h9 hs9 (fun h => ?_) (fun h => ⟨hfo.1, .inr ⟨he, ?_⟩⟩)
          · right; right; exact ⟨he, by simpa [digL] using h⟩
          · have : ¬ cmpL (List.ofFn c.1.digest) (List.ofFn bd) < 0 := by simpa using h
            simp only [digL]; omega
        · have he : ¬ c.1.round = at_ := by simpa using hc2
          exact tail false h9 hs9 (fun h => by cases h) (fun _ => ⟨hfo.1, .inl (by omega)⟩)
  · refine ifb_i (fun _ => ?_) (fun hc => by cases hc)
    refine ⟨⟨q.1, q.2⟩, ⟨_, hE4⟩, ?_⟩
    have hlen : rest.length < todo.length := by rw [hq.length_eq]; simp
    have hdone : ((done ++ [q]) ++ rest).Perm l := by
      refine List.Perm.trans ?_ hp3
      rw [List.append_assoc]
      exact List.Perm.append_left _ hq.symm
    have tr : ∀ {h' L'}, Sat h [] h' L' → h'[it.block]? = some o' → Rng h' it ⟨some r⟩ rest := fun {h' L'} hs' hi' => Rng_tr hR4 (by
        rw [hi']; exact (hs4.at_ (i := 0) rfl).symm) (fun r' hr' => by
        obtain rfl : r = r' := Option.some.inj hr'
        rw [hs'.fr.same r hrlt (by simp), hs4.fr.same r hrlt (by simp)])
    have hdl : done.length < 2 ^ 20 := by have := hp3.length_eq; simp at this; omega
    refine hs4.box_ (fun pp h5 hs5 _ _ => ?_)
    refine hs5.box_ (fun vv h6 hs6 _ _ => ?_)
    refine hs6.st_ 1 rfl len_vote_place (fun h7 hs7 _ => ?_)
    refine hs7.st_ 0 rfl len_api_Vote (fun h8 hs8 _ => ?_)
    refine hs8.ld_ 1 rfl ?_
    have skip : ∀ h', Sat h [] h' [cel 37 vv (enc q.2), cel 115 pp (enc q.1), rawE it.block o', mpE sn cs, cel 24 best (enc dz), cel 24 t6 (enc dz)] → ¬ (q.1.kind = kind ∧ q.2.Digest ≠ dz) →
        (∃ (cs : List (vote_choice × Int)) (o : Obj) (done todo : Vts), Sat h [] h' [rawE it.block o, mpE sn cs, cel 24 best (enc dz), cel 24 t6 (enc dz)] ∧ Rng h' it ⟨some r⟩ todo ∧ (done ++ todo).Perm l ∧ CountOf cs done kind) ∧ tlen h' it < tlen h3 it := by
      intro h' hs' hne
      have hR7 := tr hs' (hs'.at_ (i := 2) rfl)
      exact ⟨⟨cs, o', done ++ [q], rest, (hs'.drop (List.sublist_cons_self _ _)).drop (List.sublist_cons_self _ _), hR7, hdone, hC3.skip q hne⟩, by rw [Rng_tlen hR7, ht3]; exact hlen⟩
    refine ifb_i (fun hc => ?_) (fun hc => ?_)
    · have hkd : q.1.kind = kind := by simpa using hc
      refine hs8.ld_ 0 rfl ?_
      refine vote_none.ok _ _ (none_spec (fun h9 hx9 => ?_))
      have hs9 := hs8.ext hx9
      refine hs9.chk_ 0 rfl rfl ?_
      unfold vote_Box_Winner.j2
      refine ifb_i (fun hc2 => ?_) (fun hc2 => ?_)
      · have hdn : q.2.Digest ≠ dz := by
          have h9 : ¬ q.2.Digest = fun _ => 0 := by simpa using hc2
          exact h9
        refine hs9.ld_ 1 rfl ?_
        refine hs9.ld_ 0 rfl ?_
        have e0 : mins0 (0 : Int) cs (chq q) = (cntF done kind (chq q) : Int) := by
          unfold mins0; rw [hC3.cnt]; split
          · rename_i h0; simp [h0]
          · rfl
        have e1 : (mlook (0 : Int) cs (chq q)).a = (cntF done kind (chq q) : Int) := by
          unfold mlook; rw [hC3.cnt]
          by_cases h0 : cntF done kind (chq q) = 0
          · rw [if_pos h0, h0]; rfl
          · rw [if_neg h0]
        refine ⟨(cntF done kind (chq q) : Int), ⟨cs, mpE_is (hs9.at_ (i := 3) rfl), e1⟩, ?_⟩
        refine hs9.ment_ 3 rfl (fun s h10 hs10 => ?_)
        have hs10' : Sat h [] h10 [cel 37 vv (enc q.2), cel 115 pp (enc q.1), rawE it.block o', stE sn (mins cs (chq q) (cntF done kind (chq q) : Int)) (chq q) s, cel 24 best (enc dz), cel 24 t6 (enc dz)] := by
          rw [← e0]; exact hs10
        refine hs10'.stchk_ 3 rfl ?_ ?_
        · show (mlook (0 : Int) (mins cs (chq q) (cntF done kind (chq q) : Int)) (chq q)).a = _
          unfold mlook; rw [mfind_mins]; simp
        have hcl := cntF_le done kind (chq q)
        have e2 : iadd (cntF done kind (chq q) : Int) 1 = ((cntF done kind (chq q) + 1 : Nat) : Int) := by rw [iadd_eq (by omega) (by omega)]; omega
        rw [e2]
        refine hs10'.mste_ 3 rfl (fun h11 hs11 => ?_)
        have hR7 := tr hs11 (hs11.at_ (i := 2) rfl)
        exact ⟨⟨_, o', done ++ [q], rest, (hs11.drop (List.sublist_cons_self _ _)).drop (List.sublist_cons_self _ _), hR7, hdone, hC3.put q hkd hdn⟩, by dsimp only; rw [Rng_tlen hR7, ht3]; exact hlen⟩
      · have hdn : q.2.Digest = dz := by
          have h9 : q.2.Digest = fun _ => 0 := by simpa using hc2
          exact h9
        exact skip h9 hs9 (fun h => h.2 hdn)
    · have hkd : ¬ q.1.kind = kind := by simpa using hc
      unfold vote_Box_Winner.j2
      refine ifb_i (fun hc2 => by cases hc2) (fun _ => ?_)
      exact skip h8 hs8 (fun h => hkd h.1)
/-- a slice whose elements can be read: one of no length may lead anywhere -/
def SVz {α : Type} [Ty α] (n : Nat) (h : H) (s : Sl) (l : List α) : Prop := s.len = l.length ∧ (l ≠ [] → SV n h s l)
theorem SVz.ext {α : Type} [Ty α] {n : Nat} {h h' : H} {s : Sl} {l : List α} (H : SVz n h s l) (f : Ext h h') : SVz n h' s l := ⟨H.1, fun hn => (H.2 hn).ext f⟩
theorem SV.z {α : Type} [Ty α] {n : Nat} {h : H} {s : Sl} {l : List α} (H : SV n h s l) : SVz n h s l := ⟨H.2.1, fun _ => H⟩
theorem sidx_ldz {α β : Type} [Ty α] {n : Nat} {h : H} {s : Sl} {l : List α} (hn : ∀ y : α, (enc y).length = n) (hv : SVz n h s l) {j : Int} {x : α} (h0 : 0 ≤ j) (hx : l[j.toNat]? = some x) {g : α → β} {K : β → H → Prop} (hk : K (g x) h) : sidx s j n (fun t => ld t g K) h :=
  sidx_ld hn (hv.2 (by rintro rfl; simp at hx)) h0 hx hk
/-- a signature whose lists can be read -/
def SigR (h : H) (s : api_Sig) : Prop := (∃ l : List Dig, SVz 32 h s.Once.Open l) ∧ (∃ l : List Dig, SVz 32 h s.Once.Shut l) ∧ (∃ l : List Dig, SVz 32 h s.Path l)
theorem SigR.ext {h h' : H} (f : Ext h h') {s : api_Sig} (H : SigR h s) : SigR h' s := by
  obtain ⟨⟨a, ha⟩, ⟨b, hb⟩, ⟨c, hc⟩⟩ := H
  exact ⟨⟨a, ha.ext f⟩, ⟨b, hb.ext f⟩, ⟨c, hc.ext f⟩⟩
/-! what the cells of a type read as -/
def Dec (t : TypeId) {α : Type} [Ty α] (S : H → α → Prop) : Prop :=
  ∀ {HT : Type} (en : TypeId × Value → HT) (W : World) (fuel : Nat) (cs : List Value) (x : DataW HT × List MemPlace), DataW.trod en Prog W 0 (fun _ => true) true fuel t cs = some x → ∃ a : α, cs = enc a ∧ S W.heap a
def IntOk (_ : H) (n : Int) : Prop := -9223372036854775808 ≤ n ∧ n ≤ 9223372036854775807
theorem dec_int {t : TypeId} (ht : Tryd.prog.underlying t = some (.int .i64)) : Dec t IntOk := by
  intro HT en W fuel cs x h
  obtain ⟨n, rfl, _, hw⟩ := DataW.trod_int ht h
  refine ⟨n, rfl, ?_⟩
  simp [Lit.wf, IntKind.min, IntKind.max, IntKind.signed, IntKind.bits] at hw
  exact hw
def AtA (arr : Array Value) (off : Nat) (cs : List Value) : Prop := ∀ i v, cs[i]? = some v → arr[off + i]? = some v
theorem AtA.app {arr : Array Value} {off : Nat} {a b : List Value} (ha : AtA arr off a) (hb : AtA arr (off + a.length) b) : AtA arr off (a ++ b) := by
  intro i v hv
  by_cases hi : i < a.length
  · rw [List.getElem?_append_left hi] at hv; exact ha i v hv
  · rw [List.getElem?_append_right (by omega)] at hv
    have := hb _ _ hv
    rwa [show off + a.length + (i - a.length) = off + i by omega] at this
theorem AtA.flat {arr : Array Value} {c : Nat} : ∀ (L : List (List Value)) (off : Nat), (∀ i x, L[i]? = some x → x.length = c ∧ AtA arr (off + i * c) x) → AtA arr off L.flatten
  | [], off, _ => by intro i v hv; simp at hv
  | x :: L, off, h => by
    have h0 := h 0 x rfl
    rw [List.flatten_cons]
    refine AtA.app (by simpa using h0.2) ?_
    rw [h0.1]
    refine AtA.flat (c := c) L (off + c) (fun i y hy => ?_)
    have := h (i + 1) y hy
    rwa [show off + (i + 1) * c = off + c + i * c by rw [Nat.add_mul]; omega] at this
theorem flat_len {α : Type} [Ty α] {c : Nat} (hn : ∀ y : α, (enc y).length = c) : ∀ l : List α, (l.map enc).flatten.length = l.length * c
  | [] => by simp
  | x :: l => by rw [List.map_cons, List.flatten_cons, List.length_append, hn, flat_len hn l, List.length_cons, Nat.add_mul]; omega
theorem add_add (a : Addr) (x y : Nat) : (a.add x).add y = a.add (x + y) := by
  unfold Addr.add
  by_cases hx : x = 0
  · subst hx; simp
  · by_cases hy : y = 0
    · subst hy; simp
    · simp [hx, hy, Nat.add_assoc]
theorem cell_add {W : World} {a : Addr} {arr : Array Value} {T : TypeId} {fr : Nat × Nat} (ho : W.heap[a.block]? = some (.cells arr T fr)) (hs : a.spot = none) (k : Nat) : W.cell? (a.add k) = arr[a.off + k]? := by
  unfold Addr.add
  by_cases hk : k = 0
  · subst hk; simp [World.cell?, ho, hs]
  · simp [World.cell?, ho, hk]
def SlOk {α : Type} [Ty α] (c : Nat) (S : H → α → Prop) (h : H) (s : Sl) : Prop := ∃ l : List α, SVz c h s l ∧ ∀ a ∈ l, S h a
theorem dec_slice {t e : TypeId} {c : Nat} {α : Type} [Ty α] {S : H → α → Prop} (ht : Tryd.prog.underlying t = some (.slice e)) (hc : Tryd.prog.cellsOf e = c) (h0 : 0 < c) (hn : ∀ y : α, (enc y).length = c) (D : Dec e S) : Dec t (SlOk c S) := by
  intro HT en W fuel cs x h
  rcases Go.Deep.open_slice ht h with ⟨rfl, _⟩ | ⟨a, len, cap, m, n, DD, Pl, rfl, _, hlc, _, hm, _, hx⟩
  · exact ⟨Sl.nil, rfl, [], ⟨rfl, fun hne => absurd rfl hne⟩, by simp⟩
  · simp only [if_true] at hm
    subst hm
    have key : ∀ i : Fin len, ∃ y : α, (∀ r v, (enc y)[r]? = some v → W.cell? (a.add (i.1 * c + r)) = some v) ∧ S W.heap y := by
      intro i
      obtain ⟨cs', h1, h2⟩ := hx i.1 (by omega)
      obtain ⟨y, rfl, hs⟩ := D en W n _ _ h2
      refine ⟨y, fun r v hv => ?_, hs⟩
      rw [hc] at h1
      obtain ⟨_, h4, h5⟩ := World.cells?_some h1
      have hr : r < c := by
        rw [List.getElem?_eq_some_iff] at hv; obtain ⟨h9, _⟩ := hv; rw [hn] at h9; exact h9
      have := h5 r hr
      rw [hv] at this
      rw [← this, add_add]
    refine ⟨⟨some a, len, _⟩, rfl, List.ofFn fun i => (key i).choose, ⟨by simp, fun hne => ?_⟩, ?_⟩
    · have hlen : 0 < len := by
        rcases Nat.eq_zero_or_pos len with h9 | h9
        · subst h9; simp at hne
        · exact h9
      have h00 := (key ⟨0, hlen⟩).choose_spec.1
      generalize hy : (key ⟨0, hlen⟩).choose = y at h00
      obtain ⟨v, hv⟩ : ∃ v, (enc y)[0]? = some v := ⟨_, List.getElem?_eq_getElem (by rw [hn]; exact h0)⟩
      have hc0 := h00 0 v hv
      rw [show a.add ((⟨0, hlen⟩ : Fin len).1 * c + 0) = a by simp [Addr.add]] at hc0
      unfold World.cell? at hc0
      cases ho : W.heap[a.block]? with
      | none => simp [ho] at hc0
      | some o =>
        cases o with
        | cells arr T fr =>
          have hsp : a.spot = none := by
            cases hs : a.spot with
            | none => rfl
            | some z => simp [ho, hs] at hc0
          refine ⟨.inr ⟨a, rfl, ⟨hsp, arr, T, fr, ho, ?_⟩, ?_⟩, by simp, hlc⟩
          · refine AtA.flat (c := c) _ _ (fun i z hz => ?_)
            rw [List.getElem?_map] at hz
            by_cases hi : i < len
            · rw [List.getElem?_ofFn] at hz
              simp only [hi, dite_true, Option.map_some, Option.some.injEq] at hz
              subst hz
              refine ⟨hn _, fun r v hv => ?_⟩
              have h8 := (key ⟨i, hi⟩).choose_spec.1 r v hv
              rw [cell_add ho hsp] at h8
              rw [← h8, Nat.add_assoc]
            · rw [List.getElem?_eq_none (by simpa using hi)] at hz; simp at hz
          · rw [flat_len hn]; simp
        | _ => simp [ho] at hc0
    · intro y hy
      rw [List.mem_ofFn] at hy
      obtain ⟨i, rfl⟩ := hy
      exact (key i).choose_spec.2
theorem cof3 : Tryd.prog.cellsOf 3 = 1 := by kernel_rfl
theorem dec_i : Dec 3 IntOk := dec_int Tryd.underlying3
end Go.Proofs.YtimmoekliphobaaDoor

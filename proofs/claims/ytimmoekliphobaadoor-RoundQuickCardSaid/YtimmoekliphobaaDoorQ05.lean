/-
  THE CARD OF wapentakelaw19.RoundQuick: for every input that the row lets in, RoundQuick returns true and its arguments read as they did. Part 5 of 14. No condition stands ahead of the statement. Parts of this text were printed by a program of ours.
-/
import Derived.Test.YtimmoekliphobaaDoorQ04
set_option linter.all false
set_option maxRecDepth 100000
set_option maxHeartbeats 4000000
namespace Go.Proofs.YtimmoekliphobaaDoor
open Go Go.Sh
open Go.Sh.Ty (reg)
theorem code_Writer_Text.ok (w : Pt) (list : Sl) (k : Unit → H → Prop) (h : H) (hh : code_Writer_Text.b w list k h) : CallsH Prog 118 [reg w, reg list].toArray h fun v h' => ∃ r : Unit, v = reg r ∧ k r h' := by
 unfold code_Writer_Text.b at hh
 refine CallsH.of 47 Tryd.func118 rfl Tryd.ntmps118 rfl (fun w0 => ?_)
 refine CW.seq ?_
 refine .sr (.M (reg w) (.V (v_eq_nil pt_143 rfl rfl) (.nx ?_)))
 refine CW.cond w.isNone rfl (fun hb => ?_) (fun hb => ?_)
 ·have hh := hh.1 hb
  refine CW.ret ?_
  refine QN.thenRet ?_
  exact ret0 rfl ⟨(), rfl, hh⟩
 ·have hh := hh.2 hb
  refine CW.skip ?_
  refine QN.then_ ?_
  refine .sr (.M (reg list) (.V (v_len_sl (sl_231).1 rfl) (.M (reg ((0 : Int) : Int)) (.nx ?_))))
  refine CW.block ?_
  unfold code_Writer_Text.l1 at hh
  refine CW.loop (fun (σ0 : Int) ρ => match σ0 with | t11 => ∃ ρ' : Env, ρ = setl ρ' [(0, reg w), (9, reg list), (10, reg ((list.len : Int) : Int)), (11, reg t11)]) hh ⟨_, setl_eq ⟨rfl, ⟨rfl, ⟨rfl, ⟨rfl, trivial⟩⟩⟩⟩⟩ ?_
  clear hh
  rintro s1 t11 ρ h ⟨ρ', rfl⟩ hh
  refine .sr (.V (v_ilss rfl rfl) (.nx (.seq ?_)))
  refine CW.cond (decide (t11 < (list.len : Int))) rfl (fun hb_1 => ?_) (fun hb_1 => ?_)
  ·have hh := hh.1 hb_1
   refine CW.skip ?_
   refine QN.then_ ?_
   refine CW.seq ?_
   refine CW.block ?_
   refine .sr ?_
   obtain ⟨t13, ht13, hh⟩ := hh
   refine .V (v_idx_slP sl_231 rfl rfl ht13.1 ht13.2.1 ht13.2.2) (.L 0 na_9 get_9_all hh rfl (fun t14 hh => .A (reg t14) (.nx (.sr (.M (reg t14) (.V (v_len_str un_9 rfl) (.A (reg ((t14.size : Int) : Int)) (.nx (.sr (.M (reg w) (.M (reg w) ?_)))))))))))
   obtain ⟨p, hp, hh⟩ := hh
   refine .V (v_nilCheck (congrArg Value.pointer hp)) (.V (v_fieldAddr fl_145_0 rfl) (.L 0 na_130 get_145_b hh rfl (fun t21 hh => .M (reg ((t14.size : Int) : Int)) (.V (v_ishr (a := (t14.size : Int)) (b := 24) rfl rfl (by decide)) (.V (v_conv_u8 un_3 un_5 rfl) (.M (reg ((t14.size : Int) : Int)) (.V (v_ishr (a := (t14.size : Int)) (b := 16) rfl rfl (by decide)) (.V (v_conv_u8 un_3 un_5 rfl) (.M (reg ((t14.size : Int) : Int)) ?_)))))))))
   refine .V (v_ishr (a := (t14.size : Int)) (b := 8) rfl rfl (by decide)) (.V (v_conv_u8 un_3 un_5 rfl) (.M (reg ((t14.size : Int) : Int)) (.V (v_conv_u8 un_3 un_5 rfl) ?_)))
   refine mks_elim hh (fun pt33 t33 hpt33 ht33 hh => ?_)
   refine .e (e_mks [((toU8 (ishr (t14.size : Int) 24)) : UInt8), ((toU8 (ishr (t14.size : Int) 16)) : UInt8), ((toU8 (ishr (t14.size : Int) 8)) : UInt8), ((toU8 (t14.size : Int)) : UInt8)] hpt33 ht33 zo_5 sl_130 rfl rfl rfl rfl rfl ?_)
   refine .e (e_app sl_130 zo_5 by_5 rfl rfl rfl hh ?_)
   intro h t34 hh
   refine .V (v_nilCheck (congrArg Value.pointer hp)) (.V (v_fieldAddr fl_145_0 rfl) (.S (t34 : Sl) 0 sz_130 (one_sl _) len_code_Writer (len_sl _) (fun x => set_145_b x (t34 : Sl)) hh rfl rfl (fun _ hh => .nx ?_)))
   refine CW.region ?_
   refine .M (reg w) (.M (reg w) (.V (v_nilCheck (congrArg Value.pointer hp)) (.V (v_fieldAddr fl_145_0 rfl) (.L 0 na_130 get_145_b hh rfl (fun t41 hh => .M (reg t14) ?_)))))
   refine .e (e_apps sl_130 un_9 zo_5 by_5 rfl rfl rfl hh ?_)
   intro h t43 hh
   refine .V (v_nilCheck (congrArg Value.pointer hp)) (.V (v_fieldAddr fl_145_0 rfl) (.S (t43 : Sl) 0 sz_130 (one_sl _) len_code_Writer (len_sl _) (fun x => set_145_b x (t43 : Sl)) hh rfl rfl (fun _ hh => ?_)))
   refine .nil ?_
   refine QN.blockN ?_
   refine QN.then_ ?_
   refine CW.region ?_
   refine .V (v_iadd rfl rfl) (.M (reg ((iadd t11 (1 : Int)) : Int)) ?_)
   refine .nil ?_
   exact QN.thenJ ⟨(iadd t11 (1 : Int)), ⟨_, setl_eq ⟨rfl, ⟨rfl, ⟨rfl, ⟨rfl, trivial⟩⟩⟩⟩⟩, hh⟩
  ·have hh := hh.2 hb_1
   refine CW.exit ?_
   refine QN.thenExit ?_
   refine QN.thenExit ?_
   refine QN.blockExit ?_
   exact ret0n rfl ⟨(), rfl, hh⟩
theorem request_Write.ok (w : Pt) (q : api_Request) (k : Unit → H → Prop) (h : H) (hh : request_Write.b w q k h) : CallsH Prog 94 [reg w, reg q].toArray h fun v h' => ∃ r : Unit, v = reg r ∧ k r h' := by
 unfold request_Write.b at hh
 refine CallsH.of 48 Tryd.func94 rfl Tryd.ntmps94 rfl (fun w0 => ?_)
 refine .sr ?_
 refine box_elim hh (fun q_1 hq_1 hh => ?_)
 refine .e (e_boxP hq_1 rfl rfl rfl ?_)
 refine .nx (.sr (.V (v_fieldAddr fl_182_2 rfl) (.V (v_fieldAddr fl_180_4 rfl) (.LA 6 ag_178 get_182_Op_Change (fun _ => (len_api_Change _)) hh rfl (fun t7 hh => ?_)))))
 refine box_elim hh (fun x hx hh => ?_)
 refine .e (e_allocP hx zo_178 rfl ?_)
 refine .S (t7 : api_Change) 0 sz_178 (one_api_Change _) len_api_Change (len_api_Change _) (fun x => set_178_all x (t7 : api_Change)) hh rfl rfl (fun _ hh => .nx (.sr (.M (reg w) (.V (v_fieldAddr fl_182_0 rfl) (.L 0 na_3 get_182_Client hh rfl (fun t10 hh => .V (v_fieldAddr fl_182_1 rfl) (.L 1 na_3 get_182_Num hh rfl (fun t12 hh => .V (v_fieldAddr fl_182_2 rfl) (.V (v_fieldAddr fl_180_0 rfl) (.L 2 na_3 get_182_Op_Kind hh rfl (fun t15 hh => ?_)))))))))))
 refine mks_elim hh (fun pt16 t16 hpt16 ht16 hh => ?_)
 refine .e (e_mks [(t10 : Int), (t12 : Int), (t15 : Int)] hpt16 ht16 zo_3 sl_49 rfl rfl rfl rfl rfl ?_)
 refine .e (e_callP fn_92 rfl rfl hh ?_)
 intro h t17 hh
 refine .nx (.sr (.M (reg w) (.V (v_fieldAddr fl_182_2 rfl) (.V (v_fieldAddr fl_180_1 rfl) (.L 3 na_9 get_182_Op_Key hh rfl (fun t21 hh => .V (v_fieldAddr fl_182_2 rfl) (.V (v_fieldAddr fl_180_2 rfl) (.L 4 na_9 get_182_Op_Val hh rfl (fun t24 hh => .V (v_fieldAddr fl_182_2 rfl) (.V (v_fieldAddr fl_180_3 rfl) ?_))))))))))
 refine .L 5 na_9 get_182_Op_Old hh rfl (fun t27 hh => ?_)
 refine mks_elim hh (fun pt28 t28 hpt28 ht28 hh => ?_)
 refine .e (e_mks [(t21 : ByteArray), (t24 : ByteArray), (t27 : ByteArray)] hpt28 ht28 zo_9 sl_231 rfl rfl rfl rfl rfl ?_)
 refine .e (e_callP fn_118 rfl rfl hh ?_)
 intro h t29 hh
 refine .nx (.sr (.M (reg w) (.V (v_fieldAddr fl_178_0 rfl) (.L 0 na_3 get_178_Kind hh rfl (fun t32 hh => .V (v_fieldAddr fl_178_1 rfl) (.L 1 na_3 get_178_Id hh rfl (fun t34 hh => .V (v_fieldAddr fl_178_2 rfl) (.L 2 na_3 get_178_New hh rfl (fun t36 hh => .V (v_fieldAddr fl_178_3 rfl) (.V (v_fieldAddr fl_107_1 rfl) ?_))))))))))
 refine .L 35 na_3 get_178_Key_Height hh rfl (fun t39 hh => ?_)
 refine mks_elim hh (fun pt40 t40 hpt40 ht40 hh => ?_)
 refine .e (e_mks [(t32 : Int), (t34 : Int), (t36 : Int), (t39 : Int)] hpt40 ht40 zo_3 sl_49 rfl rfl rfl rfl rfl ?_)
 refine .e (e_callP fn_92 rfl rfl hh ?_)
 intro h t41 hh
 refine .nx ?_
 refine CW.region ?_
 refine .M (reg w) (.V (v_fieldAddr fl_178_3 rfl) (.V (v_fieldAddr fl_107_0 rfl) (.LA 3 ag_24 get_178_Key_Root (fun _ => (arr_len (n := 32) _)) hh rfl (fun t45 hh => ?_))))
 refine mks_elim hh (fun pt46 t46 hpt46 ht46 hh => ?_)
 refine .e (e_mks [(t45 : Arr 32 UInt8)] hpt46 ht46 zo_24 sl_31 rfl rfl rfl rfl rfl ?_)
 refine .e (e_callP fn_93 rfl rfl hh ?_)
 intro h t47 hh
 refine .nil ?_
 exact ret0n rfl ⟨(), rfl, hh⟩
theorem block_Write.ok (w : Pt) (b : api_Block) (k : Unit → H → Prop) (h : H) (hh : block_Write.b w b k h) : CallsH Prog 59 [reg w, reg b].toArray h fun v h' => ∃ r : Unit, v = reg r ∧ k r h' := by
 unfold block_Write.b at hh
 refine CallsH.of 39 Tryd.func59 rfl Tryd.ntmps59 rfl (fun w0 => ?_)
 refine .sr ?_
 refine box_elim hh (fun b_1 hb_1 hh => ?_)
 refine .e (e_boxP hb_1 rfl rfl rfl ?_)
 refine .nx (.sr (.M (reg w) (.V (v_fieldAddr fl_75_0 rfl) (.L 0 na_3 get_75_Epoch hh rfl (fun t8 hh => .V (v_fieldAddr fl_75_1 rfl) (.L 1 na_3 get_75_Height hh rfl (fun t10 hh => ?_)))))))
 refine mks_elim hh (fun pt11 t11 hpt11 ht11 hh => ?_)
 refine .e (e_mks [(t8 : Int), (t10 : Int)] hpt11 ht11 zo_3 sl_49 rfl rfl rfl rfl rfl ?_)
 refine .e (e_callP fn_92 rfl rfl hh ?_)
 intro h t12 hh
 refine .nx (.sr (.M (reg w) (.V (v_fieldAddr fl_75_2 rfl) (.LA 2 ag_24 get_75_Prev (fun _ => (arr_len (n := 32) _)) hh rfl (fun t15 hh => .V (v_fieldAddr fl_75_3 rfl) (.LA 34 ag_24 get_75_State (fun _ => (arr_len (n := 32) _)) hh rfl (fun t17 hh => .V (v_fieldAddr fl_75_4 rfl) (.LA 66 ag_24 get_75_Next (fun _ => (arr_len (n := 32) _)) hh rfl (fun t19 hh => ?_)))))))))
 refine mks_elim hh (fun pt20 t20 hpt20 ht20 hh => ?_)
 refine .e (e_mks [(t15 : Arr 32 UInt8), (t17 : Arr 32 UInt8), (t19 : Arr 32 UInt8)] hpt20 ht20 zo_24 sl_31 rfl rfl rfl rfl rfl ?_)
 refine .e (e_callP fn_93 rfl rfl hh ?_)
 intro h t21 hh
 refine .nx (.sr (.M (reg w) (.V (v_fieldAddr fl_75_5 rfl) (.L 98 na_73 get_75_Requests hh rfl (fun t24 hh => .V (v_len_sl (sl_73).1 rfl) ?_)))))
 refine mks_elim hh (fun pt26 t26 hpt26 ht26 hh => ?_)
 refine .e (e_mks [((t24.len : Int) : Int)] hpt26 ht26 zo_3 sl_49 rfl rfl rfl rfl rfl ?_)
 refine .e (e_callP fn_92 rfl rfl hh ?_)
 intro h t27 hh
 refine .nx (.sr (.V (v_fieldAddr fl_75_5 rfl) (.L 98 na_73 get_75_Requests hh rfl (fun t29 hh => .V (v_len_sl (sl_73).1 rfl) (.M (reg ((0 : Int) : Int)) (.nx ?_))))))
 refine CW.block ?_
 unfold block_Write.l1 at hh
 refine CW.loop (fun (σ0 : Int) ρ => match σ0 with | t31 => ∃ ρ' : Env, ρ = setl ρ' [(0, reg w), (29, reg t29), (30, reg ((t29.len : Int) : Int)), (31, reg t31)]) hh ⟨_, setl_eq ⟨rfl, ⟨rfl, ⟨rfl, ⟨rfl, trivial⟩⟩⟩⟩⟩ ?_
 clear hh
 rintro s1 t31 ρ h ⟨ρ', rfl⟩ hh
 refine .sr (.V (v_ilss rfl rfl) (.nx (.seq ?_)))
 refine CW.cond (decide (t31 < (t29.len : Int))) rfl (fun hb => ?_) (fun hb => ?_)
 ·have hh := hh.1 hb
  refine CW.skip ?_
  refine QN.then_ ?_
  refine CW.seq ?_
  refine CW.block ?_
  refine .sr ?_
  obtain ⟨t33, ht33, hh⟩ := hh
  refine .V (v_idx_slP sl_73 rfl rfl ht33.1 ht33.2.1 ht33.2.2) (.LA 0 ag_182 get_182_all (fun _ => (len_api_Request _)) hh rfl (fun t34 hh => ?_))
  refine box_elim hh (fun q hq hh => ?_)
  refine .e (e_allocP hq zo_182 rfl ?_)
  refine .S (t34 : api_Request) 0 sz_182 (one_api_Request _) len_api_Request (len_api_Request _) (fun x => set_182_all x (t34 : api_Request)) hh rfl rfl (fun _ hh => .nx ?_)
  refine CW.region ?_
  refine .M (reg w) (.LA 0 ag_182 get_182_all (fun _ => (len_api_Request _)) hh rfl (fun t36 hh => ?_))
  refine .e (e_callP fn_94 rfl rfl hh ?_)
  intro h t37 hh
  refine .nil ?_
  refine QN.blockN ?_
  refine QN.then_ ?_
  refine CW.region ?_
  refine .V (v_iadd rfl rfl) (.M (reg ((iadd t31 (1 : Int)) : Int)) ?_)
  refine .nil ?_
  exact QN.thenJ ⟨(iadd t31 (1 : Int)), ⟨_, setl_eq ⟨rfl, ⟨rfl, ⟨rfl, ⟨rfl, trivial⟩⟩⟩⟩⟩, hh⟩
 ·have hh := hh.2 hb
  refine CW.exit ?_
  refine QN.thenExit ?_
  refine QN.thenExit ?_
  refine QN.blockExit ?_
  exact ret0n rfl ⟨(), rfl, hh⟩
theorem block_Digest.ok (b : api_Block) (k : (Arr 32 UInt8) → H → Prop) (h : H) (hh : block_Digest.b b k h) : CallsH Prog 34 [reg b].toArray h fun v h' => ∃ r : Arr 32 UInt8, v = reg r ∧ k r h' := by
 unfold block_Digest.b at hh
 refine CallsH.of 15 Tryd.func34 rfl Tryd.ntmps34 rfl (fun w0 => ?_)
 refine .sr ?_
 refine box_elim hh (fun b_1 hb_1 hh => ?_)
 refine .e (e_boxP hb_1 rfl rfl rfl ?_)
 refine box_elim hh (fun t2 ht2 hh => ?_)
 refine .e (e_allocP ht2 zo_24 rfl ?_)
 refine .nx (.sr (.V (v_buildT code_Writer.zero zo_145 pl_145 rfl (rfl) rfl) ?_))
 refine box_elim hh (fun t5 ht5 hh => ?_)
 refine .e (e_boxP ht5 rfl rfl rfl ?_)
 refine .A (.pointer (some t5)) (.nx (.sr (.M (.pointer (some t5)) (.LA 0 ag_75 get_75_all (fun _ => (len_api_Block _)) hh rfl (fun t7 hh => ?_)))))
 refine .e (e_callP fn_59 rfl rfl hh ?_)
 intro h t8 hh
 refine .nx (.sr ?_)
 refine mks_elim hh (fun pt9 t9 hpt9 ht9 hh => ?_)
 refine .e (e_mks [((98 : UInt8) : UInt8), ((108 : UInt8) : UInt8), ((111 : UInt8) : UInt8), ((99 : UInt8) : UInt8), ((107 : UInt8) : UInt8)] hpt9 ht9 zo_5 sl_130 rfl rfl rfl rfl rfl ?_)
 refine .e (e_strish sl_130 un_5 rfl rfl hh ?_)
 intro h t10 hh
 refine .M (.pointer (some t5)) ?_
 refine .e (e_callP fn_61 rfl rfl hh ?_)
 intro h t12 hh
 refine mks_elim hh (fun pt13 t13 hpt13 ht13 hh => ?_)
 refine .e (e_mks [(t10 : Sl), (t12 : Sl)] hpt13 ht13 zo_130 sl_184 rfl rfl rfl rfl rfl ?_)
 refine .e (e_callP fn_60 rfl rfl hh ?_)
 intro h t14 hh
 refine .S (t14 : Arr 32 UInt8) 0 sz_24 (one_arr (n := 32) (fun _ => rfl) _) (fun _ => arr_len (n := 32) _) (arr_len (n := 32) _) (fun x => set_24_all x (t14 : Arr 32 UInt8)) hh rfl rfl (fun _ hh => .nx ?_)
 refine CW.ret ?_
 obtain ⟨r2, ⟨xr2, hxr2, hgr2⟩, hh⟩ := hh
 have hr2 := ld_id hxr2 hgr2
 exact retc rfl rfl ag_24 hr2 (arr_len (n := 32) _) ⟨(r2 : Arr 32 UInt8), rfl, hh⟩
theorem strC_map (x : ByteArray) : strC x = (x.data.toList.map enc).flatten := by
  rw [map_enc8]; rfl
theorem strL (x : ByteArray) : x.data.toList.length = x.size := by rw [Array.length_toList]; rfl
section
variable {h0 h : H} {S : List Nat} {L : List En} {T : Nat}
theorem _root_.Go.Sh.Sat.apps_ {s : Sl} {l : List UInt8} {x : ByteArray} {bytes : Nat} {z : List Value} {k : Sl → H → Prop} (i : Nat) (hs : Sat h0 S h L) (hi : L[i]? = some (own T 1 s l)) (hz : z.length = 1)
    (hbig : (l.length + x.size) * bytes ≤ maxBytes) (hlen : l.length + x.size ≤ 9223372036854775807) (hk : ∀ r h', Sat h0 S h' (L.set i (own T 1 r (l ++ x.data.toList))) → r.len = l.length + x.size → k r h') : apps T bytes z s x k h := by
  have ho : OwnA T 1 s l h := hs.at_ hi
  have hn : ∀ y : UInt8, (enc y).length = 1 := len_u8
  have hsl : s.len = l.length := (ho.sv hn).2.1
  refine ⟨(l.map enc).flatten, (ho.sv hn).1, fun hroom => ?_, fun hgrow => ⟨by rw [hsl]; exact hbig, by omega, fun p cap r hp hcap hr => ?_⟩⟩
  · rcases ho with ⟨ha, hl0, hc0, hl⟩ | ⟨b, spare, ha, hc, h2, h3, h4⟩
    · have hx0 : x.data.toList = [] := List.eq_nil_of_length_eq_zero (by rw [strL]; omega)
      have hx1 : x.size = 0 := by omega
      subst hl
      refine ⟨fun a h => (by rw [ha] at h; cases h), fun r hr => ?_⟩
      rw [ha]
      refine hk r h ?_ (by subst hr; simp only; omega)
      have : own T 1 r (([] : List UInt8) ++ x.data.toList) = own T 1 s ([] : List UInt8) := by
        have : r = s := by subst hr; cases s; simp only at hl0 hc0 ha hx1 ⊢; simp_all
        rw [this, hx0]; rfl
      rw [this]
      have : L.set i (own T 1 s ([] : List UInt8)) = L := by
        apply List.ext_getElem?
        intro j
        rw [List.getElem?_set]
        split
        · rename_i h; subst h; split <;> simp_all
        · rfl
      rw [this]; exact hs
    · have hput := hc.put (s.len * 1) (strC x) (by
        rw [List.length_append, enc_flat_len hn, strC_len, h4, hsl]; omega)
      obtain ⟨p1, p2, p3⟩ := hput
      rw [strC_len] at p3
      refine ⟨fun a h => (by rw [ha] at h; obtain rfl := Option.some.inj h; exact p3), fun r hr => ?_⟩
      rw [ha]
      refine hk r _ (hs.upd hi (by simp only [own]; rw [blk_some ha]; exact p2) (.inr ⟨b, spare.drop x.size, by subst hr; exact ha, ?_, by subst hr; simp [hsl, strL], by subst hr; simp [strL]; omega, ?_⟩) (own_loc _ _ _ _) ?_) (by subst hr; simp [hsl])
      · have e1 : ((l.map enc).flatten ++ spare).take (s.len * 1) = (l.map enc).flatten := List.take_left' (by rw [enc_flat_len hn, hsl])
        have e2 : ((l.map enc).flatten ++ spare).drop (s.len * 1 + (strC x).length) = spare.drop x.size := by
          rw [← List.drop_drop, List.drop_left' (by rw [enc_flat_len hn, hsl]), strC_len]
        rw [e1, e2] at p1
        rw [strC_map] at p1 ⊢
        simpa using p1
      · subst hr
        simp only [List.length_drop, h4, List.length_append, strL]
        omega
      · subst hr
        intro b' hb'
        simp only [own] at hb' ⊢
        have e : blk (⟨s.a, s.len + x.size, s.cap⟩ : Sl) = blk s := rfl
        rw [e] at hb'
        refine ⟨?_, .inl hb'⟩
        rw [blk_some ha] at hb'
        simp only [List.mem_singleton] at hb'
        subst hb'
        exact Nat.lt_of_lt_of_le hc.lt p2.size
  · subst hp
    have hnew := Cel.new h T ((l.map enc).flatten ++ strC x ++ (List.replicate (cap - (s.len + x.size)) z).flatten)
    refine hk r _ (hs.upd hi ((Fr.push _ _).mono (by simp)) (.inr ⟨h.size, (List.replicate (cap - (s.len + x.size)) z).flatten, by subst hr; rfl, ?_, by subst hr; simp [hsl, strL], by subst hr; simp [strL]; omega, ?_⟩) (own_loc _ _ _ _) ?_) (by subst hr; simp [hsl])
    · rw [strC_map] at hnew
      rw [strC_map]
      simpa using hnew
    · subst hr
      rw [flatten_len 1 _ (by intro y hy; simp only [List.mem_replicate] at hy; rw [hy.2]; exact hz)]
      simp only [List.length_replicate, List.length_append, hsl, strL]
    · subst hr
      intro b' hb'
      simp only [own, blk, List.mem_singleton] at hb'
      subst hb'
      exact ⟨by simp [newC], .inr (Nat.le_refl _)⟩
end
def textB (x : ByteArray) : List UInt8 := [toU8 (ishr (x.size : Int) 24), toU8 (ishr (x.size : Int) 16), toU8 (ishr (x.size : Int) 8), toU8 (x.size : Int)] ++ x.data.toList
theorem textB_len (x : ByteArray) : (textB x).length = 4 + x.size := by simp [textB, strL]; omega
def sizes (xs : List ByteArray) : Nat := (xs.map fun x => 4 + x.size).sum
theorem textBs_len (xs : List ByteArray) : (xs.map textB).flatten.length = sizes xs := by
  induction xs with
  | nil => rfl
  | cons x xs ih => simp only [List.map_cons, List.flatten_cons, List.length_append, ih, textB_len, sizes, List.sum_cons]
theorem sizes_take (xs : List ByteArray) (i : Nat) : sizes (xs.take i) ≤ sizes xs := by
  induction xs generalizing i with
  | nil => simp [sizes]
  | cons x xs ih =>
    cases i with
    | zero => simp [sizes]
    | succ i => have := ih i; simp only [sizes, List.take_succ_cons, List.map_cons, List.sum_cons] at this ⊢; omega
theorem Text_spec (p : Addr) (sl : Sl) (bs : List UInt8) (s : Sl) (xs : List ByteArray) {k : Unit → H → Prop} {h : H} (hw : WrA p sl bs h) (hv : SV 1 h s xs) (hd : ∀ b ∈ blk s, b ∉ p.block :: blk sl) (hbig : bs.length + sizes xs < 2 ^ 40) (hcnt : xs.length < 2 ^ 40)
    (hk : ∀ sl' h', Fr (p.block :: blk sl) h h' → WrA p sl' (bs ++ (xs.map textB).flatten) h' → (∀ b ∈ blk sl', b < h'.size ∧ (b ∈ p.block :: blk sl ∨ h.size ≤ b)) → k () h') : code_Writer_Text.b (some p) s k h := by
  unfold code_Writer_Text.b
  refine ifb_i (fun hc => by cases hc) (fun _ => ?_)
  unfold code_Writer_Text.l1
  have hsl : s.len = xs.length := hv.2.1
  refine ⟨fun (t : Int) h' => ∃ i : Nat, t = i ∧ i ≤ xs.length ∧ ∃ sl', Sat h (p.block :: blk sl) h' [cel 145 p (enc (⟨sl'⟩ : code_Writer)), own 5 1 sl' (bs ++ ((xs.take i).map textB).flatten)], fun t _ => (xs.length - t).toNat, ⟨0, rfl, Nat.zero_le _, sl, by simpa using Sat.initW hw⟩, ?_⟩
  rintro t h2 ⟨i, rfl, hi, sl', hs⟩
  refine ifb_i (fun hc => ?_) (fun hc => ?_)
  · have hi' : i < xs.length := by have : (i : Int) < s.len := by simpa using hc
                                   omega
    have hgi : xs[i]? = some xs[i] := List.getElem?_eq_getElem hi'
    refine sidx_ld (n := 1) (fun _ => rfl) (hv.fr' hs.fr hd) (Int.natCast_nonneg _) (by rw [Int.toNat_natCast]; exact hgi) ?_
    have hsz := sizes_take xs (i + 1)
    have ht : xs.take (i + 1) = xs.take i ++ [xs[i]] := by rw [List.take_add_one, hgi]; rfl
    rw [ht] at hsz
    have hsz2 : sizes (xs.take i) + (4 + (xs[i]).size) ≤ sizes xs := by
      have e : sizes (xs.take i ++ [xs[i]]) = sizes (xs.take i) + (4 + (xs[i]).size) := by unfold sizes; rw [List.map_append, List.sum_append]; simp
      omega
    generalize hni : xs[i] = x at *
    refine nn_i ?_
    refine hs.ld_ 0 rfl ?_
    refine hs.mks_ (n := 1) (fun t33 h3 hs3 _ _ => ?_)
    have hl4 : (bs ++ ((xs.take i).map textB).flatten).length = bs.length + sizes (xs.take i) := by rw [List.length_append, textBs_len]
    refine hs3.app_ 2 rfl (hs3.ownSV 0 rfl len_u8) len_u8 one_u8 rfl ?_ ?_ (fun r h5 hs5 hl5 => ?_)
    · rw [hl4]; simp only [List.length_cons, List.length_nil, maxBytes]; omega
    · rw [hl4]; simp only [List.length_cons, List.length_nil]; omega
    refine hs5.st_ 1 rfl len_wr (fun h6 hs6 _ => ?_)
    refine hs6.ld_ 1 rfl ?_
    refine hs6.apps_ 2 rfl rfl ?_ ?_ (fun r2 h7 hs7 hl7 => ?_)
    · rw [List.length_append, hl4]; simp only [List.length_cons, List.length_nil, maxBytes]; omega
    · rw [List.length_append, hl4]; simp only [List.length_cons, List.length_nil]; omega
    refine hs7.st_ 1 rfl len_wr (fun h8 hs8 _ => ?_)
    have e : iadd (i : Int) 1 = ((i + 1 : Nat) : Int) := by rw [iadd_eq (by omega) (by omega)]; omega
    rw [e]
    refine ⟨⟨i + 1, rfl, hi', r2, ?_⟩, by dsimp only; omega⟩
    rw [ht]
    have := hs8.drop (L' := [cel 145 p (enc (⟨r2⟩ : code_Writer)), own 5 1 r2 (bs ++ ((xs.take i).map textB).flatten ++ [toU8 (ishr (x.size : Int) 24), toU8 (ishr (x.size : Int) 16), toU8 (ishr (x.size : Int) 8), toU8 (x.size : Int)] ++ x.data.toList)]) (List.sublist_cons_self _ _)
    simpa only [textB, List.map_append, List.flatten_append, List.map_cons, List.map_nil, List.flatten_cons, List.flatten_nil, List.append_nil, List.append_assoc] using this
  · have hi' : i = xs.length := by
      have : ¬ (i : Int) < s.len := by simpa using hc
      omega
    subst hi'
    rw [List.take_length] at hs
    obtain ⟨h1, h3⟩ := Sat.toW 0 1 hs rfl rfl (by decide)
    exact hk sl' _ hs.fr h1 h3
section
variable {h0 h : H} {S : List Nat} {L : List En}
theorem _root_.Go.Sh.Sat.text_ {p : Addr} {sl s : Sl} {bs : List UInt8} {xs : List ByteArray} {k : Unit → H → Prop} (i : Nat) (hs : Sat h0 S h L) (hi : L[i]? = some (wrt p sl bs)) (hv : SV 1 h s xs) (hd : ∀ b ∈ blk s, b ∉ p.block :: blk sl) (hbig : bs.length + sizes xs < 2 ^ 40) (hcnt : xs.length < 2 ^ 40)
    (hk : ∀ sl' h', Sat h0 S h' (L.set i (wrt p sl' (bs ++ (xs.map textB).flatten))) → k () h') : call (β := Unit) Prog 118 [reg ((some p : Pt) : Pt), reg (s : Sl)] k h := by
  have hw : WrA p sl bs h := hs.at_ hi
  refine code_Writer_Text.ok _ _ _ _ (Text_spec p sl bs s xs hw hv hd hbig hcnt (fun sl' h3 hf3 hw3 hb3 => ?_))
  refine hk sl' h3 (hs.upd hi hf3 hw3 (wrt_loc _ _ _) ?_)
  intro b hb
  simp only [wrt, List.mem_cons] at hb ⊢
  rcases hb with rfl | hb
  · exact ⟨hw3.1.lt, .inl (.inl rfl)⟩
  · simpa using hb3 b hb
end
/-- a request's bytes -/
def reqB (q : api_Request) : List UInt8 := ([q.Client, q.Num, q.Op.Kind].map numB).flatten ++ ([q.Op.Key, q.Op.Val, q.Op.Old].map textB).flatten ++ ([q.Op.Change.Kind, q.Op.Change.Id, q.Op.Change.New, q.Op.Change.Key.Height].map numB).flatten ++ List.ofFn q.Op.Change.Key.Root
def reqN (q : api_Request) : Nat := 100 + q.Op.Key.size + q.Op.Val.size + q.Op.Old.size
theorem reqB_len (q : api_Request) : (reqB q).length = reqN q := by
  unfold reqB
  simp only [List.length_append, textBs_len, List.length_ofFn]
  rw [flatten_len 8 _ (by intro x hx; simp only [List.mem_map] at hx; obtain ⟨y, _, rfl⟩ := hx; rfl), flatten_len 8 _ (by intro x hx; simp only [List.mem_map] at hx; obtain ⟨y, _, rfl⟩ := hx; rfl)]
  simp [sizes, reqN]; omega
theorem Req_spec (p : Addr) (sl : Sl) (bs : List UInt8) (q : api_Request) {k : Unit → H → Prop} {h : H} (hw : WrA p sl bs h) (hbig : bs.length + reqN q < 2 ^ 39)
    (hk : ∀ sl' h', Fr (p.block :: blk sl) h h' → WrA p sl' (bs ++ reqB q) h' → (∀ b ∈ blk sl', b < h'.size ∧ (b ∈ p.block :: blk sl ∨ h.size ≤ b)) → k () h') : request_Write.b (some p) q k h := by
  unfold request_Write.b
  have hs : Sat h (p.block :: blk sl) h [wrt p sl bs] := Sat.init1 (e := wrt p sl bs) hw (wrt_loc _ _ _) hw.lt
  unfold reqN at hbig
  refine hs.box_ (fun t1 h1 hs1 _ _ => ?_)
  refine hs1.ld_ 0 rfl ?_
  refine hs1.box_ (fun x h2 hs2 _ _ => ?_)
  refine hs2.st_ 0 rfl len_api_Change (fun h3 hs3 _ => ?_)
  refine hs3.ld_ 1 rfl (hs3.ld_ 1 rfl (hs3.ld_ 1 rfl ?_))
  refine hs3.mks_ (n := 1) (fun s1 h4 hs4 _ _ => ?_)
  refine hs4.num_ 3 rfl (hs4.ownSV 0 rfl len_i) (hs4.disj (i := 0) (j := 3) rfl rfl (by decide)) (by simp; omega) (fun sl1 h5 hs5 => ?_)
  refine hs5.ld_ 2 rfl (hs5.ld_ 2 rfl (hs5.ld_ 2 rfl ?_))
  refine hs5.mks_ (n := 1) (fun s2 h6 hs6 _ _ => ?_)
  refine hs6.text_ 4 rfl (hs6.ownSV 0 rfl (fun _ => rfl)) (hs6.disj (i := 0) (j := 4) rfl rfl (by decide)) (by simp [sizes, numB]; omega) (by simp) (fun sl2 h7 hs7 => ?_)
  refine hs7.ld_ 2 rfl (hs7.ld_ 2 rfl (hs7.ld_ 2 rfl (hs7.ld_ 2 rfl ?_)))
  refine hs7.mks_ (n := 1) (fun s3 h8 hs8 _ _ => ?_)
  refine hs8.num_ 5 rfl (hs8.ownSV 0 rfl len_i) (hs8.disj (i := 0) (j := 5) rfl rfl (by decide)) (by simp [numB, textB, strL]; omega) (fun sl3 h9 hs9 => ?_)
  refine hs9.ld_ 3 rfl ?_
  refine hs9.mks_ (n := 32) (fun s4 h10 hs10 _ _ => ?_)
  refine hs10.dig_ 6 rfl (hs10.ownSV 0 rfl arr_len) (hs10.disj (i := 0) (j := 6) rfl rfl (by decide)) (by simp [numB, textB, strL]; omega) (fun sl4 h11 hs11 => ?_)
  have hw11 : WrA p sl4 _ h11 := hs11.at_ (i := 6) rfl
  refine hk sl4 h11 hs11.fr ?_ ?_
  · have e : ∀ a b : List UInt8, a = b → WrA p sl4 a h11 → WrA p sl4 b h11 := fun a b e H => e ▸ H
    refine e _ _ ?_ hw11
    simp [reqB]
  · intro b hb
    exact (hs11.ok _ (List.mem_of_getElem? (i := 6) rfl)).2.2 b (by simp [wrt, hb])
def reqsN (qs : List api_Request) : Nat := (qs.map reqN).sum
theorem reqsB_len (qs : List api_Request) : (qs.map reqB).flatten.length = reqsN qs := by
  induction qs with
  | nil => rfl
  | cons x xs ih => simp only [List.map_cons, List.flatten_cons, List.length_append, ih, reqB_len, reqsN, List.sum_cons]
theorem reqsN_take (xs : List api_Request) (i : Nat) (x : api_Request) (hi : xs[i]? = some x) : reqsN (xs.take i) + reqN x ≤ reqsN xs := by
  induction xs generalizing i with
  | nil => simp at hi
  | cons y xs ih =>
    cases i with
    | zero => simp at hi; subst hi; simp [reqsN]
    | succ i =>
      have := ih i (by simpa using hi)
      simp only [reqsN, List.take_succ_cons, List.map_cons, List.sum_cons] at this ⊢; omega
theorem reqsN_ge (qs : List api_Request) : 100 * qs.length ≤ reqsN qs := by
  induction qs with
  | nil => simp
  | cons x xs ih =>
    have h1 : 100 ≤ reqN x := by unfold reqN; omega
    simp only [reqsN, List.map_cons, List.sum_cons, List.length_cons] at ih ⊢; omega
/-- a block's bytes -/
def headN (b : api_Block) (n : Nat) : List UInt8 := ([b.Epoch, b.Height].map numB).flatten ++ ([b.Prev, b.State, b.Next].map List.ofFn).flatten ++ numB (n : Int)
theorem headN_len (b : api_Block) (n : Nat) : (headN b n).length = 120 := by simp [headN, numB]
def blkB (b : api_Block) (qs : List api_Request) : List UInt8 := headN b qs.length ++ (qs.map reqB).flatten
theorem blkB_len (b : api_Block) (qs : List api_Request) : (blkB b qs).length = 120 + reqsN qs := by rw [blkB, List.length_append, headN_len, reqsB_len]
/-- a block's digest -/
def digB (b : api_Block) (qs : List api_Request) : Dig := shaF ([98, 108, 111, 99, 107] ++ blkB b qs)
theorem BWrite_spec (p : Addr) (b : api_Block) (qs : List api_Request) {k : Unit → H → Prop} {h : H} (hw : WrA p Sl.nil [] h) (hv : SVz 42 h b.Requests qs) (hd : qs ≠ [] → ∀ x ∈ blk b.Requests, x ≠ p.block) (hbig : reqsN qs < 2 ^ 38)
    (hk : ∀ sl' h', Fr [p.block] h h' → WrA p sl' (blkB b qs) h' → (∀ b ∈ blk sl', b < h'.size ∧ (b ∈ [p.block] ∨ h.size ≤ b)) → k () h') : block_Write.b (some p) b k h := by
  unfold block_Write.b
  have hs : Sat h [p.block] h [wrt p Sl.nil []] := Sat.init1 (e := wrt p Sl.nil []) hw (wrt_loc _ _ _) hw.lt
  have hlen : b.Requests.len = qs.length := hv.1
  have hge := reqsN_ge qs
  refine hs.box_ (fun b1 h1 hs1 _ _ => ?_)
  refine hs1.ld_ 0 rfl (hs1.ld_ 0 rfl ?_)
  refine hs1.mks_ (n := 1) (fun s1 h2 hs2 _ _ => ?_)
  refine hs2.num_ 2 rfl (hs2.ownSV 0 rfl len_i) (hs2.disj (i := 0) (j := 2) rfl rfl (by decide)) (by simp) (fun sl1 h3 hs3 => ?_)
  refine hs3.ld_ 1 rfl (hs3.ld_ 1 rfl (hs3.ld_ 1 rfl ?_))
  refine hs3.mks_ (n := 32) (fun s2 h4 hs4 _ _ => ?_)
  refine hs4.dig_ 3 rfl (hs4.ownSV 0 rfl arr_len) (hs4.disj (i := 0) (j := 3) rfl rfl (by decide)) (by simp [numB]) (fun sl2 h5 hs5 => ?_)
  refine hs5.ld_ 2 rfl ?_
  refine hs5.mks_ (n := 1) (fun s3 h6 hs6 _ _ => ?_)
  refine hs6.num_ 4 rfl (hs6.ownSV 0 rfl len_i) (hs6.disj (i := 0) (j := 4) rfl rfl (by decide)) (by simp [numB]) (fun sl3 h7 hs7 => ?_)
  refine hs7.ld_ 3 rfl ?_
  have hs8 : Sat h [p.block] h7 [wrt p sl3 (headN b qs.length)] := by
    have := hs7.drop (L' := [wrt p sl3 ([] ++ List.flatten (List.map numB [b.Epoch, b.Height]) ++ (List.map List.ofFn [b.Prev, b.State, b.Next]).flatten ++ (List.map numB [(b.Requests.len : Int)]).flatten)]) (by
      refine List.Sublist.trans ?_ (List.sublist_cons_self _ _)
      refine List.Sublist.trans ?_ (List.sublist_cons_self _ _)
      refine List.Sublist.trans ?_ (List.sublist_cons_self _ _)
      exact List.sublist_cons_self _ _)
    rw [hlen] at this
    simpa [headN] using this
  unfold block_Write.l1
  refine ⟨fun (t : Int) h' => ∃ i : Nat, t = i ∧ i ≤ qs.length ∧ ∃ sl', Sat h [p.block] h' [wrt p sl' (headN b qs.length ++ ((qs.take i).map reqB).flatten)], fun t _ => (qs.length - t).toNat, ⟨0, rfl, Nat.zero_le _, sl3, by simpa using hs8⟩, ?_⟩
  clear hs hs1 hs2 hs3 hs4 hs5 hs6 hs7 hs8
  rintro t h2 ⟨i, rfl, hi, sl', hs⟩
  refine ifb_i (fun hc => ?_) (fun hc => ?_)
  · have hi' : i < qs.length := by have : (i : Int) < b.Requests.len := by simpa using hc
                                   omega
    have hne : qs ≠ [] := by rintro rfl; simp at hi'
    have hgi : qs[i]? = some qs[i] := List.getElem?_eq_getElem hi'
    have hv2 : SVz 42 h2 b.Requests qs := ⟨hv.1, fun _ => (hv.2 hne).fr' hs.fr (fun x hx => by simpa using hd hne x hx)⟩
    refine sidx_ldz len_api_Request hv2 (Int.natCast_nonneg _) (by rw [Int.toNat_natCast]; exact hgi) ?_
    have hsz := reqsN_take qs i _ hgi
    have ht : qs.take (i + 1) = qs.take i ++ [qs[i]] := by rw [List.take_add_one, hgi]; rfl
    generalize qs[i] = q at *
    refine hs.box_ (fun q1 h3 hs3 _ _ => ?_)
    refine hs3.st_ 0 rfl len_api_Request (fun h4 hs4 _ => ?_)
    refine hs4.ld_ 0 rfl ?_
    have hw4 : WrA p sl' (headN b qs.length ++ ((qs.take i).map reqB).flatten) h4 := hs4.at_ (i := 1) rfl
    refine request_Write.ok _ _ _ _ (Req_spec p sl' _ q hw4 (by rw [List.length_append, headN_len, reqsB_len]; omega) (fun sl2 h5 hf5 hw5 hb5 => ?_))
    have hs5 := hs4.upd (i := 1) (e := wrt p sl' (headN b qs.length ++ ((qs.take i).map reqB).flatten)) (e' := wrt p sl2 (headN b qs.length ++ ((qs.take i).map reqB).flatten ++ reqB q)) rfl hf5 hw5 (wrt_loc _ _ _) (by
      intro b hb
      simp only [wrt, List.mem_cons] at hb ⊢
      rcases hb with rfl | hb
      · exact ⟨hw5.1.lt, .inl (.inl rfl)⟩
      · simpa using hb5 b hb)
    have e : iadd (i : Int) 1 = ((i + 1 : Nat) : Int) := by rw [iadd_eq (by omega) (by omega)]; omega
    rw [e]
    refine ⟨⟨i + 1, rfl, hi', sl2, ?_⟩, by dsimp only; omega⟩
    rw [ht]
    have := hs5.drop (L' := [wrt p sl2 (headN b qs.length ++ ((qs.take i).map reqB).flatten ++ reqB q)]) (List.sublist_cons_self _ _)
    simpa only [List.map_append, List.flatten_append, List.map_cons, List.map_nil, List.flatten_cons, List.flatten_nil, List.append_nil, List.append_assoc] using this
  · have hi' : i = qs.length := by
      have : ¬ (i : Int) < b.Requests.len := by simpa using hc
      omega
    subst hi'
    rw [List.take_length] at hs
    have hw2 : WrA p sl' _ h2 := hs.at_ (i := 0) rfl
    refine hk sl' _ hs.fr hw2 (fun x hx => ?_)
    exact (hs.ok _ (List.mem_of_getElem? (i := 0) rfl)).2.2 x (by simp [wrt, hx])
theorem BDig_spec (b : api_Block) (qs : List api_Request) {k : Dig → H → Prop} {h : H} (hT : Tb h) (hv : SVz 42 h b.Requests qs) (hbig : reqsN qs < 2 ^ 38) (hk : ∀ h', Ext h h' → k (digB b qs) h') : call (β := Dig) Prog 34 [reg (b : api_Block)] k h := by
  refine block_Digest.ok _ _ _ ?_
  unfold block_Digest.b
  refine (Sat.init h).box_ (fun a h1 hs1 _ _ => ?_)
  refine hs1.box_ (fun t h2 hs2 _ _ => ?_)
  refine hs2.newW (fun w h3 hs3 => ?_)
  refine hs3.ld_ 2 rfl ?_
  have hw : WrA w Sl.nil [] h3 := hs3.at_ (i := 0) rfl
  have hwf : h.size ≤ w.block := by
    have := (hs3.ok _ (List.mem_of_getElem? (i := 0) rfl)).2.2 w.block (by simp [wrt])
    simpa using this.2
  refine block_Write.ok _ _ _ _ (BWrite_spec w b qs hw (hv.ext hs3.fr) (fun hne x hx => ?_) hbig (fun sl' h4 hf4 hw4 hb4 => ?_))
  · have := (hv.2 hne).lt x hx
    omega
  have hs4 := hs3.upd (i := 0) (e := wrt w Sl.nil []) (e' := wrt w sl' (blkB b qs)) rfl (hf4.mono (by simp [wrt])) hw4 (wrt_loc _ _ _) (by
    intro x hx
    simp only [wrt, List.mem_cons] at hx ⊢
    rcases hx with rfl | hx
    · exact ⟨hw4.1.lt, .inl (.inl rfl)⟩
    · have := hb4 x hx
      simp only [List.mem_singleton] at this
      exact ⟨this.1, this.2.elim (fun e => .inl (.inl e)) .inr⟩)
  refine hs4.mks_ (n := 1) (fun s1 h5 hs5 _ _ => ?_)
  refine hs5.strish_ 0 rfl (by simp) (fun h6 hs6 => ?_)
  have hlen := blkB_len b qs
  have hne : blkB b qs ≠ [] := by intro h0; rw [h0] at hlen; simp at hlen; omega
  refine hs6.bytes_ 1 rfl hne (by rw [hlen]; omega) (fun r h7 hs7 => ?_)
  refine hs7.mks_ (n := 1) (fun sl h8 hs8 _ _ => ?_)
  refine sha_Of.ok _ _ _ (Of_spec sl [[98, 108, 111, 99, 107], blkB b qs] (hT.fr hs8.fr (by simp)) (.of (hs8.ownSV 0 rfl len_sl) (.cons (hs8.rdoSV 2 rfl) (.cons (hs8.ownSV 1 rfl len_u8) .nil))) (by simp [hlen]; omega) (by simp) (fun h9 hx9 => ?_))
  have hs9 := hs8.ext hx9
  refine hs9.st_ 4 rfl arr_len (fun h10 hs10 _ => ?_)
  refine hs10.ld_ 4 rfl ?_
  have := hk h10 hs10.fr
  simpa only [digB, List.flatten_cons, List.flatten_nil, List.append_nil] using this
theorem slices_Clone_Member.ok (s : Sl) (k : Sl → H → Prop) (h : H) (hh : slices_Clone_Member.b s k h) : CallsH Prog 56 [reg s].toArray h fun v h' => ∃ r : Sl, v = reg r ∧ k r h' := by
 unfold slices_Clone_Member.b at hh
 refine CallsH.of 8 Tryd.func56 rfl Tryd.ntmps56 rfl (fun w0 => ?_)
 refine .sr (.A (reg (Sl.nil : Sl)) (.nx (.seq (.sr (.M (reg s) (.V (v_eq_slnil (sl_52).1 rfl rfl) (.nx ?_)))))))
 refine CW.cond s.a.isNone rfl (fun hb => ?_) (fun hb => ?_)
 ·have hh := hh.1 hb
  refine .sr (.A (reg (Sl.nil : Sl)) (.nx ?_))
  refine CW.ret ?_
  refine QN.thenRet ?_
  exact ret1 rfl rfl ⟨(Sl.nil : Sl), rfl, hh⟩
 ·have hh := hh.2 hb
  refine CW.skip ?_
  refine QN.then_ ?_
  refine .sr ?_
  refine mks_elim hh (fun pt5 t5 hpt5 ht5 hh => ?_)
  refine .e (e_mks ([] : List api_Member) hpt5 ht5 zo_110 sl_52 rfl rfl rfl rfl rfl ?_)
  refine .M (reg s) ?_
  refine .e (e_app sl_52 zo_110 by_110 rfl rfl rfl hh ?_)
  intro h t7 hh
  refine .A (reg t7) (.nx ?_)
  refine CW.ret ?_
  exact ret1 rfl rfl ⟨(t7 : Sl), rfl, hh⟩
theorem slices_Clone_Request.ok (s : Sl) (k : Sl → H → Prop) (h : H) (hh : slices_Clone_Request.b s k h) : CallsH Prog 97 [reg s].toArray h fun v h' => ∃ r : Sl, v = reg r ∧ k r h' := by
 unfold slices_Clone_Request.b at hh
 refine CallsH.of 8 Tryd.func97 rfl Tryd.ntmps97 rfl (fun w0 => ?_)
 refine .sr (.A (reg (Sl.nil : Sl)) (.nx (.seq (.sr (.M (reg s) (.V (v_eq_slnil (sl_73).1 rfl rfl) (.nx ?_)))))))
 refine CW.cond s.a.isNone rfl (fun hb => ?_) (fun hb => ?_)
 ·have hh := hh.1 hb
  refine .sr (.A (reg (Sl.nil : Sl)) (.nx ?_))
  refine CW.ret ?_
  refine QN.thenRet ?_
  exact ret1 rfl rfl ⟨(Sl.nil : Sl), rfl, hh⟩
 ·have hh := hh.2 hb
  refine CW.skip ?_
  refine QN.then_ ?_
  refine .sr ?_
  refine mks_elim hh (fun pt5 t5 hpt5 ht5 hh => ?_)
  refine .e (e_mks ([] : List api_Request) hpt5 ht5 zo_182 sl_73 rfl rfl rfl rfl rfl ?_)
  refine .M (reg s) ?_
  refine .e (e_app sl_73 zo_182 by_182 rfl rfl rfl hh ?_)
  intro h t7 hh
  refine .A (reg t7) (.nx ?_)
  refine CW.ret ?_
  exact ret1 rfl rfl ⟨(t7 : Sl), rfl, hh⟩
theorem round_copied.ok (b : api_Block) (k : api_Block → H → Prop) (h : H) (hh : round_copied.b b k h) : CallsH Prog 69 [reg b].toArray h fun v h' => ∃ r : api_Block, v = reg r ∧ k r h' := by
 unfold round_copied.b at hh
 refine CallsH.of 8 Tryd.func69 rfl Tryd.ntmps69 rfl (fun w0 => ?_)
 refine .sr ?_
 refine box_elim hh (fun b_1 hb_1 hh => ?_)
 refine .e (e_boxP hb_1 rfl rfl rfl ?_)
 refine box_elim hh (fun t2 ht2 hh => ?_)
 refine .e (e_allocP ht2 zo_75 rfl ?_)
 refine .nx (.sr (.V (v_fieldAddr fl_75_5 rfl) (.L 98 na_73 get_75_Requests hh rfl (fun t4 hh => ?_))))
 refine .e (e_callP fn_97 rfl rfl hh ?_)
 intro h t5 hh
 refine .V (v_fieldAddr fl_75_5 rfl) (.S (t5 : Sl) 98 sz_73 (one_sl _) len_api_Block (len_sl _) (fun x => set_75_Requests x (t5 : Sl)) hh rfl rfl (fun _ hh => .nx (.sr (.LA 0 ag_75 get_75_all (fun _ => (len_api_Block _)) hh rfl (fun t7 hh => .S (t7 : api_Block) 0 sz_75 (one_api_Block _) len_api_Block (len_api_Block _) (fun x => set_75_all x (t7 : api_Block)) hh rfl rfl (fun _ hh => .nx ?_))))))
 refine CW.ret ?_
 obtain ⟨r2, ⟨xr2, hxr2, hgr2⟩, hh⟩ := hh
 have hr2 := ld_id hxr2 hgr2
 exact retc rfl rfl ag_75 hr2 (len_api_Block _) ⟨(r2 : api_Block), rfl, hh⟩
theorem SVz.r {α : Type} [Ty α] {n : Nat} {h : H} {s : Sl} {l : List α} (hv : SVz n h s l) : SlR h s n (l.map enc).flatten := by
  by_cases hl : l = []
  · subst hl; exact .inr ⟨hv.1, rfl⟩
  · exact .inl (hv.2 hl).1
theorem CloneR_spec (s : Sl) (qs : List api_Request) {k : Sl → H → Prop} {h : H} (hv : SVz 42 h s qs) (hb : qs.length < 2 ^ 30)
    (hk : ∀ r h', Ext h h' → OwnA 182 42 r qs h' → (∀ b ∈ blk r, h.size ≤ b ∧ b < h'.size) → k r h') : call (β := Sl) Prog 97 [reg (s : Sl)] k h := by
  refine slices_Clone_Request.ok _ _ _ ?_
  unfold slices_Clone_Request.b
  refine ifb_i (fun hc => ?_) (fun hc => ?_)
  · have hl : qs = [] := by
      by_cases hl : qs = []
      · exact hl
      · rcases (hv.2 hl).1 with ⟨_, h0, _⟩ | ⟨a, ha, _⟩
        · exact List.eq_nil_of_length_eq_zero (by rw [← hv.1]; exact h0)
        · rw [ha] at hc; cases hc
    subst hl
    exact hk _ _ (Fr.refl _ _) (.inl ⟨rfl, rfl, rfl, rfl⟩) (by simp [blk, Sl.nil])
  · refine (Sat.init h).mks_ (n := 42) (fun t h1 hs1 _ hx1 => ?_)
    refine hs1.appR_ 0 rfl (hv.ext hx1).r hv.1 len_api_Request one_api_Request (len_api_Request _) ?_ ?_ (fun r h2 hs2 _ => ?_)
    · simp only [List.length_nil, maxBytes]; omega
    · simp only [List.length_nil]; omega
    refine hk r h2 hs2.fr (hs2.at_ (i := 0) rfl) (fun b hb' => ?_)
    have := (hs2.ok _ (List.mem_of_getElem? (i := 0) rfl)).2.2 b hb'
    simpa using And.intro this.2 this.1
theorem CloneM_spec (s : Sl) (ms : List api_Member) {k : Sl → H → Prop} {h : H} (hv : SVz 34 h s ms) (hb : ms.length < 2 ^ 30)
    (hk : ∀ r h', Ext h h' → OwnA 110 34 r ms h' → (∀ b ∈ blk r, h.size ≤ b ∧ b < h'.size) → k r h') : call (β := Sl) Prog 56 [reg (s : Sl)] k h := by
  refine slices_Clone_Member.ok _ _ _ ?_
  unfold slices_Clone_Member.b
  refine ifb_i (fun hc => ?_) (fun hc => ?_)
  · have hl : ms = [] := by
      by_cases hl : ms = []
      · exact hl
      · rcases (hv.2 hl).1 with ⟨_, h0, _⟩ | ⟨a, ha, _⟩
        · exact List.eq_nil_of_length_eq_zero (by rw [← hv.1]; exact h0)
        · rw [ha] at hc; cases hc
    subst hl
    exact hk _ _ (Fr.refl _ _) (.inl ⟨rfl, rfl, rfl, rfl⟩) (by simp [blk, Sl.nil])
  · refine (Sat.init h).mks_ (n := 34) (fun t h1 hs1 _ hx1 => ?_)
    refine hs1.appR_ 0 rfl (hv.ext hx1).r hv.1 len_api_Member one_api_Member (len_api_Member _) ?_ ?_ (fun r h2 hs2 _ => ?_)
    · simp only [List.length_nil, maxBytes]; omega
    · simp only [List.length_nil]; omega
    refine hk r h2 hs2.fr (hs2.at_ (i := 0) rfl) (fun b hb' => ?_)
    have := (hs2.ok _ (List.mem_of_getElem? (i := 0) rfl)).2.2 b hb'
    simpa using And.intro this.2 this.1
theorem copied_spec (b : api_Block) (qs : List api_Request) {k : api_Block → H → Prop} {h : H} (hv : SVz 42 h b.Requests qs) (hb : qs.length < 2 ^ 30)
    (hk : ∀ r h', Ext h h' → OwnA 182 42 r qs h' → (∀ x ∈ blk r, h.size ≤ x ∧ x < h'.size) → k { b with Requests := r } h') : call (β := api_Block) Prog 69 [reg (b : api_Block)] k h := by
  refine round_copied.ok _ _ _ ?_
  unfold round_copied.b
  refine (Sat.init h).box_ (fun p h1 hs1 _ _ => ?_)
  refine hs1.box_ (fun t h2 hs2 _ _ => ?_)
  refine hs2.ld_ 1 rfl ?_
  refine CloneR_spec _ qs (hv.ext hs2.fr) hb (fun r h3 hx3 ho3 hb3 => ?_)
  have hs3 := hs2.add (e := own 182 42 r qs) hx3 ho3 (own_loc _ _ _ _) hb3
  refine hs3.st_ 2 rfl len_api_Block (fun h4 hs4 _ => ?_)
  refine hs4.ld_ 2 rfl ?_
  refine hs4.st_ 1 rfl len_api_Block (fun h5 hs5 _ => ?_)
  refine hs5.ld_ 1 rfl ?_
  refine hk r h5 hs5.fr (hs5.at_ (i := 0) rfl) (fun x hx => ?_)
  have := (hs5.ok _ (List.mem_of_getElem? (i := 0) rfl)).2.2 x hx
  simpa using And.intro this.2 this.1
theorem config_Faults.ok (c : api_Config) (k : Int → H → Prop) (h : H) (hh : config_Faults.b c k h) : CallsH Prog 53 [reg c].toArray h fun v h' => ∃ r : Int, v = reg r ∧ k r h' := by
 unfold config_Faults.b at hh
 refine CallsH.of 9 Tryd.func53 rfl Tryd.ntmps53 rfl (fun w0 => ?_)
 refine .sr ?_
 refine box_elim hh (fun c_1 hc_1 hh => ?_)
 refine .e (e_boxP hc_1 rfl rfl rfl ?_)
 refine .A (reg ((0 : Int) : Int)) (.nx (.sr (.V (v_fieldAddr fl_54_1 rfl) (.L 1 na_52 get_54_Members hh rfl (fun t4 hh => .V (v_len_sl (sl_52).1 rfl) (.V (v_isub rfl rfl) (.V (v_max rfl rfl) (.V (v_iquo rfl rfl (by decide)) (.A (reg ((iquo (imax (isub (t4.len : Int) (1 : Int)) (0 : Int)) (3 : Int)) : Int)) (.nx ?_))))))))))
 refine CW.ret ?_
 exact ret1 rfl rfl ⟨((iquo (imax (isub (t4.len : Int) (1 : Int)) (0 : Int)) (3 : Int)) : Int), rfl, hh⟩
theorem config_Good.ok (c : api_Config) (k : Bool → H → Prop) (h : H) (hh : config_Good.b c k h) : CallsH Prog 54 [reg c].toArray h fun v h' => ∃ r : Bool, v = reg r ∧ k r h' := by
 unfold config_Good.b at hh
 refine CallsH.of 53 Tryd.func54 rfl Tryd.ntmps54 rfl (fun w0 => ?_)
 refine .sr ?_
 refine box_elim hh (fun c_1 hc_1 hh => ?_)
 refine .e (e_boxP hc_1 rfl rfl rfl ?_)
 refine .A (reg false) (.nx (.seq (.sr (.V (v_fieldAddr fl_54_0 rfl) (.L 0 na_3 get_54_Epoch hh rfl (fun t6 hh => .V (v_ilss rfl rfl) (.M (reg ((decide (t6 < (0 : Int))) : Bool)) (.fv 8 rfl rfl rfl (fun hb => v_fieldAddr fl_54_0 rfl) rfl ?_))))))))
 obtain ⟨t10, ⟨xt10, hxt10, hgt10⟩, hh⟩ := hh
 refine .fv 8 rfl rfl rfl (fun hb => v_ld1 (p := c_1) 0 na_3 (gf hb) hxt10 hgt10 get_54_Epoch) rfl (.fv 8 rfl rfl rfl (fun hb => v_igtr (gf hb) rfl) rfl (.V (v_pick_or rfl rfl (fun hb => gf hb)) (.M (reg (((decide (t6 < (0 : Int))) || (decide ((1073741824 : Int) < t10))) : Bool)) (.fv 13 rfl rfl rfl (fun hb => v_fieldAddr fl_54_1 rfl) rfl ?_))))
 obtain ⟨t15, ⟨xt15, hxt15, hgt15⟩, hh⟩ := hh
 refine .fv 13 rfl rfl rfl (fun hb => v_ld1 (p := c_1) 1 na_52 (gf hb) hxt15 hgt15 get_54_Members) rfl (.fv 13 rfl rfl rfl (fun hb => v_len_sl (sl_52).1 (gf hb)) rfl (.fv 13 rfl rfl rfl (fun hb => v_ieql (gf hb) rfl) rfl (.V (v_pick_or rfl rfl (fun hb => gf hb)) (.M (reg ((((decide (t6 < (0 : Int))) || (decide ((1073741824 : Int) < t10))) || ((t15.len : Int) == (0 : Int))) : Bool)) (.fv 19 rfl rfl rfl (fun hb => v_fieldAddr fl_54_1 rfl) rfl ?_)))))
 obtain ⟨t21, ⟨xt21, hxt21, hgt21⟩, hh⟩ := hh
 refine .fv 19 rfl rfl rfl (fun hb => v_ld1 (p := c_1) 1 na_52 (gf hb) hxt21 hgt21 get_54_Members) rfl (.fv 19 rfl rfl rfl (fun hb => v_len_sl (sl_52).1 (gf hb)) rfl (.fv 19 rfl rfl rfl (fun hb => v_igtr (gf hb) rfl) rfl (.V (v_pick_or rfl rfl (fun hb => gf hb)) (.nx ?_))))
 refine CW.cond ((((decide (t6 < (0 : Int))) || (decide ((1073741824 : Int) < t10))) || ((t15.len : Int) == (0 : Int))) || (decide ((10 : Int) < (t21.len : Int)))) rfl (fun hb => ?_) (fun hb => ?_)
 ·have hh := hh.1 hb
  refine .sr (.A (reg false) (.nx ?_))
  refine CW.ret ?_
  refine QN.thenRet ?_
  exact ret1 rfl rfl ⟨(false : Bool), rfl, hh⟩
 ·have hh := hh.2 hb
  refine CW.skip ?_
  refine QN.then_ ?_
  refine CW.join (fun ρ h => ∃ (ρ' : Env), ρ = setl ρ' [] ∧ (config_Good.j1 k)  h) ?_ ?_
  ·refine .sr (.V (v_fieldAddr fl_54_1 rfl) (.L 1 na_52 get_54_Members hh rfl (fun t26 hh => .V (v_len_sl (sl_52).1 rfl) (.M (reg ((0 : Int) : Int)) (.nx ?_)))))
   refine CW.block ?_
   unfold config_Good.l1 at hh
   refine CW.loop (fun (σ0 : Int) ρ => match σ0 with | t28 => ∃ ρ' : Env, ρ = setl ρ' [(1, .pointer (some c_1)), (26, reg t26), (27, reg ((t26.len : Int) : Int)), (28, reg t28)]) hh ⟨_, setl_eq ⟨rfl, ⟨rfl, ⟨rfl, ⟨rfl, trivial⟩⟩⟩⟩⟩ ?_
   clear hh
   rintro s1 t28 ρ h ⟨ρ', rfl⟩ hh
   refine .sr (.V (v_ilss rfl rfl) (.nx (.seq ?_)))
   refine CW.cond (decide (t28 < (t26.len : Int))) rfl (fun hb_1 => ?_) (fun hb_1 => ?_)
   ·have hh := hh.1 hb_1
    refine CW.skip ?_
    refine QN.then_ ?_
    refine CW.seq ?_
    refine CW.block ?_
    refine .sr (.M (reg t28) ?_)
    obtain ⟨t31, ht31, hh⟩ := hh
    refine .V (v_idx_slP sl_52 rfl rfl ht31.1 ht31.2.1 ht31.2.2) (.LA 0 ag_110 get_110_all (fun _ => (len_api_Member _)) hh rfl (fun t32 hh => ?_))
    refine box_elim hh (fun m hm hh => ?_)
    refine .e (e_allocP hm zo_110 rfl ?_)
    refine .A (reg t28) (.S (t32 : api_Member) 0 sz_110 (one_api_Member _) len_api_Member (len_api_Member _) (fun x => set_110_all x (t32 : api_Member)) hh rfl rfl (fun _ hh => .nx ?_))
    refine CW.join (fun ρ h => ∃ (ρ' : Env) (t51 : Bool), ρ = setl ρ' [(1, .pointer (some c_1)), (26, reg t26), (27, reg ((t26.len : Int) : Int)), (28, reg t28), (51, reg t51)] ∧ (config_Good.j2 k s1) c_1 t26 (t26.len : Int) t28 t51 h) ?_ ?_
    ·refine CW.drawN 19 rfl follows_mixed [0, 2, 3, 4, 5, 6, 7, 8, 9, 10, 11, 12, 13, 14, 15, 16, 17, 18] ?_
     refine .KA 0 0 ag_110 get_110_all (fun _ => (len_api_Member _)) rfl hh rfl (fun t33 hh => ?_)
     refine .w 1 (by kernel_rfl) rfl (by kernel_rfl) (.e (e_callP fn_87 rfl rfl hh ?_))
     intro h t34 hh
     refine ⟨⟨trivial, .inl (by kernel_rfl)⟩, ?_⟩
     refine .P 2 rfl (v_not rfl) (.P 3 rfl (v_move (v := reg ((!t34) : Bool)) rfl) ?_)
     refine ifb_cases hh (fun hb_2 hh => ?_) (fun hb_2 hh => ?_)
     ·refine .N 4 36 rfl (cb hb_2) (.N 5 36 rfl (cb hb_2) (.N 6 36 rfl (cb hb_2) (.nu 7 39 rfl rfl rfl rfl (by kernel_rfl) (NoPanic.then_ (NoPanic.block (NoPanic.then_ (NoPanic.then_ (NoPanic.block (NoPanic.then_ (NoPanic.body))))))) (.nu 8 39 rfl rfl rfl rfl (by kernel_rfl) (NoPanic.then_ (NoPanic.block (NoPanic.then_ (NoPanic.then_ (NoPanic.block (NoPanic.then_ (NoPanic.body))))))) (.nu 9 39 rfl rfl rfl rfl (by kernel_rfl) (NoPanic.then_ (NoPanic.block (NoPanic.then_ (NoPanic.then_ (NoPanic.block (NoPanic.then_ (NoPanic.body))))))) (.nu 10 39 rfl rfl rfl rfl (by kernel_rfl) (NoPanic.then_ (NoPanic.block (NoPanic.then_ (NoPanic.then_ (NoPanic.block (NoPanic.then_ (NoPanic.body))))))) (.nu 11 39 rfl rfl rfl rfl (by kernel_rfl) (NoPanic.then_ (NoPanic.block (NoPanic.then_ (NoPanic.then_ (NoPanic.block (NoPanic.then_ (NoPanic.body))))))) (.nu 12 39 rfl rfl rfl rfl (by kernel_rfl) (NoPanic.then_ (NoPanic.block (NoPanic.then_ (NoPanic.then_ (NoPanic.block (NoPanic.then_ (NoPanic.body))))))) (.nu 13 39 rfl rfl rfl rfl (by kernel_rfl) (NoPanic.then_ (NoPanic.block (NoPanic.then_ (NoPanic.then_ (NoPanic.block (NoPanic.then_ (NoPanic.body))))))) ?_)))))))))
      refine .nu 14 39 rfl rfl rfl rfl (by kernel_rfl) (NoPanic.then_ (NoPanic.block (NoPanic.then_ (NoPanic.then_ (NoPanic.block (NoPanic.then_ (NoPanic.body))))))) (.nu 15 39 rfl rfl rfl rfl (by kernel_rfl) (NoPanic.then_ (NoPanic.block (NoPanic.then_ (NoPanic.then_ (NoPanic.block (NoPanic.then_ (NoPanic.body))))))) (.nu 16 39 rfl rfl rfl rfl (by kernel_rfl) (NoPanic.then_ (NoPanic.block (NoPanic.then_ (NoPanic.then_ (NoPanic.block (NoPanic.then_ (NoPanic.body))))))) (.N 17 36 rfl (cb hb_2) (.P 18 rfl (v_pickT (v := reg true) rfl hb_2 rfl) ?_))))
      refine .done (by kernel_rfl) ?_
      exact QN.thenJ ⟨_, true, setl_eq ⟨rfl, ⟨rfl, ⟨rfl, ⟨rfl, ⟨rfl, trivial⟩⟩⟩⟩⟩, hh⟩
     ·refine .Y 4 36 rfl (cb hb_2) (v_move (v := reg t28) rfl) (.Y 5 36 rfl (cb hb_2) (v_igtr rfl rfl) (.Y 6 36 rfl (cb hb_2) (v_move (v := reg ((decide ((0 : Int) < t28)) : Bool)) rfl) ?_))
      refine ifb_cases hh (fun hb_3 hh => ?_) (fun hb_3 hh => ?_)
      ·refine .Y 7 39 rfl (cb hb_3) (v_fieldAddr fl_54_1 rfl) (.YL 8 39 1 na_52 get_54_Members rfl (cb hb_3) hh rfl (fun t41 hh => .Y 9 39 rfl (cb hb_3) (v_move (v := reg t28) rfl) (.Y 10 39 rfl (cb hb_3) (v_isub rfl rfl) ?_)))
       obtain ⟨t44, ht44, hh⟩ := hh
       refine .Y 11 39 rfl (cb hb_3) (v_idx_slP sl_52 rfl rfl ht44.1 ht44.2.1 ht44.2.2) (.Y 12 39 rfl (cb hb_3) (v_fieldAddr fl_110_0 rfl) (.YL 13 39 0 na_3 get_110_Id rfl (cb hb_3) hh rfl (fun t46 hh => .Y 14 39 rfl (cb hb_3) (v_fieldAddr fl_110_0 rfl) (.YL 15 39 0 na_3 get_110_Id rfl (cb hb_3) hh rfl (fun t48 hh => .Y 16 39 rfl (cb hb_3) (v_igeq rfl rfl) (.Y 17 36 rfl (cb hb_2) (v_pickT (v := reg ((decide (t48 ≤ t46)) : Bool)) rfl hb_3 rfl) (.P 18 rfl (v_pickF (v := reg ((decide (t48 ≤ t46)) : Bool)) rfl hb_2 rfl) ?_)))))))
       refine .done (by kernel_rfl) ?_
       exact QN.thenJ ⟨_, (decide (t48 ≤ t46)), setl_eq ⟨rfl, ⟨rfl, ⟨rfl, ⟨rfl, ⟨rfl, trivial⟩⟩⟩⟩⟩, hh⟩
      ·refine .N 7 39 rfl (cb hb_3) (.N 8 39 rfl (cb hb_3) (.N 9 39 rfl (cb hb_3) (.N 10 39 rfl (cb hb_3) (.N 11 39 rfl (cb hb_3) (.N 12 39 rfl (cb hb_3) (.N 13 39 rfl (cb hb_3) (.N 14 39 rfl (cb hb_3) (.N 15 39 rfl (cb hb_3) (.N 16 39 rfl (cb hb_3) ?_)))))))))
       refine .Y 17 36 rfl (cb hb_2) (v_pickF (v := reg false) rfl hb_3 rfl) (.P 18 rfl (v_pickF (v := reg false) rfl hb_2 rfl) ?_)
       refine .done (by kernel_rfl) ?_
       exact QN.thenJ ⟨_, false, setl_eq ⟨rfl, ⟨rfl, ⟨rfl, ⟨rfl, ⟨rfl, trivial⟩⟩⟩⟩⟩, hh⟩
    ·rintro ρ h ⟨ρ', t51, rfl, hh⟩
     unfold config_Good.j2 at hh
     refine CW.cond t51 rfl (fun hb_4 => ?_) (fun hb_4 => ?_)
     ·have hh := hh.1 hb_4
      refine .sr (.A (reg false) (.nx ?_))
      refine CW.ret ?_
      refine QN.blockRet ?_
      refine QN.thenRet ?_
      refine QN.thenRet ?_
      refine QN.blockRet ?_
      refine QN.thenRet ?_
      exact ret1 rfl rfl ⟨(false : Bool), rfl, hh⟩
     ·have hh := hh.2 hb_4
      refine CW.skip ?_
      refine QN.blockN ?_
      refine QN.then_ ?_
      refine CW.region ?_
      refine .V (v_iadd rfl rfl) (.M (reg ((iadd t28 (1 : Int)) : Int)) ?_)
      refine .nil ?_
      exact QN.thenJ ⟨(iadd t28 (1 : Int)), ⟨_, setl_eq ⟨rfl, ⟨rfl, ⟨rfl, ⟨rfl, trivial⟩⟩⟩⟩⟩, hh⟩
   ·have hh := hh.2 hb_1
    refine CW.exit ?_
    refine QN.thenExit ?_
    refine QN.thenExit ?_
    refine QN.blockExit ?_
    exact QN.thenJ ⟨_, setl_eq trivial, hh⟩
  ·rintro ρ h ⟨ρ', rfl, hh⟩
   unfold config_Good.j1 at hh
   refine .sr (.A (reg true) (.nx ?_))
   refine CW.ret ?_
   exact ret1 rfl rfl ⟨(true : Bool), rfl, hh⟩
theorem config_right.ok (m : api_Member) (k : Bool → H → Prop) (h : H) (hh : config_right.b m k h) : CallsH Prog 87 [reg m].toArray h fun v h' => ∃ r : Bool, v = reg r ∧ k r h' := by
 unfold config_right.b at hh
 refine CallsH.of 23 Tryd.func87 rfl Tryd.ntmps87 rfl (fun w0 => ?_)
 refine .sr ?_
 refine box_elim hh (fun m_1 hm_1 hh => ?_)
 refine .e (e_boxP hm_1 rfl rfl rfl ?_)
 refine .A (reg false) (.nx (.sr (.V (v_fieldAddr fl_110_0 rfl) (.L 0 na_3 get_110_Id hh rfl (fun t4 hh => .V (v_igeq rfl rfl) (.M (reg ((decide ((1 : Int) ≤ t4)) : Bool)) (.tv 6 rfl rfl rfl (fun hb => v_fieldAddr fl_110_0 rfl) rfl ?_)))))))
 obtain ⟨t8, ⟨xt8, hxt8, hgt8⟩, hh⟩ := hh
 refine .tv 6 rfl rfl rfl (fun hb => v_ld1 (p := m_1) 0 na_3 (gt hb) hxt8 hgt8 get_110_Id) rfl (.tv 6 rfl rfl rfl (fun hb => v_ileq (gt hb) rfl) rfl (.V (v_pick_and rfl (fun hb => gt hb) rfl) (.M (reg (((decide ((1 : Int) ≤ t4)) && (decide (t8 ≤ (63 : Int)))) : Bool)) (.tv 11 rfl rfl rfl (fun hb => v_fieldAddr fl_110_1 rfl) rfl (.tv 11 rfl rfl rfl (fun hb => v_fieldAddr fl_107_1 (gt hb)) rfl ?_)))))
 obtain ⟨t14, ⟨xt14, hxt14, hgt14⟩, hh⟩ := hh
 refine .tv 11 rfl rfl rfl (fun hb => v_ld1 (p := m_1) 33 na_3 (gt hb) hxt14 hgt14 get_110_Key_Height) rfl (.tv 11 rfl rfl rfl (fun hb => v_igeq (gt hb) rfl) rfl (.V (v_pick_and rfl (fun hb => gt hb) rfl) (.M (reg ((((decide ((1 : Int) ≤ t4)) && (decide (t8 ≤ (63 : Int)))) && (decide ((0 : Int) ≤ t14))) : Bool)) (.tv 17 rfl rfl rfl (fun hb => v_fieldAddr fl_110_1 rfl) rfl (.tv 17 rfl rfl rfl (fun hb => v_fieldAddr fl_107_1 (gt hb)) rfl ?_)))))
 obtain ⟨t20, ⟨xt20, hxt20, hgt20⟩, hh⟩ := hh
 refine .tv 17 rfl rfl rfl (fun hb => v_ld1 (p := m_1) 33 na_3 (gt hb) hxt20 hgt20 get_110_Key_Height) rfl (.tv 17 rfl rfl rfl (fun hb => v_ileq (gt hb) rfl) rfl (.V (v_pick_and rfl (fun hb => gt hb) rfl) (.A (reg (((((decide ((1 : Int) ≤ t4)) && (decide (t8 ≤ (63 : Int)))) && (decide ((0 : Int) ≤ t14))) && (decide (t20 ≤ (6 : Int)))) : Bool)) (.nx ?_))))
 refine CW.ret ?_
 exact ret1 rfl rfl ⟨(((((decide ((1 : Int) ≤ t4)) && (decide (t8 ≤ (63 : Int)))) && (decide ((0 : Int) ≤ t14))) && (decide (t20 ≤ (6 : Int)))) : Bool), rfl, hh⟩
theorem config_Quorum.ok (c : api_Config) (k : Int → H → Prop) (h : H) (hh : config_Quorum.b c k h) : CallsH Prog 114 [reg c].toArray h fun v h' => ∃ r : Int, v = reg r ∧ k r h' := by
 unfold config_Quorum.b at hh
 refine CallsH.of 11 Tryd.func114 rfl Tryd.ntmps114 rfl (fun w0 => ?_)
 refine .sr ?_
 refine box_elim hh (fun c_1 hc_1 hh => ?_)
 refine .e (e_boxP hc_1 rfl rfl rfl ?_)
 refine .A (reg ((0 : Int) : Int)) (.nx (.seq ?_))
 refine CW.drawN 9 rfl follows_mixed [0, 1, 2, 3, 5, 6, 7, 8] ?_
 refine .P 0 rfl (v_fieldAddr fl_54_1 rfl) (.KL 1 1 na_52 get_54_Members rfl hh rfl (fun t4 hh => .P 2 rfl (v_len_sl (sl_52).1 rfl) (.KA 3 0 ag_54 get_54_all (fun _ => (len_api_Config _)) rfl hh rfl (fun t6 hh => ?_))))
 refine .w 4 (by kernel_rfl) rfl (by kernel_rfl) (.e (e_callP fn_53 rfl rfl hh ?_))
 intro h t7 hh
 obtain ⟨hc, hh⟩ := hh
 refine ⟨⟨⟨trivial, .inr hc⟩, .inl (by kernel_rfl)⟩, ?_⟩
 refine .P 5 rfl (v_iadd rfl rfl) (.P 6 rfl (v_iquo rfl rfl (by decide)) (.P 7 rfl (v_iadd rfl rfl) (.P 8 rfl (v_assign (v := reg ((iadd (iquo (iadd (t4.len : Int) t7) (2 : Int)) (1 : Int)) : Int)) rfl) ?_)))
 refine .done (by kernel_rfl) ?_
 refine QN.then_ ?_
 refine CW.ret ?_
 exact ret1 rfl rfl ⟨((iadd (iquo (iadd (t4.len : Int) t7) (2 : Int)) (1 : Int)) : Int), rfl, hh⟩
theorem config_Weak.ok (c : api_Config) (k : Int → H → Prop) (h : H) (hh : config_Weak.b c k h) : CallsH Prog 133 [reg c].toArray h fun v h' => ∃ r : Int, v = reg r ∧ k r h' := by
 unfold config_Weak.b at hh
 refine CallsH.of 6 Tryd.func133 rfl Tryd.ntmps133 rfl (fun w0 => ?_)
 refine .sr ?_
 refine box_elim hh (fun c_1 hc_1 hh => ?_)
 refine .e (e_boxP hc_1 rfl rfl rfl ?_)
 refine .A (reg ((0 : Int) : Int)) (.nx (.sr (.LA 0 ag_54 get_54_all (fun _ => (len_api_Config _)) hh rfl (fun t3 hh => ?_))))
 refine .e (e_callP fn_53 rfl rfl hh ?_)
 intro h t4 hh
 refine .V (v_iadd rfl rfl) (.A (reg ((iadd t4 (1 : Int)) : Int)) (.nx ?_))
 refine CW.ret ?_
 exact ret1 rfl rfl ⟨((iadd t4 (1 : Int)) : Int), rfl, hh⟩
theorem Faults_spec (c : api_Config) (n : Nat) (hl : c.Members.len = n) (hn : n < 2 ^ 40) {k : Int → H → Prop} {h : H} (hk : ∀ h', Ext h h' → k (((n - 1) / 3 : Nat) : Int) h') : call (β := Int) Prog 53 [reg (c : api_Config)] k h := by
  refine config_Faults.ok _ _ _ ?_
  unfold config_Faults.b
  refine (Sat.init h).box_ (fun p h1 hs1 _ _ => ?_)
  refine hs1.ld_ 0 rfl ?_
  have e : iquo (imax (isub (c.Members.len : Int) 1) 0) 3 = (((n - 1) / 3 : Nat) : Int) := by
    rw [hl, isub_eq (by omega) (by omega)]
    have e1 : imax ((n : Int) - 1) 0 = ((n - 1 : Nat) : Int) := by unfold imax; split <;> omega
    rw [e1, iquo_eq (by omega) (by omega) (by omega)]
    omega
  rw [e]
  exact hk _ hs1.fr
def quoN (n : Nat) : Nat := (n + (n - 1) / 3) / 2 + 1
theorem Quorum_spec (c : api_Config) (n : Nat) (hl : c.Members.len = n) (hn : n < 2 ^ 40) {k : Int → H → Prop} {h : H} (hk : ∀ h', Ext h h' → k ((quoN n : Nat) : Int) h') : call (β := Int) Prog 114 [reg (c : api_Config)] k h := by
  refine config_Quorum.ok _ _ _ ?_
  unfold config_Quorum.b
  refine (Sat.init h).box_ (fun p h1 hs1 _ _ => ?_)
  refine hs1.ld_ 0 rfl ?_
  refine hs1.ld_ 0 rfl ?_
  refine Faults_spec c n hl hn (fun h2 hx2 => ?_)
  have hs2 := hs1.ext hx2
  refine hs2.chk_ 0 rfl rfl ?_
  have e : iadd (iquo (iadd (c.Members.len : Int) (((n - 1) / 3 : Nat) : Int)) 2) 1 = ((quoN n : Nat) : Int) := by
    rw [hl, iadd_eq (a := (n : Int)) (b := (((n - 1) / 3 : Nat) : Int)) (by omega) (by omega), iquo_eq (a := (n : Int) + (((n - 1) / 3 : Nat) : Int)) (by omega) (by omega) (by omega), iadd_eq (by omega) (by omega)]
    unfold quoN; omega
  rw [e]
  exact hk _ hs2.fr
theorem Weak_spec (c : api_Config) (n : Nat) (hl : c.Members.len = n) (hn : n < 2 ^ 40) {k : Int → H → Prop} {h : H} (hk : ∀ h', Ext h h' → k (((n - 1) / 3 + 1 : Nat) : Int) h') : call (β := Int) Prog 133 [reg (c : api_Config)] k h := by
  refine config_Weak.ok _ _ _ ?_
  unfold config_Weak.b
  refine (Sat.init h).box_ (fun p h1 hs1 _ _ => ?_)
  refine hs1.ld_ 0 rfl ?_
  refine Faults_spec c n hl hn (fun h2 hx2 => ?_)
  have hs2 := hs1.ext hx2
  have e : iadd (((n - 1) / 3 : Nat) : Int) 1 = (((n - 1) / 3 + 1 : Nat) : Int) := by rw [iadd_eq (by omega) (by omega)]; omega
  rw [e]
  exact hk _ hs2.fr
def rightM (m : api_Member) : Bool := (((decide ((1 : Int) ≤ m.Id)) && (decide (m.Id ≤ (63 : Int)))) && (decide ((0 : Int) ≤ m.Key.Height))) && (decide (m.Key.Height ≤ (6 : Int)))
theorem right_spec (m : api_Member) {k : Bool → H → Prop} {h : H} (hk : ∀ h', Ext h h' → k (rightM m) h') : call (β := Bool) Prog 87 [reg (m : api_Member)] k h := by
  refine config_right.ok _ _ _ ?_
  unfold config_right.b
  refine (Sat.init h).box_ (fun p h1 hs1 _ _ => ?_)
  refine hs1.ld_ 0 rfl (hs1.ld_ 0 rfl (hs1.ld_ 0 rfl (hs1.ld_ 0 rfl ?_)))
  exact hk _ hs1.fr
def memAt (ms : List api_Member) (i : Nat) : api_Member := ms.getD i api_Member.zero
def goodAt (ms : List api_Member) (i : Nat) : Bool := rightM (memAt ms i) && (decide (i = 0) || decide ((memAt ms (i - 1)).Id < (memAt ms i).Id))
def goodC (e : Int) (ms : List api_Member) : Bool := decide (0 ≤ e ∧ e ≤ 1073741824 ∧ ms ≠ [] ∧ ms.length ≤ 10) && (List.range ms.length).all (goodAt ms)
theorem CGood_spec (c : api_Config) (ms : List api_Member) {k : Bool → H → Prop} {h : H} (hv : SVz 34 h c.Members ms) (hk : ∀ h', Ext h h' → k (goodC c.Epoch ms) h') : call (β := Bool) Prog 54 [reg (c : api_Config)] k h := by
  refine config_Good.ok _ _ _ ?_
  unfold config_Good.b
  refine (Sat.init h).box_ (fun p h1 hs1 _ _ => ?_)
  refine hs1.ld_ 0 rfl (hs1.ld_ 0 rfl (hs1.ld_ 0 rfl (hs1.ld_ 0 rfl ?_)))
  have hlen : c.Members.len = ms.length := hv.1
  have hne : ms = [] ↔ ms.length = 0 := by cases ms <;> simp
  refine ifb_i (fun hc => ?_) (fun hc => ?_)
  · have e : goodC c.Epoch ms = false := by
      unfold goodC
      rw [decide_eq_false, Bool.false_and]
      simp only [Bool.or_eq_true, decide_eq_true_eq, beq_iff_eq] at hc
      rw [ne_eq, hne]
      omega
    have := hk _ hs1.fr
    rw [e] at this; exact this
  · have hgd : 0 ≤ c.Epoch ∧ c.Epoch ≤ 1073741824 ∧ ms ≠ [] ∧ ms.length ≤ 10 := by
      simp only [Bool.or_eq_false_iff, decide_eq_false_iff_not, beq_eq_false_iff_ne] at hc
      rw [ne_eq, hne]
      omega
    refine hs1.ld_ 0 rfl ?_
    unfold config_Good.l1
    refine ⟨fun (t : Int) h' => ∃ i : Nat, t = i ∧ i ≤ ms.length ∧ Sat h [] h' [cel 54 p (enc c)] ∧ (List.range i).all (goodAt ms) = true, fun t _ => (ms.length - t).toNat, ⟨0, rfl, Nat.zero_le _, hs1, rfl⟩, ?_⟩
    clear hs1
    rintro t h2 ⟨i, rfl, hi, hs2, hall⟩
    refine ifb_i (fun hc1 => ?_) (fun hc1 => ?_)
    · have hi' : i < ms.length := by have : (i : Int) < c.Members.len := by simpa using hc1
                                     omega
      have hgi : ms[i]? = some (memAt ms i) := by simp [memAt, List.getElem?_eq_getElem hi']
      have hbad : goodAt ms i = false → goodC c.Epoch ms = false := by
        intro hb
        unfold goodC
        rw [show (List.range ms.length).all (goodAt ms) = false from ?_, Bool.and_false]
        rw [List.all_eq_false]
        exact ⟨i, by simpa using hi', by rw [hb]; decide⟩
      have hok : goodAt ms i = true → (List.range (i + 1)).all (goodAt ms) = true := by
        intro hb
        rw [List.range_succ, List.all_append, hall]
        simp [hb]
      have e3 : iadd (i : Int) 1 = ((i + 1 : Nat) : Int) := by rw [iadd_eq (by omega) (by omega)]; omega
      refine sidx_ldz len_api_Member (hv.ext hs2.fr) (Int.natCast_nonneg _) (by rw [Int.toNat_natCast]; exact hgi) ?_
      refine hs2.box_ (fun m h3 hs3 _ _ => ?_)
      refine hs3.st_ 0 rfl len_api_Member (fun h4 hs4 _ => ?_)
      refine hs4.ld_ 0 rfl ?_
      refine right_spec _ (fun h5 hx5 => ?_)
      have hs5 := hs4.ext hx5
      unfold config_Good.j2
      have hback : ∀ {h' L'}, Sat h [] h' (L' :: [cel 54 p (enc c)]) → Sat h [] h' [cel 54 p (enc c)] := fun hs => hs.drop (List.sublist_cons_self _ _)
      refine ifb_i (fun hr => ?_) (fun hr => ?_)
      · refine ifb_i (fun _ => ?_) (fun hc => by cases hc)
        have hb : goodAt ms i = false := by unfold goodAt; rw [show rightM (memAt ms i) = false by simpa using hr]; rfl
        have := hk _ hs5.fr
        rw [hbad hb] at this; exact this
      · have hr' : rightM (memAt ms i) = true := by simpa using hr
        refine ifb_i (fun h0 => ?_) (fun h0 => ?_)
        · have h0' : 0 < i := by have : (0 : Int) < i := by simpa using h0
                                 omega
          refine hs5.ld_ 1 rfl ?_
          have e1 : isub (i : Int) 1 = ((i - 1 : Nat) : Int) := by rw [isub_eq (by omega) (by omega)]; omega
          rw [e1]
          refine sidx_ldz len_api_Member (hv.ext hs5.fr) (Int.natCast_nonneg _) (x := memAt ms (i - 1)) (by rw [Int.toNat_natCast]; simp [memAt, List.getElem?_eq_getElem (show i - 1 < ms.length by omega)]) ?_
          refine hs5.ld_ 0 rfl ?_
          have eg : goodAt ms i = decide ((memAt ms (i - 1)).Id < (memAt ms i).Id) := by
            unfold goodAt; rw [hr', decide_eq_false (show ¬ i = 0 by omega)]; simp
          refine ifb_i (fun hb => ?_) (fun hb => ?_)
          · have := hk _ hs5.fr
            rw [hbad (by rw [eg]; simp only [decide_eq_true_eq] at hb; exact decide_eq_false (by omega))] at this; exact this
          · rw [e3]
            refine ⟨⟨i + 1, rfl, hi', hback hs5, hok (by rw [eg]; simp only [decide_eq_false_iff_not] at hb; exact decide_eq_true (by omega))⟩, by dsimp only; omega⟩
        · have h0' : i = 0 := by have : ¬ (0 : Int) < i := by simpa using h0
                                 omega
          refine ifb_i (fun hc => by cases hc) (fun _ => ?_)
          rw [e3]
          refine ⟨⟨i + 1, rfl, hi', hback hs5, hok (by unfold goodAt; rw [hr', h0']; rfl)⟩, by dsimp only; omega⟩
    · have hi' : i = ms.length := by
        have : ¬ (i : Int) < c.Members.len := by simpa using hc1
        omega
      subst hi'
      unfold config_Good.j1
      have e : goodC c.Epoch ms = true := by unfold goodC; rw [decide_eq_true hgd, hall]; rfl
      have := hk _ hs2.fr
      rw [e] at this; exact this
theorem rank_At.ok (height : Int) (round : Int) (k : Cx → H → Prop) (h : H) (hh : rank_At.b height round k h) : CallsH Prog 30 [reg height, reg round].toArray h fun v h' => ∃ r : Cx, v = reg r ∧ k r h' := by
 unfold rank_At.b at hh
 refine CallsH.of 10 Tryd.func30 rfl Tryd.ntmps30 rfl (fun w0 => ?_)
 refine .sr (.A (reg ((⟨0, 0⟩ : Cx) : Cx)) (.nx (.sr (.M (reg height) (.V (v_conv_fl un_3 un_141 rfl) (.M (reg round) (.V (v_conv_fl un_3 un_141 rfl) (.V (v_complex rfl rfl) (.A (reg ((⟨(fnear height).b, (fnear round).b⟩ : Cx) : Cx)) (.nx ?_))))))))))
 refine CW.ret ?_
 exact ret1 rfl rfl ⟨((⟨(fnear height).b, (fnear round).b⟩ : Cx) : Cx), rfl, hh⟩
theorem rank_whole.ok (x : Fl) (lo : Int) (hi : Int) (k : Bool → H → Prop) (h : H) (hh : rank_whole.b x lo hi k h) : CallsH Prog 88 [reg x, reg lo, reg hi].toArray h fun v h' => ∃ r : Bool, v = reg r ∧ k r h' := by
 unfold rank_whole.b at hh
 refine CallsH.of 24 Tryd.func88 rfl Tryd.ntmps88 rfl (fun w0 => ?_)
 refine .sr (.A (reg false) (.nx ?_))
 refine CW.join (fun ρ h => ∃ (ρ' : Env) (t6 : Bool), ρ = setl ρ' [(6, reg t6)] ∧ (rank_whole.j1 k) t6 h) ?_ ?_
 ·refine CW.region ?_
  refine .M (reg x) (.M (reg lo) (.V (v_conv_fl un_3 un_141 rfl) (.V (v_fgeq rfl rfl) (.M (reg ((fge x (fnear lo)) : Bool)) (.tv 11 rfl rfl rfl (fun hb => v_move (v := reg (x : Fl)) rfl) rfl (.tv 11 rfl rfl rfl (fun hb => v_move (v := reg (hi : Int)) rfl) rfl (.tv 11 rfl rfl rfl (fun hb => v_conv_fl un_3 un_141 (gt hb)) rfl (.tv 11 rfl rfl rfl (fun hb => v_fleq (gt hb) (gt hb)) rfl (.V (v_pick_and rfl (fun hb => gt hb) rfl) ?_)))))))))
  refine .M (reg (((fge x (fnear lo)) && (fle x (fnear hi))) : Bool)) ?_
  refine ifb_cases hh (fun hb hh => ?_) (fun hb hh => ?_)
  ·refine .yv 17 rfl (cb hb) rfl (v_move (v := reg (x : Fl)) rfl) rfl (.yv 17 rfl (cb hb) rfl (v_move (v := reg (x : Fl)) rfl) rfl ?_)
   obtain ⟨t20, ht20, hh⟩ := hh
   refine .yv 17 rfl (cb hb) rfl (v_conv_cut un_141 un_3 rfl ht20) rfl (.yv 17 rfl (cb hb) rfl (v_conv_fl un_3 un_141 rfl) rfl (.yv 17 rfl (cb hb) rfl (v_feql rfl rfl) rfl (.V (v_pickT (v := reg ((feq x (fnear t20)) : Bool)) rfl hb rfl) (.A (reg ((feq x (fnear t20)) : Bool)) ?_))))
   refine .nil ?_
   exact QN.thenJ ⟨_, (feq x (fnear t20)), setl_eq ⟨rfl, trivial⟩, hh⟩
  ·refine .no 17 rfl (cb hb) rfl rfl (.no 17 rfl (cb hb) rfl rfl (.no 17 rfl (cb hb) rfl rfl (.no 17 rfl (cb hb) rfl rfl (.no 17 rfl (cb hb) rfl rfl (.V (v_pickF (v := reg false) rfl hb rfl) (.A (reg false) ?_))))))
   refine .nil ?_
   exact QN.thenJ ⟨_, false, setl_eq ⟨rfl, trivial⟩, hh⟩
 ·rintro ρ h ⟨ρ', t6, rfl, hh⟩
  unfold rank_whole.j1 at hh
  refine CW.ret ?_
  exact ret1 rfl rfl ⟨(t6 : Bool), rfl, hh⟩
theorem rank_Good.ok (r : Cx) (k : Bool → H → Prop) (h : H) (hh : rank_Good.b r k h) : CallsH Prog 55 [reg r].toArray h fun v h' => ∃ r : Bool, v = reg r ∧ k r h' := by
 unfold rank_Good.b at hh
 refine CallsH.of 11 Tryd.func55 rfl Tryd.ntmps55 rfl (fun w0 => ?_)
 refine .sr (.A (reg false) (.nx ?_))
 refine CW.join (fun ρ h => ∃ (ρ' : Env) (t2 : Bool), ρ = setl ρ' [(2, reg t2)] ∧ (rank_Good.j1 k) t2 h) ?_ ?_
 ·refine CW.region ?_
  refine .M (reg r) (.V (v_real rfl) ?_)
  refine .e (e_callP fn_88 rfl rfl hh ?_)
  intro h t5 hh
  refine .M (reg t5) ?_
  refine ifb_cases hh (fun hb hh => ?_) (fun hb hh => ?_)
  ·refine .yv 6 rfl (cb hb) rfl (v_move (v := reg (r : Cx)) rfl) rfl (.yv 6 rfl (cb hb) rfl (v_imag rfl) rfl ?_)
   refine .ye 6 rfl (cb hb) rfl (e_callP fn_88 rfl rfl hh ?_)
   intro h t9 hh
   refine .V (v_pickT (v := reg t9) rfl hb rfl) (.A (reg t9) ?_)
   refine .nil ?_
   exact QN.thenJ ⟨_, t9, setl_eq ⟨rfl, trivial⟩, hh⟩
  ·refine .no 6 rfl (cb hb) rfl rfl (.no 6 rfl (cb hb) rfl rfl (.no 6 rfl (cb hb) rfl rfl (.V (v_pickF (v := reg false) rfl hb rfl) (.A (reg false) ?_))))
   refine .nil ?_
   exact QN.thenJ ⟨_, false, setl_eq ⟨rfl, trivial⟩, hh⟩
 ·rintro ρ h ⟨ρ', t2, rfl, hh⟩
  unfold rank_Good.j1 at hh
  refine CW.ret ?_
  exact ret1 rfl rfl ⟨(t2 : Bool), rfl, hh⟩
theorem rank_Round.ok (r : Cx) (k : Int → H → Prop) (h : H) (hh : rank_Round.b r k h) : CallsH Prog 65 [reg r].toArray h fun v h' => ∃ r : Int, v = reg r ∧ k r h' := by
 unfold rank_Round.b at hh
 refine CallsH.of 9 Tryd.func65 rfl Tryd.ntmps65 rfl (fun w0 => ?_)
 refine .sr (.A (reg ((0 : Int) : Int)) (.nx (.seq (.sr (.M (reg r) ?_)))))
 refine .e (e_callP fn_55 rfl rfl hh ?_)
 intro h t4 hh
 refine .V (v_not rfl) (.nx ?_)
 refine CW.cond (!t4) rfl (fun hb => ?_) (fun hb => ?_)
 ·have hh := hh.1 hb
  refine .sr (.A (reg ((0 : Int) : Int)) (.nx ?_))
  refine CW.ret ?_
  refine QN.thenRet ?_
  exact ret1 rfl rfl ⟨((0 : Int) : Int), rfl, hh⟩
 ·have hh := hh.2 hb
  refine CW.skip ?_
  refine QN.then_ ?_
  refine .sr (.M (reg r) (.V (v_imag rfl) ?_))
  obtain ⟨t8, ht8, hh⟩ := hh
  refine .V (v_conv_cut un_141 un_3 rfl ht8) (.A (reg t8) (.nx ?_))
  refine CW.ret ?_
  exact ret1 rfl rfl ⟨(t8 : Int), rfl, hh⟩
theorem rank_Height.ok (r : Cx) (k : Int → H → Prop) (h : H) (hh : rank_Height.b r k h) : CallsH Prog 68 [reg r].toArray h fun v h' => ∃ r : Int, v = reg r ∧ k r h' := by
 unfold rank_Height.b at hh
 refine CallsH.of 9 Tryd.func68 rfl Tryd.ntmps68 rfl (fun w0 => ?_)
 refine .sr (.A (reg ((0 : Int) : Int)) (.nx (.seq (.sr (.M (reg r) ?_)))))
 refine .e (e_callP fn_55 rfl rfl hh ?_)
 intro h t4 hh
 refine .V (v_not rfl) (.nx ?_)
 refine CW.cond (!t4) rfl (fun hb => ?_) (fun hb => ?_)
 ·have hh := hh.1 hb
  refine .sr (.A (reg ((0 : Int) : Int)) (.nx ?_))
  refine CW.ret ?_
  refine QN.thenRet ?_
  exact ret1 rfl rfl ⟨((0 : Int) : Int), rfl, hh⟩
 ·have hh := hh.2 hb
  refine CW.skip ?_
  refine QN.then_ ?_
  refine .sr (.M (reg r) (.V (v_real rfl) ?_))
  obtain ⟨t8, ht8, hh⟩ := hh
  refine .V (v_conv_cut un_141 un_3 rfl ht8) (.A (reg t8) (.nx ?_))
  refine CW.ret ?_
  exact ret1 rfl rfl ⟨(t8 : Int), rfl, hh⟩
theorem rank_Leader.ok (n : Int) (r : Cx) (k : Int → H → Prop) (h : H) (hh : rank_Leader.b n r k h) : CallsH Prog 29 [reg n, reg r].toArray h fun v h' => ∃ r : Int, v = reg r ∧ k r h' := by
 unfold rank_Leader.b at hh
 refine CallsH.of 22 Tryd.func29 rfl Tryd.ntmps29 rfl (fun w0 => ?_)
 refine .sr (.A (reg ((0 : Int) : Int)) (.nx (.seq ?_)))
 refine CW.join (fun ρ h => ∃ (ρ' : Env) (t12 : Bool), ρ = setl ρ' [(0, reg n), (1, reg r), (12, reg t12)] ∧ (rank_Leader.j1 k) n r t12 h) ?_ ?_
 ·refine CW.region ?_
  refine .M (reg n) (.V (v_ilss rfl rfl) (.M (reg ((decide (n < (1 : Int))) : Bool)) ?_))
  refine ifb_cases hh (fun hb hh => ?_) (fun hb hh => ?_)
  ·refine .no 8 rfl (cb hb) rfl rfl (.no 8 rfl (cb hb) rfl rfl (.no 8 rfl (cb hb) rfl rfl (.V (v_pickT (v := reg true) rfl hb rfl) ?_)))
   refine .nil ?_
   exact QN.thenJ ⟨_, true, setl_eq ⟨rfl, ⟨rfl, ⟨rfl, trivial⟩⟩⟩, hh⟩
  ·refine .yv 8 rfl (cb hb) rfl (v_move (v := reg (r : Cx)) rfl) rfl ?_
   refine .ye 8 rfl (cb hb) rfl (e_callP fn_55 rfl rfl hh ?_)
   intro h t10 hh
   refine .yv 8 rfl (cb hb) rfl (v_not rfl) rfl (.V (v_pickF (v := reg ((!t10) : Bool)) rfl hb rfl) ?_)
   refine .nil ?_
   exact QN.thenJ ⟨_, (!t10), setl_eq ⟨rfl, ⟨rfl, ⟨rfl, trivial⟩⟩⟩, hh⟩
 ·rintro ρ h ⟨ρ', t12, rfl, hh⟩
  unfold rank_Leader.j1 at hh
  refine CW.cond t12 rfl (fun hb_1 => ?_) (fun hb_1 => ?_)
  ·have hh := hh.1 hb_1
   refine .sr (.A (reg ((0 : Int) : Int)) (.nx ?_))
   refine CW.ret ?_
   refine QN.thenRet ?_
   exact ret1 rfl rfl ⟨((0 : Int) : Int), rfl, hh⟩
  ·have hh := hh.2 hb_1
   refine CW.skip ?_
   refine QN.then_ ?_
   refine .sr (.M (reg r) (.V (v_real rfl) (.M (reg r) (.V (v_imag rfl) ?_))))
   obtain ⟨t17, ht17, hh⟩ := hh
   refine .V (v_fadd rfl rfl ht17) (.A (reg t17) (.nx (.sr (.M (reg t17) ?_))))
   obtain ⟨t19, ht19, hh⟩ := hh
   refine .V (v_conv_cut un_141 un_3 rfl ht19) (.M (reg n) ?_)
   obtain ⟨hm, hh⟩ := hh
   refine .V (v_irem rfl rfl hm) (.A (reg ((irem t19 n) : Int)) (.nx ?_))
   refine CW.ret ?_
   exact ret1 rfl rfl ⟨((irem t19 n) : Int), rfl, hh⟩
/-! floats of whole numbers -/
abbrev D64 : Ieee.Format := Ieee.double
theorem d64 : FloatKind.f64.format = D64 := rfl
theorem lp64 : D64.leastPlace = -1074 := by decide
theorem bn64 : D64.binade = 2 ^ 52 := rfl
theorem inf64 : D64.infRung = 2047 * 2 ^ 52 := rfl
theorem sw64 : D64.signWeight = 2 ^ 63 := rfl
theorem log2_scaled (c s : Nat) (h0 : 0 < c) : (c * 2 ^ s).log2 = c.log2 + s := by
  have hp : 0 < 2 ^ s := Nat.two_pow_pos s
  have h1 : c * 2 ^ s ≠ 0 := Nat.ne_of_gt (Nat.mul_pos h0 hp)
  have l1 := Nat.log2_self_le (Nat.ne_of_gt h0)
  have l2 := Nat.lt_log2_self (n := c)
  apply Nat.le_antisymm
  · apply Nat.le_of_lt_succ
    rw [Nat.log2_lt h1]
    rw [show (c.log2 + s).succ = (c.log2 + 1) + s by omega, Nat.pow_add]
    exact (Nat.mul_lt_mul_right hp).2 l2
  · rw [Nat.le_log2 h1, Nat.pow_add]
    exact Nat.mul_le_mul_right _ l1
theorem cut_exact (n : Nat) (d : Nat) (hn : 0 < n) : Ieee.Toward.even.cut false (n * 2 ^ d) d = n := by
  unfold Ieee.Toward.cut
  have hl : min d ((n * 2 ^ d).log2 + 2) = d := by rw [log2_scaled n d hn]; omega
  simp only [hl]
  rw [Nat.shiftLeft_eq, Nat.one_mul]
  have hp : 0 < 2 ^ d := Nat.two_pow_pos d
  rw [Nat.mul_mod_left, Nat.mul_div_cancel _ hp]
  have : ¬ (2 ^ d < 2 * 0) := by omega
  have h2 : (2 ^ d == 2 * 0) = false := by rw [beq_eq_false_iff_ne]; omega
  simp
theorem log2_le (c : Nat) (h0 : 0 < c) (h1 : c < 2 ^ 53) : c.log2 ≤ 52 := by
  have := (Nat.log2_lt (k := 53) (Nat.ne_of_gt h0)).2 h1
  omega
theorem near_scaled (c s : Nat) (h0 : 0 < c) (h1 : c < 2 ^ 53) : D64.nearest false (c * 2 ^ s) (-(s : Int)) = (1022 + c.log2) * 2 ^ 52 + c * 2 ^ (52 - c.log2) := by
  have hL := log2_le c h0 h1
  have hp : 0 < 2 ^ s := Nat.two_pow_pos s
  unfold Ieee.Format.nearest
  rw [if_neg (Nat.ne_of_gt (Nat.mul_pos h0 hp)), log2_scaled c s h0, lp64, bn64, inf64]
  have hlast : max (-(s : Int) + ((c.log2 + s : Nat) : Int) - (D64.fractionBits : Int)) (-1074) = (c.log2 : Int) - 52 := by
    rw [show (D64.fractionBits : Int) = 52 from rfl]; omega
  simp only [hlast]
  have hk : Ieee.Toward.even.cut false ((c * 2 ^ s) <<< (-(s : Int) - ((c.log2 : Int) - 52)).toNat) (((c.log2 : Int) - 52) - -(s : Int)).toNat = c * 2 ^ (52 - c.log2) := by
    rw [Nat.shiftLeft_eq, Nat.mul_assoc, ← Nat.pow_add]
    have e : s + (-(s : Int) - ((c.log2 : Int) - 52)).toNat = (52 - c.log2) + (((c.log2 : Int) - 52) - -(s : Int)).toNat := by omega
    rw [e, Nat.pow_add, ← Nat.mul_assoc]
    exact cut_exact _ _ (Nat.mul_pos h0 (Nat.two_pow_pos _))
  rw [hk]
  have e2 : ((c.log2 : Int) - 52 - -1074).toNat = 1022 + c.log2 := by omega
  rw [e2]
  have hlt : c * 2 ^ (52 - c.log2) < 2 ^ 53 := by
    have l2 := Nat.lt_log2_self (n := c)
    calc c * 2 ^ (52 - c.log2) < 2 ^ (c.log2 + 1) * 2 ^ (52 - c.log2) := (Nat.mul_lt_mul_right (Nat.two_pow_pos _)).2 l2
      _ = 2 ^ 53 := by rw [← Nat.pow_add]; congr 1; omega
  have : min ((1022 + c.log2) * 2 ^ 52 + c * 2 ^ (52 - c.log2)) (2047 * 2 ^ 52) = (1022 + c.log2) * 2 ^ 52 + c * 2 ^ (52 - c.log2) := by omega
  rw [this]
  rfl
theorem read_scaled (c : Nat) (h0 : 0 < c) (h1 : c < 2 ^ 53) : D64.read ((1022 + c.log2) * 2 ^ 52 + c * 2 ^ (52 - c.log2)) = .number false (c * 2 ^ (52 - c.log2)) (-((52 - c.log2 : Nat) : Int)) := by
  have hL := log2_le c h0 h1
  have hlt : c * 2 ^ (52 - c.log2) < 2 ^ 53 := by
    have l2 := Nat.lt_log2_self (n := c)
    calc c * 2 ^ (52 - c.log2) < 2 ^ (c.log2 + 1) * 2 ^ (52 - c.log2) := (Nat.mul_lt_mul_right (Nat.two_pow_pos _)).2 l2
      _ = 2 ^ 53 := by rw [← Nat.pow_add]; congr 1; omega
  have hge : 2 ^ 52 ≤ c * 2 ^ (52 - c.log2) := by
    have l1 := Nat.log2_self_le (Nat.ne_of_gt h0)
    calc 2 ^ 52 = 2 ^ c.log2 * 2 ^ (52 - c.log2) := by rw [← Nat.pow_add]; congr 1; omega
      _ ≤ c * 2 ^ (52 - c.log2) := Nat.mul_le_mul_right _ l1
  generalize hM : c * 2 ^ (52 - c.log2) = M at *
  generalize c.log2 = L at *
  unfold Ieee.Format.read
  rw [lp64, bn64, inf64, sw64]
  have hw : ((1022 + L) * 2 ^ 52 + M) / 2 ^ 63 = 0 := Nat.div_eq_of_lt (by omega)
  have hr : ((1022 + L) * 2 ^ 52 + M) % 2 ^ 63 = (1022 + L) * 2 ^ 52 + M := Nat.mod_eq_of_lt (by omega)
  simp only [hw, hr]
  rw [if_neg (by omega), if_pos (by omega)]
  have hd : ((1022 + L) * 2 ^ 52 + M) / 2 ^ 52 = 1023 + L := by omega
  have hm : ((1022 + L) * 2 ^ 52 + M) % 2 ^ 52 = M - 2 ^ 52 := by omega
  rw [hd, hm]
  have e1 : 2 ^ 52 + (M - 2 ^ 52) = M := by omega
  have e2 : (-1074 : Int) + ((1023 + L - 1 : Nat) : Int) = -((52 - L : Nat) : Int) := by omega
  rw [e1, e2]
  rfl
/-- a word that stands for the whole number c -/
def FlIs (w c : Nat) : Prop := ∃ s : Nat, D64.read w = .number false (c * 2 ^ s) (-(s : Int))
theorem flIs_near (c s : Nat) (h1 : c < 2 ^ 53) : FlIs (D64.nearest false (c * 2 ^ s) (-(s : Int))) c := by
  rcases Nat.eq_zero_or_pos c with rfl | h0
  · rw [Nat.zero_mul]
    have e : D64.nearest false 0 (-(s : Int)) = 0 := rfl
    rw [e]
    obtain ⟨u, hu⟩ : ∃ u : Nat, u = 1074 := ⟨_, rfl⟩
    refine ⟨u, ?_⟩
    rw [Nat.zero_mul, hu]; decide
  · rw [near_scaled c s h0 h1]
    exact ⟨_, read_scaled c h0 h1⟩
theorem fnear_is (n : Nat) (h : n < 2 ^ 53) : FlIs (fnear (n : Int)).b n := by
  have := flIs_near n 0 h
  simp only [Nat.pow_zero, Nat.mul_one] at this
  show FlIs (D64.nearest _ _ _) n
  have e : decide ((n : Int) < 0) = false := by simp
  rw [e]
  simpa using this
theorem signed_pos (m u : Nat) : Ieee.signed false m u = ((m * 2 ^ u : Nat) : Int) := by simp [Ieee.signed, Nat.shiftLeft_eq]
theorem order_is {w v a b : Nat} (hw : FlIs w a) (hv : FlIs v b) : D64.order w v = some (compare (a : Int) (b : Int)) := by
  obtain ⟨s, hs⟩ := hw
  obtain ⟨t, ht⟩ := hv
  unfold Ieee.Format.order
  rw [hs, ht]
  simp only [Ieee.Datum.order, signed_pos]
  congr 1
  rw [Nat.mul_assoc, Nat.mul_assoc, ← Nat.pow_add, ← Nat.pow_add]
  have e1 : s + (-(s : Int) - min (-(s : Int)) (-(t : Int))).toNat = max s t := by omega
  have e2 : t + (-(t : Int) - min (-(s : Int)) (-(t : Int))).toNat = max s t := by omega
  rw [e1, e2]
  have hp : 0 < 2 ^ max s t := Nat.two_pow_pos _
  generalize 2 ^ max s t = q at *
  have hq : (0 : Int) < q := by omega
  simp only [compare, compareOfLessAndEq]
  have c1 : ((a : Int) * q < b * q) ↔ ((a : Int) < b) := Int.mul_lt_mul_right hq
  have c2 : ((a : Int) * q = b * q) ↔ ((a : Int) = b) := Int.mul_eq_mul_right_iff (by omega)
  simp only [Int.natCast_mul, c1, c2]
theorem fcut_is {f : Fl} {a : Nat} (hf : FlIs f.b a) (h : a < 2 ^ 63) : fcut f = some (a : Int) := by
  obtain ⟨s, hs⟩ := hf
  unfold fcut
  have e : FloatKind.f64.decode f.b = .number false (a * 2 ^ s) (-(s : Int)) := hs
  rw [e]
  have e2 : Ieee.Datum.toInt .zero (.number false (a * 2 ^ s) (-(s : Int))) = some (a : Int) := by
    unfold Ieee.Datum.toInt Ieee.Datum.integral
    simp only [signed_pos, Nat.pow_zero, Nat.mul_one, Int.neg_neg]
    congr 2
    have h0 : (-(s : Int)).toNat = 0 := by omega
    have h1 : ((s : Int)).toNat = s := by omega
    rw [h0, h1, Nat.shiftLeft_zero]
    unfold Ieee.Toward.cut
    rcases Nat.eq_zero_or_pos a with rfl | ha
    · simp
    · have hl : min s ((a * 2 ^ s).log2 + 2) = s := by rw [log2_scaled a s ha]; omega
      simp only [hl]
      rw [Nat.shiftLeft_eq, Nat.one_mul, Nat.mul_div_cancel _ (Nat.two_pow_pos s)]
      simp
  rw [e2]
  simp only
  rw [if_pos ?_]
  simp only [IntKind.min, IntKind.max, IntKind.signed, IntKind.bits]
  constructor <;> (first | (simp; done) | (simp; omega) | omega)
theorem fadd_is {f g : Fl} {a b : Nat} (hf : FlIs f.b a) (hg : FlIs g.b b) (h : a + b < 2 ^ 53) : ∃ r, fadd f g = some r ∧ FlIs r.b (a + b) := by
  obtain ⟨s, hs⟩ := hf
  obtain ⟨t, ht⟩ := hg
  have key : D64.add f.b g.b = some (D64.nearest false ((a + b) * 2 ^ max s t) (-((max s t : Nat) : Int))) := by
    unfold Ieee.Format.add
    rw [hs, ht]
    simp only [Ieee.Datum.sum, signed_pos, Option.map_some]
    have e0 : min (-(s : Int)) (-(t : Int)) = -((max s t : Nat) : Int) := by omega
    rw [e0]
    rw [Nat.mul_assoc, Nat.mul_assoc, ← Nat.pow_add, ← Nat.pow_add]
    have e1 : s + (-(s : Int) - -((max s t : Nat) : Int)).toNat = max s t := by omega
    have e2 : t + (-(t : Int) - -((max s t : Nat) : Int)).toNat = max s t := by omega
    rw [e1, e2]
    have e3 : ((a * 2 ^ max s t : Nat) : Int) + ((b * 2 ^ max s t : Nat) : Int) = (((a + b) * 2 ^ max s t : Nat) : Int) := by rw [Nat.add_mul, Int.natCast_add]
    rw [e3]
    have e4 : (if (((a + b) * 2 ^ max s t : Nat) : Int) = 0 then (false && false) else decide ((((a + b) * 2 ^ max s t : Nat) : Int) < 0)) = false := by
      split
      · rfl
      · exact decide_eq_false (by omega)
    rw [e4, Int.natAbs_natCast]
    rfl
  refine ⟨⟨_⟩, by unfold fadd; rw [d64, key]; rfl, flIs_near _ _ h⟩
theorem cmp_of {a b : Int} : (compare a b = .lt ↔ a < b) ∧ (compare a b = .eq ↔ a = b) ∧ (compare a b = .gt ↔ b < a) := by
  simp only [compare, compareOfLessAndEq]
  split
  · simp; omega
  · split
    · simp; omega
    · simp; omega
section
variable {x y : Fl} {a b : Nat}
theorem feq_is (hx : FlIs x.b a) (hy : FlIs y.b b) : feq x y = decide (a = b) := by
  unfold feq; rw [d64, order_is hx hy, Bool.eq_iff_iff]; simp [cmp_of.2.1]; omega
theorem fge_is (hx : FlIs x.b a) (hy : FlIs y.b b) : fge x y = decide (b ≤ a) := by
  unfold fge; rw [d64, order_is hx hy, Bool.eq_iff_iff]; simp [cmp_of.2.1, cmp_of.2.2]; omega
theorem fle_is (hx : FlIs x.b a) (hy : FlIs y.b b) : fle x y = decide (a ≤ b) := by
  unfold fle; rw [d64, order_is hx hy, Bool.eq_iff_iff]; simp [cmp_of.2.1, cmp_of.1]; omega
end
theorem cut_near (c d : Nat) (hd : d ≤ c.log2 + 2) (h1 : 2 ^ 52 ≤ c / 2 ^ d) (h2 : c / 2 ^ d < 2 ^ 53) : ∃ k, Ieee.Toward.even.cut false c d = k ∧ 2 ^ 52 ≤ k ∧ k ≤ 2 ^ 53 := by
  refine ⟨_, rfl, ?_⟩
  unfold Ieee.Toward.cut
  rw [Nat.min_eq_left hd]
  simp only [Nat.shiftLeft_eq, Nat.one_mul]
  generalize (decide (2 ^ d < 2 * (c % 2 ^ d)) || (2 ^ d == 2 * (c % 2 ^ d) && c / 2 ^ d % 2 == 1)) = bb
  have : bb.toNat ≤ 1 := Bool.toNat_le bb
  generalize 2 ^ 52 = q at *
  omega
theorem min_inf {L k : Nat} (hL : L < 64) (hk : k ≤ 2 ^ 53) : min ((1022 + L) * 2 ^ 52 + k) (2047 * 2 ^ 52) = (1022 + L) * 2 ^ 52 + k := by omega
theorem read_big {L k : Nat} (hL1 : 53 ≤ L) (hL : L < 64) (hk1 : 2 ^ 52 ≤ k) (hk2 : k ≤ 2 ^ 53) : ∃ m p : Nat, (1022 + L) * 2 ^ 52 + k < 2 ^ 63 ∧ D64.read ((1022 + L) * 2 ^ 52 + k) = .number false m (p : Int) ∧ 2 ^ 52 ≤ m := by
  unfold Ieee.Format.read
  rw [lp64, bn64, inf64, sw64]
  have hlt : (1022 + L) * 2 ^ 52 + k < 2 ^ 63 := by omega
  have hw : ((1022 + L) * 2 ^ 52 + k) / 2 ^ 63 = 0 := Nat.div_eq_of_lt hlt
  have hr : ((1022 + L) * 2 ^ 52 + k) % 2 ^ 63 = (1022 + L) * 2 ^ 52 + k := Nat.mod_eq_of_lt hlt
  simp only [hw, hr]
  rw [if_neg (by omega), if_pos (by omega)]
  have hd : ∃ q, ((1022 + L) * 2 ^ 52 + k) / 2 ^ 52 = q ∧ 1075 ≤ q := ⟨_, rfl, by omega⟩
  obtain ⟨q, hq, hq1⟩ := hd
  rw [hq]
  generalize ((1022 + L) * 2 ^ 52 + k) % 2 ^ 52 = r
  refine ⟨2 ^ 52 + r, q - 1 - 1074, hlt, ?_, Nat.le_add_right _ _⟩
  have e : (-1074 : Int) + ((q - 1 : Nat) : Int) = ((q - 1 - 1074 : Nat) : Int) := by omega
  rw [e]
  have e0 : ((0 : Nat) % 2 == 1) = false := by decide
  rw [e0]
theorem near_big (c : Nat) (h0 : 2 ^ 53 ≤ c) (h1 : c < 2 ^ 64) : ∃ m p : Nat, D64.nearest false c 0 < 2 ^ 63 ∧ D64.read (D64.nearest false c 0) = .number false m (p : Int) ∧ 2 ^ 52 ≤ m := by
  have hc : c ≠ 0 := by omega
  have hL1 : 53 ≤ c.log2 := (Nat.le_log2 hc).2 h0
  have hL2 : c.log2 < 64 := (Nat.log2_lt hc).2 h1
  have l1 := Nat.log2_self_le hc
  have l2 := Nat.lt_log2_self (n := c)
  obtain ⟨k, hk1, hk2, hk⟩ : ∃ k, 2 ^ 52 ≤ k ∧ k ≤ 2 ^ 53 ∧ D64.nearest false c 0 = (1022 + c.log2) * 2 ^ 52 + k := by
    unfold Ieee.Format.nearest
    rw [if_neg hc, lp64, bn64, inf64]
    have hlast : max ((0 : Int) + (c.log2 : Int) - (D64.fractionBits : Int)) (-1074) = (c.log2 : Int) - 52 := by
      rw [show (D64.fractionBits : Int) = 52 from rfl]; omega
    simp only [hlast]
    have e1 : ((0 : Int) - ((c.log2 : Int) - 52)).toNat = 0 := by omega
    have e2 : (((c.log2 : Int) - 52) - 0).toNat = c.log2 - 52 := by omega
    have e3 : ((c.log2 : Int) - 52 - -1074).toNat = 1022 + c.log2 := by omega
    rw [e1, e2, e3, Nat.shiftLeft_zero]
    have hlo : 2 ^ 52 ≤ c / 2 ^ (c.log2 - 52) ∧ c / 2 ^ (c.log2 - 52) < 2 ^ 53 := by
      constructor
      · rw [Nat.le_div_iff_mul_le (Nat.two_pow_pos _), ← Nat.pow_add, show 52 + (c.log2 - 52) = c.log2 by omega]; exact l1
      · rw [Nat.div_lt_iff_lt_mul (Nat.two_pow_pos _), ← Nat.pow_add, show 53 + (c.log2 - 52) = c.log2 + 1 by omega]; exact l2
    obtain ⟨k, hk, hk1, hk2⟩ := cut_near c (c.log2 - 52) (by omega) hlo.1 hlo.2
    refine ⟨k, hk1, hk2, ?_⟩
    rw [hk]
    have : min ((1022 + c.log2) * 2 ^ 52 + k) (2047 * 2 ^ 52) = (1022 + c.log2) * 2 ^ 52 + k := min_inf hL2 hk2
    rw [this]
    simp only [Ieee.Format.word, Bool.false_eq_true, if_false]
  rw [hk]
  exact read_big hL1 hL2 hk1 hk2
theorem read_neg {r m : Nat} {p : Int} (h : r < 2 ^ 63) (hr : D64.read r = .number false m p) : D64.read (2 ^ 63 + r) = .number true m p := by
  unfold Ieee.Format.read at hr ⊢
  rw [lp64, bn64, inf64, sw64] at hr ⊢
  have h1 : r / 2 ^ 63 = 0 := Nat.div_eq_of_lt h
  have h2 : r % 2 ^ 63 = r := Nat.mod_eq_of_lt h
  have h3 : (2 ^ 63 + r) / 2 ^ 63 = 1 := by omega
  have h4 : (2 ^ 63 + r) % 2 ^ 63 = r := by omega
  simp only [h1, h2] at hr
  simp only [h3, h4]
  split at hr
  · rename_i hc
    rw [if_pos hc]
    injection hr with _ a b
    rw [a, b]; rfl
  · rename_i hc
    rw [if_neg hc]
    split at hr
    · rename_i hc2
      rw [if_pos hc2]
      injection hr with _ a b
      rw [a, b]; rfl
    · split at hr <;> cases hr
/-- a number that isn't negative, and not nought: as it is read -/
theorem near_pos (c : Nat) (h0 : 0 < c) (h1 : c < 2 ^ 64) : ∃ (m : Nat) (p : Int), D64.nearest false c 0 < 2 ^ 63 ∧ D64.read (D64.nearest false c 0) = .number false m p ∧ 0 < m := by
  by_cases h : c < 2 ^ 53
  · have := near_scaled c 0 h0 h
    simp only [Nat.pow_zero, Nat.mul_one] at this
    have hz : (-((0 : Nat) : Int)) = 0 := rfl
    rw [hz] at this
    have hL := log2_le c h0 h
    have hlt : c * 2 ^ (52 - c.log2) < 2 ^ 53 := by
      have l2 := Nat.lt_log2_self (n := c)
      calc c * 2 ^ (52 - c.log2) < 2 ^ (c.log2 + 1) * 2 ^ (52 - c.log2) := (Nat.mul_lt_mul_right (Nat.two_pow_pos _)).2 l2
        _ = 2 ^ 53 := by rw [← Nat.pow_add]; congr 1; omega
    rw [this]
    exact ⟨_, _, by omega, read_scaled c h0 h, Nat.mul_pos h0 (Nat.two_pow_pos _)⟩
  · obtain ⟨m, p, a, b, c⟩ := near_big c (by omega) h1
    exact ⟨m, p, a, b, by omega⟩
theorem near_neg (c : Nat) (h0 : 0 < c) : D64.nearest true c 0 = 2 ^ 63 + D64.nearest false c 0 := by
  unfold Ieee.Format.nearest
  rw [if_neg (by omega), if_neg (by omega)]
  have hcut : ∀ a b, Ieee.Toward.even.cut true a b = Ieee.Toward.even.cut false a b := fun a b => rfl
  simp only [Ieee.Format.word, if_true, Bool.false_eq_true, if_false, sw64, hcut]
/-- is an int from lo to 1024? asked of its float -/
theorem whole_flt (n : Int) (hn : -9223372036854775808 ≤ n ∧ n ≤ 9223372036854775807) (lo : Nat) (hlo : lo ≤ 1024) :
    (fge (fnear n) (fnear (lo : Int)) && fle (fnear n) (fnear ((1024 : Nat) : Int))) = decide ((lo : Int) ≤ n ∧ n ≤ 1024) := by
  have hL := fnear_is lo (by omega)
  have hH := fnear_is 1024 (by omega)
  rcases Int.lt_or_le n 0 with hneg | hpos
  · have e0 : decide ((lo : Int) ≤ n ∧ n ≤ 1024) = false := decide_eq_false (by omega)
    rw [e0]
    obtain ⟨m, p, a, b, hm⟩ := near_pos n.natAbs (by omega) (by omega)
    have hw : (fnear n).b = 2 ^ 63 + D64.nearest false n.natAbs 0 := by
      show D64.nearest (decide (n < 0)) n.natAbs 0 = _
      rw [decide_eq_true hneg]; exact near_neg _ (by omega)
    have hr := read_neg a b
    obtain ⟨t, ht⟩ := hL
    have ho : D64.order (fnear n).b (fnear (lo : Int)).b = some .lt := by
      unfold Ieee.Format.order
      rw [hw, hr, ht]
      simp only [Ieee.Datum.order, signed_pos]
      congr 1
      rw [cmp_of.1]
      have h1 : Ieee.signed true m (p - min p (-(t : Int))).toNat = -((m * 2 ^ (p - min p (-(t : Int))).toNat : Nat) : Int) := by simp [Ieee.signed, Nat.shiftLeft_eq]
      rw [h1]
      have h2 : 0 < m * 2 ^ (p - min p (-(t : Int))).toNat := Nat.mul_pos hm (Nat.two_pow_pos _)
      omega
    have : fge (fnear n) (fnear (lo : Int)) = false := by unfold fge; rw [d64, ho]; rfl
    rw [this]; rfl
  · obtain ⟨c, rfl⟩ := Int.eq_ofNat_of_zero_le hpos
    by_cases hc : c < 2 ^ 53
    · have hC := fnear_is c hc
      rw [fge_is hC hL, fle_is hC hH, Bool.eq_iff_iff]
      simp; omega
    · have e0 : decide ((lo : Int) ≤ (c : Int) ∧ (c : Int) ≤ 1024) = false := decide_eq_false (by omega)
      rw [e0]
      obtain ⟨m, p, a, b, hm⟩ := near_big c (by omega) (by omega)
      obtain ⟨t, ht⟩ := hH
      have hw : (fnear (c : Int)).b = D64.nearest false c 0 := by
        show D64.nearest (decide ((c : Int) < 0)) ((c : Int)).natAbs 0 = _
        rw [decide_eq_false (by omega)]; rfl
      have ho : D64.order (fnear (c : Int)).b (fnear ((1024 : Nat) : Int)).b = some .gt := by
        unfold Ieee.Format.order
        rw [hw, b, ht]
        simp only [Ieee.Datum.order, signed_pos]
        congr 1
        rw [cmp_of.2.2]
        have e1 : ((p : Int) - min (p : Int) (-(t : Int))).toNat = t + p := by omega
        have e2 : (-(t : Int) - min (p : Int) (-(t : Int))).toNat = 0 := by omega
        rw [e1, e2, Nat.pow_zero, Nat.mul_one, Nat.pow_add]
        have h3 : 0 < 2 ^ t := Nat.two_pow_pos t
        have h4 : 0 < 2 ^ p := Nat.two_pow_pos p
        have h5 : 1024 * 2 ^ t < m * (2 ^ t * 2 ^ p) := by
          calc 1024 * 2 ^ t < m * 2 ^ t := (Nat.mul_lt_mul_right h3).2 (by omega)
            _ = m * (2 ^ t * 1) := by rw [Nat.mul_one]
            _ ≤ m * (2 ^ t * 2 ^ p) := Nat.mul_le_mul_left _ (Nat.mul_le_mul_left _ h4)
        omega
      have : fle (fnear (c : Int)) (fnear ((1024 : Nat) : Int)) = false := by unfold fle; rw [d64, ho]; rfl
      rw [this]; simp
def cxI (h r : Int) : Cx := ⟨(fnear h).b, (fnear r).b⟩
def I64 (n : Int) : Prop := -9223372036854775808 ≤ n ∧ n ≤ 9223372036854775807
theorem rkWhole_spec (n : Int) (lo : Nat) (hn : I64 n) (hlo : lo ≤ 1024) {k : Bool → H → Prop} {h : H} (hk : k (decide ((lo : Int) ≤ n ∧ n ≤ 1024)) h) :
    call (β := Bool) Prog 88 [reg (⟨(fnear n).b⟩ : Fl), reg ((lo : Int) : Int), reg ((1024 : Int) : Int)] k h := by
  refine rank_whole.ok _ _ _ _ _ ?_
  unfold rank_whole.b
  have e := whole_flt n hn lo hlo
  have e1 : (⟨(fnear n).b⟩ : Fl) = fnear n := rfl
  rw [e1]
  have e2 : (fge (fnear n) (fnear (lo : Int)) && fle (fnear n) (fnear (1024 : Int))) = decide ((lo : Int) ≤ n ∧ n ≤ 1024) := e
  rw [e2]
  unfold rank_whole.j1
  refine ifb_i (fun hc => ?_) (fun hc => ?_)
  · have hc' : (lo : Int) ≤ n ∧ n ≤ 1024 := by simpa using hc
    obtain ⟨c, rfl⟩ := Int.eq_ofNat_of_zero_le (show 0 ≤ n by omega)
    have hC := fnear_is c (by omega)
    refine ⟨(c : Int), fcut_is hC (by omega), ?_⟩
    show k (feq (fnear (c : Int)) (fnear (c : Int))) h
    rw [feq_is hC hC]
    rw [hc] at hk
    simpa using hk
  · rw [hc] at hk; exact hk
theorem RkGood_spec (a b : Int) (ha : I64 a) (hb : I64 b) {k : Bool → H → Prop} {h : H} (hk : k (decide ((1 ≤ a ∧ a ≤ 1024) ∧ 0 ≤ b ∧ b ≤ 1024)) h) : call (β := Bool) Prog 55 [reg (cxI a b)] k h := by
  refine rank_Good.ok _ _ _ ?_
  unfold rank_Good.b rank_Good.j1
  refine rkWhole_spec a 1 ha (by decide) ?_
  refine ifb_i (fun hc => ?_) (fun hc => ?_)
  · refine rkWhole_spec b 0 hb (by decide) ?_
    have hc' : ((1 : Nat) : Int) ≤ a ∧ a ≤ 1024 := by simpa using hc
    have e : decide (((0 : Nat) : Int) ≤ b ∧ b ≤ 1024) = decide ((1 ≤ a ∧ a ≤ 1024) ∧ 0 ≤ b ∧ b ≤ 1024) := by
      rw [Bool.eq_iff_iff]; simp; omega
    rw [e]; exact hk
  · have hc' : ¬ (((1 : Nat) : Int) ≤ a ∧ a ≤ 1024) := by simpa using hc
    have e : decide ((1 ≤ a ∧ a ≤ 1024) ∧ 0 ≤ b ∧ b ≤ 1024) = false := decide_eq_false (by omega)
    rw [e] at hk; exact hk
/-- a place -/
def Plc (a b : Int) : Prop := (1 ≤ a ∧ a ≤ 1024) ∧ 0 ≤ b ∧ b ≤ 1024
theorem Plc.i {a b : Int} (h : Plc a b) : I64 a ∧ I64 b := by unfold Plc at h; unfold I64; omega
theorem RkGoodP {a b : Int} (hp : Plc a b) {k : Bool → H → Prop} {h : H} (hk : k true h) : call (β := Bool) Prog 55 [reg (cxI a b)] k h := by
  refine RkGood_spec a b hp.i.1 hp.i.2 ?_
  rw [decide_eq_true (show (1 ≤ a ∧ a ≤ 1024) ∧ 0 ≤ b ∧ b ≤ 1024 from hp)]; exact hk
theorem At_spec (a b : Int) {k : Cx → H → Prop} {h : H} (hk : k (cxI a b) h) : call (β := Cx) Prog 30 [reg (a : Int), reg (b : Int)] k h := rank_At.ok _ _ _ _ hk
theorem Height_spec {a b : Int} (hp : Plc a b) {k : Int → H → Prop} {h : H} (hk : k a h) : call (β := Int) Prog 68 [reg (cxI a b)] k h := by
  refine rank_Height.ok _ _ _ ?_
  unfold rank_Height.b
  refine RkGoodP hp (ifb_i (fun hc => by cases hc) (fun _ => ?_))
  obtain ⟨c, rfl⟩ := Int.eq_ofNat_of_zero_le (show 0 ≤ a by have := hp.1; omega)
  exact ⟨_, fcut_is (fnear_is c (by have := hp.1; omega)) (by have := hp.1; omega), hk⟩
theorem Round_spec {a b : Int} (hp : Plc a b) {k : Int → H → Prop} {h : H} (hk : k b h) : call (β := Int) Prog 65 [reg (cxI a b)] k h := by
  refine rank_Round.ok _ _ _ ?_
  unfold rank_Round.b
  refine RkGoodP hp (ifb_i (fun hc => by cases hc) (fun _ => ?_))
  obtain ⟨c, rfl⟩ := Int.eq_ofNat_of_zero_le hp.2.1
  exact ⟨_, fcut_is (fnear_is c (by have := hp.2; omega)) (by have := hp.2; omega), hk⟩
theorem Leader_spec {a b n : Int} (hp : Plc a b) (hn : 1 ≤ n) {k : Int → H → Prop} {h : H} (hk : k ((a + b) % n) h) : call (β := Int) Prog 29 [reg (n : Int), reg (cxI a b)] k h := by
  refine rank_Leader.ok _ _ _ _ ?_
  unfold rank_Leader.b rank_Leader.j1
  refine ifb_i (fun hc => by simp at hc; omega) (fun _ => ?_)
  refine RkGoodP hp (ifb_i (fun hc => by cases hc) (fun _ => ?_))
  obtain ⟨⟨h1, h2⟩, h3, h4⟩ := hp
  obtain ⟨a, rfl⟩ := Int.eq_ofNat_of_zero_le (show 0 ≤ a by omega)
  obtain ⟨b, rfl⟩ := Int.eq_ofNat_of_zero_le h3
  obtain ⟨r, hr, hf⟩ := fadd_is (f := fnear (a : Int)) (g := fnear (b : Int)) (fnear_is a (by omega)) (fnear_is b (by omega)) (by omega)
  refine ⟨r, hr, _, fcut_is hf (by omega), by omega, ?_⟩
  have e : irem ((a + b : Nat) : Int) n = ((a : Int) + b) % n := by
    rw [show ((a + b : Nat) : Int) = (a : Int) + b by omega]
    exact Int.tmod_eq_emod_of_nonneg (by omega)
  rw [e]; exact hk
theorem round_none.ok (k : (Arr 32 UInt8) → H → Prop) (h : H) (hh : round_none.b k h) : CallsH Prog 64 ([] : List Value).toArray h fun v h' => ∃ r : Arr 32 UInt8, v = reg r ∧ k r h' := by
 unfold round_none.b at hh
 refine CallsH.of 3 Tryd.func64 rfl Tryd.ntmps64 rfl (fun w0 => ?_)
 refine .sr ?_
 refine box_elim hh (fun t0 ht0 hh => ?_)
 refine .e (e_allocP ht0 zo_24 rfl ?_)
 refine .nx (.sr ?_)
 refine box_elim hh (fun z hz hh => ?_)
 refine .e (e_allocP hz zo_24 rfl ?_)
 refine .nx (.sr (.LA 0 ag_24 get_24_all (fun _ => (arr_len (n := 32) _)) hh rfl (fun t2 hh => .S (t2 : Arr 32 UInt8) 0 sz_24 (one_arr (n := 32) (fun _ => rfl) _) (fun _ => arr_len (n := 32) _) (arr_len (n := 32) _) (fun x => set_24_all x (t2 : Arr 32 UInt8)) hh rfl rfl (fun _ hh => .nx ?_))))
 refine CW.ret ?_
 obtain ⟨r0, ⟨xr0, hxr0, hgr0⟩, hh⟩ := hh
 have hr0 := ld_id hxr0 hgr0
 exact retc rfl rfl ag_24 hr0 (arr_len (n := 32) _) ⟨(r0 : Arr 32 UInt8), rfl, hh⟩
theorem round_Core_leader.ok (c : Pt) (at_ : Cx) (k : Int → H → Prop) (h : H) (hh : round_Core_leader.b c at_ k h) : CallsH Prog 70 [reg c, reg at_].toArray h fun v h' => ∃ r : Int, v = reg r ∧ k r h' := by
 unfold round_Core_leader.b at hh
 refine CallsH.of 21 Tryd.func70 rfl Tryd.ntmps70 rfl (fun w0 => ?_)
 refine .sr (.A (reg ((0 : Int) : Int)) (.nx (.seq ?_)))
 refine CW.drawN 17 rfl follows_mixed [0, 1, 2, 3, 4, 5, 6, 7, 8, 9, 10, 11, 13, 14, 15, 16] ?_
 refine .P 0 rfl (v_move (v := reg c) rfl) ?_
 obtain ⟨p, hp, hh⟩ := hh
 refine .P 1 rfl (v_nilCheck (congrArg Value.pointer hp)) (.P 2 rfl (v_fieldAddr fl_140_0 rfl) (.P 3 rfl (v_fieldAddr fl_54_1 rfl) (.KL 4 1 na_52 get_140_config_Members rfl hh rfl (fun t9 hh => .P 5 rfl (v_move (v := reg c) rfl) (.P 6 rfl (v_nilCheck (congrArg Value.pointer hp)) (.P 7 rfl (v_fieldAddr fl_140_0 rfl) (.P 8 rfl (v_fieldAddr fl_54_1 rfl) (.KL 9 1 na_52 get_140_config_Members rfl hh rfl (fun t14 hh => .P 10 rfl (v_len_sl (sl_52).1 rfl) ?_)))))))))
 refine .P 11 rfl (v_move (v := reg at_) rfl) ?_
 refine .w 12 (by kernel_rfl) rfl (by kernel_rfl) (.e (e_callP fn_29 rfl rfl hh ?_))
 intro h t17 hh
 obtain ⟨hc, hh⟩ := hh
 refine ⟨⟨⟨trivial, .inr hc⟩, .inl (by kernel_rfl)⟩, ?_⟩
 obtain ⟨t18, ht18, hh⟩ := hh
 refine .P 13 rfl (v_idx_slP sl_52 rfl rfl ht18.1 ht18.2.1 ht18.2.2) (.P 14 rfl (v_fieldAddr fl_110_0 rfl) (.KL 15 0 na_3 get_110_Id rfl hh rfl (fun t20 hh => .P 16 rfl (v_assign (v := reg t20) rfl) ?_)))
 refine .done (by kernel_rfl) ?_
 refine QN.then_ ?_
 refine CW.ret ?_
 exact ret1 rfl rfl ⟨(t20 : Int), rfl, hh⟩
theorem round_Core_member.ok (c : Pt) (k : Bool → H → Prop) (h : H) (hh : round_Core_member.b c k h) : CallsH Prog 89 [reg c].toArray h fun v h' => ∃ r : Bool, v = reg r ∧ k r h' := by
 unfold round_Core_member.b at hh
 refine CallsH.of 20 Tryd.func89 rfl Tryd.ntmps89 rfl (fun w0 => ?_)
 refine .sr (.A (reg false) (.nx ?_))
 refine CW.join (fun ρ h => ∃ (ρ' : Env) (is : Bool), ρ = setl ρ' [(5, reg is)] ∧ (round_Core_member.j1 k) is h) ?_ ?_
 ·refine CW.drawN 17 rfl follows_mixed [0, 1, 2, 3, 4, 5, 6, 7, 9, 10, 11, 12, 15, 16] ?_
  refine .P 0 rfl (v_move (v := reg c) rfl) ?_
  obtain ⟨p, hp, hh⟩ := hh
  refine .P 1 rfl (v_nilCheck (congrArg Value.pointer hp)) (.P 2 rfl (v_fieldAddr fl_140_0 rfl) (.KA 3 0 ag_54 get_140_config (fun _ => (len_api_Config _)) rfl hh rfl (fun t10 hh => .P 4 rfl (v_move (v := reg c) rfl) (.P 5 rfl (v_nilCheck (congrArg Value.pointer hp)) (.P 6 rfl (v_fieldAddr fl_140_1 rfl) (.KL 7 2 na_3 get_140_me rfl hh rfl (fun t14 hh => ?_)))))))
  refine .w2 8 13 (by kernel_rfl) rfl rfl (by kernel_rfl) (by kernel_rfl) ?_ ?_
  ·have hh := hh.1
   refine .e (e_callP fn_77 rfl rfl hh ?_)
   intro h t15 hh
   refine ⟨⟨⟨trivial, .inl (by kernel_rfl)⟩, .inl (by kernel_rfl)⟩, ?_⟩
   refine .P 9 rfl (v_move (v := reg (t15 : T3 api_Member Int Bool)) rfl) (.P 10 rfl (v_extract (v := reg (t15.a : api_Member)) rfl rfl) (.P 11 rfl (v_extract (v := reg (t15.b : Int)) rfl rfl) (.P 12 rfl (v_extract (v := reg (t15.c : Bool)) rfl rfl) ?_)))
   refine box_elim hh (fun t3 ht3 hh => ?_)
   refine .w 13 (by kernel_rfl) rfl (by kernel_rfl) (.e (e_allocP ht3 zo_110 rfl ?_))
   obtain ⟨hc, hh⟩ := hh
   obtain ⟨hc_1, hh⟩ := hh
   refine ⟨⟨⟨trivial, .inr hc⟩, .inr hc_1⟩, ?_⟩
   obtain ⟨xw, hxw, hwxw, hh⟩ := hh
   refine .w 14 (by kernel_rfl) rfl (by kernel_rfl) (.e (e_storeN (p := t3) (nv := enc (t15.a : api_Member)) 0 rfl rfl rfl sz_110 (one_api_Member _) hxw hwxw (len_api_Member _) (len_api_Member _) rfl (set_110_all xw (t15.a : api_Member)) ?_))
   refine ⟨⟨⟨trivial, .inl (by kernel_rfl)⟩, .inl (by kernel_rfl)⟩, ?_⟩
   refine .P 15 rfl (v_assign (v := reg (t15.b : Int)) rfl) (.P 16 rfl (v_assign (v := reg (t15.c : Bool)) rfl) ?_)
   refine .done (by kernel_rfl) ?_
   exact QN.thenJ ⟨_, t15.c, setl_eq ⟨rfl, trivial⟩, hh⟩
  ·have hh := hh.2
   refine box_elim hh (fun t3_1 ht3_1 hh => ?_)
   refine .e (e_allocP ht3_1 zo_110 rfl ?_)
   obtain ⟨hc_2, hh⟩ := hh
   obtain ⟨hc_3, hh⟩ := hh
   refine ⟨⟨⟨trivial, .inr hc_2⟩, .inr hc_3⟩, ?_⟩
   refine .w 8 (by kernel_rfl) rfl (by kernel_rfl) (.e (e_callP fn_77 rfl rfl hh ?_))
   intro h t15_1 hh
   refine ⟨⟨⟨trivial, .inl (by kernel_rfl)⟩, .inl (by kernel_rfl)⟩, ?_⟩
   refine .P 9 rfl (v_move (v := reg (t15_1 : T3 api_Member Int Bool)) rfl) (.P 10 rfl (v_extract (v := reg (t15_1.a : api_Member)) rfl rfl) (.P 11 rfl (v_extract (v := reg (t15_1.b : Int)) rfl rfl) (.P 12 rfl (v_extract (v := reg (t15_1.c : Bool)) rfl rfl) ?_)))
   obtain ⟨xw_1, hxw_1, hwxw_1, hh⟩ := hh
   refine .w 14 (by kernel_rfl) rfl (by kernel_rfl) (.e (e_storeN (p := t3_1) (nv := enc (t15_1.a : api_Member)) 0 rfl rfl rfl sz_110 (one_api_Member _) hxw_1 hwxw_1 (len_api_Member _) (len_api_Member _) rfl (set_110_all xw_1 (t15_1.a : api_Member)) ?_))
   refine ⟨⟨⟨trivial, .inl (by kernel_rfl)⟩, .inl (by kernel_rfl)⟩, ?_⟩
   refine .P 15 rfl (v_assign (v := reg (t15_1.b : Int)) rfl) (.P 16 rfl (v_assign (v := reg (t15_1.c : Bool)) rfl) ?_)
   refine .done (by kernel_rfl) ?_
   exact QN.thenJ ⟨_, t15_1.c, setl_eq ⟨rfl, trivial⟩, hh⟩
 ·rintro ρ h ⟨ρ', is, rfl, hh⟩
  unfold round_Core_member.j1 at hh
  refine .sr (.M (reg is) (.A (reg is) (.nx ?_)))
  refine CW.ret ?_
  exact ret1 rfl rfl ⟨(is : Bool), rfl, hh⟩
theorem round_Core_say.ok (c : Pt) (a : api_Act) (k : Unit → H → Prop) (h : H) (hh : round_Core_say.b c a k h) : CallsH Prog 90 [reg c, reg a].toArray h fun v h' => ∃ r : Unit, v = reg r ∧ k r h' := by
 unfold round_Core_say.b at hh
 refine CallsH.of 18 Tryd.func90 rfl Tryd.ntmps90 rfl (fun w0 => ?_)
 refine .sr ?_
 refine box_elim hh (fun a_1 ha_1 hh => ?_)
 refine .e (e_boxP ha_1 rfl rfl rfl ?_)
 refine .nx (.sr (.V (v_fieldAddr fl_80_5 rfl) (.LA 36 ag_75 get_80_Block (fun _ => (len_api_Block _)) hh rfl (fun t5 hh => ?_))))
 refine .e (e_callP fn_69 rfl rfl hh ?_)
 intro h t6 hh
 refine .V (v_fieldAddr fl_80_5 rfl) (.S (t6 : api_Block) 36 sz_75 (one_api_Block _) len_api_Act (len_api_Block _) (fun x => set_80_Block x (t6 : api_Block)) hh rfl rfl (fun _ hh => .nx ?_))
 refine CW.drawN 11 rfl follows_mixed [0, 1, 2, 3, 4, 5, 8, 9] ?_
 refine .P 0 rfl (v_move (v := reg c) rfl) (.P 1 rfl (v_move (v := reg c) rfl) ?_)
 obtain ⟨p, hp, hh⟩ := hh
 refine .P 2 rfl (v_nilCheck (congrArg Value.pointer hp)) (.P 3 rfl (v_fieldAddr fl_140_13 rfl) (.KL 4 212 na_68 get_140_out rfl hh rfl (fun t12 hh => .KA 5 0 ag_80 get_80_all (fun _ => (len_api_Act _)) rfl hh rfl (fun t13 hh => ?_))))
 refine mks_elim hh (fun pt14 t14 hpt14 ht14 hh => ?_)
 refine .w 6 (by kernel_rfl) rfl (by kernel_rfl) (.e (e_mks [(t13 : api_Act)] hpt14 ht14 zo_80 sl_68 rfl rfl rfl rfl rfl ?_))
 obtain ⟨hc, hh⟩ := hh
 refine ⟨⟨⟨trivial, .inr hc⟩, .inl (by kernel_rfl)⟩, ?_⟩
 refine .w 7 (by kernel_rfl) rfl (by kernel_rfl) (.e (e_app sl_68 zo_80 by_80 rfl rfl rfl hh ?_))
 intro h t15 hh
 refine ⟨⟨⟨trivial, .inl (by kernel_rfl)⟩, .inl (by kernel_rfl)⟩, ?_⟩
 refine .P 8 rfl (v_nilCheck (congrArg Value.pointer hp)) (.P 9 rfl (v_fieldAddr fl_140_13 rfl) ?_)
 obtain ⟨xw_1, hxw_1, hwxw_1, hh⟩ := hh
 refine .w 10 (by kernel_rfl) rfl (by kernel_rfl) (.e (e_storeN (p := p) (nv := enc (t15 : Sl)) 212 rfl rfl rfl sz_68 (one_sl _) hxw_1 hwxw_1 (len_round_Core _) (len_sl _) rfl (set_140_out xw_1 (t15 : Sl)) ?_))
 refine ⟨⟨⟨trivial, .inl (by kernel_rfl)⟩, .inl (by kernel_rfl)⟩, ?_⟩
 refine .done (by kernel_rfl) ?_
 exact ret0n rfl ⟨(), rfl, hh⟩
theorem round_Core_votes.ok (c : Pt) (kind : Int) (d : Arr 32 UInt8) (k : Unit → H → Prop) (h : H) (hh : round_Core_votes.b c kind d k h) : CallsH Prog 63 [reg c, reg kind, reg d].toArray h fun v h' => ∃ r : Unit, v = reg r ∧ k r h' := by
 unfold round_Core_votes.b at hh
 refine CallsH.of 26 Tryd.func63 rfl Tryd.ntmps63 rfl (fun w0 => ?_)
 refine .sr ?_
 refine box_elim hh (fun d_1 hd_1 hh => ?_)
 refine .e (e_boxP hd_1 rfl rfl rfl ?_)
 refine .nx (.sr (.M (reg c) (.M (reg c) (.M (reg kind) (.V (v_iadd rfl rfl) ?_)))))
 obtain ⟨p, hp, hh⟩ := hh
 refine .V (v_nilCheck (congrArg Value.pointer hp)) (.V (v_fieldAddr fl_140_4 rfl) (.S ((iadd kind (1 : Int)) : Int) 5 sz_3 (one_i _) len_round_Core (len_i _) (fun x => set_140_step x ((iadd kind (1 : Int)) : Int)) hh rfl rfl (fun _ hh => .V (v_nilCheck (congrArg Value.pointer hp)) (.V (v_fieldAddr fl_140_11 rfl) (.S (true : Bool) 210 sz_4 (one_b _) len_round_Core (len_b _) (fun x => set_140_fresh x (true : Bool)) hh rfl rfl (fun _ hh => .nx (.sr (.M (reg c) ?_))))))))
 refine .e (e_callP fn_89 rfl rfl hh ?_)
 intro h t15 hh
 refine .nx ?_
 refine CW.cond t15 rfl (fun hb => ?_) (fun hb => ?_)
 ·have hh := hh.1 hb
  refine CW.drawN 10 rfl follows_mixed [0, 1, 2, 3, 4, 6, 7, 8] ?_
  refine .P 0 rfl (v_move (v := reg c) rfl) (.P 1 rfl (v_move (v := reg c) rfl) (.P 2 rfl (v_nilCheck (congrArg Value.pointer hp)) (.P 3 rfl (v_fieldAddr fl_140_3 rfl) (.KL 4 4 na_65 get_140_at rfl hh rfl (fun t20 hh => .P 6 rfl (v_move (v := reg kind) rfl) (.KA 7 0 ag_24 get_24_all (fun _ => (arr_len (n := 32) _)) rfl hh rfl (fun t23 hh => ?_)))))))
  refine .w 5 (by kernel_rfl) rfl (by kernel_rfl) (.e (e_callP fn_65 rfl rfl hh ?_))
  intro h t21 hh
  obtain ⟨hc, hh⟩ := hh
  refine ⟨⟨⟨trivial, .inl (by kernel_rfl)⟩, .inr hc⟩, ?_⟩
  refine .P 8 rfl (v_buildT ({ api_Act.zero with Act := (2 : Int), Round := t21, Kind := kind, Digest := t23 } : api_Act) zo_80 pl_80 rfl (fill_step rfl rfl (len_i _) (len_api_Act _) rfl (set_80_Act _ _) (fill_step rfl rfl (len_i _) (len_api_Act _) rfl (set_80_Round _ _) (fill_step rfl rfl (len_i _) (len_api_Act _) rfl (set_80_Kind _ _) (fill_step rfl rfl (arr_len (n := 32) _) (len_api_Act _) rfl (set_80_Digest _ _) (rfl))))) rfl) ?_
  refine .w 9 (by kernel_rfl) rfl (by kernel_rfl) (.e (e_callP fn_90 rfl rfl hh ?_))
  intro h t25 hh
  refine ⟨⟨⟨trivial, .inl (by kernel_rfl)⟩, .inl (by kernel_rfl)⟩, ?_⟩
  refine .done (by kernel_rfl) ?_
  exact ret0n rfl ⟨(), rfl, hh⟩
 ·have hh := hh.2 hb
  refine CW.skip ?_
  exact ret0n rfl ⟨(), rfl, hh⟩
theorem round_Core_enter.ok (c : Pt) (round : Int) (k : Unit → H → Prop) (h : H) (hh : round_Core_enter.b c round k h) : CallsH Prog 57 [reg c, reg round].toArray h fun v h' => ∃ r : Unit, v = reg r ∧ k r h' := by
 unfold round_Core_enter.b at hh
 refine CallsH.of 52 Tryd.func57 rfl Tryd.ntmps57 rfl (fun w0 => ?_)
 refine .sr (.M (reg c) (.M (reg c) (.M (reg c) (.M (reg c) (.M (reg c) ?_)))))
 obtain ⟨p, hp, hh⟩ := hh
 refine .V (v_nilCheck (congrArg Value.pointer hp)) (.V (v_fieldAddr fl_140_3 rfl) (.L 4 na_65 get_140_at hh rfl (fun t11 hh => ?_)))
 refine .e (e_callP fn_68 rfl rfl hh ?_)
 intro h t12 hh
 refine .M (reg round) ?_
 refine .e (e_callP fn_30 rfl rfl hh ?_)
 intro h t14 hh
 refine .V (v_nilCheck (congrArg Value.pointer hp)) (.V (v_fieldAddr fl_140_3 rfl) (.S (t14 : Cx) 4 sz_65 (one_cx _) len_round_Core (len_cx _) (fun x => set_140_at x (t14 : Cx)) hh rfl rfl (fun _ hh => .V (v_nilCheck (congrArg Value.pointer hp)) (.V (v_fieldAddr fl_140_4 rfl) (.S ((1 : Int) : Int) 5 sz_3 (one_i _) len_round_Core (len_i _) (fun x => set_140_step x ((1 : Int) : Int)) hh rfl rfl (fun _ hh => .V (v_nilCheck (congrArg Value.pointer hp)) (.V (v_fieldAddr fl_140_5 rfl) (.S ((0 : Int) : Int) 6 sz_3 (one_i _) len_round_Core (len_i _) (fun x => set_140_ticks x ((0 : Int) : Int)) hh rfl rfl (fun _ hh => .V (v_nilCheck (congrArg Value.pointer hp)) ?_)))))))))
 refine .V (v_fieldAddr fl_140_11 rfl) (.S (true : Bool) 210 sz_4 (one_b _) len_round_Core (len_b _) (fun x => set_140_fresh x (true : Bool)) hh rfl rfl (fun _ hh => .nx ?_))
 refine CW.join (fun ρ h => ∃ (ρ' : Env) (t37 : Bool), ρ = setl ρ' [(0, reg c), (1, reg round), (37, reg t37)] ∧ (round_Core_enter.j1 k) c round t37 h) ?_ ?_
 ·refine CW.drawN 15 rfl follows_mixed [0, 2, 3, 4, 5, 6, 7, 9, 10, 11, 12, 13, 14] ?_
  refine .P 0 rfl (v_move (v := reg c) rfl) ?_
  refine .w 1 (by kernel_rfl) rfl (by kernel_rfl) (.e (e_callP fn_89 rfl rfl hh ?_))
  intro h t24 hh
  refine ⟨trivial, ?_⟩
  refine .P 2 rfl (v_move (v := reg t24) rfl) ?_
  refine ifb_cases hh (fun hb hh => ?_) (fun hb hh => ?_)
  ·refine .Y 3 25 rfl (cb hb) (v_move (v := reg c) rfl) (.Y 4 25 rfl (cb hb) (v_move (v := reg c) rfl) (.Y 5 25 rfl (cb hb) (v_nilCheck (congrArg Value.pointer hp)) (.Y 6 25 rfl (cb hb) (v_fieldAddr fl_140_3 rfl) (.YL 7 25 4 na_65 get_140_at rfl (cb hb) hh rfl (fun t30 hh => .Y 9 25 rfl (cb hb) (v_move (v := reg c) rfl) (.Y 10 25 rfl (cb hb) (v_nilCheck (congrArg Value.pointer hp)) (.Y 11 25 rfl (cb hb) (v_fieldAddr fl_140_1 rfl) (.YL 12 25 2 na_3 get_140_me rfl (cb hb) hh rfl (fun t35 hh => ?_)))))))))
   refine .w 8 (by kernel_rfl) rfl (by kernel_rfl) (.ye 25 rfl (cb hb) rfl (e_callP fn_70 rfl rfl hh ?_))
   intro h t31 hh
   obtain ⟨hc, hh⟩ := hh
   refine ⟨⟨⟨trivial, .inl (by kernel_rfl)⟩, .inr hc⟩, ?_⟩
   refine .Y 13 25 rfl (cb hb) (v_ieql rfl rfl) (.P 14 rfl (v_pickT (v := reg ((t31 == t35) : Bool)) rfl hb rfl) ?_)
   refine .done (by kernel_rfl) ?_
   exact QN.thenJ ⟨_, (t31 == t35), setl_eq ⟨rfl, ⟨rfl, ⟨rfl, trivial⟩⟩⟩, hh⟩
  ·refine .N 3 25 rfl (cb hb) (.N 4 25 rfl (cb hb) (.N 5 25 rfl (cb hb) (.N 6 25 rfl (cb hb) (.N 7 25 rfl (cb hb) (.N 9 25 rfl (cb hb) (.N 10 25 rfl (cb hb) (.N 11 25 rfl (cb hb) (.N 12 25 rfl (cb hb) ?_))))))))
   refine .w 8 (by kernel_rfl) rfl (by kernel_rfl) (.no 25 rfl (cb hb) rfl rfl ⟨trivial, ?_⟩)
   refine .N 13 25 rfl (cb hb) (.P 14 rfl (v_pickF (v := reg false) rfl hb rfl) ?_)
   refine .done (by kernel_rfl) ?_
   exact QN.thenJ ⟨_, false, setl_eq ⟨rfl, ⟨rfl, ⟨rfl, trivial⟩⟩⟩, hh⟩
 ·rintro ρ h ⟨ρ', t37, rfl, hh⟩
  unfold round_Core_enter.j1 at hh
  refine CW.cond t37 rfl (fun hb_1 => ?_) (fun hb_1 => ?_)
  ·have hh := hh.1 hb_1
   refine CW.drawN 14 rfl follows_mixed [0, 1, 2, 3, 4, 5, 6, 7, 8, 9, 10, 11, 12] ?_
   refine .P 0 rfl (v_move (v := reg c) rfl) (.P 1 rfl (v_move (v := reg round) rfl) (.P 2 rfl (v_move (v := reg c) rfl) ?_))
   obtain ⟨p_1, hp_1, hh⟩ := hh
   refine .P 3 rfl (v_nilCheck (congrArg Value.pointer hp_1)) (.P 4 rfl (v_fieldAddr fl_140_7 rfl) (.P 5 rfl (v_fieldAddr fl_136_0 rfl) (.KL 6 107 na_3 get_140_valid_round rfl hh rfl (fun t44 hh => .P 7 rfl (v_move (v := reg c) rfl) (.P 8 rfl (v_nilCheck (congrArg Value.pointer hp_1)) (.P 9 rfl (v_fieldAddr fl_140_7 rfl) (.P 10 rfl (v_fieldAddr fl_136_1 rfl) (.KA 11 108 ag_75 get_140_valid_block (fun _ => (len_api_Block _)) rfl hh rfl (fun t49 hh => .P 12 rfl (v_buildT ({ api_Act.zero with Act := (1 : Int), Round := round, Valid := t44, Block := t49 } : api_Act) zo_80 pl_80 rfl (fill_step rfl rfl (len_i _) (len_api_Act _) rfl (set_80_Act _ _) (fill_step rfl rfl (len_i _) (len_api_Act _) rfl (set_80_Round _ _) (fill_step rfl rfl (len_i _) (len_api_Act _) rfl (set_80_Valid _ _) (fill_step rfl rfl (len_api_Block _) (len_api_Act _) rfl (set_80_Block _ _) (rfl))))) rfl) ?_)))))))))
   refine .w 13 (by kernel_rfl) rfl (by kernel_rfl) (.e (e_callP fn_90 rfl rfl hh ?_))
   intro h t51 hh
   refine ⟨⟨⟨trivial, .inl (by kernel_rfl)⟩, .inl (by kernel_rfl)⟩, ?_⟩
   refine .done (by kernel_rfl) ?_
   exact ret0n rfl ⟨(), rfl, hh⟩
  ·have hh := hh.2 hb_1
   refine CW.skip ?_
   exact ret0n rfl ⟨(), rfl, hh⟩
theorem round_Core_first.ok (c : Pt) (round : Int) (d : Arr 32 UInt8) (k : Bool → H → Prop) (h : H) (hh : round_Core_first.b c round d k h) : CallsH Prog 117 [reg c, reg round, reg d].toArray h fun v h' => ∃ r : Bool, v = reg r ∧ k r h' := by
 unfold round_Core_first.b at hh
 refine CallsH.of 20 Tryd.func117 rfl Tryd.ntmps117 rfl (fun w0 => ?_)
 refine .sr ?_
 refine box_elim hh (fun d_1 hd_1 hh => ?_)
 refine .e (e_boxP hd_1 rfl rfl rfl ?_)
 refine .A (reg false) (.nx (.seq ?_))
 refine CW.drawN 14 rfl follows_mixed [0, 1, 2, 3, 4, 5, 7, 8, 9, 10, 12, 13] ?_
 refine .P 0 rfl (v_move (v := reg c) rfl) ?_
 obtain ⟨p, hp, hh⟩ := hh
 refine .P 1 rfl (v_nilCheck (congrArg Value.pointer hp)) (.P 2 rfl (v_fieldAddr fl_140_10 rfl) (.KL 3 209 na_26 get_140_box rfl hh rfl (fun t10 hh => .P 4 rfl (v_move (v := reg round) rfl) (.KA 5 0 ag_24 get_24_all (fun _ => (arr_len (n := 32) _)) rfl hh rfl (fun t12 hh => .P 7 rfl (v_move (v := reg c) rfl) (.P 8 rfl (v_nilCheck (congrArg Value.pointer hp)) (.P 9 rfl (v_fieldAddr fl_140_0 rfl) (.KA 10 0 ag_54 get_140_config (fun _ => (len_api_Config _)) rfl hh rfl (fun t17 hh => ?_)))))))))
 refine .w 6 (by kernel_rfl) rfl (by kernel_rfl) (.e (e_callP fn_16 rfl rfl hh ?_))
 intro h t13 hh
 obtain ⟨hc, hh⟩ := hh
 refine ⟨⟨⟨⟨trivial, .inl (by kernel_rfl)⟩, .inl (by kernel_rfl)⟩, .inr hc⟩, ?_⟩
 refine .w 11 (by kernel_rfl) rfl (by kernel_rfl) (.e (e_callP fn_114 rfl rfl hh ?_))
 intro h t18 hh
 refine ⟨⟨⟨⟨trivial, .inl (by kernel_rfl)⟩, .inl (by kernel_rfl)⟩, .inl (by kernel_rfl)⟩, ?_⟩
 refine .P 12 rfl (v_igeq rfl rfl) (.P 13 rfl (v_assign (v := reg ((decide (t18 ≤ t13)) : Bool)) rfl) ?_)
 refine .done (by kernel_rfl) ?_
 refine QN.then_ ?_
 refine CW.ret ?_
 exact ret1 rfl rfl ⟨((decide (t18 ≤ t13)) : Bool), rfl, hh⟩
theorem round_Core_later.ok (c : Pt) (k : Int → H → Prop) (h : H) (hh : round_Core_later.b c k h) : CallsH Prog 115 [reg c].toArray h fun v h' => ∃ r : Int, v = reg r ∧ k r h' := by
 unfold round_Core_later.b at hh
 refine CallsH.of 29 Tryd.func115 rfl Tryd.ntmps115 rfl (fun w0 => ?_)
 refine .sr (.A (reg ((0 : Int) : Int)) (.nx (.sr (.M (reg c) ?_))))
 obtain ⟨p, hp, hh⟩ := hh
 refine .V (v_nilCheck (congrArg Value.pointer hp)) (.V (v_fieldAddr fl_140_3 rfl) (.L 4 na_65 get_140_at hh rfl (fun t8 hh => ?_)))
 refine .e (e_callP fn_65 rfl rfl hh ?_)
 intro h t9 hh
 refine .A (reg t9) (.nx ?_)
 refine CW.join (fun ρ h => ∃ (ρ' : Env) (now : Int), ρ = setl ρ' [(0, reg c), (3, reg now)] ∧ (round_Core_later.j1 k) c now h) ?_ ?_
 ·refine .sr (.M (reg c) (.V (v_nilCheck (congrArg Value.pointer hp)) (.V (v_fieldAddr fl_140_4 rfl) (.L 5 na_3 get_140_step hh rfl (fun t13 hh => .V (v_ieql rfl rfl) (.nx ?_))))))
  refine CW.cond (t13 == (0 : Int)) rfl (fun hb => ?_) (fun hb => ?_)
  ·have hh := hh.1 hb
   refine CW.region ?_
   refine .A (reg ((-1 : Int) : Int)) ?_
   refine .nil ?_
   exact QN.thenJ ⟨_, (-1 : Int), setl_eq ⟨rfl, ⟨rfl, trivial⟩⟩, hh⟩
  ·have hh := hh.2 hb
   refine CW.skip ?_
   exact QN.thenJ ⟨_, t9, setl_eq ⟨rfl, ⟨rfl, trivial⟩⟩, hh⟩
 ·rintro ρ h ⟨ρ', now, rfl, hh⟩
  unfold round_Core_later.j1 at hh
  refine CW.seq ?_
  refine CW.seq ?_
  refine CW.drawN 11 rfl follows_mixed [0, 1, 2, 3, 4, 5, 6, 7, 10] ?_
  refine .P 0 rfl (v_move (v := reg c) rfl) ?_
  obtain ⟨p_1, hp_1, hh⟩ := hh
  refine .P 1 rfl (v_nilCheck (congrArg Value.pointer hp_1)) (.P 2 rfl (v_fieldAddr fl_140_10 rfl) (.KL 3 209 na_26 get_140_box rfl hh rfl (fun t18 hh => .P 4 rfl (v_move (v := reg c) rfl) (.P 5 rfl (v_nilCheck (congrArg Value.pointer hp_1)) (.P 6 rfl (v_fieldAddr fl_140_0 rfl) (.KA 7 0 ag_54 get_140_config (fun _ => (len_api_Config _)) rfl hh rfl (fun t22 hh => ?_)))))))
  refine .w 8 (by kernel_rfl) rfl (by kernel_rfl) (.e (e_callP fn_133 rfl rfl hh ?_))
  intro h t23 hh
  obtain ⟨hc, hh⟩ := hh
  refine ⟨⟨⟨trivial, .inr hc⟩, .inl (by kernel_rfl)⟩, ?_⟩
  refine .w 9 (by kernel_rfl) rfl (by kernel_rfl) (.e (e_callP fn_19 rfl rfl hh ?_))
  intro h t24 hh
  refine ⟨⟨⟨trivial, .inl (by kernel_rfl)⟩, .inl (by kernel_rfl)⟩, ?_⟩
  refine .P 10 rfl (v_assign (v := reg t24) rfl) ?_
  refine .done (by kernel_rfl) ?_
  refine QN.then_ ?_
  refine .sr (.M (reg t24) (.M (reg now) (.V (v_igtr rfl rfl) (.nx ?_))))
  refine CW.cond (decide (now < t24)) rfl (fun hb_1 => ?_) (fun hb_1 => ?_)
  ·have hh := hh.1 hb_1
   refine .sr (.M (reg t24) (.A (reg t24) (.nx ?_)))
   refine CW.ret ?_
   refine QN.thenRet ?_
   exact ret1 rfl rfl ⟨(t24 : Int), rfl, hh⟩
  ·have hh := hh.2 hb_1
   refine CW.skip ?_
   refine QN.then_ ?_
   refine .sr (.A (reg ((-1 : Int) : Int)) (.nx ?_))
   refine CW.ret ?_
   exact ret1 rfl rfl ⟨((-1 : Int) : Int), rfl, hh⟩
theorem round_mark_is.ok (m : round_mark) (d : Arr 32 UInt8) (k : Bool → H → Prop) (h : H) (hh : round_mark_is.b m d k h) : CallsH Prog 134 [reg m, reg d].toArray h fun v h' => ∃ r : Bool, v = reg r ∧ k r h' := by
 unfold round_mark_is.b at hh
 refine CallsH.of 15 Tryd.func134 rfl Tryd.ntmps134 rfl (fun w0 => ?_)
 refine .sr ?_
 refine box_elim hh (fun m_1 hm_1 hh => ?_)
 refine .e (e_boxP hm_1 rfl rfl rfl ?_)
 refine box_elim hh (fun d_1 hd_1 hh => ?_)
 refine .e (e_boxP hd_1 rfl rfl rfl ?_)
 refine .A (reg false) (.nx ?_)
 refine CW.join (fun ρ h => ∃ (ρ' : Env) (t4 : Bool), ρ = setl ρ' [(4, reg t4)] ∧ (round_mark_is.j1 k) t4 h) ?_ ?_
 ·refine CW.drawN 11 rfl follows_mixed [0, 1, 2, 3, 4, 5, 7, 8, 9, 10] ?_
  refine .P 0 rfl (v_fieldAddr fl_136_0 rfl) (.KL 1 0 na_3 get_136_round rfl hh rfl (fun t6 hh => .P 2 rfl (v_igeq rfl rfl) (.P 3 rfl (v_move (v := reg ((decide ((0 : Int) ≤ t6)) : Bool)) rfl) ?_)))
  refine ifb_cases hh (fun hb hh => ?_) (fun hb hh => ?_)
  ·refine .Y 4 8 rfl (cb hb) (v_fieldAddr fl_136_1 rfl) ?_
   obtain ⟨t10, ⟨xt10, hxt10, hgt10⟩, hh⟩ := hh
   refine .YK 5 8 (fun h' => ∃ x : round_mark, AtH h' m_1 (enc x) ∧ ((fun (x : round_mark) => x.block) : round_mark → api_Block) x = t10) rfl (cb hb) ⟨xt10, hxt10, hgt10⟩ (fun h' hS => hS.elim fun _ hS => v_ldA (p := m_1) 1 ag_75 rfl hS.1 hS.2 get_136_block (fun _ => (len_api_Block _)) (fun _ => rfl)) ?_
   obtain ⟨t12, ⟨xt12, hxt12, hgt12⟩, hh⟩ := hh
   refine .YK 7 8 (fun h' => ∃ x : Arr 32 UInt8, AtH h' d_1 (enc x) ∧ ((fun (x : Arr 32 UInt8) => x) : Arr 32 UInt8 → Arr 32 UInt8) x = t12) rfl (cb hb) ⟨xt12, hxt12, hgt12⟩ (fun h' hS => hS.elim fun _ hS => v_ldA (p := d_1) 0 ag_24 rfl hS.1 hS.2 get_24_all (fun _ => (arr_len (n := 32) _)) (fun _ => rfl)) ?_
   refine .w 6 (by kernel_rfl) rfl (by kernel_rfl) (.ye 8 rfl (cb hb) rfl (e_callP fn_34 rfl rfl hh ?_))
   intro h t11 hh
   obtain ⟨hc, hh⟩ := hh
   refine ⟨⟨⟨⟨trivial, .inl (by kernel_rfl)⟩, .inl (by kernel_rfl)⟩, .inr hc⟩, ?_⟩
   refine .Y 8 8 rfl (cb hb) (v_eq_arr8 bt_24 rfl rfl) (.P 9 rfl (v_pickT (v := reg ((decide (t11 = t12)) : Bool)) rfl hb rfl) (.P 10 rfl (v_assign (v := reg ((decide (t11 = t12)) : Bool)) rfl) ?_))
   refine .done (by kernel_rfl) ?_
   exact QN.thenJ ⟨_, (decide (t11 = t12)), setl_eq ⟨rfl, trivial⟩, hh⟩
  ·refine .N 4 8 rfl (cb hb) (.N 5 8 rfl (cb hb) (.N 7 8 rfl (cb hb) ?_))
   refine .w 6 (by kernel_rfl) rfl (by kernel_rfl) (.no 8 rfl (cb hb) rfl rfl ⟨⟨trivial, .inl (by kernel_rfl)⟩, ?_⟩)
   refine .N 8 8 rfl (cb hb) (.P 9 rfl (v_pickF (v := reg false) rfl hb rfl) (.P 10 rfl (v_assign (v := reg false) rfl) ?_))
   refine .done (by kernel_rfl) ?_
   exact QN.thenJ ⟨_, false, setl_eq ⟨rfl, trivial⟩, hh⟩
 ·rintro ρ h ⟨ρ', t4, rfl, hh⟩
  unfold round_mark_is.j1 at hh
  refine CW.ret ?_
  exact ret1 rfl rfl ⟨(t4 : Bool), rfl, hh⟩
theorem round_Core_plan.ok (c : Pt) (p : api_Plan) (k : (T2 (Arr 32 UInt8) Bool) → H → Prop) (h : H) (hh : round_Core_plan.b c p k h) : CallsH Prog 116 [reg c, reg p].toArray h fun v h' => ∃ r : T2 (Arr 32 UInt8) Bool, v = reg r ∧ k r h' := by
 unfold round_Core_plan.b at hh
 refine CallsH.of 50 Tryd.func116 rfl Tryd.ntmps116 rfl (fun w0 => ?_)
 refine .sr ?_
 refine box_elim hh (fun p_1 hp_1 hh => ?_)
 refine .e (e_boxP hp_1 rfl rfl rfl ?_)
 refine box_elim hh (fun t4 ht4 hh => ?_)
 refine .e (e_allocP ht4 zo_24 rfl ?_)
 refine .A (reg false) (.nx (.sr (.V (v_fieldAddr fl_77_4 rfl) (.LA 4 ag_75 get_77_Block (fun _ => (len_api_Block _)) hh rfl (fun t9 hh => ?_)))))
 refine .e (e_callP fn_34 rfl rfl hh ?_)
 intro h t10 hh
 refine box_elim hh (fun d hd hh => ?_)
 refine .e (e_allocP hd zo_24 rfl ?_)
 refine .S (t10 : Arr 32 UInt8) 0 sz_24 (one_arr (n := 32) (fun _ => rfl) _) (fun _ => arr_len (n := 32) _) (arr_len (n := 32) _) (fun x => set_24_all x (t10 : Arr 32 UInt8)) hh rfl rfl (fun _ hh => .nx ?_)
 refine CW.join (fun ρ h => ∃ (ρ' : Env) (free : Bool), ρ = setl ρ' [(0, reg c), (3, .pointer (some p_1)), (4, .pointer (some t4)), (6, .pointer (some d)), (7, reg free)] ∧ (round_Core_plan.j1 k) c p_1 t4 d free h) ?_ ?_
 ·refine CW.drawN 15 rfl follows_mixed [0, 1, 2, 3, 4, 5, 6, 7, 8, 9, 10, 11, 13, 14] ?_
  refine .P 0 rfl (v_move (v := reg c) rfl) ?_
  obtain ⟨p_2, hp_2, hh⟩ := hh
  refine .P 1 rfl (v_nilCheck (congrArg Value.pointer hp_2)) (.P 2 rfl (v_fieldAddr fl_140_6 rfl) (.P 3 rfl (v_fieldAddr fl_136_0 rfl) (.KL 4 7 na_3 get_140_locked_round rfl hh rfl (fun t15 hh => .P 5 rfl (v_ilss rfl rfl) (.P 6 rfl (v_move (v := reg ((decide (t15 < (0 : Int))) : Bool)) rfl) ?_)))))
  refine ifb_cases hh (fun hb hh => ?_) (fun hb hh => ?_)
  ·refine .N 7 17 rfl (cb hb) (.N 8 17 rfl (cb hb) (.N 9 17 rfl (cb hb) (.N 10 17 rfl (cb hb) (.N 11 17 rfl (cb hb) ?_))))
   refine .w 12 (by kernel_rfl) rfl (by kernel_rfl) (.no 17 rfl (cb hb) rfl rfl ⟨⟨trivial, .inl (by kernel_rfl)⟩, ?_⟩)
   refine .P 13 rfl (v_pickT (v := reg true) rfl hb rfl) (.P 14 rfl (v_assign (v := reg true) rfl) ?_)
   refine .done (by kernel_rfl) ?_
   exact QN.thenJ ⟨_, true, setl_eq ⟨rfl, ⟨rfl, ⟨rfl, ⟨rfl, ⟨rfl, trivial⟩⟩⟩⟩⟩, hh⟩
  ·refine .Y 7 17 rfl (cb hb) (v_move (v := reg c) rfl) (.Y 8 17 rfl (cb hb) (v_nilCheck (congrArg Value.pointer hp_2)) (.Y 9 17 rfl (cb hb) (v_fieldAddr fl_140_6 rfl) ?_))
   obtain ⟨t21, ⟨xt21, hxt21, hgt21⟩, hh⟩ := hh
   refine .YK 10 17 (fun h' => ∃ x : round_Core, AtH h' p_2 (enc x) ∧ ((fun (x : round_Core) => x.locked) : round_Core → round_mark) x = t21) rfl (cb hb) ⟨xt21, hxt21, hgt21⟩ (fun h' hS => hS.elim fun _ hS => v_ldA (p := p_2) 7 ag_136 rfl hS.1 hS.2 get_140_locked (fun _ => (len_round_mark _)) (fun _ => rfl)) ?_
   obtain ⟨t22, ⟨xt22, hxt22, hgt22⟩, hh⟩ := hh
   refine .YK 11 17 (fun h' => ∃ x : Arr 32 UInt8, AtH h' d (enc x) ∧ ((fun (x : Arr 32 UInt8) => x) : Arr 32 UInt8 → Arr 32 UInt8) x = t22) rfl (cb hb) ⟨xt22, hxt22, hgt22⟩ (fun h' hS => hS.elim fun _ hS => v_ldA (p := d) 0 ag_24 rfl hS.1 hS.2 get_24_all (fun _ => (arr_len (n := 32) _)) (fun _ => rfl)) ?_
   refine .w 12 (by kernel_rfl) rfl (by kernel_rfl) (.ye 17 rfl (cb hb) rfl (e_callP fn_134 rfl rfl hh ?_))
   intro h t23 hh
   refine ⟨⟨⟨⟨trivial, .inl (by kernel_rfl)⟩, .inl (by kernel_rfl)⟩, .inl (by kernel_rfl)⟩, ?_⟩
   refine .P 13 rfl (v_pickF (v := reg t23) rfl hb rfl) (.P 14 rfl (v_assign (v := reg t23) rfl) ?_)
   refine .done (by kernel_rfl) ?_
   exact QN.thenJ ⟨_, t23, setl_eq ⟨rfl, ⟨rfl, ⟨rfl, ⟨rfl, ⟨rfl, trivial⟩⟩⟩⟩⟩, hh⟩
 ·rintro ρ h ⟨ρ', free, rfl, hh⟩
  unfold round_Core_plan.j1 at hh
  refine CW.join (fun ρ h => ∃ (ρ' : Env) (free_1 : Bool), ρ = setl ρ' [(4, .pointer (some t4)), (6, .pointer (some d)), (7, reg free_1)] ∧ (round_Core_plan.j2 k) t4 d free_1 h) ?_ ?_
  ·refine .sr (.V (v_fieldAddr fl_77_3 rfl) (.L 3 na_3 get_77_Valid hh rfl (fun t26 hh => .V (v_igeq rfl rfl) (.nx ?_))))
   refine CW.cond (decide ((0 : Int) ≤ t26)) rfl (fun hb_1 => ?_) (fun hb_1 => ?_)
   ·have hh := hh.1 hb_1
    refine CW.seq ?_
    refine .sr (.M (reg c) (.V (v_fieldAddr fl_77_3 rfl) (.L 3 na_3 get_77_Valid hh rfl (fun t30 hh => .LA 0 ag_24 get_24_all (fun _ => (arr_len (n := 32) _)) hh rfl (fun t31 hh => ?_)))))
    refine .e (e_callP fn_117 rfl rfl hh ?_)
    intro h t32 hh
    refine .V (v_not rfl) (.nx ?_)
    refine CW.cond (!t32) rfl (fun hb_2 => ?_) (fun hb_2 => ?_)
    ·have hh := hh.1 hb_2
     refine .sr ?_
     refine .e (e_callP fn_64 rfl rfl hh ?_)
     intro h t34 hh
     refine .S (t34 : Arr 32 UInt8) 0 sz_24 (one_arr (n := 32) (fun _ => rfl) _) (fun _ => arr_len (n := 32) _) (arr_len (n := 32) _) (fun x => set_24_all x (t34 : Arr 32 UInt8)) hh rfl rfl (fun _ hh => .A (reg false) (.nx ?_))
     refine CW.ret ?_
     refine QN.thenRet ?_
     refine QN.thenRet ?_
     obtain ⟨r4, ⟨xr4, hxr4, hgr4⟩, hh⟩ := hh
     have hr4 := ld_id hxr4 hgr4
     exact retc1 rfl rfl ag_24 hr4 (arr_len (n := 32) _) rfl ⟨(⟨r4, false⟩ : T2 (Arr 32 UInt8) Bool), rfl, hh⟩
    ·have hh := hh.2 hb_2
     refine CW.skip ?_
     refine QN.then_ ?_
     refine CW.drawN 12 rfl follows_mixed [0, 1, 2, 3, 4, 5, 6, 7, 8, 9, 10, 11] ?_
     refine .P 0 rfl (v_move (v := reg free) rfl) (.P 1 rfl (v_move (v := reg free) rfl) ?_)
     refine ifb_cases hh (fun hb_3 hh => ?_) (fun hb_3 hh => ?_)
     ·refine .N 2 36 rfl (cb hb_3) (.N 3 36 rfl (cb hb_3) (.N 4 36 rfl (cb hb_3) (.N 5 36 rfl (cb hb_3) (.N 6 36 rfl (cb hb_3) (.N 7 36 rfl (cb hb_3) (.N 8 36 rfl (cb hb_3) (.N 9 36 rfl (cb hb_3) (.P 10 rfl (v_pickT (v := reg true) rfl hb_3 rfl) (.P 11 rfl (v_assign (v := reg true) rfl) ?_)))))))))
      refine .done (by kernel_rfl) ?_
      exact QN.thenJ ⟨_, true, setl_eq ⟨rfl, ⟨rfl, ⟨rfl, trivial⟩⟩⟩, hh⟩
     ·refine .Y 2 36 rfl (cb hb_3) (v_move (v := reg c) rfl) ?_
      obtain ⟨p_4, hp_4, hh⟩ := hh
      refine .Y 3 36 rfl (cb hb_3) (v_nilCheck (congrArg Value.pointer hp_4)) (.Y 4 36 rfl (cb hb_3) (v_fieldAddr fl_140_6 rfl) (.Y 5 36 rfl (cb hb_3) (v_fieldAddr fl_136_0 rfl) (.YL 6 36 7 na_3 get_140_locked_round rfl (cb hb_3) hh rfl (fun t41 hh => .Y 7 36 rfl (cb hb_3) (v_fieldAddr fl_77_3 rfl) (.YL 8 36 3 na_3 get_77_Valid rfl (cb hb_3) hh rfl (fun t43 hh => .Y 9 36 rfl (cb hb_3) (v_ileq rfl rfl) (.P 10 rfl (v_pickF (v := reg ((decide (t41 ≤ t43)) : Bool)) rfl hb_3 rfl) (.P 11 rfl (v_assign (v := reg ((decide (t41 ≤ t43)) : Bool)) rfl) ?_))))))))
      refine .done (by kernel_rfl) ?_
      exact QN.thenJ ⟨_, (decide (t41 ≤ t43)), setl_eq ⟨rfl, ⟨rfl, ⟨rfl, trivial⟩⟩⟩, hh⟩
   ·have hh := hh.2 hb_1
    refine CW.skip ?_
    exact QN.thenJ ⟨_, free, setl_eq ⟨rfl, ⟨rfl, ⟨rfl, trivial⟩⟩⟩, hh⟩
  ·rintro ρ h ⟨ρ', free_1, rfl, hh⟩
   unfold round_Core_plan.j2 at hh
   refine CW.join (fun ρ h => ∃ (ρ' : Env), ρ = setl ρ' [(4, .pointer (some t4)), (6, .pointer (some d))] ∧ (round_Core_plan.j3 k) t4 d h) ?_ ?_
   ·refine .sr (.M (reg free_1) (.V (v_not rfl) (.nx ?_)))
    refine CW.cond (!free_1) rfl (fun hb_4 => ?_) (fun hb_4 => ?_)
    ·have hh := hh.1 hb_4
     refine CW.region ?_
     refine .e (e_callP fn_64 rfl rfl hh ?_)
     intro h t48 hh
     refine .S (t48 : Arr 32 UInt8) 0 sz_24 (one_arr (n := 32) (fun _ => rfl) _) (fun _ => arr_len (n := 32) _) (arr_len (n := 32) _) (fun x => set_24_all x (t48 : Arr 32 UInt8)) hh rfl rfl (fun _ hh => ?_)
     refine .nil ?_
     exact QN.thenJ ⟨_, setl_eq ⟨rfl, ⟨rfl, trivial⟩⟩, hh⟩
    ·have hh := hh.2 hb_4
     refine CW.skip ?_
     exact QN.thenJ ⟨_, setl_eq ⟨rfl, ⟨rfl, trivial⟩⟩, hh⟩
   ·rintro ρ h ⟨ρ', rfl, hh⟩
    unfold round_Core_plan.j3 at hh
    refine .sr (.LA 0 ag_24 get_24_all (fun _ => (arr_len (n := 32) _)) hh rfl (fun t49 hh => .S (t49 : Arr 32 UInt8) 0 sz_24 (one_arr (n := 32) (fun _ => rfl) _) (fun _ => arr_len (n := 32) _) (arr_len (n := 32) _) (fun x => set_24_all x (t49 : Arr 32 UInt8)) hh rfl rfl (fun _ hh => .A (reg true) (.nx ?_))))
    refine CW.ret ?_
    obtain ⟨r4_1, ⟨xr4_1, hxr4_1, hgr4_1⟩, hh⟩ := hh
    have hr4_1 := ld_id hxr4_1 hgr4_1
    exact retc1 rfl rfl ag_24 hr4_1 (arr_len (n := 32) _) rfl ⟨(⟨r4_1, true⟩ : T2 (Arr 32 UInt8) Bool), rfl, hh⟩
theorem round_Core_moves.ok (c : Pt) (k : Bool → H → Prop) (h : H) (hh : round_Core_moves.b c k h) : CallsH Prog 91 [reg c].toArray h fun v h' => ∃ r : Bool, v = reg r ∧ k r h' := by
 unfold round_Core_moves.b at hh
 refine CallsH.of 206 Tryd.func91 rfl Tryd.ntmps91 rfl (fun w0 => ?_)
 refine .sr (.A (reg false) (.nx ?_))
 refine CW.join (fun ρ h => ∃ (ρ' : Env) (d_1 : Addr) (r : Int) (is : Bool), ρ = setl ρ' [(0, reg c), (3, .pointer (some d_1)), (4, reg r), (5, reg is)] ∧ (round_Core_moves.j1 k) c d_1 r is h) ?_ ?_
 ·refine CW.drawN 18 rfl follows_mixed [0, 1, 2, 3, 4, 5, 6, 7, 10, 11, 12, 13, 16, 17] ?_
  refine .P 0 rfl (v_move (v := reg c) rfl) ?_
  obtain ⟨p, hp, hh⟩ := hh
  refine .P 1 rfl (v_nilCheck (congrArg Value.pointer hp)) (.P 2 rfl (v_fieldAddr fl_140_10 rfl) (.KL 3 209 na_26 get_140_box rfl hh rfl (fun t18 hh => .P 4 rfl (v_move (v := reg c) rfl) (.P 5 rfl (v_nilCheck (congrArg Value.pointer hp)) (.P 6 rfl (v_fieldAddr fl_140_0 rfl) (.KA 7 0 ag_54 get_140_config (fun _ => (len_api_Config _)) rfl hh rfl (fun t22 hh => ?_)))))))
  refine .w2 8 14 (by kernel_rfl) rfl rfl (by kernel_rfl) (by kernel_rfl) ?_ ?_
  ·have hh := hh.1
   refine .e (e_callP fn_114 rfl rfl hh ?_)
   intro h t23 hh
   obtain ⟨hc, hh⟩ := hh
   refine ⟨⟨⟨trivial, .inr hc⟩, .inl (by kernel_rfl)⟩, ?_⟩
   refine .w2 9 14 (by kernel_rfl) rfl rfl (by kernel_rfl) (by kernel_rfl) ?_ ?_
   ·have hh := hh.1
    refine .e (e_callP fn_22 rfl rfl hh ?_)
    intro h t24 hh
    refine ⟨⟨⟨trivial, .inl (by kernel_rfl)⟩, .inl (by kernel_rfl)⟩, ?_⟩
    refine .P 10 rfl (v_move (v := reg (t24 : T3 (Arr 32 UInt8) Int Bool)) rfl) (.P 11 rfl (v_extract (v := reg (t24.a : Arr 32 UInt8)) rfl rfl) (.P 12 rfl (v_extract (v := reg (t24.b : Int)) rfl rfl) (.P 13 rfl (v_extract (v := reg (t24.c : Bool)) rfl rfl) ?_)))
    refine box_elim hh (fun d hd hh => ?_)
    refine .w 14 (by kernel_rfl) rfl (by kernel_rfl) (.e (e_allocP hd zo_24 rfl ?_))
    obtain ⟨hc_1, hh⟩ := hh
    obtain ⟨hc_2, hh⟩ := hh
    refine ⟨⟨⟨trivial, .inr hc_1⟩, .inr hc_2⟩, ?_⟩
    obtain ⟨xw, hxw, hwxw, hh⟩ := hh
    refine .w 15 (by kernel_rfl) rfl (by kernel_rfl) (.e (e_storeN (p := d) (nv := enc (t24.a : Arr 32 UInt8)) 0 rfl rfl rfl sz_24 (one_arr (n := 32) (fun _ => rfl) _) hxw hwxw (arr_len (n := 32) _) (arr_len (n := 32) _) rfl (set_24_all xw (t24.a : Arr 32 UInt8)) ?_))
    refine ⟨⟨⟨trivial, .inl (by kernel_rfl)⟩, .inl (by kernel_rfl)⟩, ?_⟩
    refine .P 16 rfl (v_assign (v := reg (t24.b : Int)) rfl) (.P 17 rfl (v_assign (v := reg (t24.c : Bool)) rfl) ?_)
    refine .done (by kernel_rfl) ?_
    exact QN.thenJ ⟨_, d, t24.b, t24.c, setl_eq ⟨rfl, ⟨rfl, ⟨rfl, ⟨rfl, trivial⟩⟩⟩⟩, hh⟩
   ·have hh := hh.2
    refine box_elim hh (fun d_2 hd_2 hh => ?_)
    refine .e (e_allocP hd_2 zo_24 rfl ?_)
    obtain ⟨hc_3, hh⟩ := hh
    obtain ⟨hc_4, hh⟩ := hh
    refine ⟨⟨⟨trivial, .inr hc_3⟩, .inr hc_4⟩, ?_⟩
    refine .w 9 (by kernel_rfl) rfl (by kernel_rfl) (.e (e_callP fn_22 rfl rfl hh ?_))
    intro h t24_1 hh
    refine ⟨⟨⟨trivial, .inl (by kernel_rfl)⟩, .inl (by kernel_rfl)⟩, ?_⟩
    refine .P 10 rfl (v_move (v := reg (t24_1 : T3 (Arr 32 UInt8) Int Bool)) rfl) (.P 11 rfl (v_extract (v := reg (t24_1.a : Arr 32 UInt8)) rfl rfl) (.P 12 rfl (v_extract (v := reg (t24_1.b : Int)) rfl rfl) (.P 13 rfl (v_extract (v := reg (t24_1.c : Bool)) rfl rfl) ?_)))
    obtain ⟨xw_1, hxw_1, hwxw_1, hh⟩ := hh
    refine .w 15 (by kernel_rfl) rfl (by kernel_rfl) (.e (e_storeN (p := d_2) (nv := enc (t24_1.a : Arr 32 UInt8)) 0 rfl rfl rfl sz_24 (one_arr (n := 32) (fun _ => rfl) _) hxw_1 hwxw_1 (arr_len (n := 32) _) (arr_len (n := 32) _) rfl (set_24_all xw_1 (t24_1.a : Arr 32 UInt8)) ?_))
    refine ⟨⟨⟨trivial, .inl (by kernel_rfl)⟩, .inl (by kernel_rfl)⟩, ?_⟩
    refine .P 16 rfl (v_assign (v := reg (t24_1.b : Int)) rfl) (.P 17 rfl (v_assign (v := reg (t24_1.c : Bool)) rfl) ?_)
    refine .done (by kernel_rfl) ?_
    exact QN.thenJ ⟨_, d_2, t24_1.b, t24_1.c, setl_eq ⟨rfl, ⟨rfl, ⟨rfl, ⟨rfl, trivial⟩⟩⟩⟩, hh⟩
  ·have hh := hh.2
   refine box_elim hh (fun d_3 hd_3 hh => ?_)
   refine .e (e_allocP hd_3 zo_24 rfl ?_)
   obtain ⟨hc_5, hh⟩ := hh
   obtain ⟨hc_6, hh⟩ := hh
   refine ⟨⟨⟨trivial, .inr hc_5⟩, .inr hc_6⟩, ?_⟩
   refine .w 8 (by kernel_rfl) rfl (by kernel_rfl) (.e (e_callP fn_114 rfl rfl hh ?_))
   intro h t23_1 hh
   obtain ⟨hc_7, hh⟩ := hh
   refine ⟨⟨⟨trivial, .inr hc_7⟩, .inl (by kernel_rfl)⟩, ?_⟩
   refine .w 9 (by kernel_rfl) rfl (by kernel_rfl) (.e (e_callP fn_22 rfl rfl hh ?_))
   intro h t24_2 hh
   refine ⟨⟨⟨trivial, .inl (by kernel_rfl)⟩, .inl (by kernel_rfl)⟩, ?_⟩
   refine .P 10 rfl (v_move (v := reg (t24_2 : T3 (Arr 32 UInt8) Int Bool)) rfl) (.P 11 rfl (v_extract (v := reg (t24_2.a : Arr 32 UInt8)) rfl rfl) (.P 12 rfl (v_extract (v := reg (t24_2.b : Int)) rfl rfl) (.P 13 rfl (v_extract (v := reg (t24_2.c : Bool)) rfl rfl) ?_)))
   obtain ⟨xw_2, hxw_2, hwxw_2, hh⟩ := hh
   refine .w 15 (by kernel_rfl) rfl (by kernel_rfl) (.e (e_storeN (p := d_3) (nv := enc (t24_2.a : Arr 32 UInt8)) 0 rfl rfl rfl sz_24 (one_arr (n := 32) (fun _ => rfl) _) hxw_2 hwxw_2 (arr_len (n := 32) _) (arr_len (n := 32) _) rfl (set_24_all xw_2 (t24_2.a : Arr 32 UInt8)) ?_))
   refine ⟨⟨⟨trivial, .inl (by kernel_rfl)⟩, .inl (by kernel_rfl)⟩, ?_⟩
   refine .P 16 rfl (v_assign (v := reg (t24_2.b : Int)) rfl) (.P 17 rfl (v_assign (v := reg (t24_2.c : Bool)) rfl) ?_)
   refine .done (by kernel_rfl) ?_
   exact QN.thenJ ⟨_, d_3, t24_2.b, t24_2.c, setl_eq ⟨rfl, ⟨rfl, ⟨rfl, ⟨rfl, trivial⟩⟩⟩⟩, hh⟩
 ·rintro ρ h ⟨ρ', d_1, r, is, rfl, hh⟩
  unfold round_Core_moves.j1 at hh
  refine CW.seq ?_
  refine CW.drawN 12 rfl follows_mixed [0, 1, 2, 3, 4, 5, 6, 7, 8, 11] ?_
  refine .P 0 rfl (v_move (v := reg c) rfl) ?_
  obtain ⟨p_1, hp_1, hh⟩ := hh
  refine .P 1 rfl (v_nilCheck (congrArg Value.pointer hp_1)) (.P 2 rfl (v_fieldAddr fl_140_9 rfl) (.KL 3 208 na_138 get_140_blocks rfl hh rfl (fun t32 hh => .KA 4 0 ag_24 get_24_all (fun _ => (arr_len (n := 32) _)) rfl hh rfl (fun t33 hh => ?_))))
  obtain ⟨t34, ⟨xt34, hxt34, hgt34⟩, hh⟩ := hh
  refine .K 5 (fun h' => ∃ l : List ((Arr 32 UInt8) × api_Block), MapIs h' t32 l ∧ (fun (l : List ((Arr 32 UInt8) × api_Block)) => mlook (api_Block.zero : api_Block) l (t33 : Arr 32 UInt8)) l = t34) rfl ⟨xt34, hxt34, hgt34⟩ (fun h' hS => hS.elim fun _ hS => v_lookupOk mt_138 kt_24 zv_75 rfl rfl hS.1 hS.2) (.P 6 rfl (v_move (v := reg (t34 : T2 api_Block Bool)) rfl) (.P 7 rfl (v_extract (v := reg (t34.a : api_Block)) rfl rfl) (.P 8 rfl (v_extract (v := reg (t34.b : Bool)) rfl rfl) ?_)))
  refine box_elim hh (fun b hb hh => ?_)
  refine .w 9 (by kernel_rfl) rfl (by kernel_rfl) (.e (e_allocP hb zo_75 rfl ?_))
  obtain ⟨hc_8, hh⟩ := hh
  obtain ⟨hc_9, hh⟩ := hh
  obtain ⟨hc_10, hh⟩ := hh
  refine ⟨⟨⟨⟨trivial, .inr hc_8⟩, .inr hc_9⟩, .inr hc_10⟩, ?_⟩
  obtain ⟨xw_3, hxw_3, hwxw_3, hh⟩ := hh
  refine .w 10 (by kernel_rfl) rfl (by kernel_rfl) (.e (e_storeN (p := b) (nv := enc (t34.a : api_Block)) 0 rfl rfl rfl sz_75 (one_api_Block _) hxw_3 hwxw_3 (len_api_Block _) (len_api_Block _) rfl (set_75_all xw_3 (t34.a : api_Block)) ?_))
  refine ⟨⟨⟨⟨trivial, .inl (by kernel_rfl)⟩, .inl (by kernel_rfl)⟩, .inl (by kernel_rfl)⟩, ?_⟩
  refine .P 11 rfl (v_assign (v := reg (t34.b : Bool)) rfl) ?_
  refine .done (by kernel_rfl) ?_
  refine QN.then_ ?_
  refine .sr (.M (reg c) (.V (v_nilCheck (congrArg Value.pointer hp_1)) (.V (v_fieldAddr fl_140_3 rfl) (.L 4 na_65 get_140_at hh rfl (fun t40 hh => ?_)))))
  refine .e (e_callP fn_65 rfl rfl hh ?_)
  intro h t41 hh
  refine .A (reg t41) (.nx (.sr (.M (reg c) (.V (v_nilCheck (congrArg Value.pointer hp_1)) (.V (v_fieldAddr fl_140_8 rfl) (.L 207 na_137 get_140_plans hh rfl (fun t46 hh => .M (reg t41) ?_)))))))
  obtain ⟨t48, ⟨xt48, hxt48, hgt48⟩, hh⟩ := hh
  refine .V (v_lookupOk mt_137 kt_3 zv_77 rfl rfl hxt48 hgt48) (.M (reg (t48 : T2 api_Plan Bool)) (.V (v_extract (v := reg (t48.a : api_Plan)) rfl rfl) (.V (v_extract (v := reg (t48.b : Bool)) rfl rfl) ?_)))
  refine box_elim hh (fun p_2 hp_2 hh => ?_)
  refine .e (e_allocP hp_2 zo_77 rfl ?_)
  refine .S (t48.a : api_Plan) 0 sz_77 (one_api_Plan _) len_api_Plan (len_api_Plan _) (fun x => set_77_all x (t48.a : api_Plan)) hh rfl rfl (fun _ hh => .A (reg (t48.b : Bool)) (.nx ?_))
  refine CW.join (fun ρ h => ∃ (ρ' : Env), ρ = setl ρ' [(0, reg c)] ∧ (round_Core_moves.j2 k) c h) ?_ ?_
  ·refine .sr (.M (reg c) ?_)
   refine .e (e_callP fn_115 rfl rfl hh ?_)
   intro h t52 hh
   refine .A (reg t52) (.nx ?_)
   refine CW.block ?_
   refine .sr (.M (reg is) (.M (reg is) (.tv 55 rfl rfl rfl (fun hb => v_move (v := reg (t34.b : Bool)) rfl) rfl (.V (v_pick_and rfl (fun hb => gt hb) rfl) (.A (reg ((is && t34.b) : Bool)) (.nx ?_))))))
   refine CW.cond (is && t34.b) rfl (fun hb => ?_) (fun hb => ?_)
   ·have hh := hh.1 hb
    refine .sr (.M (reg c) (.V (v_nilCheck (congrArg Value.pointer hp_1)) (.V (v_fieldAddr fl_140_12 rfl) (.S (true : Bool) 211 sz_4 (one_b _) len_round_Core (len_b _) (fun x => set_140_decided x (true : Bool)) hh rfl rfl (fun _ hh => .nx ?_)))))
    refine CW.region ?_
    refine .M (reg c) (.M (reg r) (.LA 0 ag_24 get_24_all (fun _ => (arr_len (n := 32) _)) hh rfl (fun t63 hh => .LA 0 ag_75 get_75_all (fun _ => (len_api_Block _)) hh rfl (fun t64 hh => .V (v_buildT ({ api_Act.zero with Act := (3 : Int), Round := r, Digest := t63, Block := t64 } : api_Act) zo_80 pl_80 rfl (fill_step rfl rfl (len_i _) (len_api_Act _) rfl (set_80_Act _ _) (fill_step rfl rfl (len_i _) (len_api_Act _) rfl (set_80_Round _ _) (fill_step rfl rfl (arr_len (n := 32) _) (len_api_Act _) rfl (set_80_Digest _ _) (fill_step rfl rfl (len_api_Block _) (len_api_Act _) rfl (set_80_Block _ _) (rfl))))) rfl) ?_))))
    refine .e (e_callP fn_90 rfl rfl hh ?_)
    intro h t66 hh
    refine .nil ?_
    refine QN.blockN ?_
    exact QN.thenJ ⟨_, setl_eq ⟨rfl, trivial⟩, hh⟩
   ·have hh := hh.2 hb
    refine .sr (.M (reg t52) (.V (v_igeq rfl rfl) (.A (reg ((decide ((0 : Int) ≤ t52)) : Bool)) (.nx ?_))))
    refine CW.cond (decide ((0 : Int) ≤ t52)) rfl (fun hb_1 => ?_) (fun hb_1 => ?_)
    ·have hh := hh.1 hb_1
     refine CW.region ?_
     refine .M (reg c) (.M (reg t52) ?_)
     refine .e (e_callP fn_57 rfl rfl hh ?_)
     intro h t72 hh
     refine .nil ?_
     refine QN.blockN ?_
     exact QN.thenJ ⟨_, setl_eq ⟨rfl, trivial⟩, hh⟩
    ·have hh := hh.2 hb_1
     refine CW.join (fun ρ h => ∃ (ρ' : Env) (t73 : Bool), ρ = setl ρ' [(0, reg c), (8, reg t41), (9, .pointer (some p_2)), (10, reg (t48.b : Bool)), (73, reg t73)] ∧ (round_Core_moves.j3 (round_Core_moves.j2 k) k) c t41 p_2 t48.b t73 h) ?_ ?_
     ·refine CW.region ?_
      refine .M (reg c) (.V (v_nilCheck (congrArg Value.pointer hp_1)) (.V (v_fieldAddr fl_140_4 rfl) (.L 5 na_3 get_140_step hh rfl (fun t77 hh => .V (v_ieql rfl rfl) (.M (reg ((t77 == (0 : Int)) : Bool)) ?_)))))
      refine ifb_cases hh (fun hb_2 hh => ?_) (fun hb_2 hh => ?_)
      ·refine .yv 79 rfl (cb hb_2) rfl (v_move (v := reg (c : Pt)) rfl) rfl (.yv 79 rfl (cb hb_2) rfl (v_nilCheck (congrArg Value.pointer hp_1)) rfl (.yv 79 rfl (cb hb_2) rfl (v_fieldAddr fl_140_8 rfl) rfl ?_))
       obtain ⟨t83, ⟨xt83, hxt83, hgt83⟩, hh⟩ := hh
       refine .yv 79 rfl (cb hb_2) rfl (v_ld1 (p := p_1) 207 na_137 rfl hxt83 hgt83 get_140_plans) rfl ?_
       obtain ⟨t84, ⟨xt84, hxt84, hgt84⟩, hh⟩ := hh
       refine .yv 79 rfl (cb hb_2) rfl (v_lenm mt_137 rfl hxt84 hgt84) rfl (.yv 79 rfl (cb hb_2) rfl (v_igtr rfl rfl) rfl (.yv 79 rfl (cb hb_2) rfl (v_move (v := reg ((decide ((0 : Int) < t84)) : Bool)) rfl) rfl ?_))
       refine ifb_cases hh (fun hb_3 hh => ?_) (fun hb_3 hh => ?_)
       ·refine .no 86 rfl (cb hb_3) rfl rfl (.no 86 rfl (cb hb_3) rfl rfl (.no 86 rfl (cb hb_3) rfl rfl (.no 86 rfl (cb hb_3) rfl rfl (.no 86 rfl (cb hb_3) rfl rfl (.no 86 rfl (cb hb_3) rfl rfl (.yv 79 rfl (cb hb_2) rfl (v_pickT (v := reg (true : Bool)) rfl hb_3 rfl) rfl (.V (v_pickT (v := reg true) rfl hb_2 rfl) (.A (reg true) ?_))))))))
        refine .nil ?_
        exact QN.thenJ ⟨_, true, setl_eq ⟨rfl, ⟨rfl, ⟨rfl, ⟨rfl, ⟨rfl, trivial⟩⟩⟩⟩⟩, hh⟩
       ·refine .yv 86 rfl (cb hb_3) rfl (v_move (v := reg (c : Pt)) rfl) rfl (.yv 86 rfl (cb hb_3) rfl (v_nilCheck (congrArg Value.pointer hp_1)) rfl (.yv 86 rfl (cb hb_3) rfl (v_fieldAddr fl_140_10 rfl) rfl ?_))
        obtain ⟨t90, ⟨xt90, hxt90, hgt90⟩, hh⟩ := hh
        refine .yv 86 rfl (cb hb_3) rfl (v_ld1 (p := p_1) 209 na_26 rfl hxt90 hgt90 get_140_box) rfl ?_
        refine .ye 86 rfl (cb hb_3) rfl (e_callP fn_17 rfl rfl hh ?_)
        intro h t91 hh
        refine .yv 86 rfl (cb hb_3) rfl (v_igtr rfl rfl) rfl (.yv 79 rfl (cb hb_2) rfl (v_pickF (v := reg ((decide ((0 : Int) < t91)) : Bool)) rfl hb_3 rfl) rfl (.V (v_pickT (v := reg ((decide ((0 : Int) < t91)) : Bool)) rfl hb_2 rfl) (.A (reg ((decide ((0 : Int) < t91)) : Bool)) ?_)))
        refine .nil ?_
        exact QN.thenJ ⟨_, (decide ((0 : Int) < t91)), setl_eq ⟨rfl, ⟨rfl, ⟨rfl, ⟨rfl, ⟨rfl, trivial⟩⟩⟩⟩⟩, hh⟩
      ·refine .no 79 rfl (cb hb_2) rfl rfl (.no 79 rfl (cb hb_2) rfl rfl (.no 79 rfl (cb hb_2) rfl rfl (.no 79 rfl (cb hb_2) rfl rfl (.no 79 rfl (cb hb_2) rfl rfl (.no 79 rfl (cb hb_2) rfl rfl (.no 79 rfl (cb hb_2) rfl rfl (.nu 86 rfl rfl rfl rfl (.nu 86 rfl rfl rfl rfl (.nu 86 rfl rfl rfl rfl ?_)))))))))
       refine .nu 86 rfl rfl rfl rfl (.nu 86 rfl rfl rfl rfl (.nu 86 rfl rfl rfl rfl (.no 79 rfl (cb hb_2) rfl rfl (.V (v_pickF (v := reg false) rfl hb_2 rfl) (.A (reg false) ?_)))))
       refine .nil ?_
       exact QN.thenJ ⟨_, false, setl_eq ⟨rfl, ⟨rfl, ⟨rfl, ⟨rfl, ⟨rfl, trivial⟩⟩⟩⟩⟩, hh⟩
     ·rintro ρ h ⟨ρ', t73, rfl, hh⟩
      unfold round_Core_moves.j3 at hh
      refine CW.cond t73 rfl (fun hb_4 => ?_) (fun hb_4 => ?_)
      ·have hh := hh.1 hb_4
       refine CW.region ?_
       refine .M (reg c) ?_
       refine .e (e_callP fn_57 rfl rfl hh ?_)
       intro h t96 hh
       refine .nil ?_
       refine QN.blockN ?_
       exact QN.thenJ ⟨_, setl_eq ⟨rfl, trivial⟩, hh⟩
      ·have hh := hh.2 hb_4
       refine .sr (.M (reg c) ?_)
       obtain ⟨p_4, hp_4, hh⟩ := hh
       refine .V (v_nilCheck (congrArg Value.pointer hp_4)) (.V (v_fieldAddr fl_140_4 rfl) (.L 5 na_3 get_140_step hh rfl (fun t101 hh => .V (v_ieql rfl rfl) (.M (reg ((t101 == (1 : Int)) : Bool)) (.tv 103 rfl rfl rfl (fun hb => v_move (v := reg (t48.b : Bool)) rfl) rfl (.V (v_pick_and rfl (fun hb => gt hb) rfl) (.A (reg (((t101 == (1 : Int)) && t48.b) : Bool)) (.nx ?_))))))))
       refine CW.cond ((t101 == (1 : Int)) && t48.b) rfl (fun hb_5 => ?_) (fun hb_5 => ?_)
       ·have hh := hh.1 hb_5
        refine .sr (.M (reg c) (.LA 0 ag_77 get_77_all (fun _ => (len_api_Plan _)) hh rfl (fun t108 hh => ?_)))
        refine .e (e_callP fn_116 rfl rfl hh ?_)
        intro h t109 hh
        refine .M (reg (t109 : T2 (Arr 32 UInt8) Bool)) (.V (v_extract (v := reg (t109.a : Arr 32 UInt8)) rfl rfl) (.V (v_extract (v := reg (t109.b : Bool)) rfl rfl) ?_))
        refine box_elim hh (fun d_4 hd_4 hh => ?_)
        refine .e (e_allocP hd_4 zo_24 rfl ?_)
        refine .S (t109.a : Arr 32 UInt8) 0 sz_24 (one_arr (n := 32) (fun _ => rfl) _) (fun _ => arr_len (n := 32) _) (arr_len (n := 32) _) (fun x => set_24_all x (t109.a : Arr 32 UInt8)) hh rfl rfl (fun _ hh => .A (reg (t109.b : Bool)) (.nx (.seq (.sr (.M (reg (t109.b : Bool)) (.V (v_not rfl) (.nx ?_)))))))
        refine CW.cond (!t109.b) rfl (fun hb_6 => ?_) (fun hb_6 => ?_)
        ·have hh := hh.1 hb_6
         refine .sr (.A (reg false) (.nx ?_))
         refine CW.ret ?_
         refine QN.thenRet ?_
         refine QN.blockRet ?_
         refine QN.thenRet ?_
         exact ret1 rfl rfl ⟨(false : Bool), rfl, hh⟩
        ·have hh := hh.2 hb_6
         refine CW.skip ?_
         refine QN.then_ ?_
         refine CW.region ?_
         refine .M (reg c) (.LA 0 ag_24 get_24_all (fun _ => (arr_len (n := 32) _)) hh rfl (fun t115 hh => ?_))
         refine .e (e_callP fn_63 rfl rfl hh ?_)
         intro h t116 hh
         refine .nil ?_
         refine QN.blockN ?_
         exact QN.thenJ ⟨_, setl_eq ⟨rfl, trivial⟩, hh⟩
       ·have hh := hh.2 hb_5
        refine CW.join (fun ρ h => ∃ (ρ' : Env) (t117 : Bool), ρ = setl ρ' [(0, reg c), (8, reg t41), (9, .pointer (some p_2)), (10, reg (t48.b : Bool)), (117, reg t117)] ∧ (round_Core_moves.j4 (round_Core_moves.j2 k) k) c t41 p_2 t48.b t117 h) ?_ ?_
        ·refine CW.region ?_
         refine .M (reg c) (.V (v_nilCheck (congrArg Value.pointer hp_4)) (.V (v_fieldAddr fl_140_4 rfl) (.L 5 na_3 get_140_step hh rfl (fun t121 hh => .V (v_ieql rfl rfl) (.M (reg ((t121 == (2 : Int)) : Bool)) (.tv 123 rfl rfl rfl (fun hb => v_move (v := reg (t48.b : Bool)) rfl) rfl (.V (v_pick_and rfl (fun hb => gt hb) rfl) (.M (reg (((t121 == (2 : Int)) && t48.b) : Bool)) ?_))))))))
         refine ifb_cases hh (fun hb_7 hh => ?_) (fun hb_7 hh => ?_)
         ·refine .yv 126 rfl (cb hb_7) rfl (v_move (v := reg (c : Pt)) rfl) rfl (.yv 126 rfl (cb hb_7) rfl (v_move (v := reg (t41 : Int)) rfl) rfl (.yv 126 rfl (cb hb_7) rfl (v_fieldAddr fl_77_4 rfl) rfl ?_))
          obtain ⟨t130, ⟨xt130, hxt130, hgt130⟩, hh⟩ := hh
          refine .yv 126 rfl (cb hb_7) rfl (v_ldA (p := p_2) 4 ag_75 rfl hxt130 hgt130 get_77_Block (fun _ => (len_api_Block _)) (fun _ => rfl)) rfl ?_
          refine .ye 126 rfl (cb hb_7) rfl (e_callP fn_34 rfl rfl hh ?_)
          intro h t131 hh
          refine .ye 126 rfl (cb hb_7) rfl (e_callP fn_117 rfl rfl hh ?_)
          intro h t132 hh
          refine .V (v_pickT (v := reg t132) rfl hb_7 rfl) (.A (reg t132) ?_)
          refine .nil ?_
          exact QN.thenJ ⟨_, t132, setl_eq ⟨rfl, ⟨rfl, ⟨rfl, ⟨rfl, ⟨rfl, trivial⟩⟩⟩⟩⟩, hh⟩
         ·refine .no 126 rfl (cb hb_7) rfl rfl (.no 126 rfl (cb hb_7) rfl rfl (.no 126 rfl (cb hb_7) rfl rfl (.no 126 rfl (cb hb_7) rfl rfl (.no 126 rfl (cb hb_7) rfl rfl (.no 126 rfl (cb hb_7) rfl rfl (.V (v_pickF (v := reg false) rfl hb_7 rfl) (.A (reg false) ?_)))))))
          refine .nil ?_
          exact QN.thenJ ⟨_, false, setl_eq ⟨rfl, ⟨rfl, ⟨rfl, ⟨rfl, ⟨rfl, trivial⟩⟩⟩⟩⟩, hh⟩
        ·rintro ρ h ⟨ρ', t117, rfl, hh⟩
         unfold round_Core_moves.j4 at hh
         refine CW.cond t117 rfl (fun hb_8 => ?_) (fun hb_8 => ?_)
         ·have hh := hh.1 hb_8
          refine CW.seq ?_
          refine CW.drawN 16 rfl follows_mixed [0, 1, 2, 3, 4, 5, 6, 7, 8, 9, 10, 11, 13, 14] ?_
          refine .P 0 rfl (v_move (v := reg c) rfl) (.P 1 rfl (v_move (v := reg c) rfl) (.P 2 rfl (v_move (v := reg t41) rfl) (.P 3 rfl (v_fieldAddr fl_77_4 rfl) (.KA 4 4 ag_75 get_77_Block (fun _ => (len_api_Block _)) rfl hh rfl (fun t138 hh => .P 5 rfl (v_buildT ({ round := t41, block := t138 } : round_mark) zo_136 pl_136 rfl (fill_step rfl rfl (len_i _) (len_round_mark _) rfl (set_136_round _ _) (fill_step rfl rfl (len_api_Block _) (len_round_mark _) rfl (set_136_block _ _) (rfl))) rfl) (.P 6 rfl (v_move (v := reg t41) rfl) (.P 7 rfl (v_fieldAddr fl_77_4 rfl) (.KA 8 4 ag_75 get_77_Block (fun _ => (len_api_Block _)) rfl hh rfl (fun t142 hh => .P 9 rfl (v_buildT ({ round := t41, block := t142 } : round_mark) zo_136 pl_136 rfl (fill_step rfl rfl (len_i _) (len_round_mark _) rfl (set_136_round _ _) (fill_step rfl rfl (len_api_Block _) (len_round_mark _) rfl (set_136_block _ _) (rfl))) rfl) ?_)))))))))
          obtain ⟨p_6, hp_6, hh⟩ := hh
          refine .P 10 rfl (v_nilCheck (congrArg Value.pointer hp_6)) (.P 11 rfl (v_fieldAddr fl_140_6 rfl) ?_)
          obtain ⟨xw_7, hxw_7, hwxw_7, hh⟩ := hh
          refine .w 12 (by kernel_rfl) rfl (by kernel_rfl) (.e (e_storeN (p := p_6) (nv := enc (({ round := t41, block := t138 } : round_mark) : round_mark)) 7 rfl rfl rfl sz_136 (one_round_mark _) hxw_7 hwxw_7 (len_round_Core _) (len_round_mark _) rfl (set_140_locked xw_7 (({ round := t41, block := t138 } : round_mark) : round_mark)) ?_))
          obtain ⟨hc_11, hh⟩ := hh
          refine ⟨⟨⟨trivial, .inl (by kernel_rfl)⟩, .inr hc_11⟩, ?_⟩
          refine .P 13 rfl (v_nilCheck (congrArg Value.pointer hp_6)) (.P 14 rfl (v_fieldAddr fl_140_7 rfl) ?_)
          obtain ⟨xw_8, hxw_8, hwxw_8, hh⟩ := hh
          refine .w 15 (by kernel_rfl) rfl (by kernel_rfl) (.e (e_storeN (p := p_6) (nv := enc (({ round := t41, block := t142 } : round_mark) : round_mark)) 107 rfl rfl rfl sz_136 (one_round_mark _) hxw_8 hwxw_8 (len_round_Core _) (len_round_mark _) rfl (set_140_valid xw_8 (({ round := t41, block := t142 } : round_mark) : round_mark)) ?_))
          refine ⟨⟨⟨trivial, .inl (by kernel_rfl)⟩, .inl (by kernel_rfl)⟩, ?_⟩
          refine .done (by kernel_rfl) ?_
          refine QN.then_ ?_
          refine CW.region ?_
          refine .M (reg c) (.V (v_fieldAddr fl_77_4 rfl) (.LA 4 ag_75 get_77_Block (fun _ => (len_api_Block _)) hh rfl (fun t150 hh => ?_)))
          refine .e (e_callP fn_34 rfl rfl hh ?_)
          intro h t151 hh
          refine .e (e_callP fn_63 rfl rfl hh ?_)
          intro h t152 hh
          refine .nil ?_
          refine QN.blockN ?_
          exact QN.thenJ ⟨_, setl_eq ⟨rfl, trivial⟩, hh⟩
         ·have hh := hh.2 hb_8
          refine CW.join (fun ρ h => ∃ (ρ' : Env) (t153 : Bool), ρ = setl ρ' [(0, reg c), (8, reg t41), (9, .pointer (some p_2)), (10, reg (t48.b : Bool)), (153, reg t153)] ∧ (round_Core_moves.j5 (round_Core_moves.j2 k) k) c t41 p_2 t48.b t153 h) ?_ ?_
          ·refine CW.region ?_
           refine .M (reg c) ?_
           obtain ⟨p_7, hp_7, hh⟩ := hh
           refine .V (v_nilCheck (congrArg Value.pointer hp_7)) (.V (v_fieldAddr fl_140_4 rfl) (.L 5 na_3 get_140_step hh rfl (fun t157 hh => .V (v_ieql rfl rfl) (.M (reg ((t157 == (2 : Int)) : Bool)) ?_))))
           refine ifb_cases hh (fun hb_9 hh => ?_) (fun hb_9 hh => ?_)
           ·refine .yv 159 rfl (cb hb_9) rfl (v_move (v := reg (c : Pt)) rfl) rfl (.yv 159 rfl (cb hb_9) rfl (v_move (v := reg (t41 : Int)) rfl) rfl ?_)
            refine .ye 159 rfl (cb hb_9) rfl (e_callP fn_64 rfl rfl hh ?_)
            intro h t162 hh
            refine .ye 159 rfl (cb hb_9) rfl (e_callP fn_117 rfl rfl hh ?_)
            intro h t163 hh
            refine .V (v_pickT (v := reg t163) rfl hb_9 rfl) (.A (reg t163) ?_)
            refine .nil ?_
            exact QN.thenJ ⟨_, t163, setl_eq ⟨rfl, ⟨rfl, ⟨rfl, ⟨rfl, ⟨rfl, trivial⟩⟩⟩⟩⟩, hh⟩
           ·refine .no 159 rfl (cb hb_9) rfl rfl (.no 159 rfl (cb hb_9) rfl rfl (.no 159 rfl (cb hb_9) rfl rfl (.no 159 rfl (cb hb_9) rfl rfl (.V (v_pickF (v := reg false) rfl hb_9 rfl) (.A (reg false) ?_)))))
            refine .nil ?_
            exact QN.thenJ ⟨_, false, setl_eq ⟨rfl, ⟨rfl, ⟨rfl, ⟨rfl, ⟨rfl, trivial⟩⟩⟩⟩⟩, hh⟩
          ·rintro ρ h ⟨ρ', t153, rfl, hh⟩
           unfold round_Core_moves.j5 at hh
           refine CW.cond t153 rfl (fun hb_10 => ?_) (fun hb_10 => ?_)
           ·have hh := hh.1 hb_10
            refine CW.region ?_
            refine .M (reg c) ?_
            refine .e (e_callP fn_64 rfl rfl hh ?_)
            intro h t166 hh
            refine .e (e_callP fn_63 rfl rfl hh ?_)
            intro h t167 hh
            refine .nil ?_
            refine QN.blockN ?_
            exact QN.thenJ ⟨_, setl_eq ⟨rfl, trivial⟩, hh⟩
           ·have hh := hh.2 hb_10
            refine CW.join (fun ρ h => ∃ (ρ' : Env) (t168 : Bool), ρ = setl ρ' [(0, reg c), (8, reg t41), (9, .pointer (some p_2)), (168, reg t168)] ∧ (round_Core_moves.j6 (round_Core_moves.j2 k) k) c t41 p_2 t168 h) ?_ ?_
            ·refine CW.region ?_
             refine .M (reg c) ?_
             obtain ⟨p_9, hp_9, hh⟩ := hh
             refine .V (v_nilCheck (congrArg Value.pointer hp_9)) (.V (v_fieldAddr fl_140_4 rfl) (.L 5 na_3 get_140_step hh rfl (fun t172 hh => .V (v_ieql rfl rfl) (.M (reg ((t172 == (3 : Int)) : Bool)) (.tv 174 rfl rfl rfl (fun hb => v_move (v := reg (t48.b : Bool)) rfl) rfl (.V (v_pick_and rfl (fun hb => gt hb) rfl) (.M (reg (((t172 == (3 : Int)) && t48.b) : Bool)) ?_)))))))
             refine ifb_cases hh (fun hb_11 hh => ?_) (fun hb_11 hh => ?_)
             ·refine .yv 177 rfl (cb hb_11) rfl (v_move (v := reg (c : Pt)) rfl) rfl (.yv 177 rfl (cb hb_11) rfl (v_nilCheck (congrArg Value.pointer hp_9)) rfl (.yv 177 rfl (cb hb_11) rfl (v_fieldAddr fl_140_7 rfl) rfl (.yv 177 rfl (cb hb_11) rfl (v_fieldAddr fl_136_0 rfl) rfl ?_)))
              obtain ⟨t182, ⟨xt182, hxt182, hgt182⟩, hh⟩ := hh
              refine .yv 177 rfl (cb hb_11) rfl (v_ld1 (p := p_9) 107 na_3 rfl hxt182 hgt182 get_140_valid_round) rfl (.yv 177 rfl (cb hb_11) rfl (v_move (v := reg (t41 : Int)) rfl) rfl (.yv 177 rfl (cb hb_11) rfl (v_ilss rfl rfl) rfl (.V (v_pickT (v := reg ((decide (t182 < t41)) : Bool)) rfl hb_11 rfl) (.M (reg ((decide (t182 < t41)) : Bool)) ?_))))
              refine ifb_cases hh (fun hb_12 hh => ?_) (fun hb_12 hh => ?_)
              ·refine .yv 186 rfl (cb hb_12) rfl (v_move (v := reg (c : Pt)) rfl) rfl (.yv 186 rfl (cb hb_12) rfl (v_move (v := reg (t41 : Int)) rfl) rfl (.yv 186 rfl (cb hb_12) rfl (v_fieldAddr fl_77_4 rfl) rfl ?_))
               obtain ⟨t190, ⟨xt190, hxt190, hgt190⟩, hh⟩ := hh
               refine .yv 186 rfl (cb hb_12) rfl (v_ldA (p := p_2) 4 ag_75 rfl hxt190 hgt190 get_77_Block (fun _ => (len_api_Block _)) (fun _ => rfl)) rfl ?_
               refine .ye 186 rfl (cb hb_12) rfl (e_callP fn_34 rfl rfl hh ?_)
               intro h t191 hh
               refine .ye 186 rfl (cb hb_12) rfl (e_callP fn_117 rfl rfl hh ?_)
               intro h t192 hh
               refine .V (v_pickT (v := reg t192) rfl hb_12 rfl) (.A (reg t192) ?_)
               refine .nil ?_
               exact QN.thenJ ⟨_, t192, setl_eq ⟨rfl, ⟨rfl, ⟨rfl, ⟨rfl, trivial⟩⟩⟩⟩, hh⟩
              ·refine .no 186 rfl (cb hb_12) rfl rfl (.no 186 rfl (cb hb_12) rfl rfl (.no 186 rfl (cb hb_12) rfl rfl (.no 186 rfl (cb hb_12) rfl rfl (.no 186 rfl (cb hb_12) rfl rfl (.no 186 rfl (cb hb_12) rfl rfl (.V (v_pickF (v := reg false) rfl hb_12 rfl) (.A (reg false) ?_)))))))
               refine .nil ?_
               exact QN.thenJ ⟨_, false, setl_eq ⟨rfl, ⟨rfl, ⟨rfl, ⟨rfl, trivial⟩⟩⟩⟩, hh⟩
             ·refine .no 177 rfl (cb hb_11) rfl rfl (.no 177 rfl (cb hb_11) rfl rfl (.no 177 rfl (cb hb_11) rfl rfl (.no 177 rfl (cb hb_11) rfl rfl (.no 177 rfl (cb hb_11) rfl rfl (.no 177 rfl (cb hb_11) rfl rfl (.no 177 rfl (cb hb_11) rfl rfl (.V (v_pickF (v := reg false) rfl hb_11 rfl) (.M (reg false) (.no 186 rfl rfl rfl rfl ?_)))))))))
              refine .no 186 rfl rfl rfl rfl (.no 186 rfl rfl rfl rfl (.no 186 rfl rfl rfl rfl (.no 186 rfl rfl rfl rfl (.no 186 rfl rfl rfl rfl (.V (v_pickF (v := reg false) rfl rfl rfl) (.A (reg false) ?_))))))
              refine .nil ?_
              exact QN.thenJ ⟨_, false, setl_eq ⟨rfl, ⟨rfl, ⟨rfl, ⟨rfl, trivial⟩⟩⟩⟩, hh⟩
            ·rintro ρ h ⟨ρ', t168, rfl, hh⟩
             unfold round_Core_moves.j6 at hh
             refine CW.cond t168 rfl (fun hb_13 => ?_) (fun hb_13 => ?_)
             ·have hh := hh.1 hb_13
              refine CW.region ?_
              refine .M (reg c) (.M (reg t41) (.V (v_fieldAddr fl_77_4 rfl) (.LA 4 ag_75 get_77_Block (fun _ => (len_api_Block _)) hh rfl (fun t197 hh => .V (v_buildT ({ round := t41, block := t197 } : round_mark) zo_136 pl_136 rfl (fill_step rfl rfl (len_i _) (len_round_mark _) rfl (set_136_round _ _) (fill_step rfl rfl (len_api_Block _) (len_round_mark _) rfl (set_136_block _ _) (rfl))) rfl) ?_))))
              obtain ⟨p_11, hp_11, hh⟩ := hh
              refine .V (v_nilCheck (congrArg Value.pointer hp_11)) (.V (v_fieldAddr fl_140_7 rfl) (.S (({ round := t41, block := t197 } : round_mark) : round_mark) 107 sz_136 (one_round_mark _) len_round_Core (len_round_mark _) (fun x => set_140_valid x (({ round := t41, block := t197 } : round_mark) : round_mark)) hh rfl rfl (fun _ hh => ?_)))
              refine .nil ?_
              refine QN.blockN ?_
              exact QN.thenJ ⟨_, setl_eq ⟨rfl, trivial⟩, hh⟩
             ·have hh := hh.2 hb_13
              refine .sr (.A (reg false) (.nx ?_))
              refine CW.ret ?_
              refine QN.blockRet ?_
              refine QN.thenRet ?_
              exact ret1 rfl rfl ⟨(false : Bool), rfl, hh⟩
  ·rintro ρ h ⟨ρ', rfl, hh⟩
   unfold round_Core_moves.j2 at hh
   refine .sr (.M (reg c) ?_)
   obtain ⟨p_12, hp_12, hh⟩ := hh
   refine .V (v_nilCheck (congrArg Value.pointer hp_12)) (.V (v_fieldAddr fl_140_12 rfl) (.L 211 na_4 get_140_decided hh rfl (fun t204 hh => .V (v_not rfl) (.A (reg ((!t204) : Bool)) (.nx ?_)))))
   refine CW.ret ?_
   exact ret1 rfl rfl ⟨((!t204) : Bool), rfl, hh⟩
theorem round_Core_acts.ok (c : Pt) (k : Sl → H → Prop) (h : H) (hh : round_Core_acts.b c k h) : CallsH Prog 58 [reg c].toArray h fun v h' => ∃ r : Sl, v = reg r ∧ k r h' := by
 unfold round_Core_acts.b at hh
 refine CallsH.of 24 Tryd.func58 rfl Tryd.ntmps58 rfl (fun w0 => ?_)
 refine .sr (.A (reg (Sl.nil : Sl)) (.nx ?_))
 refine CW.join (fun ρ h => ∃ (ρ' : Env), ρ = setl ρ' [(0, reg c)] ∧ (round_Core_acts.j1 k) c h) ?_ ?_
 ·refine CW.block ?_
  unfold round_Core_acts.l1 at hh
  refine CW.loop (fun (σ0 : Unit) ρ => match σ0 with | _ => ∃ ρ' : Env, ρ = setl ρ' [(0, reg c)]) hh ⟨_, setl_eq ⟨rfl, trivial⟩⟩ ?_
  clear hh
  rintro s1 ⟨⟩ ρ h ⟨ρ', rfl⟩ hh
  refine CW.seq ?_
  refine CW.join (fun ρ h => ∃ (ρ' : Env) (t12 : Bool), ρ = setl ρ' [(0, reg c), (12, reg t12)] ∧ (round_Core_acts.j2 (round_Core_acts.j1 k) s1) c t12 h) ?_ ?_
  ·refine CW.region ?_
   refine .M (reg c) ?_
   obtain ⟨p, hp, hh⟩ := hh
   refine .V (v_nilCheck (congrArg Value.pointer hp)) (.V (v_fieldAddr fl_140_12 rfl) (.L 211 na_4 get_140_decided hh rfl (fun t7 hh => .V (v_not rfl) (.M (reg ((!t7) : Bool)) ?_))))
   refine ifb_cases hh (fun hb hh => ?_) (fun hb hh => ?_)
   ·refine .yv 9 rfl (cb hb) rfl (v_move (v := reg (c : Pt)) rfl) rfl ?_
    refine .ye 9 rfl (cb hb) rfl (e_callP fn_91 rfl rfl hh ?_)
    intro h t11 hh
    refine .V (v_pickT (v := reg t11) rfl hb rfl) ?_
    refine .nil ?_
    exact QN.thenJ ⟨_, t11, setl_eq ⟨rfl, ⟨rfl, trivial⟩⟩, hh⟩
   ·refine .no 9 rfl (cb hb) rfl rfl (.no 9 rfl (cb hb) rfl rfl (.V (v_pickF (v := reg false) rfl hb rfl) ?_))
    refine .nil ?_
    exact QN.thenJ ⟨_, false, setl_eq ⟨rfl, ⟨rfl, trivial⟩⟩, hh⟩
  ·rintro ρ h ⟨ρ', t12, rfl, hh⟩
   unfold round_Core_acts.j2 at hh
   refine CW.cond t12 rfl (fun hb_1 => ?_) (fun hb_1 => ?_)
   ·have hh := hh.1 hb_1
    refine CW.skip ?_
    refine QN.then_ ?_
    refine CW.block ?_
    refine CW.skip ?_
    refine QN.blockN ?_
    exact QN.thenJ ⟨(), ⟨_, setl_eq ⟨rfl, trivial⟩⟩, hh⟩
   ·have hh := hh.2 hb_1
    refine CW.exit ?_
    refine QN.thenExit ?_
    refine QN.thenExit ?_
    refine QN.blockExit ?_
    exact QN.thenJ ⟨_, setl_eq ⟨rfl, trivial⟩, hh⟩
 ·rintro ρ h ⟨ρ', rfl, hh⟩
  unfold round_Core_acts.j1 at hh
  refine .sr (.M (reg c) ?_)
  obtain ⟨p_1, hp_1, hh⟩ := hh
  refine .V (v_nilCheck (congrArg Value.pointer hp_1)) (.V (v_fieldAddr fl_140_13 rfl) (.L 212 na_68 get_140_out hh rfl (fun t16 hh => .A (reg t16) (.nx (.sr (.M (reg c) (.M (reg c) (.V (v_nilCheck (congrArg Value.pointer hp_1)) (.V (v_fieldAddr fl_140_13 rfl) (.S (Sl.nil : Sl) 212 sz_68 (one_sl _) len_round_Core (len_sl _) (fun x => set_140_out x (Sl.nil : Sl)) hh rfl rfl (fun _ hh => ?_)))))))))))
  refine .V (v_nilCheck (congrArg Value.pointer hp_1)) (.V (v_fieldAddr fl_140_11 rfl) (.S (false : Bool) 210 sz_4 (one_b _) len_round_Core (len_b _) (fun x => set_140_fresh x (false : Bool)) hh rfl rfl (fun _ hh => .nx (.sr (.M (reg t16) (.A (reg t16) (.nx ?_)))))))
  refine CW.ret ?_
  exact ret1 rfl rfl ⟨(t16 : Sl), rfl, hh⟩
/-! a core of the rules, and what it owns -/
abbrev Kn := List (Sl × List api_Request)
def kE (K : Kn) : En := ⟨K.flatMap fun q => blk q.1, fun h => ∀ q ∈ K, SV 42 h q.1 q.2⟩
theorem kE_loc (K : Kn) : Go.Sh.Loc (kE K) := fun h h' hb H q hq =>
  rdo_loc 42 q.1 q.2 h h' (fun b hb' => hb b (List.mem_flatMap.2 ⟨q, hq, hb'⟩)) (H q hq)
structure CS where
  p : Addr
  x : round_Core
  ht : Int
  rd : Int
  q : Addr
  vm : Nat
  vts : Vts
  pm : Nat
  pl : List (Int × (api_Plan × List api_Request))
  bm : Nat
  bl : List (Dig × (api_Block × List api_Request))
  lq : List api_Request
  vq : List api_Request
  acts : List (api_Act × List api_Request)
  ms : List api_Member
  K : Kn
  KA : Kn
def rawP (l : List (Int × (api_Plan × List api_Request))) : List (Int × api_Plan) := l.map fun e => (e.1, e.2.1)
def rawB (l : List (Dig × (api_Block × List api_Request))) : List (Dig × api_Block) := l.map fun e => (e.1, e.2.1)
@[reducible] def core (c : CS) : List En := [cel 140 c.p (enc c.x), bxE c.q c.vm c.vts, mpE c.pm (rawP c.pl), mpE c.bm (rawB c.bl), own 80 135 c.x.out (c.acts.map (·.1)), rdo 34 c.x.config.Members c.ms, kE c.K, kE c.KA]
/-- a block's requests can be read through what is known -/
def Cov (K : Kn) (b : api_Block) (qs : List api_Request) : Prop := reqsN qs < 2 ^ 30 ∧ ((b.Requests, qs) ∈ K ∨ (b.Requests.len = 0 ∧ qs = []))
theorem Cov.mono {K K' : Kn} {b : api_Block} {qs : List api_Request} (h : Cov K b qs) (hk : ∀ q ∈ K, q ∈ K') : Cov K' b qs := ⟨h.1, h.2.imp (hk _) id⟩
theorem Cov.zero (K : Kn) : Cov K api_Block.zero [] := ⟨by decide, .inr ⟨rfl, rfl⟩⟩
theorem Cov.svz {K : Kn} {b : api_Block} {qs : List api_Request} {h : H} (hc : Cov K b qs) (hk : (kE K).A h) : SVz 42 h b.Requests qs := by
  rcases hc.2 with h1 | ⟨h1, h2⟩
  · exact SV.z (hk _ h1)
  · exact ⟨by rw [h1, h2]; rfl, fun hne => absurd h2 hne⟩
theorem reqs_len {qs : List api_Request} (h : reqsN qs < 2 ^ 30) : qs.length < 2 ^ 30 := by have := reqsN_ge qs; omega
structure Cok (c : CS) : Prop where
  hp : c.x.plans = ⟨some c.pm⟩
  hb : c.x.blocks = ⟨some c.bm⟩
  hq : c.x.box = some c.q
  at_ : c.x.at_ = cxI c.ht c.rd
  plc : Plc c.ht c.rd
  good : goodC c.x.config.Epoch c.ms = true
  lk : Cov c.K c.x.locked.block c.lq
  vl : Cov c.K c.x.valid.block c.vq
  pc : ∀ e ∈ c.pl, Cov c.K e.2.1.Block e.2.2
  bc : ∀ e ∈ c.bl, Cov c.K e.2.1 e.2.2
  vr : ∀ q ∈ c.vts, 0 ≤ q.1.round ∧ q.1.round ≤ 1024
  st : 0 ≤ c.x.step ∧ c.x.step ≤ 3
  s0 : c.x.step = 0 → c.rd = 0
  nv : c.vts.length < 2 ^ 19
  na : c.acts.length < 2 ^ 19
theorem Cok.len {c : CS} (hc : Cok c) : 1 ≤ c.ms.length ∧ c.ms.length ≤ 10 := by
  have := hc.good
  unfold goodC at this
  simp only [Bool.and_eq_true, decide_eq_true_eq] at this
  obtain ⟨⟨_, _, h1, h2⟩, _⟩ := this
  refine ⟨?_, h2⟩
  cases hm : c.ms with
  | nil => exact absurd hm h1
  | cons a l => simp
section
variable {h0 h : H} {S : List Nat} {L : List En}
theorem none_spec' {k : Dig → H → Prop} {h : H} (hk : ∀ h', Ext h h' → k (fun _ => 0) h') : call (β := Dig) Prog 64 [] k h := by
  refine round_none.ok _ _ ?_
  unfold round_none.b
  refine (Sat.init h).box_ (fun a h1 hs1 _ _ => ?_)
  refine hs1.box_ (fun z h2 hs2 _ _ => ?_)
  refine hs2.ld_ 0 rfl ?_
  refine hs2.st_ 1 rfl arr_len (fun h3 hs3 _ => ?_)
  refine hs3.ld_ 1 rfl ?_
  exact hk _ hs3.fr
theorem _root_.Go.Sh.Sat.perm {L' : List En} (hs : Sat h0 S h L) (hp : L.Perm L') : Sat h0 S h L' :=
  ⟨hs.fr, fun e he => hs.ok e (hp.symm.subset he), (hp.pairwise_iff (fun {a b} hab x hx hx' => hab x hx' hx)).1 hs.dis⟩
/-- some of the things, in another order, and all that stand behind the first n -/
theorem _root_.Go.Sh.Sat.sel (hs : Sat h0 S h L) (n : Nat) (idx : List Nat) (h1 : idx.all (· < n) = true) (h2 : idx.Nodup) : Sat h0 S h (idx.filterMap (fun i => L[i]?) ++ L.drop n) := by
  refine ⟨hs.fr, fun e he => ?_, ?_⟩
  · rcases List.mem_append.1 he with he | he
    · obtain ⟨i, _, hi⟩ := List.mem_filterMap.1 he
      exact hs.ok e (List.mem_of_getElem? hi)
    · exact hs.ok e (List.mem_of_mem_drop he)
  · rw [List.pairwise_append]
    refine ⟨?_, hs.dis.sublist (List.drop_sublist _ _), ?_⟩
    · rw [List.pairwise_filterMap]
      refine List.Pairwise.imp ?_ h2
      intro i j hij a ha b hb
      exact hs.disj ha hb hij
    · intro a ha b hb
      obtain ⟨i, hi, hai⟩ := List.mem_filterMap.1 ha
      obtain ⟨j, hj⟩ := List.mem_iff_getElem?.1 hb
      rw [List.getElem?_drop] at hj
      have : i < n := by have := List.all_eq_true.1 h1 i hi; simpa using this
      exact hs.disj hai hj (by omega)
/-- two things taken as one -/
theorem _root_.Go.Sh.Sat.merge {e1 e2 e : En} (hs : Sat h0 S h (e1 :: e2 :: L)) (hF : ∀ b ∈ e.F, b ∈ e1.F ∨ b ∈ e2.F) (hA : e1.A h → e2.A h → e.A h) (hl : Go.Sh.Loc e) : Sat h0 S h (e :: L) := by
  have h1 := hs.ok e1 (by simp)
  have h2 := hs.ok e2 (by simp)
  refine ⟨hs.fr, fun e' he => ?_, ?_⟩
  · rcases List.mem_cons.1 he with rfl | he
    · exact ⟨hA h1.1 h2.1, hl, fun b hb => (hF b hb).elim (h1.2.2 b) (h2.2.2 b)⟩
    · exact hs.ok e' (by simp [he])
  · have hd := hs.dis
    rw [List.pairwise_cons, List.pairwise_cons] at hd
    rw [List.pairwise_cons]
    refine ⟨fun a ha x hx hx' => ?_, hd.2.2⟩
    rcases hF x hx with h9 | h9
    · exact hd.1 a (by simp [ha]) x h9 hx'
    · exact hd.2.1 a ha x h9 hx'
/-- a new slice of requests, known from now on -/
theorem kE_add {K : Kn} {r : Sl} {qs : List api_Request} {h0 h : H} {S : List Nat} {L : List En} (hs : Sat h0 S h (own 182 42 r qs :: kE K :: L)) : Sat h0 S h (kE (K ++ [(r, qs)]) :: L) := by
  refine hs.merge (fun b hb => ?_) (fun h1 h2 q hq => ?_) (kE_loc _)
  · simp only [kE, List.flatMap_append, List.mem_append, List.flatMap_cons, List.flatMap_nil, List.append_nil] at hb
    exact hb.symm
  · rcases List.mem_append.1 hq with hq | hq
    · exact h2 q hq
    · simp only [List.mem_singleton] at hq
      subst hq
      exact OwnA.sv len_api_Request h1
end
section
variable {h0 h : H} {S : List Nat} {L : List En}
/-- an act is said -/
def sayC (c : CS) (a : api_Act) (qs : List api_Request) (r o : Sl) : CS := { c with x := { c.x with out := o }, acts := c.acts ++ [({ a with Block := { a.Block with Requests := r } }, qs)], KA := c.KA ++ [(r, qs)] }
theorem say_spec (c : CS) (a : api_Act) (qs : List api_Request) {k : Unit → H → Prop} (hs : Sat h0 S h (core c ++ L)) (hb : SVz 42 h a.Block.Requests qs) (hq : qs.length < 2 ^ 30) (hn : c.acts.length < 2 ^ 20)
    (hk : ∀ r o h', Sat h0 S h' (core (sayC c a qs r o) ++ L) → k () h') : call (β := Unit) Prog 90 [reg ((some c.p : Pt) : Pt), reg (a : api_Act)] k h := by
  refine round_Core_say.ok _ _ _ _ ?_
  unfold round_Core_say.b
  refine hs.box_ (fun a1 h1 hs1 _ hx1 => ?_)
  refine hs1.ld_ 0 rfl ?_
  refine copied_spec _ qs (hb.ext hx1) hq (fun r h2 hx2 ho2 hb2 => ?_)
  have hs2 := hs1.add (e := own 182 42 r qs) hx2 ho2 (own_loc _ _ _ _) hb2
  refine hs2.st_ 1 rfl len_api_Act (fun h3 hs3 _ => ?_)
  refine nn_i ?_
  refine hs3.ld_ 2 rfl ?_
  refine hs3.ld_ 1 rfl ?_
  refine hs3.mks_ (n := 135) (fun t14 h4 hs4 _ _ => ?_)
  refine hs4.chk_ 3 rfl rfl ?_
  refine hs4.app_ 7 rfl (hs4.ownSV 0 rfl len_api_Act) len_api_Act one_api_Act (len_api_Act _) ?_ ?_ (fun o h5 hs5 _ => ?_)
  · simp only [List.length_map, List.length_cons, List.length_nil, maxBytes]; omega
  · simp only [List.length_map, List.length_cons, List.length_nil]; omega
  refine hs5.st_ 3 rfl len_round_Core (fun h6 hs6 _ => ?_)
  refine hk r o h6 ?_
  have hp : Sat h0 S h6 (own 182 42 r qs :: kE c.KA :: cel 140 c.p (enc { c.x with out := o }) :: bxE c.q c.vm c.vts :: mpE c.pm (rawP c.pl) :: mpE c.bm (rawB c.bl) :: own 80 135 o (c.acts.map (·.1) ++ [{ a with Block := { a.Block with Requests := r } }]) :: rdo 34 c.x.config.Members c.ms :: kE c.K :: L) :=
    hs6.sel 11 [1, 10, 3, 4, 5, 6, 7, 8, 9] (by decide) (by decide)
  have h8 := kE_add hp
  have h9 : Sat h0 S h6 (cel 140 c.p (enc { c.x with out := o }) :: bxE c.q c.vm c.vts :: mpE c.pm (rawP c.pl) :: mpE c.bm (rawB c.bl) :: own 80 135 o (c.acts.map (·.1) ++ [{ a with Block := { a.Block with Requests := r } }]) :: rdo 34 c.x.config.Members c.ms :: kE c.K :: kE (c.KA ++ [(r, qs)]) :: L) :=
    h8.sel 8 [1, 2, 3, 4, 5, 6, 7, 0] (by decide) (by decide)
  have e : (sayC c a qs r o).acts.map (·.1) = c.acts.map (·.1) ++ [{ a with Block := { a.Block with Requests := r } }] := by simp [sayC]
  unfold core
  rw [e]
  exact h9
/-- is the core a member's? -/
def isMem (c : CS) : Bool := (findF c.ms c.x.me).c
theorem member_spec (c : CS) {k : Bool → H → Prop} (hc : Cok c) (hs : Sat h0 S h (core c ++ L)) (hk : ∀ h', Sat h0 S h' (core c ++ L) → k (isMem c) h') : call (β := Bool) Prog 89 [reg ((some c.p : Pt) : Pt)] k h := by
  refine round_Core_member.ok _ _ _ ?_
  unfold round_Core_member.b round_Core_member.j1
  refine nn_i (hs.ld_ 0 rfl (hs.ld_ 0 rfl ⟨?_, ?_⟩))
  · have hms : SV 34 h c.x.config.Members c.ms := hs.rdoSV 5 rfl
    refine config_Find.ok _ _ _ _ (Find_spec c.x.config c.ms c.x.me hms (by have := hc.len; omega) (fun h1 hx1 => ?_))
    have hs1 := hs.ext hx1
    refine hs1.box_ (fun t3 h2 hs2 _ _ => ?_)
    refine hs2.chk_ 1 rfl rfl (hs2.chk_ 1 rfl rfl ?_)
    refine hs2.st_ 0 rfl len_api_Member (fun h3 hs3 _ => ?_)
    exact hk h3 (hs3.drop (List.sublist_cons_self _ _))
  · refine hs.box_ (fun t3 h2 hs2 _ _ => ?_)
    refine hs2.chk_ 1 rfl rfl (hs2.chk_ 1 rfl rfl ?_)
    have hms : SV 34 h2 c.x.config.Members c.ms := hs2.rdoSV 6 rfl
    refine config_Find.ok _ _ _ _ (Find_spec c.x.config c.ms c.x.me hms (by have := hc.len; omega) (fun h1 hx1 => ?_))
    have hs1 := hs2.ext hx1
    refine hs1.st_ 0 rfl len_api_Member (fun h3 hs3 _ => ?_)
    exact hk h3 (hs3.drop (List.sublist_cons_self _ _))
/-- the number of the member that leads at a place -/
def idAt (c : CS) (a b : Int) : Int := (memAt c.ms ((a + b) % c.ms.length).toNat).Id
theorem leader_spec (c : CS) {a b : Int} (hp : Plc a b) {k : Int → H → Prop} (hc : Cok c) (hs : Sat h0 S h (core c ++ L)) (hk : ∀ h', Sat h0 S h' (core c ++ L) → k (idAt c a b) h') : call (β := Int) Prog 70 [reg ((some c.p : Pt) : Pt), reg (cxI a b)] k h := by
  refine round_Core_leader.ok _ _ _ _ ?_
  unfold round_Core_leader.b
  have hlen := hc.len
  have hms : SV 34 h c.x.config.Members c.ms := hs.rdoSV 5 rfl
  have hl : c.x.config.Members.len = c.ms.length := hms.2.1
  refine nn_i (hs.ld_ 0 rfl (hs.ld_ 0 rfl ?_))
  rw [hl]
  refine Leader_spec hp (by omega) ?_
  refine hs.chk_ 0 rfl rfl ?_
  have h1 : 0 ≤ (a + b) % (c.ms.length : Int) := Int.emod_nonneg _ (by omega)
  have h2 : (a + b) % (c.ms.length : Int) < c.ms.length := Int.emod_lt_of_pos _ (by omega)
  refine sidx_ld len_api_Member hms h1 (x := memAt c.ms ((a + b) % c.ms.length).toNat) (by simp [memAt, List.getElem?_eq_getElem (show ((a + b) % (c.ms.length : Int)).toNat < c.ms.length by omega)]) ?_
  exact hk h hs
def stpC (c : CS) (kind : Int) : CS := { c with x := { c.x with step := kind + 1, fresh := true } }
/-- a vote is said, and the step behind it begins -/
def votesC (c : CS) (kind : Int) (d : Dig) (r o : Sl) : CS :=
  if isMem c then sayC (stpC c kind) { api_Act.zero with Act := 2, Round := c.rd, Kind := kind, Digest := d } [] r o else stpC c kind
theorem votes_spec (c : CS) (kind : Int) (d : Dig) {k : Unit → H → Prop} (hkd : 0 ≤ kind ∧ kind ≤ 2) (hc : Cok c) (hs : Sat h0 S h (core c ++ L)) (hk : ∀ r o h', Sat h0 S h' (core (votesC c kind d r o) ++ L) → k () h') :
    call (β := Unit) Prog 63 [reg ((some c.p : Pt) : Pt), reg (kind : Int), reg (d : Dig)] k h := by
  refine round_Core_votes.ok _ _ _ _ _ ?_
  unfold round_Core_votes.b
  have e : iadd kind 1 = kind + 1 := iadd_eq (by omega) (by omega)
  rw [e]
  refine hs.box_ (fun d1 h1 hs1 _ _ => ?_)
  refine nn_i ?_
  refine hs1.st_ 1 rfl len_round_Core (fun h2 hs2 _ => ?_)
  refine hs2.st_ 1 rfl len_round_Core (fun h3 hs3 _ => ?_)
  have hs4 : Sat h0 S h3 (core (stpC c kind) ++ (cel 24 d1 (enc d) :: L)) := hs3.sel 9 [1, 2, 3, 4, 5, 6, 7, 8, 0] (by decide) (by decide)
  have hc1 : Cok (stpC c kind) := { hc with st := (by show 0 ≤ kind + 1 ∧ kind + 1 ≤ 3; omega), s0 := (by intro (h : kind + 1 = 0); omega) }
  refine member_spec (stpC c kind) hc1 hs4 (fun h5 hs5 => ?_)
  refine ifb_i (fun hm => ?_) (fun hm => ?_)
  · refine hs5.ld_ 0 rfl (hs5.ld_ 8 rfl ?_)
    rw [show (stpC c kind).x.at_ = cxI c.ht c.rd from hc.at_]
    refine Round_spec hc.plc ?_
    refine hs5.chk_ 8 rfl rfl ?_
    refine say_spec (stpC c kind) _ [] hs5 ⟨rfl, fun hne => absurd rfl hne⟩ (by decide) (Nat.lt_trans hc.na (by decide)) (fun r o h6 hs6 => ?_)
    have hm' : isMem c = true := hm
    have := hs6.sel 9 [0, 1, 2, 3, 4, 5, 6, 7] (by decide) (by decide)
    refine hk r o h6 ?_
    unfold votesC
    rw [if_pos hm']
    exact this
  · have hm' : isMem c = false := hm
    have := hs5.sel 9 [0, 1, 2, 3, 4, 5, 6, 7] (by decide) (by decide)
    refine hk Sl.nil Sl.nil h5 ?_
    unfold votesC
    rw [if_neg (by rw [hm']; decide)]
    exact this
def rdC (c : CS) (rd : Int) : CS := { c with rd := rd, x := { c.x with at_ := cxI c.ht rd, step := 1, ticks := 0, fresh := true } }
/-- a round begins -/
def enterC (c : CS) (rd : Int) (r o : Sl) : CS :=
  if isMem c && (idAt c c.ht rd == c.x.me) then sayC (rdC c rd) { api_Act.zero with Act := 1, Round := rd, Valid := c.x.valid.round, Block := c.x.valid.block } c.vq r o else rdC c rd
theorem enter_spec (c : CS) (rd : Int) {k : Unit → H → Prop} (hrd : 0 ≤ rd ∧ rd ≤ 1024) (hc : Cok c) (hs : Sat h0 S h (core c ++ L)) (hk : ∀ r o h', Sat h0 S h' (core (enterC c rd r o) ++ L) → k () h') :
    call (β := Unit) Prog 57 [reg ((some c.p : Pt) : Pt), reg (rd : Int)] k h := by
  refine round_Core_enter.ok _ _ _ _ ?_
  unfold round_Core_enter.b
  have hp : Plc c.ht rd := ⟨hc.plc.1, hrd⟩
  refine nn_i (hs.ld_ 0 rfl ?_)
  rw [hc.at_]
  refine Height_spec hc.plc ?_
  refine At_spec _ _ ?_
  refine hs.st_ 0 rfl len_round_Core (fun h1 hs1 _ => ?_)
  refine hs1.st_ 0 rfl len_round_Core (fun h2 hs2 _ => ?_)
  refine hs2.st_ 0 rfl len_round_Core (fun h3 hs3 _ => ?_)
  refine hs3.st_ 0 rfl len_round_Core (fun h4 hs4 _ => ?_)
  have hs5 : Sat h0 S h4 (core (rdC c rd) ++ L) := hs4
  have hc1 : Cok (rdC c rd) := { hc with at_ := rfl, plc := hp, st := (by decide : (0 : Int) ≤ 1 ∧ (1 : Int) ≤ 3), s0 := (by intro (h : (1 : Int) = 0); omega) }
  refine member_spec (rdC c rd) hc1 hs5 (fun h5 hs6 => ?_)
  have hmem : isMem (rdC c rd) = isMem c := rfl
  rw [hmem]
  unfold round_Core_enter.j1
  refine ifb_i (fun hm => ?_) (fun hm => ?_)
  · refine hs6.ld_ 0 rfl (hs6.ld_ 0 rfl ?_)
    refine leader_spec (rdC c rd) hp hc1 hs6 (fun h6 hs7 => ?_)
    refine hs7.chk_ 0 rfl rfl ?_
    have hid : idAt (rdC c rd) c.ht rd = idAt c c.ht rd := rfl
    rw [hid]
    refine ifb_i (fun hl => ?_) (fun hl => ?_)
    · refine nn_i (hs7.ld_ 0 rfl (hs7.ld_ 0 rfl ?_))
      have hcv : SVz 42 h6 c.x.valid.block.Requests c.vq := hc.vl.svz (hs7.at_ (i := 6) rfl)
      refine say_spec (rdC c rd) _ c.vq hs7 hcv (reqs_len hc.vl.1) (by have := hc.na; exact Nat.lt_trans this (by decide)) (fun r o h8 hs8 => ?_)
      refine hk r o h8 ?_
      unfold enterC
      have hl' : (idAt c c.ht rd == c.x.me) = true := hl
      rw [if_pos (by rw [hm, hl']; rfl)]
      exact hs8
    · refine hk Sl.nil Sl.nil h6 ?_
      unfold enterC
      have hl' : (idAt c c.ht rd == c.x.me) = false := hl
      rw [if_neg (by rw [hm, hl']; simp)]
      exact hs7
  · refine ifb_i (fun hl => by cases hl) (fun _ => ?_)
    refine hk Sl.nil Sl.nil h5 ?_
    unfold enterC
    rw [if_neg (by rw [hm]; simp)]
    exact hs6
/-- did a quorum vote first for it? -/
def firstB (c : CS) (rd : Int) (d : Dig) : Bool := decide ((quoN c.ms.length : Int) ≤ ((forF c.vts 1 rd d 63).length : Int))
theorem first_spec (c : CS) (rd : Int) (d : Dig) {k : Bool → H → Prop} (hc : Cok c) (hs : Sat h0 S h (core c ++ L)) (hk : ∀ h', Sat h0 S h' (core c ++ L) → k (firstB c rd d) h') :
    call (β := Bool) Prog 117 [reg ((some c.p : Pt) : Pt), reg (rd : Int), reg (d : Dig)] k h := by
  refine round_Core_first.ok _ _ _ _ _ ?_
  unfold round_Core_first.b
  refine hs.box_ (fun d1 h1 hs1 _ _ => ?_)
  refine nn_i (hs1.ld_ 1 rfl (hs1.ld_ 0 rfl (hs1.ld_ 1 rfl ?_)))
  rw [hc.hq]
  refine vote_Box_Count.ok _ _ _ _ _ _ (Count_spec c.q c.vm c.vts 1 rd d (hs1.at_ (i := 2) rfl) (fun h2 hx2 => ?_))
  have hs2 := hs1.ext hx2
  refine hs2.chk_ 1 rfl rfl ?_
  have hms : SV 34 h2 c.x.config.Members c.ms := hs2.rdoSV 6 rfl
  refine Quorum_spec _ c.ms.length hms.2.1 (by have := hc.len; omega) (fun h3 hx3 => ?_)
  exact hk h3 ((hs2.ext hx3).drop (List.sublist_cons_self _ _))
def nowL (c : CS) : Int := if c.x.step == 0 then -1 else c.rd
def laterV (c : CS) (ks : List (Int × Int)) : Int := if nowL c < reachedF ks (((c.ms.length - 1) / 3 + 1 : Nat) : Int) then reachedF ks (((c.ms.length - 1) / 3 + 1 : Nat) : Int) else -1
theorem later_spec (c : CS) {k : Int → H → Prop} (hc : Cok c) (hs : Sat h0 S h (core c ++ L)) (hk : ∀ ks h', LastOf ks c.vts → Sat h0 S h' (core c ++ L) → k (laterV c ks) h') :
    call (β := Int) Prog 115 [reg ((some c.p : Pt) : Pt)] k h := by
  refine round_Core_later.ok _ _ _ ?_
  unfold round_Core_later.b
  refine nn_i (hs.ld_ 0 rfl ?_)
  rw [hc.at_]
  refine Round_spec hc.plc (hs.ld_ 0 rfl ?_)
  have key : ∀ now, now = nowL c → round_Core_later.j1 k (some c.p) now h := by
    intro now hnow
    unfold round_Core_later.j1
    refine nn_i (hs.ld_ 0 rfl (hs.ld_ 0 rfl ?_))
    have hms : SV 34 h c.x.config.Members c.ms := hs.rdoSV 5 rfl
    refine Weak_spec _ c.ms.length hms.2.1 (by have := hc.len; omega) (fun h1 hx1 => ?_)
    have hs1 := hs.ext hx1
    refine hs1.chk_ 0 rfl rfl ?_
    rw [hc.hq]
    refine vote_Box_Reached.ok _ _ _ _ (Reached_spec c.q c.vm c.vts _ (hs1.at_ (i := 1) rfl) (by have := hc.nv; omega) (fun ks h2 hx2 hL => ?_))
    have hs2 := hs1.ext hx2
    have h3 := hk ks h2 hL hs2
    unfold laterV at h3
    rw [← hnow] at h3
    refine ifb_i (fun hl => ?_) (fun hl => ?_)
    · rw [if_pos (by simpa using hl)] at h3; exact h3
    · rw [if_neg (by simpa using hl)] at h3; exact h3
  refine ifb_i (fun h1 => key _ ?_) (fun h1 => key _ ?_)
  · unfold nowL; rw [if_pos h1]
  · unfold nowL; rw [if_neg (by rw [h1]; decide)]
/-- is a mark of a digest? -/
def isB (m : round_mark) (qs : List api_Request) (d : Dig) : Bool := decide (0 ≤ m.round) && decide (digB m.block qs = d)
theorem is_spec (m : round_mark) (qs : List api_Request) (d : Dig) {k : Bool → H → Prop} {h : H} (hT : Tb h) (hv : SVz 42 h m.block.Requests qs) (hq : reqsN qs < 2 ^ 38) (hk : ∀ h', Ext h h' → k (isB m qs d) h') :
    call (β := Bool) Prog 134 [reg (m : round_mark), reg (d : Dig)] k h := by
  refine round_mark_is.ok _ _ _ _ ?_
  unfold round_mark_is.b round_mark_is.j1
  refine (Sat.init h).box_ (fun m1 h1 hs1 _ _ => ?_)
  refine hs1.box_ (fun d1 h2 hs2 _ _ => ?_)
  refine hs2.ld_ 1 rfl ?_
  refine ifb_i (fun h3 => ?_) (fun h3 => ?_)
  · refine hs2.ld_ 1 rfl (hs2.ld_ 0 rfl ?_)
    refine BDig_spec _ qs (hT.fr hs2.fr (by simp)) (hv.ext hs2.fr) hq (fun h4 hx4 => ?_)
    have hs4 := hs2.ext hx4
    refine hs4.chk_ 0 rfl rfl ?_
    have := hk h4 hs4.fr
    unfold isB at this
    rw [h3] at this
    exact this
  · have := hk h2 hs2.fr
    unfold isB at this
    rw [h3] at this
    exact this
end
theorem mfind_rawP (l : List (Int × (api_Plan × List api_Request))) (k : Int) : mfind (rawP l) k = (mfind l k).map (·.1) := by
  induction l with
  | nil => rfl
  | cons e l ih =>
    unfold mfind rawP at *
    simp only [List.map_cons, List.find?_cons]
    by_cases h : k = e.1 <;> simp [h]
    simpa using ih
theorem mfind_rawB (l : List (Dig × (api_Block × List api_Request))) (k : Dig) : mfind (rawB l) k = (mfind l k).map (·.1) := by
  induction l with
  | nil => rfl
  | cons e l ih =>
    unfold mfind rawB at *
    simp only [List.map_cons, List.find?_cons]
    by_cases h : k = e.1 <;> simp [h]
    simpa using ih
theorem mins_rawP (l : List (Int × (api_Plan × List api_Request))) (k : Int) (v : api_Plan × List api_Request) : mins (rawP l) k v.1 = rawP (mins l k v) := by
  induction l with
  | nil => rfl
  | cons e l ih =>
    simp only [rawP, List.map_cons, mins] at ih ⊢
    by_cases h : k = e.1 <;> simp [h]
    simpa using ih
theorem mins_rawB (l : List (Dig × (api_Block × List api_Request))) (k : Dig) (v : api_Block × List api_Request) : mins (rawB l) k v.1 = rawB (mins l k v) := by
  induction l with
  | nil => rfl
  | cons e l ih =>
    simp only [rawB, List.map_cons, mins] at ih ⊢
    by_cases h : k = e.1 <;> simp [h]
    simpa using ih
theorem mins_in {κ ν : Type} [DecidableEq κ] {l : List (κ × ν)} {k : κ} {v : ν} {e : κ × ν} (h : e ∈ mins l k v) : e ∈ l ∨ e = (k, v) := by
  induction l with
  | nil => simp [mins] at h; exact .inr h
  | cons a l ih =>
    unfold mins at h
    split at h
    · rename_i hk
      rcases List.mem_cons.1 h with rfl | h
      · exact .inr (by rw [hk])
      · exact .inl (by simp [h])
    · rcases List.mem_cons.1 h with rfl | h
      · exact .inl (by simp)
      · exact (ih h).imp (by intro h; simp [h]) id
/-- what a plan of a round is voted first for; false: that isn't known yet -/
def planF (c : CS) (pl : api_Plan) (qs : List api_Request) : T2 Dig Bool :=
  if 0 ≤ pl.Valid then
    if firstB c pl.Valid (digB pl.Block qs) then
      ⟨if (decide (c.x.locked.round < 0) || isB c.x.locked c.lq (digB pl.Block qs)) || decide (c.x.locked.round ≤ pl.Valid) then digB pl.Block qs else dz, true⟩
    else ⟨dz, false⟩
  else ⟨if decide (c.x.locked.round < 0) || isB c.x.locked c.lq (digB pl.Block qs) then digB pl.Block qs else dz, true⟩
section
variable {h0 h : H} {S : List Nat} {L : List En}
theorem plan_spec (c : CS) (pl : api_Plan) (qs : List api_Request) {k : T2 Dig Bool → H → Prop} (hT : Tb h0) (hS : 0 ∉ S) (hc : Cok c) (hs : Sat h0 S h (core c ++ L)) (hv : SVz 42 h pl.Block.Requests qs) (hq : reqsN qs < 2 ^ 30)
    (hk : ∀ h', Sat h0 S h' (core c ++ L) → k (planF c pl qs) h') : call (β := T2 Dig Bool) Prog 116 [reg ((some c.p : Pt) : Pt), reg (pl : api_Plan)] k h := by
  refine round_Core_plan.ok _ _ _ _ ?_
  unfold round_Core_plan.b
  refine hs.box_ (fun p1 h1 hs1 _ hx1 => ?_)
  refine hs1.box_ (fun t4 h2 hs2 _ hx2 => ?_)
  refine hs2.ld_ 1 rfl ?_
  refine BDig_spec _ qs (hT.fr hs2.fr hS) (hv.ext (hx1.trans hx2)) (by omega) (fun h3 hx3 => ?_)
  have hs3 := hs2.ext hx3
  refine hs3.box_ (fun d h4 hs4 _ _ => ?_)
  refine hs4.st_ 0 rfl arr_len (fun h5 hs5 _ => ?_)
  have hs6 : Sat h0 S h5 (core c ++ (cel 24 d (enc (digB pl.Block qs)) :: cel 24 t4 (enc ((fun _ => 0) : Dig)) :: cel 77 p1 (enc pl) :: L)) := hs5.sel 11 [3, 4, 5, 6, 7, 8, 9, 10, 0, 1, 2] (by decide) (by decide)
  clear hs1 hs2 hs3 hs4 hs5
  have fin : ∀ {h' : H} {a b e : En}, Sat h0 S h' (core c ++ (a :: b :: e :: L)) → Sat h0 S h' (core c ++ L) := fun hs => by
    have := hs.sel 11 [0, 1, 2, 3, 4, 5, 6, 7] (by decide) (by decide)
    exact this
  have j2 : ∀ (free : Bool) h', Sat h0 S h' (core c ++ (cel 24 d (enc (digB pl.Block qs)) :: cel 24 t4 (enc ((fun _ => 0) : Dig)) :: cel 77 p1 (enc pl) :: L)) → planF c pl qs = ⟨if free then digB pl.Block qs else dz, true⟩ → round_Core_plan.j2 k t4 d free h' := by
    intro free h' hs' he
    unfold round_Core_plan.j2 round_Core_plan.j3
    refine ifb_i (fun hf => ?_) (fun hf => ?_)
    · have hf' : free = false := by simpa using hf
      refine none_spec' (fun h7 hx7 => ?_)
      have hs7 := hs'.ext hx7
      refine hs7.st_ 8 rfl arr_len (fun h8 hs8 _ => ?_)
      refine hs8.ld_ 8 rfl ?_
      refine hs8.st_ 9 rfl arr_len (fun h9 hs9 _ => ?_)
      refine hs9.ld_ 9 rfl ?_
      have := hk h9 (fin hs9)
      rw [he, hf'] at this; exact this
    · have hf' : free = true := by simpa using hf
      refine hs'.ld_ 8 rfl ?_
      refine hs'.st_ 9 rfl arr_len (fun h9 hs9 _ => ?_)
      refine hs9.ld_ 9 rfl ?_
      have := hk h9 (fin hs9)
      rw [he, hf'] at this; exact this
  have j1 : ∀ (free : Bool) h', Sat h0 S h' (core c ++ (cel 24 d (enc (digB pl.Block qs)) :: cel 24 t4 (enc ((fun _ => 0) : Dig)) :: cel 77 p1 (enc pl) :: L)) → free = (decide (c.x.locked.round < 0) || isB c.x.locked c.lq (digB pl.Block qs)) → round_Core_plan.j1 k (some c.p) p1 t4 d free h' := by
    intro free h' hs' hfr
    unfold round_Core_plan.j1
    refine hs'.ld_ 10 rfl ?_
    refine ifb_i (fun hv0 => ?_) (fun hv0 => ?_)
    · have hv0' : 0 ≤ pl.Valid := by simpa using hv0
      refine hs'.ld_ 10 rfl (hs'.ld_ 8 rfl ?_)
      refine first_spec c _ _ hc hs' (fun h7 hs7 => ?_)
      refine ifb_i (fun hf => ?_) (fun hf => ?_)
      · have hf' : firstB c pl.Valid (digB pl.Block qs) = false := by simpa using hf
        refine none_spec' (fun h8 hx8 => ?_)
        have hs8 := hs7.ext hx8
        refine hs8.st_ 9 rfl arr_len (fun h9 hs9 _ => ?_)
        refine hs9.ld_ 9 rfl ?_
        have := hk h9 (fin hs9)
        have he : planF c pl qs = ⟨dz, false⟩ := by unfold planF; rw [if_pos hv0', hf']; rfl
        rw [he] at this; exact this
      · have hf' : firstB c pl.Valid (digB pl.Block qs) = true := by simpa using hf
        refine ifb_i (fun hfree => ?_) (fun hfree => ?_)
        · refine j2 true h7 hs7 ?_
          unfold planF; rw [if_pos hv0', if_pos hf', ← hfr, hfree]; rfl
        · refine nn_i (hs7.ld_ 0 rfl (hs7.ld_ 10 rfl ?_))
          refine j2 _ h7 hs7 ?_
          unfold planF; rw [if_pos hv0', if_pos hf', ← hfr, hfree, Bool.false_or]
    · have hv0' : ¬ 0 ≤ pl.Valid := by simpa using hv0
      refine j2 free h' hs' ?_
      unfold planF; rw [if_neg hv0', ← hfr]
  refine nn_i (hs6.ld_ 0 rfl ?_)
  refine ifb_i (fun hl => ?_) (fun hl => ?_)
  · exact j1 true h5 hs6 (by rw [hl]; rfl)
  · refine hs6.ld_ 0 rfl (hs6.ld_ 8 rfl ?_)
    refine is_spec _ c.lq _ (hT.fr hs6.fr hS) (hc.lk.svz (hs6.at_ (i := 6) rfl)) (by have := hc.lk.1; omega) (fun h7 hx7 => ?_)
    exact j1 _ h7 (hs6.ext hx7) (by rw [hl, Bool.false_or])
end
/-! the moves -/
def Win (c : CS) (d : Dig) (r : Int) (is : Bool) : Prop := ∃ cs, CountOf cs c.vts 2 ∧ WinOf cs (quoN c.ms.length : Int) d r is
/-- nothing is decided here -/
def NW (c : CS) : Prop := ∃ d r is, Win c d r is ∧ (is = true → mfind c.bl d = none)
def NL (c : CS) : Prop := ∃ ks, LastOf ks c.vts ∧ laterV c ks < 0
def decC (c : CS) : CS := { c with x := { c.x with decided := true } }
def lockC (c : CS) (b : api_Block) (qs : List api_Request) : CS := { c with x := { c.x with locked := ⟨c.rd, b⟩, valid := ⟨c.rd, b⟩ }, lq := qs, vq := qs }
def valC (c : CS) (b : api_Block) (qs : List api_Request) : CS := { c with x := { c.x with valid := ⟨c.rd, b⟩ }, vq := qs }
def Stp (c : CS) : Prop :=
  (c.x.step = 0 → c.pl = [] ∧ ∀ q ∈ c.vts, ¬ 0 ≤ q.1.round) ∧ (c.x.step = 1 → mfind c.pl c.rd = none) ∧
  (c.x.step = 2 → (∀ p qs, mfind c.pl c.rd = some (p, qs) → firstB c c.rd (digB p.Block qs) = false) ∧ firstB c c.rd dz = false) ∧
  (c.x.step = 3 → ∀ p qs, mfind c.pl c.rd = some (p, qs) → c.x.valid.round < c.rd → firstB c c.rd (digB p.Block qs) = false)
inductive MV (c : CS) : CS → Bool → Prop
  | dec (d : Dig) (r : Int) (b : api_Block) (qs : List api_Request) (rr o : Sl) : Win c d r true → mfind c.bl d = some (b, qs) → MV c (sayC (decC c) { api_Act.zero with Act := 3, Round := r, Digest := d, Block := b } qs rr o) false
  | next (ks : List (Int × Int)) (rr o : Sl) : NW c → LastOf ks c.vts → 0 ≤ laterV c ks → MV c (enterC c (laterV c ks) rr o) true
  | start (rr o : Sl) : NW c → NL c → c.x.step = 0 → (c.pl ≠ [] ∨ ∃ q ∈ c.vts, 0 ≤ q.1.round) → MV c (enterC c 0 rr o) true
  | wait (p : api_Plan) (qs : List api_Request) : NW c → NL c → c.x.step = 1 → mfind c.pl c.rd = some (p, qs) → (planF c p qs).b = false → MV c c false
  | first (p : api_Plan) (qs : List api_Request) (rr o : Sl) : NW c → NL c → c.x.step = 1 → mfind c.pl c.rd = some (p, qs) → (planF c p qs).b = true → MV c (votesC c 1 (planF c p qs).a rr o) true
  | lock (p : api_Plan) (qs : List api_Request) (rr o : Sl) : NW c → NL c → c.x.step = 2 → mfind c.pl c.rd = some (p, qs) → firstB c c.rd (digB p.Block qs) = true → MV c (votesC (lockC c p.Block qs) 2 (digB p.Block qs) rr o) true
  | nil (rr o : Sl) : NW c → NL c → c.x.step = 2 → (∀ p qs, mfind c.pl c.rd = some (p, qs) → firstB c c.rd (digB p.Block qs) = false) → firstB c c.rd dz = true → MV c (votesC c 2 dz rr o) true
  | val (p : api_Plan) (qs : List api_Request) : NW c → NL c → c.x.step = 3 → mfind c.pl c.rd = some (p, qs) → c.x.valid.round < c.rd → firstB c c.rd (digB p.Block qs) = true → MV c (valC c p.Block qs) true
  | stop : NW c → NL c → Stp c → MV c c false
section
variable {h0 h : H} {S : List Nat} {L : List En}
theorem _root_.Go.Sh.Sat.mgetE {κ ν : Type} [Ty κ] [Ty ν] {α : Type} {r : Nat} {l : List (κ × ν)} [DecidableEq κ] {g : List (κ × ν) → α} {k : α → H → Prop} (i : Nat) (hs : Sat h0 S h L) (hi : L[i]? = some (mpE r l)) {y : α} (hg : g l = y) (hk : k y h) : mget ⟨some r⟩ g k h := by
  subst hg; exact hs.mget_ i hi hk
theorem lookB (c : CS) (dv : Dig) : ∃ bv bk, mlook api_Block.zero (rawB c.bl) dv = ⟨bv, bk⟩ ∧ (bk = true → ∃ qs, mfind c.bl dv = some (bv, qs)) ∧ (bk = false → mfind c.bl dv = none) := by
  unfold mlook
  rw [mfind_rawB]
  cases hm : mfind c.bl dv with
  | none => exact ⟨_, _, rfl, by simp, by simp⟩
  | some e => obtain ⟨b, qs⟩ := e; exact ⟨_, _, rfl, fun _ => ⟨qs, rfl⟩, by simp⟩
theorem lookP (c : CS) (rd : Int) : ∃ pv pk, mlook api_Plan.zero (rawP c.pl) rd = ⟨pv, pk⟩ ∧ (pk = true → ∃ qs, mfind c.pl rd = some (pv, qs)) ∧ (pk = false → mfind c.pl rd = none) := by
  unfold mlook
  rw [mfind_rawP]
  cases hm : mfind c.pl rd with
  | none => exact ⟨_, _, rfl, by simp, by simp⟩
  | some e => obtain ⟨b, qs⟩ := e; exact ⟨_, _, rfl, fun _ => ⟨qs, rfl⟩, by simp⟩
theorem enterC_dec (c : CS) (rd : Int) (r o : Sl) : (enterC c rd r o).x.decided = c.x.decided := by unfold enterC; split <;> rfl
theorem votesC_dec (c : CS) (kd : Int) (d : Dig) (r o : Sl) : (votesC c kd d r o).x.decided = c.x.decided := by unfold votesC; split <;> rfl
theorem reached_le {ks : List (Int × Int)} {l : Vts} (hL : LastOf ks l) {n : Int} (hn : 1 ≤ n) : reachedF ks n = -1 ∨ ∃ q ∈ l, q.1.round = reachedF ks n := by
  unfold reachedF
  split
  · exact .inl rfl
  · rename_i hc
    right
    have hi : ((ks.length : Int) - n).toNat < ((ks.map (·.2)).mergeSort fun x y => decide (x ≤ y)).length := by
      rw [List.length_mergeSort, List.length_map]; omega
    have hm : ((ks.map (·.2)).mergeSort fun x y => decide (x ≤ y)).getD ((ks.length : Int) - n).toNat 0 ∈ ks.map (·.2) := by
      rw [List.getD_eq_getElem?_getD, List.getElem?_eq_getElem hi]
      exact (List.mergeSort_perm _ _).mem_iff.1 (List.getElem_mem hi)
    obtain ⟨e, he, hee⟩ := List.mem_map.1 hm
    obtain ⟨q, hq, _, hr⟩ := (hL.yes e.1 e.2 (mfind_of_mem hL.nodup he)).1
    exact ⟨q, hq, by rw [hr, hee]⟩
theorem later_le {c : CS} (hc : Cok c) {ks : List (Int × Int)} (hL : LastOf ks c.vts) : laterV c ks ≤ 1024 := by
  unfold laterV
  split
  · rcases reached_le hL (n := (((c.ms.length - 1) / 3 + 1 : Nat) : Int)) (by omega) with h | ⟨q, hq, h⟩
    · rw [h]; omega
    · rw [← h]; exact (hc.vr q hq).2
  · omega
/-- the end of a move -/
theorem mv_end {c' : CS} {k : Bool → H → Prop} (hs : Sat h0 S h (core c' ++ L)) (hk : k (!c'.x.decided) h) : round_Core_moves.j2 k (some c'.p) h := by
  unfold round_Core_moves.j2
  exact nn_i (hs.ld_ 0 rfl hk)
theorem moves_j1 (c : CS) {k : Bool → H → Prop} (hT : Tb h0) (hS : 0 ∉ S) (hc : Cok c) (hd : c.x.decided = false) (d : Addr) (dv : Dig) (r : Int) (is : Bool) (hw : Win c dv r is)
    (hs : Sat h0 S h (cel 24 d (enc dv) :: (core c ++ L))) (hk : ∀ c' b h', MV c c' b → Sat h0 S h' (core c' ++ L) → k b h') : round_Core_moves.j1 k (some c.p) d r is h := by
  unfold round_Core_moves.j1
  obtain ⟨bv, bk, hlb, hbs, hbn⟩ := lookB c dv
  obtain ⟨pv, pk, hlp, hps, hpn⟩ := lookP c c.rd
  refine nn_i (hs.ld_ 1 rfl (hs.ld_ 0 rfl ?_))
  rw [hc.hb]
  refine hs.mgetE 4 rfl hlb ?_
  refine hs.box_ (fun b h1 hs1 _ _ => ?_)
  refine hs1.chk_ 2 rfl hc.hb (hs1.chk_ 1 rfl rfl (hs1.mchk_ 5 rfl hlb ?_))
  refine hs1.st_ 0 rfl len_api_Block (fun h2 hs2 _ => ?_)
  refine hs2.ld_ 2 rfl ?_
  rw [hc.at_]
  refine Round_spec hc.plc (hs2.ld_ 2 rfl ?_)
  rw [hc.hp]
  refine hs2.mgetE 4 rfl hlp ?_
  refine hs2.box_ (fun p2 h3 hs3 _ _ => ?_)
  refine hs3.st_ 0 rfl len_api_Plan (fun h4 hs4 _ => ?_)
  have hs5 : Sat h0 S h4 (core c ++ (cel 77 p2 (enc pv) :: cel 75 b (enc bv) :: cel 24 d (enc dv) :: L)) := hs4.sel 11 [3, 4, 5, 6, 7, 8, 9, 10, 0, 1, 2] (by decide) (by decide)
  clear hs hs1 hs2 hs3 hs4
  have fin : ∀ {c' : CS} {h' : H} {a b e : En}, Sat h0 S h' (core c' ++ (a :: b :: e :: L)) → Sat h0 S h' (core c' ++ L) := fun hs => by
    have := hs.sel 11 [0, 1, 2, 3, 4, 5, 6, 7] (by decide) (by decide)
    exact this
  refine later_spec c hc hs5 (fun ks h5 hL hs6 => ?_)
  clear hs5
  refine ifb_i (fun h1 => ?_) (fun h1 => ?_)
  · -- decided
    simp only [Bool.and_eq_true] at h1
    obtain ⟨hi, hb⟩ := h1
    obtain ⟨qs, hm⟩ := hbs hb
    have hcv := hc.bc _ (mfind_mem hm)
    refine hs6.st_ 0 rfl len_round_Core (fun h6 hs7 _ => ?_)
    have hs8 : Sat h0 S h6 (core (decC c) ++ (cel 77 p2 (enc pv) :: cel 75 b (enc bv) :: cel 24 d (enc dv) :: L)) := hs7
    refine hs8.ld_ 10 rfl (hs8.ld_ 9 rfl ?_)
    refine say_spec (decC c) _ qs hs8 (hcv.svz (hs8.at_ (i := 6) rfl)) (reqs_len hcv.1) (Nat.lt_trans hc.na (by decide)) (fun rr o h7 hs9 => ?_)
    refine mv_end (c' := sayC (decC c) { api_Act.zero with Act := 3, Round := r, Digest := dv, Block := bv } qs rr o) hs9 ?_
    exact hk _ _ h7 (MV.dec dv r bv qs rr o (hi ▸ hw) hm) (fin hs9)
  have hNW : NW c := ⟨dv, r, is, hw, fun hi => hbn (by simpa [hi] using h1)⟩
  refine ifb_i (fun h2 => ?_) (fun h2 => ?_)
  · have hn : 0 ≤ laterV c ks := by simpa using h2
    refine enter_spec c _ ⟨hn, later_le hc hL⟩ hc hs6 (fun rr o h7 hs9 => ?_)
    have hp : (enterC c (laterV c ks) rr o).p = c.p := by unfold enterC; split <;> rfl
    rw [← hp]
    refine mv_end hs9 ?_
    rw [enterC_dec, hd]
    exact hk _ _ h7 (MV.next ks rr o hNW hL hn) (fin hs9)
  have hNL : NL c := ⟨ks, hL, by simpa using h2⟩
  -- what a plan of this round lets be done
  have hplan : ∀ h', Sat h0 S h' (core c ++ (cel 77 p2 (enc pv) :: cel 75 b (enc bv) :: cel 24 d (enc dv) :: L)) → ∀ qs, mfind c.pl c.rd = some (pv, qs) → SVz 42 h' pv.Block.Requests qs ∧ reqsN qs < 2 ^ 30 := by
    intro h' hs' qs hm
    have hcv := hc.pc _ (mfind_mem hm)
    exact ⟨hcv.svz (hs'.at_ (i := 6) rfl), hcv.1⟩
  have j6 : ∀ (t : Bool) h', Sat h0 S h' (core c ++ (cel 77 p2 (enc pv) :: cel 75 b (enc bv) :: cel 24 d (enc dv) :: L)) → (t = true → c.x.step = 3 ∧ c.x.valid.round < c.rd ∧ ∃ qs, mfind c.pl c.rd = some (pv, qs) ∧ firstB c c.rd (digB pv.Block qs) = true) → (t = false → Stp c) → round_Core_moves.j6 (round_Core_moves.j2 k) k (some c.p) c.rd p2 t h' := by
    intro t h' hs' ht hf
    unfold round_Core_moves.j6
    refine ifb_i (fun h3 => ?_) (fun h3 => ?_)
    · obtain ⟨a1, a2, qs, a3, a4⟩ := ht h3
      refine hs'.ld_ 8 rfl (nn_i ?_)
      refine hs'.st_ 0 rfl len_round_Core (fun h6 hs7 _ => ?_)
      have hs8 : Sat h0 S h6 (core (valC c pv.Block qs) ++ (cel 77 p2 (enc pv) :: cel 75 b (enc bv) :: cel 24 d (enc dv) :: L)) := hs7
      refine mv_end (c' := valC c pv.Block qs) hs8 ?_
      rw [show (valC c pv.Block qs).x.decided = c.x.decided from rfl, hd]
      exact hk _ _ h6 (MV.val pv qs hNW hNL a1 a3 a2 a4) (fin hs8)
    · exact hk _ _ h' (MV.stop hNW hNL (hf h3)) (fin hs')
  have hun : ∀ p qs, pk = true → mfind c.pl c.rd = some (p, qs) → p = pv ∧ mfind c.pl c.rd = some (pv, qs) := by
    intro p qs hpk hm
    obtain ⟨qs', hm'⟩ := hps hpk
    rw [hm] at hm'
    have := Option.some.inj hm'
    obtain ⟨rfl, rfl⟩ := Prod.mk.inj this
    exact ⟨rfl, hm⟩
  have hno : ∀ p qs, pk = false → mfind c.pl c.rd = some (p, qs) → False := by
    intro p qs hpk hm; rw [hpn hpk] at hm; cases hm
  have j5 : ∀ (t : Bool) h', Sat h0 S h' (core c ++ (cel 77 p2 (enc pv) :: cel 75 b (enc bv) :: cel 24 d (enc dv) :: L)) → (t = true → c.x.step = 2 ∧ firstB c c.rd dz = true ∧ ∀ p qs, mfind c.pl c.rd = some (p, qs) → firstB c c.rd (digB p.Block qs) = false) → (t = false → ∀ (hf3 : c.x.step = 3 → ∀ p qs, mfind c.pl c.rd = some (p, qs) → c.x.valid.round < c.rd → firstB c c.rd (digB p.Block qs) = false), Stp c) → round_Core_moves.j5 (round_Core_moves.j2 k) k (some c.p) c.rd p2 pk t h' := by
    intro t h' hs' ht hf
    unfold round_Core_moves.j5
    refine ifb_i (fun h3 => ?_) (fun h3 => ?_)
    · obtain ⟨a1, a2, a3⟩ := ht h3
      refine none_spec' (fun h6 hx6 => ?_)
      refine votes_spec c 2 _ (by decide) hc (hs'.ext hx6) (fun rr o h7 hs9 => ?_)
      have hp : (votesC c 2 dz rr o).p = c.p := by unfold votesC; split <;> rfl
      rw [← hp]
      refine mv_end (c' := votesC c 2 dz rr o) hs9 ?_
      rw [votesC_dec, hd]
      exact hk _ _ h7 (MV.nil rr o hNW hNL a1 a3 a2) (fin hs9)
    · refine nn_i (hs'.ld_ 0 rfl ?_)
      refine ifb_i (fun h4 => ?_) (fun h4 => ?_)
      · simp only [Bool.and_eq_true, beq_iff_eq] at h4
        obtain ⟨a1, a2⟩ := h4
        obtain ⟨qs, hm⟩ := hps a2
        refine hs'.ld_ 0 rfl ?_
        refine ifb_i (fun h5 => ?_) (fun h5 => ?_)
        · have a3 : c.x.valid.round < c.rd := by simpa using h5
          refine hs'.ld_ 8 rfl ?_
          obtain ⟨b1, b2⟩ := hplan h' hs' qs hm
          refine BDig_spec _ qs (hT.fr hs'.fr hS) b1 (by omega) (fun h6 hx6 => ?_)
          refine first_spec c _ _ hc (hs'.ext hx6) (fun h7 hs8 => ?_)
          refine j6 _ h7 hs8 (fun e => ⟨a1, a3, qs, hm, e⟩) (fun e => hf h3 (fun _ p qs' hm' _ => ?_))
          rw [hm] at hm'
          obtain ⟨rfl, rfl⟩ := Prod.mk.inj (Option.some.inj hm')
          exact e
        · have a3 : ¬ c.x.valid.round < c.rd := by simpa using h5
          exact j6 false h' hs' (fun e => by cases e) (fun _ => hf h3 (fun _ p qs' hm' hlt => absurd hlt a3))
      · refine j6 false h' hs' (fun e => by cases e) (fun _ => hf h3 (fun hst p qs' hm' hlt => ?_))
        exfalso
        have hpk : pk = false := by
          cases hpk : pk with
          | false => rfl
          | true => rw [hst, hpk] at h4; simp at h4
        exact hno _ _ hpk hm'
  have j4 : ∀ (t : Bool) h', Sat h0 S h' (core c ++ (cel 77 p2 (enc pv) :: cel 75 b (enc bv) :: cel 24 d (enc dv) :: L)) → (t = true → c.x.step = 2 ∧ ∃ qs, mfind c.pl c.rd = some (pv, qs) ∧ firstB c c.rd (digB pv.Block qs) = true) →
      (t = false → c.x.step = 2 → ∀ p qs, mfind c.pl c.rd = some (p, qs) → firstB c c.rd (digB p.Block qs) = false) → (∀ (hf2 : c.x.step = 2 → (∀ p qs, mfind c.pl c.rd = some (p, qs) → firstB c c.rd (digB p.Block qs) = false) ∧ firstB c c.rd dz = false) (hf3 : c.x.step = 3 → ∀ p qs, mfind c.pl c.rd = some (p, qs) → c.x.valid.round < c.rd → firstB c c.rd (digB p.Block qs) = false), Stp c) → round_Core_moves.j4 (round_Core_moves.j2 k) k (some c.p) c.rd p2 pk t h' := by
    intro t h' hs' ht hf hst
    unfold round_Core_moves.j4
    refine ifb_i (fun h3 => ?_) (fun h3 => ?_)
    · obtain ⟨a1, qs, a3, a4⟩ := ht h3
      refine hs'.ld_ 8 rfl (hs'.ld_ 8 rfl (nn_i ?_))
      refine hs'.st_ 0 rfl len_round_Core (fun h6 hs7 _ => ?_)
      refine hs7.chk_ 8 rfl rfl ?_
      refine hs7.st_ 0 rfl len_round_Core (fun h8 hs8 _ => ?_)
      have hs9 : Sat h0 S h8 (core (lockC c pv.Block qs) ++ (cel 77 p2 (enc pv) :: cel 75 b (enc bv) :: cel 24 d (enc dv) :: L)) := hs8
      refine hs9.ld_ 8 rfl ?_
      obtain ⟨b1, b2⟩ := hplan h' hs' qs a3
      have hcv := hc.pc _ (mfind_mem a3)
      have hc2 : Cok (lockC c pv.Block qs) := { hc with lk := hcv, vl := hcv }
      refine BDig_spec _ qs (hT.fr hs9.fr hS) (hcv.svz (hs9.at_ (i := 6) rfl)) (by omega) (fun h10 hx10 => ?_)
      refine votes_spec (lockC c pv.Block qs) 2 _ (by decide) hc2 (hs9.ext hx10) (fun rr o h11 hs11 => ?_)
      have hp : (votesC (lockC c pv.Block qs) 2 (digB pv.Block qs) rr o).p = c.p := by unfold votesC; split <;> rfl
      rw [← hp]
      refine mv_end (c' := votesC (lockC c pv.Block qs) 2 (digB pv.Block qs) rr o) hs11 ?_
      rw [votesC_dec, show (lockC c pv.Block qs).x.decided = c.x.decided from rfl, hd]
      exact hk _ _ h11 (MV.lock pv qs rr o hNW hNL a1 a3 a4) (fin hs11)
    · refine nn_i (hs'.ld_ 0 rfl ?_)
      refine ifb_i (fun h4 => ?_) (fun h4 => ?_)
      · have a1 : c.x.step = 2 := by simpa using h4
        refine none_spec' (fun h6 hx6 => ?_)
        refine first_spec c _ _ hc (hs'.ext hx6) (fun h7 hs8 => ?_)
        exact j5 _ h7 hs8 (fun e => ⟨a1, e, hf h3 a1⟩) (fun e hf3 => hst (fun _ => ⟨hf h3 a1, e⟩) hf3)
      · have a1 : ¬ c.x.step = 2 := by simpa using h4
        exact j5 false h' hs' (fun e => by cases e) (fun _ hf3 => hst (fun e => absurd e a1) hf3)
  have j3 : ∀ (t : Bool) h', Sat h0 S h' (core c ++ (cel 77 p2 (enc pv) :: cel 75 b (enc bv) :: cel 24 d (enc dv) :: L)) → (t = true → c.x.step = 0 ∧ (c.pl ≠ [] ∨ ∃ q ∈ c.vts, 0 ≤ q.1.round)) → (t = false → c.x.step = 0 → c.pl = [] ∧ ∀ q ∈ c.vts, ¬ 0 ≤ q.1.round) → round_Core_moves.j3 (round_Core_moves.j2 k) k (some c.p) c.rd p2 pk t h' := by
    intro t h' hs' ht hf
    unfold round_Core_moves.j3
    refine ifb_i (fun h3 => ?_) (fun h3 => ?_)
    · obtain ⟨a1, a2⟩ := ht h3
      refine enter_spec c 0 (by decide) hc hs' (fun rr o h7 hs9 => ?_)
      have hp : (enterC c 0 rr o).p = c.p := by unfold enterC; split <;> rfl
      rw [← hp]
      refine mv_end hs9 ?_
      rw [enterC_dec, hd]
      exact hk _ _ h7 (MV.start rr o hNW hNL a1 a2) (fin hs9)
    · refine nn_i (hs'.ld_ 0 rfl ?_)
      refine ifb_i (fun h4 => ?_) (fun h4 => ?_)
      · simp only [Bool.and_eq_true, beq_iff_eq] at h4
        obtain ⟨a1, a2⟩ := h4
        obtain ⟨qs, hm⟩ := hps a2
        obtain ⟨b1, b2⟩ := hplan h' hs' qs hm
        refine hs'.ld_ 8 rfl ?_
        refine plan_spec c pv qs hT hS hc hs' b1 b2 (fun h7 hs8 => ?_)
        refine hs8.box_ (fun d4 h8 hs9 _ _ => ?_)
        refine hs9.st_ 0 rfl arr_len (fun h9 hs10 _ => ?_)
        have hs11 : Sat h0 S h9 (core c ++ (cel 24 d4 (enc (planF c pv qs).a) :: cel 77 p2 (enc pv) :: cel 75 b (enc bv) :: cel 24 d (enc dv) :: L)) := hs10.sel 12 [1, 2, 3, 4, 5, 6, 7, 8, 0, 9, 10, 11] (by decide) (by decide)
        have fin4 : ∀ {c' : CS} {h' : H}, Sat h0 S h' (core c' ++ (cel 24 d4 (enc (planF c pv qs).a) :: cel 77 p2 (enc pv) :: cel 75 b (enc bv) :: cel 24 d (enc dv) :: L)) → Sat h0 S h' (core c' ++ L) := fun hs => by
          have := hs.sel 12 [0, 1, 2, 3, 4, 5, 6, 7] (by decide) (by decide)
          exact this
        refine ifb_i (fun h5 => ?_) (fun h5 => ?_)
        · exact hk _ _ h9 (MV.wait pv qs hNW hNL a1 hm (by simpa using h5)) (fin4 hs11)
        · refine hs11.ld_ 8 rfl ?_
          refine votes_spec c 1 _ (by decide) hc hs11 (fun rr o h12 hs12 => ?_)
          have hp : (votesC c 1 (planF c pv qs).a rr o).p = c.p := by unfold votesC; split <;> rfl
          rw [← hp]
          refine mv_end (c' := votesC c 1 (planF c pv qs).a rr o) hs12 ?_
          rw [votesC_dec, hd]
          exact hk _ _ h12 (MV.first pv qs rr o hNW hNL a1 hm (by simpa using h5)) (fin4 hs12)
      · have hf1 : c.x.step = 1 → mfind c.pl c.rd = none := by
          intro hst
          cases hpk : pk with
          | false => exact hpn hpk
          | true => rw [hst, hpk] at h4; simp at h4
        refine hs'.ld_ 0 rfl ?_
        refine ifb_i (fun h5 => ?_) (fun h5 => ?_)
        · simp only [Bool.and_eq_true, beq_iff_eq] at h5
          obtain ⟨a1, a2⟩ := h5
          obtain ⟨qs, hm⟩ := hps a2
          obtain ⟨b1, b2⟩ := hplan h' hs' qs hm
          refine hs'.ld_ 8 rfl ?_
          refine BDig_spec _ qs (hT.fr hs'.fr hS) b1 (by omega) (fun h6 hx6 => ?_)
          refine first_spec c _ _ hc (hs'.ext hx6) (fun h7 hs8 => ?_)
          refine j4 _ h7 hs8 (fun e => ⟨a1, qs, hm, e⟩) (fun e _ p qs' hm' => ?_) (fun hf2 hf3 => ⟨hf h3, hf1, hf2, hf3⟩)
          rw [hm] at hm'
          obtain ⟨rfl, rfl⟩ := Prod.mk.inj (Option.some.inj hm')
          exact e
        · refine j4 false h' hs' (fun e => by cases e) (fun _ hst p qs' hm' => ?_) (fun hf2 hf3 => ⟨hf h3, hf1, hf2, hf3⟩)
          exfalso
          have hpk : pk = false := by
            cases hpk : pk with
            | false => rfl
            | true => rw [hst, hpk] at h5; simp at h5
          exact hno _ _ hpk hm'
  refine hs6.ld_ 0 rfl ?_
  refine ifb_i (fun h3 => ?_) (fun h3 => ?_)
  · have a1 : c.x.step = 0 := by simpa using h3
    refine hs6.ld_ 0 rfl ?_
    rw [hc.hp]
    have hlen : ((rawP c.pl).length : Int) = (c.pl.length : Int) := by simp [rawP]
    refine hs6.mgetE 2 rfl hlen ?_
    refine ifb_i (fun h4 => ?_) (fun h4 => ?_)
    · have a2 : 0 < c.pl.length := by have : (0 : Int) < c.pl.length := by simpa using h4
                                      omega
      exact j3 true h5 hs6 (fun _ => ⟨a1, .inl (by intro e; rw [e] at a2; simp at a2)⟩) (fun e => by cases e)
    · have a2 : c.pl = [] := List.eq_nil_of_length_eq_zero (by have : ¬ (0 : Int) < c.pl.length := by simpa using h4
                                                               omega)
      refine hs6.ld_ 0 rfl ?_
      rw [hc.hq]
      refine vote_Box_Voters.ok _ _ _ _ (Voters_spec c.q c.vm c.vts 0 (hs6.at_ (i := 1) rfl) (fun vs h7 hx7 hnd hvs => ?_))
      refine j3 _ h7 (hs6.ext hx7) (fun e => ⟨a1, .inr ?_⟩) (fun e _ => ⟨a2, fun q hq hr => ?_⟩)
      · have : 0 < vs.length := by have : (0 : Int) < vs.length := by simpa using e
                                   omega
        cases vs with
        | nil => simp at this
        | cons v vs => obtain ⟨q, hq, hr, _⟩ := (hvs v).1 (by simp); exact ⟨q, hq, hr⟩
      · have : vs.length = 0 := by have : ¬ (0 : Int) < vs.length := by simpa using e
                                   omega
        have hv0 : vs = [] := List.eq_nil_of_length_eq_zero this
        have := (hvs q.1.from_).2 ⟨q, hq, hr, rfl⟩
        rw [hv0] at this; simp at this
  · have a1 : ¬ c.x.step = 0 := by simpa using h3
    exact j3 false h5 hs6 (fun e => by cases e) (fun _ e => absurd e a1)
theorem moves_spec (c : CS) {k : Bool → H → Prop} (hT : Tb h0) (hS : 0 ∉ S) (hc : Cok c) (hd : c.x.decided = false) (hs : Sat h0 S h (core c ++ L)) (hk : ∀ c' b h', MV c c' b → Sat h0 S h' (core c' ++ L) → k b h') :
    call (β := Bool) Prog 91 [reg ((some c.p : Pt) : Pt)] k h := by
  refine round_Core_moves.ok _ _ _ ?_
  unfold round_Core_moves.b
  have hlen := hc.len
  have hv2 : c.vts.length < 2 ^ 20 := Nat.lt_trans hc.nv (by decide)
  refine nn_i (hs.ld_ 0 rfl (hs.ld_ 0 rfl ⟨?_, ?_⟩))
  · have hms : SV 34 h c.x.config.Members c.ms := hs.rdoSV 5 rfl
    refine Quorum_spec _ c.ms.length hms.2.1 (by omega) (fun h1 hx1 => ?_)
    have hs1 := hs.ext hx1
    refine hs1.chk_ 0 rfl rfl ⟨?_, ?_⟩
    · rw [hc.hq]
      refine vote_Box_Winner.ok _ _ _ _ _ (Winner_spec c.q c.vm c.vts 2 _ (hs1.at_ (i := 1) rfl) hv2 (fun cs best at_ found h2 hx2 hC hW => ?_))
      have hs2 := hs1.ext hx2
      refine hs2.box_ (fun d h3 hs3 _ _ => ?_)
      refine hs3.chk_ 1 rfl hc.hq (hs3.chk_ 1 rfl rfl ?_)
      refine hs3.st_ 0 rfl arr_len (fun h4 hs4 _ => ?_)
      exact moves_j1 c hT hS hc hd d best at_ found ⟨cs, hC, hW⟩ hs4 hk
    · refine hs1.box_ (fun d h3 hs3 _ _ => ?_)
      refine hs3.chk_ 1 rfl rfl (hs3.chk_ 1 rfl rfl ?_)
      rw [hc.hq]
      refine vote_Box_Winner.ok _ _ _ _ _ (Winner_spec c.q c.vm c.vts 2 _ (hs3.at_ (i := 2) rfl) hv2 (fun cs best at_ found h2 hx2 hC hW => ?_))
      have hs2 := hs3.ext hx2
      refine hs2.st_ 0 rfl arr_len (fun h4 hs4 _ => ?_)
      exact moves_j1 c hT hS hc hd d best at_ found ⟨cs, hC, hW⟩ hs4 hk
  · refine hs.box_ (fun d h3 hs3 _ _ => ?_)
    refine hs3.chk_ 1 rfl rfl (hs3.chk_ 1 rfl rfl ?_)
    have hms : SV 34 h3 c.x.config.Members c.ms := hs3.rdoSV 6 rfl
    refine Quorum_spec _ c.ms.length hms.2.1 (by omega) (fun h1 hx1 => ?_)
    have hs1 := hs3.ext hx1
    refine hs1.chk_ 1 rfl rfl ?_
    rw [hc.hq]
    refine vote_Box_Winner.ok _ _ _ _ _ (Winner_spec c.q c.vm c.vts 2 _ (hs1.at_ (i := 2) rfl) hv2 (fun cs best at_ found h2 hx2 hC hW => ?_))
    have hs2 := hs1.ext hx2
    refine hs2.st_ 0 rfl arr_len (fun h4 hs4 _ => ?_)
    exact moves_j1 c hT hS hc hd d best at_ found ⟨cs, hC, hW⟩ hs4 hk
end
theorem least {p : Nat → Prop} (h : ∃ n, p n) : ∃ n, p n ∧ ∀ m, p m → n ≤ m := by
  obtain ⟨n, hn⟩ := h
  induction n using Nat.strongRecOn with
  | _ n ih =>
    by_cases hx : ∃ m, m < n ∧ p m
    · obtain ⟨m, hm, hp⟩ := hx; exact ih m hm hp
    · exact ⟨n, hn, fun m hm => by
        by_cases hlt : m < n
        · exact absurd ⟨m, hlt, hm⟩ hx
        · omega⟩
open Classical in
noncomputable def rankOf {σ : Type} (P : Nat → σ → H → Prop) (a : σ) (h : H) : Nat := if hx : ∃ n, P n a h then (least hx).choose else 0
theorem rankOf_le {σ : Type} {P : Nat → σ → H → Prop} {a : σ} {h : H} {n : Nat} (hp : P n a h) : rankOf P a h ≤ n := by
  unfold rankOf
  rw [dif_pos ⟨n, hp⟩]
  exact (least ⟨n, hp⟩).choose_spec.2 n hp
theorem rankOf_is {σ : Type} {P : Nat → σ → H → Prop} {a : σ} {h : H} (hx : ∃ n, P n a h) : P (rankOf P a h) a h := by
  unfold rankOf
  rw [dif_pos hx]
  exact (least hx).choose_spec.1
/-- a loop whose measure is told beside -/
theorem Lp_rank {σ : Type} {body : (σ → H → Prop) → σ → H → Prop} (P : Nat → σ → H → Prop) {n : Nat} {a : σ} {h : H} (h0 : P n a h)
    (step : ∀ n a h (Q : σ → H → Prop), P n a h → (∀ n' a' h', n' < n → P n' a' h' → Q a' h') → body Q a h) : Lp body a h := by
  refine ⟨fun a h => ∃ n, P n a h, rankOf P, ⟨n, h0⟩, fun a h hx => ?_⟩
  refine step _ a h _ (rankOf_is hx) (fun n' a' h' hlt hp => ⟨⟨n', hp⟩, ?_⟩)
  exact Nat.lt_of_le_of_lt (rankOf_le hp) hlt
def mu (c : CS) : Nat := (1024 - c.rd).toNat * 16 + (3 - c.x.step).toNat * 4 + (if c.x.valid.round < c.rd then 1 else 0)
theorem Cok.say {c : CS} (hc : Cok c) (hn : c.acts.length + 1 < 2 ^ 19) (a : api_Act) (qs : List api_Request) (r o : Sl) : Cok (sayC c a qs r o) :=
  { hc with na := (by show (c.acts ++ [_]).length < _; simpa using hn) }
theorem Cok.stp {c : CS} (hc : Cok c) {kind : Int} (hk : 0 ≤ kind ∧ kind ≤ 2) : Cok (stpC c kind) :=
  { hc with st := (by show 0 ≤ kind + 1 ∧ kind + 1 ≤ 3; omega), s0 := (by intro (h : kind + 1 = 0); omega) }
theorem Cok.votes {c : CS} (hc : Cok c) (hn : c.acts.length + 1 < 2 ^ 19) {kind : Int} (hk : 0 ≤ kind ∧ kind ≤ 2) (d : Dig) (r o : Sl) : Cok (votesC c kind d r o) ∧ (votesC c kind d r o).acts.length ≤ c.acts.length + 1 ∧ mu (votesC c kind d r o) = mu (stpC c kind) := by
  unfold votesC
  split
  · exact ⟨(hc.stp hk).say hn _ _ _ _, by simp [sayC, stpC], rfl⟩
  · exact ⟨hc.stp hk, Nat.le_succ _, rfl⟩
theorem Cok.rdc {c : CS} (hc : Cok c) {rd : Int} (hrd : 0 ≤ rd ∧ rd ≤ 1024) : Cok (rdC c rd) :=
  { hc with at_ := rfl, plc := ⟨hc.plc.1, hrd⟩, st := (by decide : (0 : Int) ≤ 1 ∧ (1 : Int) ≤ 3), s0 := (by intro (h : (1 : Int) = 0); omega) }
theorem Cok.enter {c : CS} (hc : Cok c) (hn : c.acts.length + 1 < 2 ^ 19) {rd : Int} (hrd : 0 ≤ rd ∧ rd ≤ 1024) (r o : Sl) : Cok (enterC c rd r o) ∧ (enterC c rd r o).acts.length ≤ c.acts.length + 1 ∧ mu (enterC c rd r o) = mu (rdC c rd) := by
  unfold enterC
  split
  · exact ⟨(hc.rdc hrd).say hn _ _ _ _, by simp [sayC, rdC], rfl⟩
  · exact ⟨hc.rdc hrd, Nat.le_succ _, rfl⟩
theorem mu_stp (c : CS) (hc : Cok c) (kind : Int) (h : c.x.step = kind) (hk : 0 ≤ kind ∧ kind ≤ 2) : mu (stpC c kind) < mu c := by
  unfold mu stpC
  simp only [h]
  have : (3 - (kind + 1)).toNat + 1 = (3 - kind).toNat := by omega
  omega
theorem mu_rd (c : CS) (hc : Cok c) (rd : Int) (hrd : 0 ≤ rd ∧ rd ≤ 1024) (h : c.rd < rd ∨ (c.x.step = 0 ∧ c.rd ≤ rd)) : mu (rdC c rd) < mu c := by
  unfold mu rdC
  simp only
  have h2 := hc.plc.2
  have h3 := hc.st
  have e1 : (3 - (1 : Int)).toNat = 2 := by decide
  rw [e1]
  rcases h with h | ⟨h4, h5⟩
  · have : (1024 - rd).toNat + 1 ≤ (1024 - c.rd).toNat := by omega
    split <;> split <;> omega
  · rw [h4]
    have e2 : (3 - (0 : Int)).toNat = 3 := by decide
    rw [e2]
    have : (1024 - rd).toNat ≤ (1024 - c.rd).toNat := by omega
    split <;> split <;> omega
theorem later_gt {c : CS} {ks : List (Int × Int)} (h : 0 ≤ laterV c ks) : nowL c < laterV c ks := by
  unfold laterV at h ⊢
  split at h
  · rename_i hc; rw [if_pos hc]; exact hc
  · omega
theorem MV.ok {c c' : CS} {b : Bool} (hm : MV c c' b) (hc : Cok c) (hd : c.x.decided = false) (hn : c.acts.length + 1 < 2 ^ 19) : Cok c' ∧ c'.acts.length ≤ c.acts.length + 1 ∧ (b = true → mu c' < mu c ∧ c'.x.decided = false) := by
  cases hm with
  | dec d r bb qs rr o hw hf =>
    have h1 : Cok (decC c) := { hc with }
    exact ⟨h1.say hn _ _ _ _, by simp [sayC, decC], by simp⟩
  | next ks rr o h1 h2 h3 =>
    have hle := later_le hc h2
    obtain ⟨a1, a2, a3⟩ := hc.enter hn ⟨h3, hle⟩ rr o
    refine ⟨a1, a2, fun _ => ⟨?_, by rw [enterC_dec]; exact hd⟩⟩
    rw [a3]
    refine mu_rd c hc _ ⟨h3, hle⟩ ?_
    have hgt := later_gt h3
    unfold nowL at hgt
    split at hgt
    · rename_i hs
      have hs' : c.x.step = 0 := by simpa using hs
      exact .inr ⟨hs', by rw [hc.s0 hs']; exact h3⟩
    · exact .inl hgt
  | start rr o h1 h2 h3 h4 =>
    obtain ⟨a1, a2, a3⟩ := hc.enter hn (show (0 : Int) ≤ 0 ∧ (0 : Int) ≤ 1024 by decide) rr o
    refine ⟨a1, a2, fun _ => ⟨?_, by rw [enterC_dec]; exact hd⟩⟩
    rw [a3]
    exact mu_rd c hc 0 (by decide) (.inr ⟨h3, by rw [hc.s0 h3]; decide⟩)
  | wait p qs _ _ _ _ _ => exact ⟨hc, Nat.le_succ _, by simp⟩
  | first p qs rr o h1 h2 h3 h4 h5 =>
    obtain ⟨a1, a2, a3⟩ := hc.votes hn (show (0 : Int) ≤ 1 ∧ (1 : Int) ≤ 2 by decide) (planF c p qs).a rr o
    refine ⟨a1, a2, fun _ => ⟨?_, by rw [votesC_dec]; exact hd⟩⟩
    rw [a3]; exact mu_stp c hc 1 h3 (by decide)
  | lock p qs rr o h1 h2 h3 h4 h5 =>
    have hcv := hc.pc _ (mfind_mem h4)
    have hc2 : Cok (lockC c p.Block qs) := { hc with lk := hcv, vl := hcv }
    obtain ⟨a1, a2, a3⟩ := hc2.votes hn (show (0 : Int) ≤ 2 ∧ (2 : Int) ≤ 2 by decide) (digB p.Block qs) rr o
    refine ⟨a1, a2, fun _ => ⟨?_, by rw [votesC_dec]; exact hd⟩⟩
    rw [a3]
    have := mu_stp (lockC c p.Block qs) hc2 2 h3 (by decide)
    refine Nat.lt_of_lt_of_le this ?_
    unfold mu lockC
    simp only [Int.lt_irrefl, if_false]
    omega
  | nil rr o h1 h2 h3 h4 h5 =>
    obtain ⟨a1, a2, a3⟩ := hc.votes hn (show (0 : Int) ≤ 2 ∧ (2 : Int) ≤ 2 by decide) dz rr o
    refine ⟨a1, a2, fun _ => ⟨?_, by rw [votesC_dec]; exact hd⟩⟩
    rw [a3]; exact mu_stp c hc 2 h3 (by decide)
  | val p qs h1 h2 h3 h4 h5 h6 =>
    have hcv := hc.pc _ (mfind_mem h4)
    refine ⟨{ hc with vl := hcv }, Nat.le_succ _, fun _ => ⟨?_, hd⟩⟩
    unfold mu valC
    simp only [Int.lt_irrefl, if_false, if_pos h5]
    omega
  | stop _ _ _ => exact ⟨hc, Nat.le_succ _, by simp⟩
/-- moves till there is none -/
inductive Mvs : CS → CS → Prop
  | last {c c' : CS} : MV c c' false → Mvs c c'
  | more {c c1 c' : CS} : MV c c1 true → Mvs c1 c' → Mvs c c'
theorem Mvs.ok {c c' : CS} (hm : Mvs c c') (hc : Cok c) (hd : c.x.decided = false) (hn : c.acts.length + mu c + 2 < 2 ^ 19) : Cok c' := by
  induction hm with
  | last h => exact (h.ok hc hd (by omega)).1
  | more h _ ih =>
    obtain ⟨a1, a2, a3⟩ := h.ok hc hd (by omega)
    obtain ⟨a4, a5⟩ := a3 rfl
    exact ih a1 a5 (by omega)
/-- a core whose acts were handed out -/
def clrC (c : CS) : CS := { c with x := { c.x with out := Sl.nil, fresh := false }, acts := [], KA := [] }
/-- acts that were handed out -/
abbrev hand (c : CS) : List En := [own 80 135 c.x.out (c.acts.map (·.1)), kE c.KA]
theorem Cok.clr {c : CS} (hc : Cok c) : Cok (clrC c) := { hc with na := (by show ([] : List (api_Act × List api_Request)).length < _; decide) }
section
variable {h0 h : H} {S : List Nat} {L : List En}
theorem acts_spec (c : CS) {k : Sl → H → Prop} (hT : Tb h0) (hS : 0 ∉ S) (hc : Cok c) (hd : c.x.decided = false) (hn : c.acts.length + mu c + 2 < 2 ^ 19) (hs : Sat h0 S h (core c ++ L))
    (hk : ∀ c' h', Mvs c c' → Sat h0 S h' (core (clrC c') ++ (hand c' ++ L)) → k c'.x.out h') : call (β := Sl) Prog 58 [reg ((some c.p : Pt) : Pt)] k h := by
  refine round_Core_acts.ok _ _ _ ?_
  unfold round_Core_acts.b round_Core_acts.l1
  have j1 : ∀ c' h', c'.p = c.p → Mvs c c' → Sat h0 S h' (core c' ++ L) → round_Core_acts.j1 k (some c.p) h' := by
    intro c' h' hp hm hs'
    unfold round_Core_acts.j1
    rw [← hp]
    refine nn_i (hs'.ld_ 0 rfl ?_)
    refine hs'.st_ 0 rfl len_round_Core (fun h1 hs1 _ => ?_)
    refine hs1.st_ 0 rfl len_round_Core (fun h2 hs2 _ => ?_)
    have hs3 := (hs2.nilOwn (T := 80) (n := 135) (α := api_Act)).add0 (e := kE []) (by intro q hq; cases hq) (kE_loc _) rfl
    refine hk c' h2 hm ?_
    have := hs3.sel 10 [2, 3, 4, 5, 1, 7, 8, 0, 6, 9] (by decide) (by decide)
    exact this
  refine Lp_rank (fun n (_ : Unit) h' => ∃ c1, c1.p = c.p ∧ (∀ c', Mvs c1 c' → Mvs c c') ∧ Cok c1 ∧ c1.x.decided = false ∧ c1.acts.length + mu c1 + 2 < 2 ^ 19 ∧ Sat h0 S h' (core c1 ++ L) ∧ mu c1 = n)
    ⟨c, rfl, fun _ h => h, hc, hd, hn, hs, rfl⟩ ?_
  rintro n ⟨⟩ h1 Q ⟨c1, hp, hch, hc1, hd1, hn1, hs1, rfl⟩ hQ
  rw [← hp]
  refine nn_i (hs1.ld_ 0 rfl ?_)
  rw [hd1]
  refine ifb_i (fun _ => ?_) (fun e => by cases e)
  refine moves_spec c1 hT hS hc1 hd1 hs1 (fun c2 b h2 hm hs2 => ?_)
  obtain ⟨a1, a2, a3⟩ := hm.ok hc1 hd1 (by omega)
  have hp2 : c2.p = c1.p := by
    cases hm <;> first | rfl | (unfold enterC; split <;> rfl) | (unfold votesC; split <;> rfl)
  unfold round_Core_acts.j2
  refine ifb_i (fun hb => ?_) (fun hb => ?_)
  · subst hb
    obtain ⟨a4, a5⟩ := a3 rfl
    exact hQ _ () h2 a4 ⟨c2, hp2.trans hp, fun c' h => hch c' (.more hm h), a1, a5, by omega, hs2, rfl⟩
  · subst hb
    rw [hp]
    exact j1 c2 h2 (hp2.trans hp) (hch c2 (.last hm)) hs2
end
theorem round_Core_Start.ok (c : Pt) (k : Sl → H → Prop) (h : H) (hh : round_Core_Start.b c k h) : CallsH Prog 32 [reg c].toArray h fun v h' => ∃ r : Sl, v = reg r ∧ k r h' := by
 unfold round_Core_Start.b at hh
 refine CallsH.of 20 Tryd.func32 rfl Tryd.ntmps32 rfl (fun w0 => ?_)
 refine .sr (.A (reg (Sl.nil : Sl)) (.nx (.seq ?_)))
 refine CW.join (fun ρ h => ∃ (ρ' : Env) (t10 : Bool), ρ = setl ρ' [(0, reg c), (10, reg t10)] ∧ (round_Core_Start.j1 k) c t10 h) ?_ ?_
 ·refine CW.region ?_
  refine .M (reg c) (.V (v_eq_nil pt_62 rfl rfl) (.M (reg (c.isNone : Bool)) ?_))
  refine ifb_cases hh (fun hb hh => ?_) (fun hb hh => ?_)
  ·refine .no 5 rfl (cb hb) rfl rfl (.no 5 rfl (cb hb) rfl rfl (.no 5 rfl (cb hb) rfl rfl (.no 5 rfl (cb hb) rfl rfl (.V (v_pickT (v := reg true) rfl hb rfl) ?_))))
   refine .nil ?_
   exact QN.thenJ ⟨_, true, setl_eq ⟨rfl, ⟨rfl, trivial⟩⟩, hh⟩
  ·refine .yv 5 rfl (cb hb) rfl (v_move (v := reg (c : Pt)) rfl) rfl ?_
   obtain ⟨p, hp, hh⟩ := hh
   refine .yv 5 rfl (cb hb) rfl (v_nilCheck (congrArg Value.pointer hp)) rfl (.yv 5 rfl (cb hb) rfl (v_fieldAddr fl_140_12 rfl) rfl ?_)
   obtain ⟨t9, ⟨xt9, hxt9, hgt9⟩, hh⟩ := hh
   refine .yv 5 rfl (cb hb) rfl (v_ld1 (p := p) 211 na_4 rfl hxt9 hgt9 get_140_decided) rfl (.V (v_pickF (v := reg t9) rfl hb rfl) ?_)
   refine .nil ?_
   exact QN.thenJ ⟨_, t9, setl_eq ⟨rfl, ⟨rfl, trivial⟩⟩, hh⟩
 ·rintro ρ h ⟨ρ', t10, rfl, hh⟩
  unfold round_Core_Start.j1 at hh
  refine CW.cond t10 rfl (fun hb_1 => ?_) (fun hb_1 => ?_)
  ·have hh := hh.1 hb_1
   refine .sr (.A (reg (Sl.nil : Sl)) (.nx ?_))
   refine CW.ret ?_
   refine QN.thenRet ?_
   exact ret1 rfl rfl ⟨(Sl.nil : Sl), rfl, hh⟩
  ·have hh := hh.2 hb_1
   refine CW.skip ?_
   refine QN.then_ ?_
   refine CW.join (fun ρ h => ∃ (ρ' : Env), ρ = setl ρ' [(0, reg c)] ∧ (round_Core_Start.j2 k) c h) ?_ ?_
   ·refine .sr (.M (reg c) ?_)
    obtain ⟨p_1, hp_1, hh⟩ := hh
    refine .V (v_nilCheck (congrArg Value.pointer hp_1)) (.V (v_fieldAddr fl_140_4 rfl) (.L 5 na_3 get_140_step hh rfl (fun t14 hh => .V (v_ieql rfl rfl) (.nx ?_))))
    refine CW.cond (t14 == (0 : Int)) rfl (fun hb_2 => ?_) (fun hb_2 => ?_)
    ·have hh := hh.1 hb_2
     refine CW.region ?_
     refine .M (reg c) ?_
     refine .e (e_callP fn_57 rfl rfl hh ?_)
     intro h t17 hh
     refine .nil ?_
     exact QN.thenJ ⟨_, setl_eq ⟨rfl, trivial⟩, hh⟩
    ·have hh := hh.2 hb_2
     refine CW.skip ?_
     exact QN.thenJ ⟨_, setl_eq ⟨rfl, trivial⟩, hh⟩
   ·rintro ρ h ⟨ρ', rfl, hh⟩
    unfold round_Core_Start.j2 at hh
    refine .sr (.M (reg c) ?_)
    refine .e (e_callP fn_58 rfl rfl hh ?_)
    intro h t19 hh
    refine .A (reg t19) (.nx ?_)
    refine CW.ret ?_
    exact ret1 rfl rfl ⟨(t19 : Sl), rfl, hh⟩
end Go.Proofs.YtimmoekliphobaaDoor

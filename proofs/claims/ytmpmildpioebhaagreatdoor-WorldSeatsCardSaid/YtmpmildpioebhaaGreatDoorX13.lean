/-
  The statement WorldSeats (law 23): a seat whose power goes off is gone, and comes back with nothing lost. Part 13 of 27. No condition stands ahead of the statement. Parts of this text were printed by a program of ours.
-/
import Derived.Test.YtmpmildpioebhaaGreatDoorX10
import Derived.Laws.BytesString
set_option linter.all false
set_option maxRecDepth 100000
set_option maxHeartbeats 4000000
noncomputable section
namespace Go.Proofs.YtmpmildpioebhaaGreatDoor
open Go Go.Sh
open Go.Sh.Ty (reg)
theorem qai.ok (pieces:Sl) (k:(Arr 32 UInt8)→H→Prop) (h:H) (hh:qai.b pieces k h):CallsH Prog 76 [reg pieces].toArray h fun v h'=>∃ r:Arr 32 UInt8,v = reg r∧k r h':=by
 unfold qai.b at hh
 refine CallsH.of 86 Tryz.func76 rfl Tryz.ntmps76 rfl (fun w0=>?_)
 refine .sr ?_
 refine qy hh (fun t2 ht2 hh=>?_)
 refine .e (qaq ht2 qdd rfl ?_)
 refine .nx (.sr (.V (v_buildAT (arrOf [(1779033703:UInt32),(3144134277:UInt32),(1013904242:UInt32),(2773480762:UInt32),(1359893119:UInt32),(2600822924:UInt32),(528734635:UInt32),(1541459225:UInt32)]:Arr 8 UInt32) zo_251 ar_251 rfl rfl rfl) ?_))
 refine qy hh (fun hv hhv hh=>?_)
 refine .e (qaq hhv zo_251 rfl ?_)
 refine .S ((arrOf [(1779033703:UInt32),(3144134277:UInt32),(1013904242:UInt32),(2773480762:UInt32),(1359893119:UInt32),(2600822924:UInt32),(528734635:UInt32),(1541459225:UInt32)]:Arr 8 UInt32):Arr 8 UInt32) 0 sz_251 (qb5 (n:=8) (fun _=>rfl) _) (fun _=>qr (n:=8) _) (qr (n:=8) _) (fun x=>set_251_all x ((arrOf [(1779033703:UInt32),(3144134277:UInt32),(1013904242:UInt32),(2773480762:UInt32),(1359893119:UInt32),(2600822924:UInt32),(528734635:UInt32),(1541459225:UInt32)]:Arr 8 UInt32):Arr 8 UInt32)) hh rfl rfl (fun _ hh=>.nx (.sr ?_))
 refine qy hh (fun buf hbuf hh=>?_)
 refine .e (qaq hbuf zo_252 rfl ?_)
 refine .nx (.sr (.A (reg ((0:Int):Int)) (.A (reg ((0:Int):Int)) (.nx ?_))))
 refine CW.join (fun ρ h=>∃ (ρ':Env) (n_3:Int) (at__3:Int),ρ = setl ρ' [(2,.pointer (some t2)),(3,.pointer (some hv)),(4,.pointer (some buf)),(5,reg n_3),(6,reg at__3)]∧(qai.j1 k) t2 hv buf n_3 at__3 h) ?_ ?_
 ·refine .sr (.M (reg pieces) (.V (qag (sl_220).1 rfl) (.M (reg ((0:Int):Int)) (.nx ?_))))
  refine CW.block ?_
  unfold qai.l1 at hh
  refine CW.loop (fun (σ0:Int×Int×Int) ρ=>match σ0 with | (n,at_,t16)=>∃ ρ':Env,ρ = setl ρ' [(2,.pointer (some t2)),(3,.pointer (some hv)),(4,.pointer (some buf)),(14,reg pieces),(15,reg ((pieces.len:Int):Int)),(5,reg n),(6,reg at_),(16,reg t16)]) hh ⟨_,qn ⟨rfl,⟨rfl,⟨rfl,⟨rfl,⟨rfl,⟨rfl,⟨rfl,⟨rfl,trivial⟩⟩⟩⟩⟩⟩⟩⟩⟩ ?_
  clear hh
  rintro s1 ⟨n,at_,t16⟩ ρ h ⟨ρ',rfl⟩ hh
  refine .sr (.V (qax rfl rfl) (.nx (.seq ?_)))
  refine CW.cond (decide (t16 < (pieces.len:Int))) rfl (fun hb=>?_) (fun hb=>?_)
  ·have hh:=hh.1 hb
   refine CW.skip ?_
   refine QN.then_ ?_
   refine CW.join (fun ρ h=>∃ (ρ':Env) (n_2:Int) (at__2:Int),ρ = setl ρ' [(2,.pointer (some t2)),(3,.pointer (some hv)),(4,.pointer (some buf)),(5,reg n_2),(6,reg at__2),(14,reg pieces),(15,reg ((pieces.len:Int):Int)),(16,reg t16)]∧(qai.j2 s1) t2 hv buf n_2 at__2 pieces (pieces.len:Int) t16 h) ?_ ?_
   ·refine CW.block ?_
    refine .sr ?_
    obtain ⟨t18,ht18,hh⟩:=hh
    refine .V (qaz sl_220 rfl rfl ht18.1 ht18.2.1 ht18.2.2) (.L 0 na_173 get_173_all hh rfl (fun t19 hh=>.A (reg t19) (.nx (.sr (.M (reg n) (.M (reg t19) (.V (qag (qbc).1 rfl) (.V (qbp rfl rfl) (.A (reg ((iadd n (t19.len:Int)):Int)) (.nx ?_))))))))))
    refine CW.block ?_
    unfold qai.l2 at hh
    refine CW.loop (fun (σ0:Int×Sl) ρ=>match σ0 with | (at__1,p)=>∃ ρ':Env,ρ = setl ρ' [(2,.pointer (some t2)),(3,.pointer (some hv)),(4,.pointer (some buf)),(5,reg ((iadd n (t19.len:Int)):Int)),(14,reg pieces),(15,reg ((pieces.len:Int):Int)),(16,reg t16),(6,reg at__1),(8,reg p)]) hh ⟨_,qn ⟨rfl,⟨rfl,⟨rfl,⟨rfl,⟨rfl,⟨rfl,⟨rfl,⟨rfl,⟨rfl,trivial⟩⟩⟩⟩⟩⟩⟩⟩⟩⟩ ?_
    clear hh
    rintro s2 ⟨at__1,p⟩ ρ h ⟨ρ',rfl⟩ hh
    refine CW.seq ?_
    refine .sr (.M (reg p) (.V (qag (qbc).1 rfl) (.V (qd6 rfl rfl) (.nx ?_))))
    refine CW.cond (decide ((0:Int) < (p.len:Int))) rfl (fun hb_1=>?_) (fun hb_1=>?_)
    ·have hh:=hh.1 hb_1
     refine CW.skip ?_
     refine QN.then_ ?_
     refine CW.block ?_
     refine .sr (.M (reg at__1) ?_)
     obtain ⟨hm,hh⟩:=hh
     refine .V (v_slice_al ar_252 rfl rfl hm.1 hm.2) (.M (reg p) ?_)
     refine .e (e_cpy qbc rfl rfl rfl hh ?_)
     intro h t30 hh
     refine .A (reg t30) (.nx (.seq ?_))
     refine CW.drawN 8 rfl ym [0,1,2,3,4,5,6,7] ?_
     refine .P 0 rfl (qu (v:=reg at__1) rfl) (.P 1 rfl (qu (v:=reg t30) rfl) (.P 2 rfl (qbp rfl rfl) (.P 3 rfl (qu (v:=reg p) rfl) (.P 4 rfl (qu (v:=reg t30) rfl) ?_))))
     obtain ⟨hm_1,hh⟩:=hh
     refine .P 5 rfl (v_slice_ll qbc rfl rfl hm_1.1 hm_1.2) (.P 6 rfl (qad (v:=reg ((iadd at__1 t30):Int)) rfl) (.P 7 rfl (qad (v:=reg ((p.cut 1 t30.toNat p.len p.cap):Sl)) rfl) ?_))
     refine .done (by kernel_rfl) ?_
     refine QN.then_ ?_
     refine .sr (.M (reg ((iadd at__1 t30):Int)) (.V (qeh rfl rfl) (.nx ?_)))
     refine CW.cond ((iadd at__1 t30) == (64:Int)) rfl (fun hb_2=>?_) (fun hb_2=>?_)
     ·have hh:=hh.1 hb_2
      refine .sr (.V (qds ar_252 rfl) ?_)
      refine .e (qw fn_114 rfl rfl hh ?_)
      intro h t40 hh
      refine .nx ?_
      refine CW.region ?_
      refine .A (reg ((0:Int):Int)) ?_
      refine .nil ?_
      refine QN.blockN ?_
      exact QN.thenJ ⟨((0:Int),(p.cut 1 t30.toNat p.len p.cap)),⟨_,qn ⟨rfl,⟨rfl,⟨rfl,⟨rfl,⟨rfl,⟨rfl,⟨rfl,⟨rfl,⟨rfl,trivial⟩⟩⟩⟩⟩⟩⟩⟩⟩⟩,hh⟩
     ·have hh:=hh.2 hb_2
      refine CW.skip ?_
      refine QN.blockN ?_
      exact QN.thenJ ⟨((iadd at__1 t30),(p.cut 1 t30.toNat p.len p.cap)),⟨_,qn ⟨rfl,⟨rfl,⟨rfl,⟨rfl,⟨rfl,⟨rfl,⟨rfl,⟨rfl,⟨rfl,trivial⟩⟩⟩⟩⟩⟩⟩⟩⟩⟩,hh⟩
    ·have hh:=hh.2 hb_1
     refine CW.exit ?_
     refine QN.thenExit ?_
     refine QN.thenExit ?_
     refine QN.blockExit ?_
     refine QN.blockN ?_
     exact QN.thenJ ⟨_,(iadd n (t19.len:Int)),at__1,qn ⟨rfl,⟨rfl,⟨rfl,⟨rfl,⟨rfl,⟨rfl,⟨rfl,⟨rfl,trivial⟩⟩⟩⟩⟩⟩⟩⟩,hh⟩
   ·rintro ρ h ⟨ρ',n_2,at__2,rfl,hh⟩
    unfold qai.j2 at hh
    refine CW.region ?_
    refine .V (qbp rfl rfl) (.M (reg ((iadd t16 (1:Int)):Int)) ?_)
    refine .nil ?_
    exact QN.thenJ ⟨(n_2,at__2,(iadd t16 (1:Int))),⟨_,qn ⟨rfl,⟨rfl,⟨rfl,⟨rfl,⟨rfl,⟨rfl,⟨rfl,⟨rfl,trivial⟩⟩⟩⟩⟩⟩⟩⟩⟩,hh⟩
  ·have hh:=hh.2 hb
   refine CW.exit ?_
   refine QN.thenExit ?_
   refine QN.thenExit ?_
   refine QN.blockExit ?_
   exact QN.thenJ ⟨_,n,at_,qn ⟨rfl,⟨rfl,⟨rfl,⟨rfl,⟨rfl,trivial⟩⟩⟩⟩⟩,hh⟩
 ·rintro ρ h ⟨ρ',n_3,at__3,rfl,hh⟩
  unfold qai.j1 at hh
  refine .sr (.M (reg at__3) ?_)
  obtain ⟨i43,hi43,hh⟩:=hh
  refine .V (qay ar_252 rfl rfl hi43) ?_
  obtain ⟨xw_1,hxw_1,hwxw_1,hh⟩:=hh
  refine .e (e_store (p:=buf) (nv:=enc ((128:UInt8):UInt8)) i43.val rfl rfl rfl sz_5 rfl hxw_1 hwxw_1 (arr_ble i43 xw_1 _ rfl) (arr_set i43 xw_1 ((128:UInt8):UInt8) rfl) ?_)
  refine .nx (.sr (.M (reg at__3) (.V (qbp rfl rfl) ?_)))
  obtain ⟨hm_3,hh⟩:=hh
  refine .V (v_slice_al ar_252 rfl rfl hm_3.1 hm_3.2) ?_
  refine .e (e_clr qbc zo_5 rfl rfl rfl hh ?_)
  intro h hh
  refine .nx ?_
  refine CW.join (fun ρ h=>∃ (ρ':Env),ρ = setl ρ' [(2,.pointer (some t2)),(3,.pointer (some hv)),(4,.pointer (some buf)),(5,reg n_3)]∧(qai.j3 k) t2 hv buf n_3 h) ?_ ?_
  ·refine .sr (.M (reg at__3) (.V (v_igeq rfl rfl) (.nx ?_)))
   refine CW.cond (decide ((56:Int)≤at__3)) rfl (fun hb_3=>?_) (fun hb_3=>?_)
   ·have hh:=hh.1 hb_3
    refine .sr (.V (qds ar_252 rfl) ?_)
    refine .e (qw fn_114 rfl rfl hh ?_)
    intro h t50 hh
    refine .nx ?_
    refine CW.region ?_
    refine .V (qds ar_252 rfl) ?_
    refine .e (e_clr qbc zo_5 rfl rfl rfl hh ?_)
    intro h hh
    refine .nil ?_
    exact QN.thenJ ⟨_,qn ⟨rfl,⟨rfl,⟨rfl,⟨rfl,trivial⟩⟩⟩⟩,hh⟩
   ·have hh:=hh.2 hb_3
    refine CW.skip ?_
    exact QN.thenJ ⟨_,qn ⟨rfl,⟨rfl,⟨rfl,⟨rfl,trivial⟩⟩⟩⟩,hh⟩
  ·rintro ρ h ⟨ρ',rfl,hh⟩
   unfold qai.j3 at hh
   refine CW.join (fun ρ h=>∃ (ρ':Env),ρ = setl ρ' [(2,.pointer (some t2)),(3,.pointer (some hv)),(4,.pointer (some buf))]∧(qai.j4 k) t2 hv buf h) ?_ ?_
   ·refine .sr (.M (reg ((0:Int):Int)) (.nx ?_))
    refine CW.block ?_
    unfold qai.l3 at hh
    refine CW.loop (fun (σ0:Int) ρ=>match σ0 with | t52=>∃ ρ':Env,ρ = setl ρ' [(2,.pointer (some t2)),(3,.pointer (some hv)),(4,.pointer (some buf)),(5,reg n_3),(52,reg t52)]) hh ⟨_,qn ⟨rfl,⟨rfl,⟨rfl,⟨rfl,⟨rfl,trivial⟩⟩⟩⟩⟩⟩ ?_
    clear hh
    rintro s3 t52 ρ h ⟨ρ',rfl⟩ hh
    refine .sr (.V (qax rfl rfl) (.nx (.seq ?_)))
    refine CW.cond (decide (t52 < (8:Int))) rfl (fun hb_4=>?_) (fun hb_4=>?_)
    ·have hh:=hh.1 hb_4
     refine CW.skip ?_
     refine QN.then_ ?_
     refine CW.seq ?_
     refine CW.block ?_
     refine .sr (.M (reg t52) (.A (reg t52) (.nx ?_)))
     refine CW.region ?_
     refine .M (reg t52) (.V (qbp rfl rfl) (.M (reg n_3) (.V (v_conv_u64 un_3 un_243 rfl) (.V (v_shl64 (a:=(toU64 n_3)) (b:=3) rfl rfl (by decide)) (.M (reg t52) (.V (v_imul rfl rfl) (.V (v_isub rfl rfl) ?_)))))))
     obtain ⟨hm_6,hh⟩:=hh
     refine .V (v_shr64 (a:=(shl64 (toU64 n_3) 3)) rfl rfl hm_6) (.V (v_conv_u8 un_243 un_5 rfl) ?_)
     obtain ⟨i65,hi65,hh⟩:=hh
     refine .V (qay ar_252 rfl rfl hi65) ?_
     obtain ⟨xw_2,hxw_2,hwxw_2,hh⟩:=hh
     refine .e (e_store (p:=buf) (nv:=enc ((toU8 ((shr64 (shl64 (toU64 n_3) 3) (isub (56:Int) (imul (8:Int) t52)).toNat).toNat:Int)):UInt8)) i65.val rfl rfl rfl sz_5 rfl hxw_2 hwxw_2 (arr_ble i65 xw_2 _ rfl) (arr_set i65 xw_2 ((toU8 ((shr64 (shl64 (toU64 n_3) 3) (isub (56:Int) (imul (8:Int) t52)).toNat).toNat:Int)):UInt8) rfl) ?_)
     refine .nil ?_
     refine QN.blockN ?_
     refine QN.then_ ?_
     refine CW.region ?_
     refine .V (qbp rfl rfl) (.M (reg ((iadd t52 (1:Int)):Int)) ?_)
     refine .nil ?_
     exact QN.thenJ ⟨(iadd t52 (1:Int)),⟨_,qn ⟨rfl,⟨rfl,⟨rfl,⟨rfl,⟨rfl,trivial⟩⟩⟩⟩⟩⟩,hh⟩
    ·have hh:=hh.2 hb_4
     refine CW.exit ?_
     refine QN.thenExit ?_
     refine QN.thenExit ?_
     refine QN.blockExit ?_
     exact QN.thenJ ⟨_,qn ⟨rfl,⟨rfl,⟨rfl,trivial⟩⟩⟩,hh⟩
   ·rintro ρ h ⟨ρ',rfl,hh⟩
    unfold qai.j4 at hh
    refine .sr (.V (qds ar_252 rfl) ?_)
    refine .e (qw fn_114 rfl rfl hh ?_)
    intro h t68 hh
    refine .nx (.sr ?_)
    refine qy hh (fun out hout hh=>?_)
    refine .e (qaq hout qdd rfl ?_)
    refine .nx ?_
    refine CW.join (fun ρ h=>∃ (ρ':Env),ρ = setl ρ' [(2,.pointer (some t2)),(11,.pointer (some out))]∧(qai.j5 k) t2 out h) ?_ ?_
    ·refine .sr (.M (reg ((0:Int):Int)) (.nx ?_))
     refine CW.block ?_
     unfold qai.l4 at hh
     refine CW.loop (fun (σ0:Int) ρ=>match σ0 with | t69=>∃ ρ':Env,ρ = setl ρ' [(2,.pointer (some t2)),(3,.pointer (some hv)),(11,.pointer (some out)),(69,reg t69)]) hh ⟨_,qn ⟨rfl,⟨rfl,⟨rfl,⟨rfl,trivial⟩⟩⟩⟩⟩ ?_
     clear hh
     rintro s4 t69 ρ h ⟨ρ',rfl⟩ hh
     refine .sr (.V (qax rfl rfl) (.nx (.seq ?_)))
     refine CW.cond (decide (t69 < (32:Int))) rfl (fun hb_5=>?_) (fun hb_5=>?_)
     ·have hh:=hh.1 hb_5
      refine CW.skip ?_
      refine QN.then_ ?_
      refine CW.seq ?_
      refine CW.block ?_
      refine .sr (.M (reg t69) (.A (reg t69) (.nx ?_)))
      refine CW.region ?_
      refine .M (reg t69) (.M (reg t69) (.V (v_iquo rfl rfl (by decide)) ?_))
      obtain ⟨i75,hi75,hh⟩:=hh
      refine .V (qay ar_251 rfl rfl hi75) (.L i75.val qdh (qda i75) hh rfl (fun t76 hh=>.M (reg t69) (.V (v_irem rfl rfl (by decide)) (.V (v_imul rfl rfl) (.V (v_isub rfl rfl) ?_)))))
      obtain ⟨hm_8,hh⟩:=hh
      refine .V (v_shr32 (a:=t76) rfl rfl hm_8) (.V (v_conv_u8 un_249 un_5 rfl) ?_)
      obtain ⟨i83,hi83,hh⟩:=hh
      refine .V (qay ar_31 rfl rfl hi83) ?_
      obtain ⟨xw_3,hxw_3,hwxw_3,hh⟩:=hh
      refine .e (e_store (p:=out) (nv:=enc ((toU8 ((shr32 t76 (isub (24:Int) (imul (8:Int) (irem t69 (4:Int)))).toNat).toNat:Int)):UInt8)) i83.val rfl rfl rfl sz_5 rfl hxw_3 hwxw_3 (arr_ble i83 xw_3 _ rfl) (arr_set i83 xw_3 ((toU8 ((shr32 t76 (isub (24:Int) (imul (8:Int) (irem t69 (4:Int)))).toNat).toNat:Int)):UInt8) rfl) ?_)
      refine .nil ?_
      refine QN.blockN ?_
      refine QN.then_ ?_
      refine CW.region ?_
      refine .V (qbp rfl rfl) (.M (reg ((iadd t69 (1:Int)):Int)) ?_)
      refine .nil ?_
      exact QN.thenJ ⟨(iadd t69 (1:Int)),⟨_,qn ⟨rfl,⟨rfl,⟨rfl,⟨rfl,trivial⟩⟩⟩⟩⟩,hh⟩
     ·have hh:=hh.2 hb_5
      refine CW.exit ?_
      refine QN.thenExit ?_
      refine QN.thenExit ?_
      refine QN.blockExit ?_
      exact QN.thenJ ⟨_,qn ⟨rfl,⟨rfl,trivial⟩⟩,hh⟩
    ·rintro ρ h ⟨ρ',rfl,hh⟩
     unfold qai.j5 at hh
     refine .sr (.LA 0 qco qdt (fun _=>(qr (n:=32) _)) hh rfl (fun t85 hh=>.S (t85:Arr 32 UInt8) 0 sz_31 (qb5 (n:=32) (fun _=>rfl) _) (fun _=>qr (n:=32) _) (qr (n:=32) _) (fun x=>qcw x (t85:Arr 32 UInt8)) hh rfl rfl (fun _ hh=>.nx ?_)))
     refine CW.ret ?_
     obtain ⟨r2,⟨xr2,hxr2,hgr2⟩,hh⟩:=hh
     have hr2:=qc3 hxr2 hgr2
     exact retc rfl rfl qco hr2 (qr (n:=32) _) ⟨(r2:Arr 32 UInt8),rfl,hh⟩
end Go.Proofs.YtmpmildpioebhaaGreatDoor

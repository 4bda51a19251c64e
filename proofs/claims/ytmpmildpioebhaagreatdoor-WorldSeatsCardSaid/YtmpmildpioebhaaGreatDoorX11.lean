/-
  The statement WorldSeats (law 23): a seat whose power goes off is gone, and comes back with nothing lost. Part 11 of 27. No condition stands ahead of the statement. Parts of this text were printed by a program of ours.
-/
import Derived.Test.YtmpmildpioebhaaGreatDoorX10
import Derived.Laws.BytesString
set_option linter.all false
set_option maxRecDepth 100000
set_option maxHeartbeats 4000000
noncomputable section
namespace Go.Proofs.YtmpmildpioebhaaGreatDoor
open Go Go.Sh
open Go.Sh.Ty (reg)
theorem qap.ok (d:Pt) (keep:Int) (k:Unit→H→Prop) (h:H) (hh:qap.b d keep k h):CallsH Prog 40 [reg d,reg keep].toArray h fun v h'=>∃ r:Unit,v = reg r∧k r h':=by
 unfold qap.b at hh
 refine CallsH.of 55 Tryz.func40 rfl Tryz.ntmps40 rfl (fun w0=>?_)
 refine CW.seq ?_
 refine CW.join (fun ρ h=>∃ (ρ':Env) (t14:Bool),ρ = setl ρ' [(0,reg d),(1,reg keep),(14,reg t14)]∧(qap.j1 k) d keep t14 h) ?_ ?_
 ·refine CW.region ?_
  refine .M (reg d) (.V (qbq pt_59 rfl rfl) (.M (reg (d.isNone:Bool)) ?_))
  refine qbl hh (fun hb hh=>?_) (fun hb hh=>?_)
  ·refine .no 9 rfl (cb hb) rfl rfl (.no 9 rfl (cb hb) rfl rfl (.no 9 rfl (cb hb) rfl rfl (.no 9 rfl (cb hb) rfl rfl (.V (qbx (v:=reg true) rfl hb rfl) ?_))))
   refine .nil ?_
   exact QN.thenJ ⟨_,true,qn ⟨rfl,⟨rfl,⟨rfl,trivial⟩⟩⟩,hh⟩
  ·refine .yv 9 rfl (cb hb) rfl (qu (v:=reg (d:Pt)) rfl) rfl ?_
   obtain ⟨p,hp,hh⟩:=hh
   refine .yv 9 rfl (cb hb) rfl (qv (congrArg Value.pointer hp)) rfl (.yv 9 rfl (cb hb) rfl (qd fl_169_1 rfl) rfl ?_)
   obtain ⟨t13,⟨xt13,hxt13,hgt13⟩,hh⟩:=hh
   refine .yv 9 rfl (cb hb) rfl (qc2 (p:=p) 1 na_4 rfl hxt13 hgt13 get_169_down) rfl (.V (qb0 (v:=reg t13) rfl hb rfl) ?_)
   refine .nil ?_
   exact QN.thenJ ⟨_,t13,qn ⟨rfl,⟨rfl,⟨rfl,trivial⟩⟩⟩,hh⟩
 ·rintro ρ h ⟨ρ',t14,rfl,hh⟩
  unfold qap.j1 at hh
  refine CW.cond t14 rfl (fun hb_1=>?_) (fun hb_1=>?_)
  ·have hh:=hh.1 hb_1
   refine CW.ret ?_
   refine QN.thenRet ?_
   exact ret0 rfl ⟨(),rfl,hh⟩
  ·have hh:=hh.2 hb_1
   refine CW.skip ?_
   refine QN.then_ ?_
   refine CW.join (fun ρ h=>∃ (ρ':Env),ρ = setl ρ' [(0,reg d)]∧(qap.j2 k) d h) ?_ ?_
   ·refine .sr (.M (reg d) ?_)
    obtain ⟨p_1,hp_1,hh⟩:=hh
    refine .V (qv (congrArg Value.pointer hp_1)) (.V (qd fl_169_0 rfl) (.L 0 na_167 qfx hh rfl (fun t18 hh=>?_)))
    refine .e (e_rng ([]:List (ByteArray×Pt)) mt_167 rfl rfl hh ?_)
    intro h t19 hh
    refine .nx ?_
    refine CW.block ?_
    unfold qap.l1 at hh
    refine CW.loop (fun (σ0:Unit) ρ=>match σ0 with | _=>∃ ρ':Env,ρ = setl ρ' [(0,reg d),(1,reg keep),(19,.pointer (some t19))]) hh ⟨_,qn ⟨rfl,⟨rfl,⟨rfl,trivial⟩⟩⟩⟩ ?_
    clear hh
    rintro s1 ⟨⟩ ρ h ⟨ρ',rfl⟩ hh
    refine .sr ?_
    refine .e (e_nxt rfl rfl hh ?_)
    intro h t20 hh
    refine .V (v_extnx (n:=t20) rfl) (.nx (.seq ?_))
    refine CW.cond t20.o.isSome rfl (fun hb_2=>?_) (fun hb_2=>?_)
    ·have hh:=hh.1 hb_2
     refine CW.skip ?_
     refine QN.then_ ?_
     refine CW.block ?_
     refine .sr ?_
     obtain ⟨t22,hxt22,hh⟩:=hh
     refine .V (v_ent (q:=(t22:T2 ByteArray Pt)) rfl hxt22) (.V (qar (v:=reg (t22.b:Pt)) rfl rfl) (.A (reg (t22.b:Pt)) (.nx (.sr (.M (reg keep) (.V (v_max rfl rfl) (.M (reg (t22.b:Pt)) ?_)))))))
     obtain ⟨p_2,hp_2,hh⟩:=hh
     refine .V (qv (congrArg Value.pointer hp_2)) (.V (qd fl_175_1 rfl) (.L 1 na_173 qfy hh rfl (fun t29 hh=>.V (qag (qbc).1 rfl) (.V (v_min rfl rfl) (.A (reg ((imin (imax keep (0:Int)) (t29.len:Int)):Int)) (.nx ?_))))))
     refine CW.drawN 19 rfl ym [0,1,2,3,4,5,6,7,8,9,10,11,13,14,16,17] ?_
     refine .P 0 rfl (qu (v:=reg (t22.b:Pt)) rfl) (.P 1 rfl (qu (v:=reg (t22.b:Pt)) rfl) (.P 2 rfl (qu (v:=reg (t22.b:Pt)) rfl) (.P 3 rfl (qv (congrArg Value.pointer hp_2)) (.P 4 rfl (qd fl_175_0 rfl) (.KL 5 0 na_173 get_175_safe rfl hh rfl (fun t37 hh=>.P 6 rfl (qu (v:=reg (t22.b:Pt)) rfl) (.P 7 rfl (qv (congrArg Value.pointer hp_2)) (.P 8 rfl (qd fl_175_1 rfl) (.KL 9 1 na_173 qfy rfl hh rfl (fun t41 hh=>?_))))))))))
     refine .P 10 rfl (qu (v:=reg ((imin (imax keep (0:Int)) (t29.len:Int)):Int)) rfl) ?_
     obtain ⟨hm,hh⟩:=hh
     refine .P 11 rfl (v_slice_hh qbc rfl rfl hm.1 hm.2) ?_
     refine .w 12 (by kernel_rfl) rfl (by kernel_rfl) (.e (e_app qbc zo_5 by_5 rfl rfl rfl hh ?_))
     intro h t44 hh
     refine ⟨⟨⟨trivial,.inl (by kernel_rfl)⟩,.inl (by kernel_rfl)⟩,?_⟩
     refine .P 13 rfl (qv (congrArg Value.pointer hp_2)) (.P 14 rfl (qd fl_175_0 rfl) ?_)
     obtain ⟨xw,hxw,hwxw,hh⟩:=hh
     refine .w 15 (by kernel_rfl) rfl (by kernel_rfl) (.e (qb7 (p:=p_2) (nv:=enc (t44:Sl)) 0 rfl rfl rfl sz_173 (qd1 _) hxw hwxw (len_disk_file _) (yj _) rfl (set_175_safe xw (t44:Sl)) ?_))
     refine ⟨⟨⟨trivial,.inl (by kernel_rfl)⟩,.inl (by kernel_rfl)⟩,?_⟩
     refine .P 16 rfl (qv (congrArg Value.pointer hp_2)) (.P 17 rfl (qd fl_175_1 rfl) ?_)
     obtain ⟨xw_1,hxw_1,hwxw_1,hh⟩:=hh
     refine .w 18 (by kernel_rfl) rfl (by kernel_rfl) (.e (qb7 (p:=p_2) (nv:=enc (Sl.nil:Sl)) 1 rfl rfl rfl sz_173 (qd1 _) hxw_1 hwxw_1 (len_disk_file _) (yj _) rfl (set_175_waits xw_1 (Sl.nil:Sl)) ?_))
     refine ⟨⟨⟨trivial,.inl (by kernel_rfl)⟩,.inl (by kernel_rfl)⟩,?_⟩
     refine .done (by kernel_rfl) ?_
     refine QN.blockN ?_
     exact QN.thenJ ⟨(),⟨_,qn ⟨rfl,⟨rfl,⟨rfl,trivial⟩⟩⟩⟩,hh⟩
    ·have hh:=hh.2 hb_2
     refine CW.exit ?_
     refine QN.thenExit ?_
     refine QN.thenExit ?_
     refine QN.blockExit ?_
     exact QN.thenJ ⟨_,qn ⟨rfl,trivial⟩,hh⟩
   ·rintro ρ h ⟨ρ',rfl,hh⟩
    unfold qap.j2 at hh
    refine CW.region ?_
    refine .M (reg d) (.M (reg d) ?_)
    obtain ⟨p_3,hp_3,hh⟩:=hh
    refine .V (qv (congrArg Value.pointer hp_3)) (.V (qd fl_169_1 rfl) (.S (true:Bool) 1 sz_4 (one_b _) qdm (len_b _) (fun x=>set_169_down x (true:Bool)) hh rfl rfl (fun _ hh=>.V (qv (congrArg Value.pointer hp_3)) (.V (qd fl_169_3 rfl) (.S ((0:Int):Int) 3 sz_3 (one_i _) qdm (qp _) (fun x=>set_169_fuse x ((0:Int):Int)) hh rfl rfl (fun _ hh=>?_))))))
    refine .nil ?_
    exact ret0n rfl ⟨(),rfl,hh⟩
theorem qey.ok (d:Pt) (k:Unit→H→Prop) (h:H) (hh:qey.b d k h):CallsH Prog 41 [reg d].toArray h fun v h'=>∃ r:Unit,v = reg r∧k r h':=by
 unfold qey.b at hh
 refine CallsH.of 7 Tryz.func41 rfl Tryz.ntmps41 rfl (fun w0=>?_)
 refine .sr (.M (reg d) (.V (v_ne_nil pt_59 rfl rfl) (.nx ?_)))
 refine CW.cond d.isSome rfl (fun hb=>?_) (fun hb=>?_)
 ·have hh:=hh.1 hb
  refine CW.region ?_
  refine .M (reg d) ?_
  obtain ⟨p,hp,hh⟩:=hh
  refine .V (qv (congrArg Value.pointer hp)) (.V (qd fl_169_1 rfl) (.S (false:Bool) 1 sz_4 (one_b _) qdm (len_b _) (fun x=>set_169_down x (false:Bool)) hh rfl rfl (fun _ hh=>?_)))
  refine .nil ?_
  exact ret0n rfl ⟨(),rfl,hh⟩
 ·have hh:=hh.2 hb
  refine CW.skip ?_
  exact ret0n rfl ⟨(),rfl,hh⟩
theorem qem.ok (w:Pt) (id:Int) (k:Int→H→Prop) (h:H) (hh:qem.b w id k h):CallsH Prog 18 [reg w,reg id].toArray h fun v h'=>∃ r:Int,v = reg r∧k r h':=by
 unfold qem.b at hh
 refine CallsH.of 24 Tryz.func18 rfl Tryz.ntmps18 rfl (fun w0=>?_)
 refine .sr (.A (reg ((0:Int):Int)) (.nx (.seq (.sr (.M (reg w) (.V (qbq pt_24 rfl rfl) (.nx ?_)))))))
 refine CW.cond w.isNone rfl (fun hb=>?_) (fun hb=>?_)
 ·have hh:=hh.1 hb
  refine .sr (.A (reg ((2:Int):Int)) (.nx ?_))
  refine CW.ret ?_
  refine QN.thenRet ?_
  exact ret1 rfl rfl ⟨((2:Int):Int),rfl,hh⟩
 ·have hh:=hh.2 hb
  refine CW.skip ?_
  refine QN.then_ ?_
  refine .sr (.M (reg w) ?_)
  obtain ⟨p,hp,hh⟩:=hh
  refine .V (qv (congrArg Value.pointer hp)) (.V (qd qeu rfl) (.L 3 na_90 qcc hh rfl (fun t11 hh=>.M (reg id) ?_)))
  obtain ⟨t13,⟨xt13,hxt13,hgt13⟩,hh⟩:=hh
  refine .V (qdl mt_90 kt_3 zv_95 rfl rfl hxt13 hgt13) (.A (reg t13) (.nx (.seq (.sr (.M (reg t13) (.V (qbq pt_95 rfl rfl) (.nx ?_)))))))
  refine CW.cond t13.isNone rfl (fun hb_1=>?_) (fun hb_1=>?_)
  ·have hh:=hh.1 hb_1
   refine .sr (.A (reg ((7:Int):Int)) (.nx ?_))
   refine CW.ret ?_
   refine QN.thenRet ?_
   exact ret1 rfl rfl ⟨((7:Int):Int),rfl,hh⟩
  ·have hh:=hh.2 hb_1
   refine CW.skip ?_
   refine QN.then_ ?_
   refine .sr (.M (reg t13) ?_)
   obtain ⟨p_1,hp_1,hh⟩:=hh
   refine .V (qv (congrArg Value.pointer hp_1)) (.V (qd fl_97_1 rfl) (.L 2 na_59 get_97_d hh rfl (fun t19 hh=>?_)))
   refine .e (qw fn_41 rfl rfl hh ?_)
   intro h t20 hh
   refine .nx (.sr (.M (reg t13) (.M (reg w) ?_)))
   refine .e (qw fn_39 rfl rfl hh ?_)
   intro h t23 hh
   refine .A (reg t23) (.nx ?_)
   refine CW.ret ?_
   exact ret1 rfl rfl ⟨(t23:Int),rfl,hh⟩
theorem qau.ok (w:Pt) (id:Int) (k:Pt→H→Prop) (h:H) (hh:qau.b w id k h):CallsH Prog 11 [reg w,reg id].toArray h fun v h'=>∃ r:Pt,v = reg r∧k r h':=by
 unfold qau.b at hh
 refine CallsH.of 25 Tryz.func11 rfl Tryz.ntmps11 rfl (fun w0=>?_)
 refine .sr (.A (reg ((none:Pt):Pt)) (.nx (.seq ?_)))
 refine CW.join (fun ρ h=>∃ (ρ':Env) (t15:Bool),ρ = setl ρ' [(0,reg w),(1,reg id),(15,reg t15)]∧(qau.j1 k) w id t15 h) ?_ ?_
 ·refine CW.region ?_
  refine .M (reg w) (.V (qbq pt_24 rfl rfl) (.M (reg (w.isNone:Bool)) ?_))
  refine qbl hh (fun hb hh=>?_) (fun hb hh=>?_)
  ·refine .no 7 rfl (cb hb) rfl rfl (.no 7 rfl (cb hb) rfl rfl (.no 7 rfl (cb hb) rfl rfl (.no 7 rfl (cb hb) rfl rfl (.no 7 rfl (cb hb) rfl rfl (.no 7 rfl (cb hb) rfl rfl (.no 7 rfl (cb hb) rfl rfl (.V (qbx (v:=reg true) rfl hb rfl) ?_)))))))
   refine .nil ?_
   exact QN.thenJ ⟨_,true,qn ⟨rfl,⟨rfl,⟨rfl,trivial⟩⟩⟩,hh⟩
  ·refine .yv 7 rfl (cb hb) rfl (qu (v:=reg (w:Pt)) rfl) rfl ?_
   obtain ⟨p,hp,hh⟩:=hh
   refine .yv 7 rfl (cb hb) rfl (qv (congrArg Value.pointer hp)) rfl (.yv 7 rfl (cb hb) rfl (qd qeu rfl) rfl ?_)
   obtain ⟨t11,⟨xt11,hxt11,hgt11⟩,hh⟩:=hh
   refine .yv 7 rfl (cb hb) rfl (qc2 (p:=p) 3 na_90 rfl hxt11 hgt11 qcc) rfl (.yv 7 rfl (cb hb) rfl (qu (v:=reg (id:Int)) rfl) rfl ?_)
   obtain ⟨t13,⟨xt13,hxt13,hgt13⟩,hh⟩:=hh
   refine .yv 7 rfl (cb hb) rfl (qdl mt_90 kt_3 zv_95 rfl rfl hxt13 hgt13) rfl (.yv 7 rfl (cb hb) rfl (qbq pt_95 rfl rfl) rfl (.V (qb0 (v:=reg (t13.isNone:Bool)) rfl hb rfl) ?_))
   refine .nil ?_
   exact QN.thenJ ⟨_,t13.isNone,qn ⟨rfl,⟨rfl,⟨rfl,trivial⟩⟩⟩,hh⟩
 ·rintro ρ h ⟨ρ',t15,rfl,hh⟩
  unfold qau.j1 at hh
  refine CW.cond t15 rfl (fun hb_1=>?_) (fun hb_1=>?_)
  ·have hh:=hh.1 hb_1
   refine .sr (.A (reg ((none:Pt):Pt)) (.nx ?_))
   refine CW.ret ?_
   refine QN.thenRet ?_
   exact ret1 rfl rfl ⟨((none:Pt):Pt),rfl,hh⟩
  ·have hh:=hh.2 hb_1
   refine CW.skip ?_
   refine QN.then_ ?_
   refine .sr (.M (reg w) ?_)
   obtain ⟨p_1,hp_1,hh⟩:=hh
   refine .V (qv (congrArg Value.pointer hp_1)) (.V (qd qeu rfl) (.L 3 na_90 qcc hh rfl (fun t19 hh=>.M (reg id) ?_)))
   obtain ⟨t21,⟨xt21,hxt21,hgt21⟩,hh⟩:=hh
   refine .V (qdl mt_90 kt_3 zv_95 rfl rfl hxt21 hgt21) ?_
   obtain ⟨p_2,hp_2,hh⟩:=hh
   refine .V (qv (congrArg Value.pointer hp_2)) (.V (qd fl_97_2 rfl) (.L 3 na_44 get_97_rep hh rfl (fun t24 hh=>.A (reg t24) (.nx ?_))))
   refine CW.ret ?_
   exact ret1 rfl rfl ⟨(t24:Pt),rfl,hh⟩
theorem qa7.ok (w:Pt) (id:Int) (k:Pt→H→Prop) (h:H) (hh:qa7.b w id k h):CallsH Prog 17 [reg w,reg id].toArray h fun v h'=>∃ r:Pt,v = reg r∧k r h':=by
 unfold qa7.b at hh
 refine CallsH.of 25 Tryz.func17 rfl Tryz.ntmps17 rfl (fun w0=>?_)
 refine .sr (.A (reg ((none:Pt):Pt)) (.nx (.seq ?_)))
 refine CW.join (fun ρ h=>∃ (ρ':Env) (t15:Bool),ρ = setl ρ' [(0,reg w),(1,reg id),(15,reg t15)]∧(qa7.j1 k) w id t15 h) ?_ ?_
 ·refine CW.region ?_
  refine .M (reg w) (.V (qbq pt_24 rfl rfl) (.M (reg (w.isNone:Bool)) ?_))
  refine qbl hh (fun hb hh=>?_) (fun hb hh=>?_)
  ·refine .no 7 rfl (cb hb) rfl rfl (.no 7 rfl (cb hb) rfl rfl (.no 7 rfl (cb hb) rfl rfl (.no 7 rfl (cb hb) rfl rfl (.no 7 rfl (cb hb) rfl rfl (.no 7 rfl (cb hb) rfl rfl (.no 7 rfl (cb hb) rfl rfl (.V (qbx (v:=reg true) rfl hb rfl) ?_)))))))
   refine .nil ?_
   exact QN.thenJ ⟨_,true,qn ⟨rfl,⟨rfl,⟨rfl,trivial⟩⟩⟩,hh⟩
  ·refine .yv 7 rfl (cb hb) rfl (qu (v:=reg (w:Pt)) rfl) rfl ?_
   obtain ⟨p,hp,hh⟩:=hh
   refine .yv 7 rfl (cb hb) rfl (qv (congrArg Value.pointer hp)) rfl (.yv 7 rfl (cb hb) rfl (qd qeu rfl) rfl ?_)
   obtain ⟨t11,⟨xt11,hxt11,hgt11⟩,hh⟩:=hh
   refine .yv 7 rfl (cb hb) rfl (qc2 (p:=p) 3 na_90 rfl hxt11 hgt11 qcc) rfl (.yv 7 rfl (cb hb) rfl (qu (v:=reg (id:Int)) rfl) rfl ?_)
   obtain ⟨t13,⟨xt13,hxt13,hgt13⟩,hh⟩:=hh
   refine .yv 7 rfl (cb hb) rfl (qdl mt_90 kt_3 zv_95 rfl rfl hxt13 hgt13) rfl (.yv 7 rfl (cb hb) rfl (qbq pt_95 rfl rfl) rfl (.V (qb0 (v:=reg (t13.isNone:Bool)) rfl hb rfl) ?_))
   refine .nil ?_
   exact QN.thenJ ⟨_,t13.isNone,qn ⟨rfl,⟨rfl,⟨rfl,trivial⟩⟩⟩,hh⟩
 ·rintro ρ h ⟨ρ',t15,rfl,hh⟩
  unfold qa7.j1 at hh
  refine CW.cond t15 rfl (fun hb_1=>?_) (fun hb_1=>?_)
  ·have hh:=hh.1 hb_1
   refine .sr (.A (reg ((none:Pt):Pt)) (.nx ?_))
   refine CW.ret ?_
   refine QN.thenRet ?_
   exact ret1 rfl rfl ⟨((none:Pt):Pt),rfl,hh⟩
  ·have hh:=hh.2 hb_1
   refine CW.skip ?_
   refine QN.then_ ?_
   refine .sr (.M (reg w) ?_)
   obtain ⟨p_1,hp_1,hh⟩:=hh
   refine .V (qv (congrArg Value.pointer hp_1)) (.V (qd qeu rfl) (.L 3 na_90 qcc hh rfl (fun t19 hh=>.M (reg id) ?_)))
   obtain ⟨t21,⟨xt21,hxt21,hgt21⟩,hh⟩:=hh
   refine .V (qdl mt_90 kt_3 zv_95 rfl rfl hxt21 hgt21) ?_
   obtain ⟨p_2,hp_2,hh⟩:=hh
   refine .V (qv (congrArg Value.pointer hp_2)) (.V (qd fl_97_1 rfl) (.L 2 na_59 get_97_d hh rfl (fun t24 hh=>.A (reg t24) (.nx ?_))))
   refine CW.ret ?_
   exact ret1 rfl rfl ⟨(t24:Pt),rfl,hh⟩
theorem qce.ok (r:Pt) (k:Int→H→Prop) (h:H) (hh:qce.b r k h):CallsH Prog 12 [reg r].toArray h fun v h'=>∃ r:Int,v = reg r∧k r h':=by
 unfold qce.b at hh
 refine CallsH.of 9 Tryz.func12 rfl Tryz.ntmps12 rfl (fun w0=>?_)
 refine .sr (.A (reg ((0:Int):Int)) (.nx (.seq (.sr (.M (reg r) (.V (qbq pt_44 rfl rfl) (.nx ?_)))))))
 refine CW.cond r.isNone rfl (fun hb=>?_) (fun hb=>?_)
 ·have hh:=hh.1 hb
  refine .sr (.A (reg ((0:Int):Int)) (.nx ?_))
  refine CW.ret ?_
  refine QN.thenRet ?_
  exact ret1 rfl rfl ⟨((0:Int):Int),rfl,hh⟩
 ·have hh:=hh.2 hb
  refine CW.skip ?_
  refine QN.then_ ?_
  refine .sr (.M (reg r) ?_)
  obtain ⟨p,hp,hh⟩:=hh
  refine .V (qv (congrArg Value.pointer hp)) (.V (qd fl_109_9 rfl) (.L 16 na_3 get_109_height hh rfl (fun t8 hh=>.A (reg t8) (.nx ?_))))
  refine CW.ret ?_
  exact ret1 rfl rfl ⟨(t8:Int),rfl,hh⟩
theorem qcn.ok (r:Pt) (k:qb→H→Prop) (h:H) (hh:qcn.b r k h):CallsH Prog 20 [reg r].toArray h fun v h'=>∃ r:qb,v = reg r∧k r h':=by
 unfold qcn.b at hh
 refine CallsH.of 17 Tryz.func20 rfl Tryz.ntmps20 rfl (fun w0=>?_)
 refine .sr ?_
 refine qy hh (fun t2 ht2 hh=>?_)
 refine .e (qaq ht2 zo_65 rfl ?_)
 refine .nx (.seq (.sr (.M (reg r) (.V (qbq pt_44 rfl rfl) (.nx ?_)))))
 refine CW.cond r.isNone rfl (fun hb=>?_) (fun hb=>?_)
 ·have hh:=hh.1 hb
  refine .sr (.V (qah qb.zero zo_65 pl_65 rfl (rfl) rfl) (.S (qb.zero:qb) 0 sz_65 (qb4 _) qt (qt _) (fun x=>qd5 x (qb.zero:qb)) hh rfl rfl (fun _ hh=>.nx ?_)))
  refine CW.ret ?_
  refine QN.thenRet ?_
  obtain ⟨r2,⟨xr2,hxr2,hgr2⟩,hh⟩:=hh
  have hr2:=qc3 hxr2 hgr2
  exact retc rfl rfl ag_65 hr2 (qt _) ⟨(r2:qb),rfl,hh⟩
 ·have hh:=hh.2 hb
  refine CW.skip ?_
  refine QN.then_ ?_
  refine .sr (.M (reg r) ?_)
  obtain ⟨p,hp,hh⟩:=hh
  refine .V (qv (congrArg Value.pointer hp)) (.V (qd fl_109_7 rfl) (.LA 8 ag_65 get_109_state (fun _=>(qt _)) hh rfl (fun t12 hh=>?_)))
  refine .e (qw fn_44 rfl rfl hh ?_)
  intro h t13 hh
  refine .M (reg (t13:T2 qb Sl)) (.V (qar (v:=reg (t13.a:qb)) rfl rfl) (.V (qar (v:=reg (t13.b:Sl)) rfl rfl) ?_))
  refine qy hh (fun s hs hh=>?_)
  refine .e (qaq hs zo_65 rfl ?_)
  refine .S (t13.a:qb) 0 sz_65 (qb4 _) qt (qt _) (fun x=>qd5 x (t13.a:qb)) hh rfl rfl (fun _ hh=>.A (reg (t13.b:Sl)) (.nx (.sr (.LA 0 ag_65 get_65_all (fun _=>(qt _)) hh rfl (fun t16 hh=>.S (t16:qb) 0 sz_65 (qb4 _) qt (qt _) (fun x=>qd5 x (t16:qb)) hh rfl rfl (fun _ hh=>.nx ?_))))))
  refine CW.ret ?_
  obtain ⟨r2_1,⟨xr2_1,hxr2_1,hgr2_1⟩,hh⟩:=hh
  have hr2_1:=qc3 hxr2_1 hgr2_1
  exact retc rfl rfl ag_65 hr2_1 (qt _) ⟨(r2_1:qb),rfl,hh⟩
theorem fn_64:FnOk Prog 64:=⟨_,Tryz.func64,by kernel_rfl,by kernel_rfl⟩
theorem sl_104:SlT Prog 104 128 42:=⟨by kernel_rfl,SizeOf.of (by kernel_rfl)⟩
def qcb.l1 (j1:Addr→Addr→Sl→H→Prop) (t4_1:Addr) (out_1:Addr) (t13:Sl) (t14:Int):(Sl×Int)→H→Prop:=Lp fun s1 (replies,t15)=>
 ifb (decide (t15 < t14)) (fun _=>False) (j1 t4_1 out_1 replies)
def qcb.j1 (k:(T2 qb Sl)→H→Prop) (t4_2:Addr) (out_2:Addr) (replies_1:Sl):H→Prop:=
 ld out_2 (fun (x:qb)=>x) fun t30=>st t4_2 (fun (_:qb)=>t30) <| ld t4_2 (fun (x:qb)=>x) fun r4=>k (⟨r4,replies_1⟩:T2 qb Sl)
def qcb.b (s:qb) (list:Sl) (k:(T2 qb Sl)→H→Prop):H→Prop:=
 box 65 (s:qb) fun s_1=>box 65 (qb.zero:qb) fun t4=>ld s_1 (fun (x:qb)=>x) fun t11=>call (β:=qb) Prog 64 [reg (t11:qb)] fun t12=>box 65 (qb.zero:qb) fun out=>st out (fun (_:qb)=>t12) <| qcb.l1 (qcb.j1 k) t4 out list (list.len:Int) (Sl.nil,(0:Int))
theorem qcb.ok (s:qb) (list:Sl) (k:(T2 qb Sl)→H→Prop) (h:H) (hh:qcb.b s list k h):CallsH Prog 44 [reg s,reg list].toArray h fun v h'=>∃ r:T2 qb Sl,v = reg r∧k r h':=by
 unfold qcb.b at hh
 refine CallsH.of 32 Tryz.func44 rfl Tryz.ntmps44 rfl (fun w0=>?_)
 refine .sr ?_
 refine qy hh (fun s_1 hs_1 hh=>?_)
 refine .e (qan hs_1 rfl rfl rfl ?_)
 refine qy hh (fun t4 ht4 hh=>?_)
 refine .e (qaq ht4 zo_65 rfl ?_)
 refine .A (reg (Sl.nil:Sl)) (.nx (.sr (.LA 0 ag_65 get_65_all (fun _=>(qt _)) hh rfl (fun t11 hh=>?_))))
 refine .e (qw fn_64 rfl rfl hh ?_)
 intro h t12 hh
 refine qy hh (fun out hout hh=>?_)
 refine .e (qaq hout zo_65 rfl ?_)
 refine .S (t12:qb) 0 sz_65 (qb4 _) qt (qt _) (fun x=>qd5 x (t12:qb)) hh rfl rfl (fun _ hh=>.nx (.sr (.A (reg (Sl.nil:Sl)) (.nx ?_))))
 refine CW.join (fun ρ h=>∃ (ρ':Env) (replies_1:Sl),ρ = setl ρ' [(4,.pointer (some t4)),(6,.pointer (some out)),(7,reg replies_1)]∧(qcb.j1 k) t4 out replies_1 h) ?_ ?_
 ·refine .sr (.M (reg list) (.V (qag (sl_104).1 rfl) (.M (reg ((0:Int):Int)) (.nx ?_))))
  refine CW.block ?_
  unfold qcb.l1 at hh
  refine CW.loop (fun (σ0:Sl×Int) ρ=>match σ0 with | (replies,t15)=>∃ ρ':Env,ρ = setl ρ' [(4,.pointer (some t4)),(6,.pointer (some out)),(13,reg list),(14,reg ((list.len:Int):Int)),(7,reg replies),(15,reg t15)]) hh ⟨_,qn ⟨rfl,⟨rfl,⟨rfl,⟨rfl,⟨rfl,⟨rfl,trivial⟩⟩⟩⟩⟩⟩⟩ ?_
  clear hh
  rintro s1 ⟨replies,t15⟩ ρ h ⟨ρ',rfl⟩ hh
  refine .sr (.V (qax rfl rfl) (.nx (.seq ?_)))
  refine CW.cond (decide (t15 < (list.len:Int))) rfl (fun hb=>?_) (fun hb=>?_)
  ·exact (hh.1 hb).elim
  ·have hh:=hh.2 hb
   refine CW.exit ?_
   refine QN.thenExit ?_
   refine QN.thenExit ?_
   refine QN.blockExit ?_
   exact QN.thenJ ⟨_,replies,qn ⟨rfl,⟨rfl,⟨rfl,trivial⟩⟩⟩,hh⟩
 ·rintro ρ h ⟨ρ',replies_1,rfl,hh⟩
  unfold qcb.j1 at hh
  refine .sr (.LA 0 ag_65 get_65_all (fun _=>(qt _)) hh rfl (fun t30 hh=>.M (reg replies_1) (.S (t30:qb) 0 sz_65 (qb4 _) qt (qt _) (fun x=>qd5 x (t30:qb)) hh rfl rfl (fun _ hh=>.A (reg replies_1) (.nx ?_)))))
  refine CW.ret ?_
  obtain ⟨r4,⟨xr4,hxr4,hgr4⟩,hh⟩:=hh
  have hr4:=qc3 hxr4 hgr4
  exact retc1 rfl rfl ag_65 hr4 (qt _) rfl ⟨(⟨r4,replies_1⟩:T2 qb Sl),rfl,hh⟩
theorem qbh.ok (s:qb) (k:qb→H→Prop) (h:H) (hh:qbh.b s k h):CallsH Prog 64 [reg s].toArray h fun v h'=>∃ r:qb,v = reg r∧k r h':=by
 unfold qbh.b at hh
 refine CallsH.of 32 Tryz.func64 rfl Tryz.ntmps64 rfl (fun w0=>?_)
 refine .sr ?_
 refine qy hh (fun s_1 hs_1 hh=>?_)
 refine .e (qan hs_1 rfl rfl rfl ?_)
 refine qy hh (fun t2 ht2 hh=>?_)
 refine .e (qaq ht2 zo_65 rfl ?_)
 refine .nx (.sr (.V (qd fl_65_2 rfl) (.LA 2 ag_27 qfz (fun _=>(qh _)) hh rfl (fun t7 hh=>?_))))
 refine .e (qw fn_92 rfl rfl hh ?_)
 intro h t8 hh
 refine qy hh (fun out hout hh=>?_)
 refine .e (qaq hout zo_65 rfl ?_)
 refine .S (t8:qb) 0 sz_65 (qb4 _) qt (qt _) (fun x=>qd5 x (t8:qb)) hh rfl rfl (fun _ hh=>.nx (.sr (.V (qd fl_65_0 rfl) (.L 0 na_62 qfo hh rfl (fun t10 hh=>?_)))))
 refine .e (qw fn_98 rfl rfl hh ?_)
 intro h t11 hh
 refine .V (qd fl_65_0 rfl) (.S (t11:Sl) 0 sz_62 (qd1 _) qt (yj _) (fun x=>set_65_Pairs x (t11:Sl)) hh rfl rfl (fun _ hh=>.nx ?_))
 refine CW.join (fun ρ h=>∃ (ρ':Env),ρ = setl ρ' [(2,.pointer (some t2)),(3,.pointer (some out))]∧(qbh.j1 k) t2 out h) ?_ ?_
 ·refine .sr (.V (qd fl_65_1 rfl) (.L 1 na_63 qe7 hh rfl (fun t14 hh=>.V (qag (sl_63).1 rfl) (.M (reg ((0:Int):Int)) (.nx ?_)))))
  refine CW.block ?_
  unfold qbh.l1 at hh
  refine CW.loop (fun (σ0:Int) ρ=>match σ0 with | t16=>∃ ρ':Env,ρ = setl ρ' [(2,.pointer (some t2)),(3,.pointer (some out)),(14,reg t14),(15,reg ((t14.len:Int):Int)),(16,reg t16)]) hh ⟨_,qn ⟨rfl,⟨rfl,⟨rfl,⟨rfl,⟨rfl,trivial⟩⟩⟩⟩⟩⟩ ?_
  clear hh
  rintro s1 t16 ρ h ⟨ρ',rfl⟩ hh
  refine .sr (.V (qax rfl rfl) (.nx (.seq ?_)))
  refine CW.cond (decide (t16 < (t14.len:Int))) rfl (fun hb=>?_) (fun hb=>?_)
  ·exact (hh.1 hb).elim
  ·have hh:=hh.2 hb
   refine CW.exit ?_
   refine QN.thenExit ?_
   refine QN.thenExit ?_
   refine QN.blockExit ?_
   exact QN.thenJ ⟨_,qn ⟨rfl,⟨rfl,trivial⟩⟩,hh⟩
 ·rintro ρ h ⟨ρ',rfl,hh⟩
  unfold qbh.j1 at hh
  refine .sr (.LA 0 ag_65 get_65_all (fun _=>(qt _)) hh rfl (fun t31 hh=>.S (t31:qb) 0 sz_65 (qb4 _) qt (qt _) (fun x=>qd5 x (t31:qb)) hh rfl rfl (fun _ hh=>.nx ?_)))
  refine CW.ret ?_
  obtain ⟨r2,⟨xr2,hxr2,hgr2⟩,hh⟩:=hh
  have hr2:=qc3 hxr2 hgr2
  exact retc rfl rfl ag_65 hr2 (qt _) ⟨(r2:qb),rfl,hh⟩
theorem qdp.ok (s:Sl) (k:Sl→H→Prop) (h:H) (hh:qdp.b s k h):CallsH Prog 98 [reg s].toArray h fun v h'=>∃ r:Sl,v = reg r∧k r h':=by
 unfold qdp.b at hh
 refine CallsH.of 8 Tryz.func98 rfl Tryz.ntmps98 rfl (fun w0=>?_)
 refine .sr (.A (reg (Sl.nil:Sl)) (.nx (.seq (.sr (.M (reg s) (.V (v_eq_slnil (sl_62).1 rfl rfl) (.nx ?_)))))))
 refine CW.cond s.a.isNone rfl (fun hb=>?_) (fun hb=>?_)
 ·have hh:=hh.1 hb
  refine .sr (.A (reg (Sl.nil:Sl)) (.nx ?_))
  refine CW.ret ?_
  refine QN.thenRet ?_
  exact ret1 rfl rfl ⟨(Sl.nil:Sl),rfl,hh⟩
 ·have hh:=hh.2 hb
  refine CW.skip ?_
  refine QN.then_ ?_
  refine .sr ?_
  refine qbd hh (fun pt5 t5 hpt5 ht5 hh=>?_)
  refine .e (qc1 ([]:List qen) hpt5 ht5 zo_117 sl_62 rfl rfl rfl rfl rfl ?_)
  refine .M (reg s) ?_
  refine .e (e_app sl_62 zo_117 by_117 rfl rfl rfl hh ?_)
  intro h t7 hh
  refine .A (reg t7) (.nx ?_)
  refine CW.ret ?_
  exact ret1 rfl rfl ⟨(t7:Sl),rfl,hh⟩
theorem qal.ok (a:qb) (b:qb) (k:Bool→H→Prop) (h:H) (hh:qal.b a b k h):CallsH Prog 19 [reg a,reg b].toArray h fun v h'=>∃ r:Bool,v = reg r∧k r h':=by
 unfold qal.b at hh
 refine CallsH.of 68 Tryz.func19 rfl Tryz.ntmps19 rfl (fun w0=>?_)
 refine .sr ?_
 refine qy hh (fun a_1 ha_1 hh=>?_)
 refine .e (qan ha_1 rfl rfl rfl ?_)
 refine qy hh (fun b_1 hb_1 hh=>?_)
 refine .e (qan hb_1 rfl rfl rfl ?_)
 refine .A (reg false) (.nx (.seq ?_))
 refine CW.join (fun ρ h=>∃ (ρ':Env) (t30:Bool),ρ = setl ρ' [(2,.pointer (some a_1)),(3,.pointer (some b_1)),(30,reg t30)]∧(qal.j1 k) a_1 b_1 t30 h) ?_ ?_
 ·refine CW.region ?_
  refine .V (qd fl_65_0 rfl) (.L 0 na_62 qfo hh rfl (fun t8 hh=>.V (qag (sl_62).1 rfl) (.V (qd fl_65_0 rfl) (.L 0 na_62 qfo hh rfl (fun t11 hh=>.V (qag (sl_62).1 rfl) (.V (qdz rfl rfl) (.M (reg (((t8.len:Int) != (t11.len:Int)):Bool)) (.fv 14 rfl rfl rfl (fun hb=>qd fl_65_1 rfl) rfl ?_))))))))
  obtain ⟨t16,⟨xt16,hxt16,hgt16⟩,hh⟩:=hh
  refine .fv 14 rfl rfl rfl (fun hb=>qc2 (p:=a_1) 1 na_63 (gf hb) hxt16 hgt16 qe7) rfl (.fv 14 rfl rfl rfl (fun hb=>qag (sl_63).1 (gf hb)) rfl (.fv 14 rfl rfl rfl (fun hb=>qd fl_65_1 rfl) rfl ?_))
  obtain ⟨t19,⟨xt19,hxt19,hgt19⟩,hh⟩:=hh
  refine .fv 14 rfl rfl rfl (fun hb=>qc2 (p:=b_1) 1 na_63 (gf hb) hxt19 hgt19 qe7) rfl (.fv 14 rfl rfl rfl (fun hb=>qag (sl_63).1 (gf hb)) rfl (.fv 14 rfl rfl rfl (fun hb=>qdz (gf hb) (gf hb)) rfl (.V (qb2 rfl rfl (fun hb=>gf hb)) (.M (reg ((((t8.len:Int) != (t11.len:Int)) || ((t16.len:Int) != (t19.len:Int))):Bool)) ?_))))
  refine qbl hh (fun hb hh=>?_) (fun hb hh=>?_)
  ·refine .no 23 rfl (cb hb) rfl rfl (.no 23 rfl (cb hb) rfl rfl (.no 23 rfl (cb hb) rfl rfl (.no 23 rfl (cb hb) rfl rfl (.no 23 rfl (cb hb) rfl rfl (.no 23 rfl (cb hb) rfl rfl (.V (qbx (v:=reg true) rfl hb rfl) ?_))))))
   refine .nil ?_
   exact QN.thenJ ⟨_,true,qn ⟨rfl,⟨rfl,⟨rfl,trivial⟩⟩⟩,hh⟩
  ·refine .yv 23 rfl (cb hb) rfl (qd fl_65_2 rfl) rfl ?_
   obtain ⟨t25,⟨xt25,hxt25,hgt25⟩,hh⟩:=hh
   refine .yv 23 rfl (cb hb) rfl (v_ldA (p:=a_1) 2 ag_27 rfl hxt25 hgt25 qfz (fun _=>(qh _)) (fun _=>rfl)) rfl (.yv 23 rfl (cb hb) rfl (qd fl_65_2 rfl) rfl ?_)
   obtain ⟨t27,⟨xt27,hxt27,hgt27⟩,hh⟩:=hh
   refine .yv 23 rfl (cb hb) rfl (v_ldA (p:=b_1) 2 ag_27 rfl hxt27 hgt27 qfz (fun _=>(qh _)) (fun _=>rfl)) rfl ?_
   refine .ye 23 rfl (cb hb) rfl (qw fn_42 rfl rfl hh ?_)
   intro h t28 hh
   refine .yv 23 rfl (cb hb) rfl (v_not rfl) rfl (.V (qb0 (v:=reg ((!t28):Bool)) rfl hb rfl) ?_)
   refine .nil ?_
   exact QN.thenJ ⟨_,(!t28),qn ⟨rfl,⟨rfl,⟨rfl,trivial⟩⟩⟩,hh⟩
 ·rintro ρ h ⟨ρ',t30,rfl,hh⟩
  unfold qal.j1 at hh
  refine CW.cond t30 rfl (fun hb_1=>?_) (fun hb_1=>?_)
  ·have hh:=hh.1 hb_1
   refine .sr (.A (reg false) (.nx ?_))
   refine CW.ret ?_
   refine QN.thenRet ?_
   exact ret1 rfl rfl ⟨(false:Bool),rfl,hh⟩
  ·have hh:=hh.2 hb_1
   refine CW.skip ?_
   refine QN.then_ ?_
   refine CW.join (fun ρ h=>∃ (ρ':Env),ρ = setl ρ' [(2,.pointer (some a_1)),(3,.pointer (some b_1))]∧(qal.j2 k) a_1 b_1 h) ?_ ?_
   ·refine .sr (.V (qd fl_65_0 rfl) (.L 0 na_62 qfo hh rfl (fun t32 hh=>.V (qag (sl_62).1 rfl) (.M (reg ((0:Int):Int)) (.nx ?_)))))
    refine CW.block ?_
    unfold qal.l1 at hh
    refine CW.loop (fun (σ0:Int) ρ=>match σ0 with | t34=>∃ ρ':Env,ρ = setl ρ' [(2,.pointer (some a_1)),(3,.pointer (some b_1)),(33,reg ((t32.len:Int):Int)),(34,reg t34)]) hh ⟨_,qn ⟨rfl,⟨rfl,⟨rfl,⟨rfl,trivial⟩⟩⟩⟩⟩ ?_
    clear hh
    rintro s1 t34 ρ h ⟨ρ',rfl⟩ hh
    refine .sr (.V (qax rfl rfl) (.nx (.seq ?_)))
    refine CW.cond (decide (t34 < (t32.len:Int))) rfl (fun hb_2=>?_) (fun hb_2=>?_)
    ·exact (hh.1 hb_2).elim
    ·have hh:=hh.2 hb_2
     refine CW.exit ?_
     refine QN.thenExit ?_
     refine QN.thenExit ?_
     refine QN.blockExit ?_
     exact QN.thenJ ⟨_,qn ⟨rfl,⟨rfl,trivial⟩⟩,hh⟩
   ·rintro ρ h ⟨ρ',rfl,hh⟩
    unfold qal.j2 at hh
    refine CW.join (fun ρ h=>∃ (ρ':Env),ρ = setl ρ' []∧(qal.j3 k)  h) ?_ ?_
    ·refine .sr (.V (qd fl_65_1 rfl) (.L 1 na_63 qe7 hh rfl (fun t50 hh=>.V (qag (sl_63).1 rfl) (.M (reg ((0:Int):Int)) (.nx ?_)))))
     refine CW.block ?_
     unfold qal.l2 at hh
     refine CW.loop (fun (σ0:Int) ρ=>match σ0 with | t52=>∃ ρ':Env,ρ = setl ρ' [(2,.pointer (some a_1)),(3,.pointer (some b_1)),(51,reg ((t50.len:Int):Int)),(52,reg t52)]) hh ⟨_,qn ⟨rfl,⟨rfl,⟨rfl,⟨rfl,trivial⟩⟩⟩⟩⟩ ?_
     clear hh
     rintro s2 t52 ρ h ⟨ρ',rfl⟩ hh
     refine .sr (.V (qax rfl rfl) (.nx (.seq ?_)))
     refine CW.cond (decide (t52 < (t50.len:Int))) rfl (fun hb_3=>?_) (fun hb_3=>?_)
     ·exact (hh.1 hb_3).elim
     ·have hh:=hh.2 hb_3
      refine CW.exit ?_
      refine QN.thenExit ?_
      refine QN.thenExit ?_
      refine QN.blockExit ?_
      exact QN.thenJ ⟨_,qn trivial,hh⟩
    ·rintro ρ h ⟨ρ',rfl,hh⟩
     unfold qal.j3 at hh
     refine .sr (.A (reg true) (.nx ?_))
     refine CW.ret ?_
     exact ret1 rfl rfl ⟨(true:Bool),rfl,hh⟩
theorem qbz.ok (a:qa) (b:qa) (k:Bool→H→Prop) (h:H) (hh:qbz.b a b k h):CallsH Prog 42 [reg a,reg b].toArray h fun v h'=>∃ r:Bool,v = reg r∧k r h':=by
 unfold qbz.b at hh
 refine CallsH.of 38 Tryz.func42 rfl Tryz.ntmps42 rfl (fun w0=>?_)
 refine .sr ?_
 refine qy hh (fun a_1 ha_1 hh=>?_)
 refine .e (qan ha_1 rfl rfl rfl ?_)
 refine qy hh (fun b_1 hb_1 hh=>?_)
 refine .e (qan hb_1 rfl rfl rfl ?_)
 refine .A (reg false) (.nx (.seq (.sr (.V (qd qfd rfl) (.L 0 na_3 qcu hh rfl (fun t7 hh=>.V (qd qfd rfl) (.L 0 na_3 qcu hh rfl (fun t9 hh=>.V (qdz rfl rfl) (.M (reg ((t7 != t9):Bool)) (.fv 11 rfl rfl rfl (fun hb=>qd qbw rfl) rfl ?_))))))))))
 obtain ⟨t13,⟨xt13,hxt13,hgt13⟩,hh⟩:=hh
 refine .fv 11 rfl rfl rfl (fun hb=>qc2 (p:=a_1) 1 qdr (gf hb) hxt13 hgt13 qao) rfl (.fv 11 rfl rfl rfl (fun hb=>qag (qde).1 (gf hb)) rfl (.fv 11 rfl rfl rfl (fun hb=>qd qbw rfl) rfl ?_))
 obtain ⟨t16,⟨xt16,hxt16,hgt16⟩,hh⟩:=hh
 refine .fv 11 rfl rfl rfl (fun hb=>qc2 (p:=b_1) 1 qdr (gf hb) hxt16 hgt16 qao) rfl (.fv 11 rfl rfl rfl (fun hb=>qag (qde).1 (gf hb)) rfl (.fv 11 rfl rfl rfl (fun hb=>qdz (gf hb) (gf hb)) rfl (.V (qb2 rfl rfl (fun hb=>gf hb)) (.nx ?_))))
 refine CW.cond ((t7 != t9) || ((t13.len:Int) != (t16.len:Int))) rfl (fun hb=>?_) (fun hb=>?_)
 ·have hh:=hh.1 hb
  refine .sr (.A (reg false) (.nx ?_))
  refine CW.ret ?_
  refine QN.thenRet ?_
  exact ret1 rfl rfl ⟨(false:Bool),rfl,hh⟩
 ·have hh:=hh.2 hb
  refine CW.skip ?_
  refine QN.then_ ?_
  refine CW.join (fun ρ h=>∃ (ρ':Env),ρ = setl ρ' []∧(qbz.j1 k)  h) ?_ ?_
  ·refine .sr (.V (qd qbw rfl) (.L 1 qdr qao hh rfl (fun t21 hh=>.V (qag (qde).1 rfl) (.M (reg ((0:Int):Int)) (.nx ?_)))))
   refine CW.block ?_
   unfold qbz.l1 at hh
   refine CW.loop (fun (σ0:Int) ρ=>match σ0 with | t23=>∃ ρ':Env,ρ = setl ρ' [(2,.pointer (some a_1)),(3,.pointer (some b_1)),(22,reg ((t21.len:Int):Int)),(23,reg t23)]) hh ⟨_,qn ⟨rfl,⟨rfl,⟨rfl,⟨rfl,trivial⟩⟩⟩⟩⟩ ?_
   clear hh
   rintro s1 t23 ρ h ⟨ρ',rfl⟩ hh
   refine .sr (.V (qax rfl rfl) (.nx (.seq ?_)))
   refine CW.cond (decide (t23 < (t21.len:Int))) rfl (fun hb_1=>?_) (fun hb_1=>?_)
   ·have hh:=hh.1 hb_1
    refine CW.skip ?_
    refine QN.then_ ?_
    refine CW.seq ?_
    refine CW.block ?_
    refine .sr (.M (reg t23) (.A (reg t23) (.nx (.seq ?_))))
    refine CW.drawN 11 rfl ym [0,1,2,3,4,5,6,7,8,9,10] ?_
    refine .P 0 rfl (qd qbw rfl) (.KL 1 1 qdr qao rfl hh rfl (fun t27 hh=>.P 2 rfl (qu (v:=reg t23) rfl) ?_))
    obtain ⟨t29,ht29,hh⟩:=hh
    refine .P 3 rfl (qaz qde rfl rfl ht29.1 ht29.2.1 ht29.2.2) (.KA 4 0 ag_82 qeo (fun _=>(yk _)) rfl hh rfl (fun t30 hh=>.P 5 rfl (qd qbw rfl) (.KL 6 1 qdr qao rfl hh rfl (fun t32 hh=>.P 7 rfl (qu (v:=reg t23) rfl) ?_))))
    obtain ⟨t34,ht34,hh⟩:=hh
    refine .P 8 rfl (qaz qde rfl rfl ht34.1 ht34.2.1 ht34.2.2) (.KA 9 0 ag_82 qeo (fun _=>(yk _)) rfl hh rfl (fun t35 hh=>.P 10 rfl (v_ne_st se_82 rfl rfl) ?_))
    refine .done (by kernel_rfl) ?_
    refine QN.then_ ?_
    refine CW.cond (!decide (t30 = t35)) rfl (fun hb_2=>?_) (fun hb_2=>?_)
    ·have hh:=hh.1 hb_2
     refine .sr (.A (reg false) (.nx ?_))
     refine CW.ret ?_
     refine QN.blockRet ?_
     refine QN.thenRet ?_
     refine QN.thenRet ?_
     refine QN.blockRet ?_
     refine QN.thenRet ?_
     exact ret1 rfl rfl ⟨(false:Bool),rfl,hh⟩
    ·have hh:=hh.2 hb_2
     refine CW.skip ?_
     refine QN.blockN ?_
     refine QN.then_ ?_
     refine CW.region ?_
     refine .V (qbp rfl rfl) (.M (reg ((iadd t23 (1:Int)):Int)) ?_)
     refine .nil ?_
     exact QN.thenJ ⟨(iadd t23 (1:Int)),⟨_,qn ⟨rfl,⟨rfl,⟨rfl,⟨rfl,trivial⟩⟩⟩⟩⟩,hh⟩
   ·have hh:=hh.2 hb_1
    refine CW.exit ?_
    refine QN.thenExit ?_
    refine QN.thenExit ?_
    refine QN.blockExit ?_
    exact QN.thenJ ⟨_,qn trivial,hh⟩
  ·rintro ρ h ⟨ρ',rfl,hh⟩
   unfold qbz.j1 at hh
   refine .sr (.A (reg true) (.nx ?_))
   refine CW.ret ?_
   exact ret1 rfl rfl ⟨(true:Bool),rfl,hh⟩
theorem qm.ok               (first : qa        ) (ids : Sl) (off : Int) (keep : Int) (k : Bool → H → Prop) (h : H) (hh : qm.b               first ids off keep k h) : CallsH Prog 4 [reg first, reg ids, reg off, reg keep].toArray h fun v h' => ∃ r : Bool, v = reg r ∧ k r h' := by
 unfold qm.b               at hh
 refine CallsH.of 149 Tryz.func4 rfl Tryz.ntmps4 rfl (fun w0 => ?_)
 refine .sr ?_
 refine qy       hh (fun first_1 hfirst_1 hh => ?_)
 refine .e (qan    hfirst_1 rfl rfl rfl ?_)
 refine .A (reg false) (.nx (.seq (.sr ?_)))
 refine .e (qw      fn_5 rfl rfl hh ?_)
 intro h t19 hh
 refine .V (v_not rfl) (.nx ?_)
 refine CW.cond (!t19) rfl (fun hb => ?_) (fun hb => ?_)
 ·have hh := hh.1 hb
  refine .sr (.A (reg false) (.nx ?_))
  refine CW.ret ?_
  refine QN.thenRet ?_
  exact ret1 rfl rfl ⟨(false : Bool), rfl, hh⟩
 ·have hh := hh.2 hb
  refine CW.skip ?_
  refine QN.then_ ?_
  refine CW.seq ?_
  refine .sr (.V (qd          qbw     rfl) (.L 1 qdr   qao            hh rfl (fun t22 hh => .V (qag      (qde  ).1 rfl) (.V (qd6    rfl rfl) (.M (reg ((decide ((20 : Int) < (t22.len : Int))) : Bool)) (.fv 25 rfl rfl rfl (fun hb => qu     (v := reg (ids : Sl)) rfl) rfl (.fv 25 rfl rfl rfl (fun hb => qag      (sl_48).1 (gf hb)) rfl (.fv 25 rfl rfl rfl (fun hb => qd6    (gf hb) rfl) rfl (.V (qb2       rfl rfl (fun hb => gf hb)) ?_)))))))))
  refine .nx ?_
  refine CW.cond ((decide ((20 : Int) < (t22.len : Int))) || (decide ((4 : Int) < (ids.len : Int)))) rfl (fun hb_1 => ?_) (fun hb_1 => ?_)
  ·have hh := hh.1 hb_1
   refine .sr (.A (reg true) (.nx ?_))
   refine CW.ret ?_
   refine QN.thenRet ?_
   exact ret1 rfl rfl ⟨(true : Bool), rfl, hh⟩
  ·have hh := hh.2 hb_1
   refine CW.skip ?_
   refine QN.then_ ?_
   refine .sr (.A (reg (Sl.nil : Sl)) (.nx (.sr (.LA 0 ag_27 qcg        (fun _ => (qh             _)) hh rfl (fun t30 hh => ?_)))))
   refine .e (qw      fn_13 rfl rfl hh ?_)
   intro h t31 hh
   refine .V (v_not rfl) (.A (reg ((!t31) : Bool)) (.nx ?_))
   refine CW.join (fun ρ h => ∃ (ρ' : Env) (list_4 : Sl) (bad_4 : Bool), ρ = setl ρ' [(1, reg ids), (2, reg off), (3, reg keep), (4, .pointer (some first_1)), (9, reg list_4), (10, reg bad_4)] ∧ (qm.j1               k) ids off keep first_1 list_4 bad_4 h) ?_ ?_
   ·refine .sr (.M (reg ids) (.V (qag      (sl_48).1 rfl) (.M (reg ((0 : Int) : Int)) (.nx ?_))))
    refine CW.block ?_
    unfold qm.l1               at hh
    refine CW.loop (fun (σ0 : Sl × Bool × Int) ρ => match σ0 with | (list, bad, t35) => ∃ ρ' : Env, ρ = setl ρ' [(1, reg ids), (2, reg off), (3, reg keep), (4, .pointer (some first_1)), (33, reg ids), (34, reg ((ids.len : Int) : Int)), (9, reg list), (10, reg bad), (35, reg t35)]) hh ⟨_, qn      ⟨rfl, ⟨rfl, ⟨rfl, ⟨rfl, ⟨rfl, ⟨rfl, ⟨rfl, ⟨rfl, ⟨rfl, trivial⟩⟩⟩⟩⟩⟩⟩⟩⟩⟩ ?_
    clear hh
    rintro s1 ⟨list, bad, t35⟩ ρ h ⟨ρ', rfl⟩ hh
    refine .sr (.V (qax    rfl rfl) (.nx (.seq ?_)))
    refine CW.cond (decide (t35 < (ids.len : Int))) rfl (fun hb_2 => ?_) (fun hb_2 => ?_)
    ·have hh := hh.1 hb_2
     refine CW.skip ?_
     refine QN.then_ ?_
     refine CW.join (fun ρ h => ∃ (ρ' : Env) (list_3 : Sl) (bad_3 : Bool), ρ = setl ρ' [(1, reg ids), (2, reg off), (3, reg keep), (4, .pointer (some first_1)), (9, reg list_3), (10, reg bad_3), (33, reg ids), (34, reg ((ids.len : Int) : Int)), (35, reg t35)] ∧ (qm.j2               s1) ids off keep first_1 list_3 bad_3 ids (ids.len : Int) t35 h) ?_ ?_
     ·refine CW.block ?_
      refine .sr (.M (reg t35) ?_)
      obtain ⟨t38, ht38, hh⟩ := hh
      refine .V (qaz       sl_48 rfl rfl ht38.1 ht38.2.1 ht38.2.2) (.L 0 na_3 get_3_all hh rfl (fun t39 hh => .A (reg t35) (.A (reg t39) (.nx (.sr (.M (reg list) (.M (reg t39) (.M (reg t35) ?_))))))))
      refine .e (qw      fn_14 rfl rfl hh ?_)
      intro h t43 hh
      refine .V (qah      ({ Seed := t43, Height := (1 : Int) } : yw      ) zo_53 pl_53 rfl (qf        rfl rfl (qr      (n := 32) _) (qbk          _) rfl (set_53_Seed _ _) (qf        rfl rfl (qp    _) (qbk          _) rfl (set_53_Height _ _) (rfl))) rfl) ?_
      refine qbd      hh (fun pt45 t45 hpt45 ht45 hh => ?_)
      refine .e (qc1   [(({ Seed := t43, Height := (1 : Int) } : yw      ) : yw      )] hpt45 ht45 zo_53 sl_54 rfl rfl rfl rfl rfl ?_)
      refine .V (qah      ({ Id := t39, Seeds := t45 } : yu      ) zo_56 pl_56 rfl (qf        rfl rfl (qp    _) (qaa          _) rfl (set_56_Id _ _) (qf        rfl rfl (yj     _) (qaa          _) rfl (set_56_Seeds _ _) (rfl))) rfl) ?_
      refine qbd      hh (fun pt47 t47 hpt47 ht47 hh => ?_)
      refine .e (qc1   [(({ Id := t39, Seeds := t45 } : yu      ) : yu      )] hpt47 ht47 zo_56 sl_49 rfl rfl rfl rfl rfl ?_)
      refine .e (e_app sl_49 zo_56 by_56 rfl rfl rfl hh ?_)
      intro h t48 hh
      refine .A (reg t48) (.nx (.sr (.M (reg bad) (.M (reg bad) (.fv 50 rfl rfl rfl (fun hb => qu     (v := reg (t39 : Int)) rfl) rfl (.fv 50 rfl rfl rfl (fun hb => qax    (gf hb) rfl) rfl (.V (qb2       rfl rfl (fun hb => gf hb)) (.M (reg ((bad || (decide (t39 < (1 : Int)))) : Bool)) (.fv 54 rfl rfl rfl (fun hb => qu     (v := reg (t39 : Int)) rfl) rfl (.fv 54 rfl rfl rfl (fun hb => qd6    (gf hb) rfl) rfl ?_))))))))))
      refine .V (qb2       rfl rfl (fun hb => gf hb)) (.A (reg (((bad || (decide (t39 < (1 : Int)))) || (decide ((63 : Int) < t39))) : Bool)) (.nx (.sr (.A (reg ((0 : Int) : Int)) (.nx ?_)))))
      refine CW.block ?_
      unfold qm.l2               at hh
      refine CW.loop (fun (σ0 : Bool × Int) ρ => match σ0 with | (bad_1, kv) => ∃ ρ' : Env, ρ = setl ρ' [(1, reg ids), (2, reg off), (3, reg keep), (4, .pointer (some first_1)), (9, reg t48), (11, reg t35), (12, reg t39), (33, reg ids), (34, reg ((ids.len : Int) : Int)), (35, reg t35), (10, reg bad_1), (13, reg kv)]) hh ⟨_, qn      ⟨rfl, ⟨rfl, ⟨rfl, ⟨rfl, ⟨rfl, ⟨rfl, ⟨rfl, ⟨rfl, ⟨rfl, ⟨rfl, ⟨rfl, ⟨rfl, trivial⟩⟩⟩⟩⟩⟩⟩⟩⟩⟩⟩⟩⟩ ?_
      clear hh
      rintro s2 ⟨bad_1, kv⟩ ρ h ⟨ρ', rfl⟩ hh
      refine CW.seq ?_
      refine .sr (.M (reg kv) (.M (reg t35) (.V (qax    rfl rfl) (.nx ?_))))
      refine CW.cond (decide (kv < t35)) rfl (fun hb_3 => ?_) (fun hb_3 => ?_)
      ·have hh := hh.1 hb_3
       refine CW.skip ?_
       refine QN.then_ ?_
       refine CW.join (fun ρ h => ∃ (ρ' : Env) (bad_2 : Bool), ρ = setl ρ' [(1, reg ids), (2, reg off), (3, reg keep), (4, .pointer (some first_1)), (9, reg t48), (10, reg bad_2), (11, reg t35), (12, reg t39), (13, reg kv), (33, reg ids), (34, reg ((ids.len : Int) : Int)), (35, reg t35)] ∧ (qm.j3               s2) ids off keep first_1 t48 bad_2 t35 t39 kv ids (ids.len : Int) t35 h) ?_ ?_
       ·refine CW.block ?_
        refine CW.region ?_
        refine .M (reg bad_1) (.M (reg bad_1) ?_)
        refine qbl       hh (fun hb_4 hh => ?_) (fun hb_4 hh => ?_)
        ·refine .no 64 rfl (cb hb_4) rfl rfl (.no 64 rfl (cb hb_4) rfl rfl (.no 64 rfl (cb hb_4) rfl rfl (.no 64 rfl (cb hb_4) rfl rfl (.no 64 rfl (cb hb_4) rfl rfl (.no 64 rfl (cb hb_4) rfl rfl (.V (qbx     (v := reg true) rfl hb_4 rfl) (.A (reg true) ?_)))))))
         refine .nil ?_
         refine QN.blockN ?_
         exact QN.thenJ ⟨_, true, qn      ⟨rfl, ⟨rfl, ⟨rfl, ⟨rfl, ⟨rfl, ⟨rfl, ⟨rfl, ⟨rfl, ⟨rfl, ⟨rfl, ⟨rfl, ⟨rfl, trivial⟩⟩⟩⟩⟩⟩⟩⟩⟩⟩⟩⟩, hh⟩
        ·refine .yv 64 rfl (cb hb_4) rfl (qu     (v := reg (ids : Sl)) rfl) rfl (.yv 64 rfl (cb hb_4) rfl (qu     (v := reg (kv : Int)) rfl) rfl ?_)
         obtain ⟨t67, ht67, hh⟩ := hh
         refine .yv 64 rfl (cb hb_4) rfl (qaz       sl_48 rfl rfl ht67.1 ht67.2.1 ht67.2.2) rfl ?_
         obtain ⟨t68, ⟨xt68, hxt68, hgt68⟩, hh⟩ := hh
         refine .yv 64 rfl (cb hb_4) rfl (qc2   (p := t67) 0 na_3 rfl hxt68 hgt68 get_3_all) rfl (.yv 64 rfl (cb hb_4) rfl (qu     (v := reg (t39 : Int)) rfl) rfl (.yv 64 rfl (cb hb_4) rfl (qeh    rfl rfl) rfl (.V (qb0     (v := reg ((t68 == t39) : Bool)) rfl hb_4 rfl) (.A (reg ((t68 == t39) : Bool)) ?_))))
         refine .nil ?_
         refine QN.blockN ?_
         exact QN.thenJ ⟨_, (t68 == t39), qn      ⟨rfl, ⟨rfl, ⟨rfl, ⟨rfl, ⟨rfl, ⟨rfl, ⟨rfl, ⟨rfl, ⟨rfl, ⟨rfl, ⟨rfl, ⟨rfl, trivial⟩⟩⟩⟩⟩⟩⟩⟩⟩⟩⟩⟩, hh⟩
       ·rintro ρ h ⟨ρ', bad_2, rfl, hh⟩
        unfold qm.j3               at hh
        refine CW.region ?_
        refine .M (reg kv) (.V (qbp    rfl rfl) (.A (reg ((iadd kv (1 : Int)) : Int)) ?_))
        refine .nil ?_
        exact QN.thenJ ⟨(bad_2, (iadd kv (1 : Int))), ⟨_, qn      ⟨rfl, ⟨rfl, ⟨rfl, ⟨rfl, ⟨rfl, ⟨rfl, ⟨rfl, ⟨rfl, ⟨rfl, ⟨rfl, ⟨rfl, ⟨rfl, trivial⟩⟩⟩⟩⟩⟩⟩⟩⟩⟩⟩⟩⟩, hh⟩
      ·have hh := hh.2 hb_3
       refine CW.exit ?_
       refine QN.thenExit ?_
       refine QN.thenExit ?_
       refine QN.blockExit ?_
       refine QN.blockN ?_
       exact QN.thenJ ⟨_, t48, bad_1, qn      ⟨rfl, ⟨rfl, ⟨rfl, ⟨rfl, ⟨rfl, ⟨rfl, ⟨rfl, ⟨rfl, ⟨rfl, trivial⟩⟩⟩⟩⟩⟩⟩⟩⟩, hh⟩
     ·rintro ρ h ⟨ρ', list_3, bad_3, rfl, hh⟩
      unfold qm.j2               at hh
      refine CW.region ?_
      refine .V (qbp    rfl rfl) (.M (reg ((iadd t35 (1 : Int)) : Int)) ?_)
      refine .nil ?_
      exact QN.thenJ ⟨(list_3, bad_3, (iadd t35 (1 : Int))), ⟨_, qn      ⟨rfl, ⟨rfl, ⟨rfl, ⟨rfl, ⟨rfl, ⟨rfl, ⟨rfl, ⟨rfl, ⟨rfl, trivial⟩⟩⟩⟩⟩⟩⟩⟩⟩⟩, hh⟩
    ·have hh := hh.2 hb_2
     refine CW.exit ?_
     refine QN.thenExit ?_
     refine QN.thenExit ?_
     refine QN.blockExit ?_
     exact QN.thenJ ⟨_, list, bad, qn      ⟨rfl, ⟨rfl, ⟨rfl, ⟨rfl, ⟨rfl, ⟨rfl, trivial⟩⟩⟩⟩⟩⟩, hh⟩
   ·rintro ρ h ⟨ρ', list_4, bad_4, rfl, hh⟩
    unfold qm.j1               at hh
    refine .sr (.LA 0 ag_27 qcg        (fun _ => (qh             _)) hh rfl (fun t74 hh => .M (reg list_4) ?_))
    refine .e (qw      fn_15 rfl rfl hh ?_)
    intro h t76 hh
    refine .M (reg (t76 : T2 Pt Int)) (.V (qar       (v := reg (t76.a : Pt)) rfl rfl) (.V (qar       (v := reg (t76.b : Int)) rfl rfl) (.A (reg (t76.a : Pt)) (.A (reg (t76.b : Int)) (.nx (.seq (.sr (.M (reg bad_4) (.nx ?_)))))))))
    refine CW.cond bad_4 rfl (fun hb_5 => ?_) (fun hb_5 => ?_)
    ·have hh := hh.1 hb_5
     refine .sr (.M (reg (t76.b : Int)) (.V (qeh    rfl rfl) (.M (reg ((t76.b == (1 : Int)) : Bool)) (.tv 82 rfl rfl rfl (fun hb => qu     (v := reg (t76.a : Pt)) rfl) rfl (.tv 82 rfl rfl rfl (fun hb => qbq      pt_24 (gt hb) rfl) rfl (.V (qd4        rfl (fun hb => gt hb) rfl) (.A (reg (((t76.b == (1 : Int)) && t76.a.isNone) : Bool)) (.nx ?_))))))))
     refine CW.ret ?_
     refine QN.thenRet ?_
     exact ret1 rfl rfl ⟨(((t76.b == (1 : Int)) && t76.a.isNone) : Bool), rfl, hh⟩
    ·have hh := hh.2 hb_5
     refine CW.skip ?_
     refine QN.then_ ?_
     refine CW.seq ?_
     refine .sr (.M (reg (t76.b : Int)) (.V (qdz    rfl rfl) (.nx ?_)))
     refine CW.cond (t76.b != (0 : Int)) rfl (fun hb_6 => ?_) (fun hb_6 => ?_)
     ·have hh := hh.1 hb_6
      refine .sr (.A (reg false) (.nx ?_))
      refine CW.ret ?_
      refine QN.thenRet ?_
      exact ret1 rfl rfl ⟨(false : Bool), rfl, hh⟩
     ·have hh := hh.2 hb_6
      refine CW.skip ?_
      refine QN.then_ ?_
      refine .sr (.M (reg (t76.a : Pt)) (.M (reg off) (.M (reg keep) ?_)))
      refine .e (qw      fn_16 rfl rfl hh ?_)
      intro h t91 hh
      refine .nx (.sr (.A (reg false) (.nx ?_)))
      refine CW.join (fun ρ h => ∃ (ρ' : Env) (there_2 : Bool), ρ = setl ρ' [(2, reg off), (4, .pointer (some first_1)), (14, reg (t76.a : Pt)), (16, reg there_2)] ∧ (qm.j4               k) off first_1 t76.a there_2 h) ?_ ?_
      ·refine .sr (.M (reg ids) (.V (qag      (sl_48).1 rfl) (.M (reg ((0 : Int) : Int)) (.nx ?_))))
       refine CW.block ?_
       unfold qm.l3               at hh
       refine CW.loop (fun (σ0 : Bool × Int) ρ => match σ0 with | (there, t94) => ∃ ρ' : Env, ρ = setl ρ' [(2, reg off), (4, .pointer (some first_1)), (14, reg (t76.a : Pt)), (92, reg ids), (93, reg ((ids.len : Int) : Int)), (16, reg there), (94, reg t94)]) hh ⟨_, qn      ⟨rfl, ⟨rfl, ⟨rfl, ⟨rfl, ⟨rfl, ⟨rfl, ⟨rfl, trivial⟩⟩⟩⟩⟩⟩⟩⟩ ?_
       clear hh
       rintro s3 ⟨there, t94⟩ ρ h ⟨ρ', rfl⟩ hh
       refine .sr (.V (qax    rfl rfl) (.nx (.seq ?_)))
       refine CW.cond (decide (t94 < (ids.len : Int))) rfl (fun hb_7 => ?_) (fun hb_7 => ?_)
       ·have hh := hh.1 hb_7
        refine CW.skip ?_
        refine QN.then_ ?_
        refine CW.seq ?_
        refine CW.block ?_
        refine .sr ?_
        obtain ⟨t96, ht96, hh⟩ := hh
        refine .V (qaz       sl_48 rfl rfl ht96.1 ht96.2.1 ht96.2.2) (.L 0 na_3 get_3_all hh rfl (fun t97 hh => .A (reg t97) (.nx (.sr (.M (reg there) (.M (reg there) (.fv 99 rfl rfl rfl (fun hb => qu     (v := reg (t97 : Int)) rfl) rfl (.fv 99 rfl rfl rfl (fun hb => qu     (v := reg (off : Int)) rfl) rfl (.fv 99 rfl rfl rfl (fun hb => qeh    (gf hb) (gf hb)) rfl (.V (qb2       rfl rfl (fun hb => gf hb)) ?_))))))))))
        refine .A (reg ((there || (t97 == off)) : Bool)) (.nx ?_)
        refine CW.join (fun ρ h => ∃ (ρ' : Env) (t118 : Bool), ρ = setl ρ' [(2, reg off), (4, .pointer (some first_1)), (14, reg (t76.a : Pt)), (16, reg ((there || (t97 == off)) : Bool)), (92, reg ids), (93, reg ((ids.len : Int) : Int)), (94, reg t94), (118, reg t118)] ∧ (qm.j5               k s3) off first_1 t76.a (there || (t97 == off)) ids (ids.len : Int) t94 t118 h) ?_ ?_
        ·refine CW.region ?_
         refine .M (reg t97) (.M (reg off) (.V (qdz    rfl rfl) (.M (reg ((t97 != off) : Bool)) ?_)))
         refine qbl       hh (fun hb_8 hh => ?_) (fun hb_8 hh => ?_)
         ·refine .yv 107 rfl (cb hb_8) rfl (qu     (v := reg (t76.a : Pt)) rfl) rfl (.yv 107 rfl (cb hb_8) rfl (qu     (v := reg (t97 : Int)) rfl) rfl ?_)
          refine .ye 107 rfl (cb hb_8) rfl (qw      fn_11 rfl rfl hh ?_)
          intro h t110 hh
          refine .yv 107 rfl (cb hb_8) rfl (qbq      pt_44 rfl rfl) rfl (.yv 107 rfl (cb hb_8) rfl (qu     (v := reg (t110.isNone : Bool)) rfl) rfl ?_)
          refine qbl       hh (fun hb_9 hh => ?_) (fun hb_9 hh => ?_)
          ·refine .no 112 rfl (cb hb_9) rfl rfl (.no 112 rfl (cb hb_9) rfl rfl (.no 112 rfl (cb hb_9) rfl rfl (.no 112 rfl (cb hb_9) rfl rfl (.yv 107 rfl (cb hb_8) rfl (qbx     (v := reg (true : Bool)) rfl hb_9 rfl) rfl (.V (qbx     (v := reg true) rfl hb_8 rfl) ?_)))))
           refine .nil ?_
           exact QN.thenJ ⟨_, true, qn      ⟨rfl, ⟨rfl, ⟨rfl, ⟨rfl, ⟨rfl, ⟨rfl, ⟨rfl, ⟨rfl, trivial⟩⟩⟩⟩⟩⟩⟩⟩, hh⟩
          ·refine .yv 112 rfl (cb hb_9) rfl (qu     (v := reg (t76.a : Pt)) rfl) rfl (.yv 112 rfl (cb hb_9) rfl (qu     (v := reg (t97 : Int)) rfl) rfl ?_)
           refine .ye 112 rfl (cb hb_9) rfl (qw      fn_17 rfl rfl hh ?_)
           intro h t115 hh
           refine .yv 112 rfl (cb hb_9) rfl (qbq      pt_59 rfl rfl) rfl (.yv 107 rfl (cb hb_8) rfl (qb0     (v := reg (t115.isNone : Bool)) rfl hb_9 rfl) rfl (.V (qbx     (v := reg (t115.isNone : Bool)) rfl hb_8 rfl) ?_))
           refine .nil ?_
           exact QN.thenJ ⟨_, t115.isNone, qn      ⟨rfl, ⟨rfl, ⟨rfl, ⟨rfl, ⟨rfl, ⟨rfl, ⟨rfl, ⟨rfl, trivial⟩⟩⟩⟩⟩⟩⟩⟩, hh⟩
         ·refine .no 107 rfl (cb hb_8) rfl rfl (.no 107 rfl (cb hb_8) rfl rfl (.no 107 rfl (cb hb_8) rfl rfl (.no 107 rfl (cb hb_8) rfl rfl (.no 107 rfl (cb hb_8) rfl rfl (.nu 112 rfl rfl rfl rfl (.nu 112 rfl rfl rfl rfl (.nu 112 rfl rfl rfl rfl (.nu 112 rfl rfl rfl rfl (.no 107 rfl (cb hb_8) rfl rfl ?_)))))))))
          refine .V (qb0     (v := reg false) rfl hb_8 rfl) ?_
          refine .nil ?_
          exact QN.thenJ ⟨_, false, qn      ⟨rfl, ⟨rfl, ⟨rfl, ⟨rfl, ⟨rfl, ⟨rfl, ⟨rfl, ⟨rfl, trivial⟩⟩⟩⟩⟩⟩⟩⟩, hh⟩
        ·rintro ρ h ⟨ρ', t118, rfl, hh⟩
         unfold qm.j5               at hh
         refine CW.cond t118 rfl (fun hb_10 => ?_) (fun hb_10 => ?_)
         ·have hh := hh.1 hb_10
          refine .sr (.A (reg false) (.nx ?_))
          refine CW.ret ?_
          refine QN.blockRet ?_
          refine QN.thenRet ?_
          refine QN.thenRet ?_
          refine QN.blockRet ?_
          refine QN.thenRet ?_
          exact ret1 rfl rfl ⟨(false : Bool), rfl, hh⟩
         ·have hh := hh.2 hb_10
          refine CW.skip ?_
          refine QN.blockN ?_
          refine QN.then_ ?_
          refine CW.region ?_
          refine .V (qbp    rfl rfl) (.M (reg ((iadd t94 (1 : Int)) : Int)) ?_)
          refine .nil ?_
          exact QN.thenJ ⟨((there || (t97 == off)), (iadd t94 (1 : Int))), ⟨_, qn      ⟨rfl, ⟨rfl, ⟨rfl, ⟨rfl, ⟨rfl, ⟨rfl, ⟨rfl, trivial⟩⟩⟩⟩⟩⟩⟩⟩, hh⟩
       ·have hh := hh.2 hb_7
        refine CW.exit ?_
        refine QN.thenExit ?_
        refine QN.thenExit ?_
        refine QN.blockExit ?_
        exact QN.thenJ ⟨_, there, qn      ⟨rfl, ⟨rfl, ⟨rfl, ⟨rfl, trivial⟩⟩⟩⟩, hh⟩
      ·rintro ρ h ⟨ρ', there_2, rfl, hh⟩
       unfold qm.j4               at hh
       refine CW.seq ?_
       refine .sr (.M (reg (t76.a : Pt)) (.M (reg off) ?_))
       refine .e (qw      fn_11 rfl rfl hh ?_)
       intro h t122 hh
       refine .V (v_ne_nil pt_44 rfl rfl) (.nx ?_)
       refine CW.cond t122.isSome rfl (fun hb_11 => ?_) (fun hb_11 => ?_)
       ·have hh := hh.1 hb_11
        refine .sr (.A (reg false) (.nx ?_))
        refine CW.ret ?_
        refine QN.thenRet ?_
        exact ret1 rfl rfl ⟨(false : Bool), rfl, hh⟩
       ·have hh := hh.2 hb_11
        refine CW.skip ?_
        refine QN.then_ ?_
        refine .sr (.M (reg (t76.a : Pt)) (.M (reg off) ?_))
        refine .e (qw      fn_18 rfl rfl hh ?_)
        intro h t126 hh
        refine .A (reg t126) (.nx (.seq (.sr (.M (reg there_2) (.V (v_not rfl) (.nx ?_))))))
        refine CW.cond (!there_2) rfl (fun hb_12 => ?_) (fun hb_12 => ?_)
        ·have hh := hh.1 hb_12
         refine .sr (.M (reg t126) (.V (qeh    rfl rfl) (.A (reg ((t126 == (7 : Int)) : Bool)) (.nx ?_))))
         refine CW.ret ?_
         refine QN.thenRet ?_
         exact ret1 rfl rfl ⟨((t126 == (7 : Int)) : Bool), rfl, hh⟩
        ·have hh := hh.2 hb_12
         refine CW.skip ?_
         refine QN.then_ ?_
         refine CW.join (fun ρ h => ∃ (ρ' : Env) (t8 : Bool), ρ = setl ρ' [(8, reg t8)] ∧ (qm.j6               k) t8 h) ?_ ?_
         ·refine CW.drawN 19 rfl ym            [0, 1, 2, 3, 4, 7, 8, 9, 10, 11, 14, 15, 17, 18] ?_
          refine .P 0 rfl (qu     (v := reg t126) rfl) (.P 1 rfl (qeh    rfl rfl) (.P 2 rfl (qu     (v := reg ((t126 == (0 : Int)) : Bool)) rfl) ?_))
          refine qbl       hh (fun hb_13 hh => ?_) (fun hb_13 hh => ?_)
          ·refine .Y 3 133 rfl (cb hb_13) (qu     (v := reg (t76.a : Pt)) rfl) (.Y 4 133 rfl (cb hb_13) (qu     (v := reg off) rfl) ?_)
           refine .w 5 (by kernel_rfl) rfl (by kernel_rfl) (.ye 133 rfl (cb hb_13) rfl (qw      fn_11 rfl rfl hh ?_))
           intro h t136 hh
           refine ⟨trivial, ?_⟩
           refine .w 6 (by kernel_rfl) rfl (by kernel_rfl) (.ye 133 rfl (cb hb_13) rfl (qw      fn_12 rfl rfl hh ?_))
           intro h t137 hh
           refine ⟨trivial, ?_⟩
           refine .Y 7 133 rfl (cb hb_13) (qeh    rfl rfl) (.P 8 rfl (qbx     (v := reg ((t137 == (0 : Int)) : Bool)) rfl hb_13 rfl) (.P 9 rfl (qu     (v := reg ((t137 == (0 : Int)) : Bool)) rfl) ?_))
           refine qbl       hh (fun hb_14 hh => ?_) (fun hb_14 hh => ?_)
           ·refine .Y 10 140 rfl (cb hb_14) (qu     (v := reg (t76.a : Pt)) rfl) (.Y 11 140 rfl (cb hb_14) (qu     (v := reg off) rfl) ?_)
            obtain ⟨t145, ⟨xt145, hxt145, hgt145⟩, hh⟩ := hh
            refine .YK 14 140 (fun h' => ∃ x : qa        , AtH h' first_1 (enc x) ∧ ((fun (x : qa        ) => x) : qa         → qa        ) x = t145) rfl (cb hb_14) ⟨xt145, hxt145, hgt145⟩ (fun h' hS => hS.elim fun _ hS => v_ldA (p := first_1) 0 ag_27 rfl hS.1 hS.2 qcg        (fun _ => (qh             _)) (fun _ => rfl)) (.Y 15 140 rfl (cb hb_14) (qah      ({ qb.zero        with Config := t145 } : qb       ) zo_65 pl_65 rfl (qf        rfl rfl (qh             _) (qt            _) rfl (set_65_Config _ _) (rfl)) rfl) ?_)
            refine .w 12 (by kernel_rfl) rfl (by kernel_rfl) (.ye 140 rfl (cb hb_14) rfl (qw      fn_11 rfl rfl hh ?_))
            intro h t143 hh
            obtain ⟨hc, hh⟩ := hh
            refine ⟨⟨trivial, .inr hc⟩, ?_⟩
            refine .w 13 (by kernel_rfl) rfl (by kernel_rfl) (.ye 140 rfl (cb hb_14) rfl (qw      fn_20 rfl rfl hh ?_))
            intro h t144 hh
            obtain ⟨hc_1, hh⟩ := hh
            refine ⟨⟨trivial, .inr hc_1⟩, ?_⟩
            refine .w 16 (by kernel_rfl) rfl (by kernel_rfl) (.ye 140 rfl (cb hb_14) rfl (qw      fn_19 rfl rfl hh ?_))
            intro h t147 hh
            refine ⟨⟨trivial, .inl (by kernel_rfl)⟩, ?_⟩
            refine .P 17 rfl (qbx     (v := reg t147) rfl hb_14 rfl) (.P 18 rfl (qad      (v := reg t147) rfl) ?_)
            refine .done (by kernel_rfl) ?_
            exact QN.thenJ ⟨_, t147, qn      ⟨rfl, trivial⟩, hh⟩
           ·refine .N 10 140 rfl (cb hb_14) (.N 11 140 rfl (cb hb_14) (.N 14 140 rfl (cb hb_14) (.N 15 140 rfl (cb hb_14) ?_)))
            refine .w 12 (by kernel_rfl) rfl (by kernel_rfl) (.no 140 rfl (cb hb_14) rfl rfl ⟨trivial, ?_⟩)
            refine .w 13 (by kernel_rfl) rfl (by kernel_rfl) (.no 140 rfl (cb hb_14) rfl rfl ⟨trivial, ?_⟩)
            refine .w 16 (by kernel_rfl) rfl (by kernel_rfl) (.no 140 rfl (cb hb_14) rfl rfl ⟨trivial, ?_⟩)
            refine .P 17 rfl (qb0     (v := reg false) rfl hb_14 rfl) (.P 18 rfl (qad      (v := reg false) rfl) ?_)
            refine .done (by kernel_rfl) ?_
            exact QN.thenJ ⟨_, false, qn      ⟨rfl, trivial⟩, hh⟩
          ·refine .N 3 133 rfl (cb hb_13) (.N 4 133 rfl (cb hb_13) ?_)
           refine .w 5 (by kernel_rfl) rfl (by kernel_rfl) (.no 133 rfl (cb hb_13) rfl rfl ⟨trivial, ?_⟩)
           refine .w 6 (by kernel_rfl) rfl (by kernel_rfl) (.no 133 rfl (cb hb_13) rfl rfl ⟨trivial, ?_⟩)
           refine .N 7 133 rfl (cb hb_13) (.P 8 rfl (qb0     (v := reg false) rfl hb_13 rfl) (.P 9 rfl (qu     (v := reg false) rfl) (.N 10 140 rfl rfl (.N 11 140 rfl rfl (.N 14 140 rfl rfl (.N 15 140 rfl rfl ?_))))))
           refine .w 12 (by kernel_rfl) rfl (by kernel_rfl) (.no 140 rfl rfl rfl rfl ⟨trivial, ?_⟩)
           refine .w 13 (by kernel_rfl) rfl (by kernel_rfl) (.no 140 rfl rfl rfl rfl ⟨trivial, ?_⟩)
           refine .w 16 (by kernel_rfl) rfl (by kernel_rfl) (.no 140 rfl rfl rfl rfl ⟨trivial, ?_⟩)
           refine .P 17 rfl (qb0     (v := reg false) rfl rfl rfl) (.P 18 rfl (qad      (v := reg false) rfl) ?_)
           refine .done (by kernel_rfl) ?_
           exact QN.thenJ ⟨_, false, qn      ⟨rfl, trivial⟩, hh⟩
         ·rintro ρ h ⟨ρ', t8, rfl, hh⟩
          unfold qm.j6               at hh
          refine CW.ret ?_
          exact ret1 rfl rfl ⟨(t8 : Bool), rfl, hh⟩
theorem qa2.ok (c:qa) (k:Bool→H→Prop) (h:H) (hh:qa2.b c k h):CallsH Prog 13 [reg c].toArray h fun v h'=>∃ r:Bool,v = reg r∧k r h':=by
 unfold qa2.b at hh
 refine CallsH.of 51 Tryz.func13 rfl Tryz.ntmps13 rfl (fun w0=>?_)
 refine .sr ?_
 refine qy hh (fun c_1 hc_1 hh=>?_)
 refine .e (qan hc_1 rfl rfl rfl ?_)
 refine .A (reg false) (.nx (.sr (.V (qd qbw rfl) (.L 1 qdr qao hh rfl (fun t7 hh=>.V (qag (qde).1 rfl) (.A (reg ((t7.len:Int):Int)) (.nx (.seq (.sr (.V (qd qfd rfl) (.L 0 na_3 qcu hh rfl (fun t10 hh=>?_))))))))))))
 refine .V (qax rfl rfl) (.M (reg ((decide (t10 < (0:Int))):Bool)) (.fv 12 rfl rfl rfl (fun hb=>qd qfd rfl) rfl ?_))
 obtain ⟨t14,⟨xt14,hxt14,hgt14⟩,hh⟩:=hh
 refine .fv 12 rfl rfl rfl (fun hb=>qc2 (p:=c_1) 0 na_3 (gf hb) hxt14 hgt14 qcu) rfl (.fv 12 rfl rfl rfl (fun hb=>qd6 (gf hb) rfl) rfl (.V (qb2 rfl rfl (fun hb=>gf hb)) (.M (reg (((decide (t10 < (0:Int))) || (decide ((1073741824:Int) < t14))):Bool)) (.fv 17 rfl rfl rfl (fun hb=>qu (v:=reg ((t7.len:Int):Int)) rfl) rfl (.fv 17 rfl rfl rfl (fun hb=>qax (gf hb) rfl) rfl (.V (qb2 rfl rfl (fun hb=>gf hb)) (.M (reg ((((decide (t10 < (0:Int))) || (decide ((1073741824:Int) < t14))) || (decide ((t7.len:Int) < (1:Int)))):Bool)) (.fv 21 rfl rfl rfl (fun hb=>qu (v:=reg ((t7.len:Int):Int)) rfl) rfl (.fv 21 rfl rfl rfl (fun hb=>qd6 (gf hb) rfl) rfl ?_)))))))))
 refine .V (qb2 rfl rfl (fun hb=>gf hb)) (.nx ?_)
 refine CW.cond ((((decide (t10 < (0:Int))) || (decide ((1073741824:Int) < t14))) || (decide ((t7.len:Int) < (1:Int)))) || (decide ((10:Int) < (t7.len:Int)))) rfl (fun hb=>?_) (fun hb=>?_)
 ·have hh:=hh.1 hb
  refine .sr (.A (reg false) (.nx ?_))
  refine CW.ret ?_
  refine QN.thenRet ?_
  exact ret1 rfl rfl ⟨(false:Bool),rfl,hh⟩
 ·have hh:=hh.2 hb
  refine CW.skip ?_
  refine QN.then_ ?_
  refine CW.join (fun ρ h=>∃ (ρ':Env),ρ = setl ρ' []∧(qa2.j1 k)  h) ?_ ?_
  ·refine .sr (.V (qd qbw rfl) (.L 1 qdr qao hh rfl (fun t26 hh=>.V (qag (qde).1 rfl) (.M (reg ((0:Int):Int)) (.nx ?_)))))
   refine CW.block ?_
   unfold qa2.l1 at hh
   refine CW.loop (fun (σ0:Int) ρ=>match σ0 with | t28=>∃ ρ':Env,ρ = setl ρ' [(1,.pointer (some c_1)),(26,reg t26),(27,reg ((t26.len:Int):Int)),(28,reg t28)]) hh ⟨_,qn ⟨rfl,⟨rfl,⟨rfl,⟨rfl,trivial⟩⟩⟩⟩⟩ ?_
   clear hh
   rintro s1 t28 ρ h ⟨ρ',rfl⟩ hh
   refine .sr (.V (qax rfl rfl) (.nx (.seq ?_)))
   refine CW.cond (decide (t28 < (t26.len:Int))) rfl (fun hb_1=>?_) (fun hb_1=>?_)
   ·have hh:=hh.1 hb_1
    refine CW.skip ?_
    refine QN.then_ ?_
    refine CW.seq ?_
    refine CW.block ?_
    refine .sr (.M (reg t28) ?_)
    obtain ⟨t31,ht31,hh⟩:=hh
    refine .V (qaz qde rfl rfl ht31.1 ht31.2.1 ht31.2.2) (.LA 0 ag_82 qeo (fun _=>(yk _)) hh rfl (fun t32 hh=>?_))
    refine qy hh (fun m hm hh=>?_)
    refine .e (qaq hm zo_82 rfl ?_)
    refine .A (reg t28) (.S (t32:qj) 0 sz_82 (qfb _) yk (yk _) (fun x=>set_82_all x (t32:qj)) hh rfl rfl (fun _ hh=>.nx (.seq (.sr (.LA 0 ag_82 qeo (fun _=>(yk _)) hh rfl (fun t33 hh=>?_))))))
    refine .e (qw fn_34 rfl rfl hh ?_)
    intro h t34 hh
    refine .V (v_not rfl) (.nx ?_)
    refine CW.cond (!t34) rfl (fun hb_2=>?_) (fun hb_2=>?_)
    ·have hh:=hh.1 hb_2
     refine .sr (.A (reg false) (.nx ?_))
     refine CW.ret ?_
     refine QN.thenRet ?_
     refine QN.blockRet ?_
     refine QN.thenRet ?_
     refine QN.thenRet ?_
     refine QN.blockRet ?_
     refine QN.thenRet ?_
     exact ret1 rfl rfl ⟨(false:Bool),rfl,hh⟩
    ·have hh:=hh.2 hb_2
     refine CW.skip ?_
     refine QN.then_ ?_
     refine CW.join (fun ρ h=>∃ (ρ':Env) (t49:Bool),ρ = setl ρ' [(1,.pointer (some c_1)),(26,reg t26),(27,reg ((t26.len:Int):Int)),(28,reg t28),(49,reg t49)]∧(qa2.j2 k s1) c_1 t26 (t26.len:Int) t28 t49 h) ?_ ?_
     ·refine CW.drawN 14 rfl ym [0,1,2,3,4,5,6,7,8,9,10,11,12,13] ?_
      refine .P 0 rfl (qu (v:=reg t28) rfl) (.P 1 rfl (qd6 rfl rfl) (.P 2 rfl (qu (v:=reg ((decide ((0:Int) < t28)):Bool)) rfl) ?_))
      refine qbl hh (fun hb_3 hh=>?_) (fun hb_3 hh=>?_)
      ·refine .Y 3 38 rfl (cb hb_3) (qd qe6 rfl) (.YL 4 38 0 na_3 qd8 rfl (cb hb_3) hh rfl (fun t40 hh=>.Y 5 38 rfl (cb hb_3) (qd qbw rfl) (.YL 6 38 1 qdr qao rfl (cb hb_3) hh rfl (fun t42 hh=>.Y 7 38 rfl (cb hb_3) (qu (v:=reg t28) rfl) (.Y 8 38 rfl (cb hb_3) (v_isub rfl rfl) ?_)))))
       obtain ⟨t45,ht45,hh⟩:=hh
       refine .Y 9 38 rfl (cb hb_3) (qaz qde rfl rfl ht45.1 ht45.2.1 ht45.2.2) (.Y 10 38 rfl (cb hb_3) (qd qe6 rfl) (.YL 11 38 0 na_3 qd8 rfl (cb hb_3) hh rfl (fun t47 hh=>.Y 12 38 rfl (cb hb_3) (v_ileq rfl rfl) (.P 13 rfl (qbx (v:=reg ((decide (t40≤t47)):Bool)) rfl hb_3 rfl) ?_))))
       refine .done (by kernel_rfl) ?_
       exact QN.thenJ ⟨_,(decide (t40≤t47)),qn ⟨rfl,⟨rfl,⟨rfl,⟨rfl,⟨rfl,trivial⟩⟩⟩⟩⟩,hh⟩
      ·refine .N 3 38 rfl (cb hb_3) (.N 4 38 rfl (cb hb_3) (.N 5 38 rfl (cb hb_3) (.N 6 38 rfl (cb hb_3) (.N 7 38 rfl (cb hb_3) (.N 8 38 rfl (cb hb_3) (.N 9 38 rfl (cb hb_3) (.N 10 38 rfl (cb hb_3) (.N 11 38 rfl (cb hb_3) (.N 12 38 rfl (cb hb_3) ?_)))))))))
       refine .P 13 rfl (qb0 (v:=reg false) rfl hb_3 rfl) ?_
       refine .done (by kernel_rfl) ?_
       exact QN.thenJ ⟨_,false,qn ⟨rfl,⟨rfl,⟨rfl,⟨rfl,⟨rfl,trivial⟩⟩⟩⟩⟩,hh⟩
     ·rintro ρ h ⟨ρ',t49,rfl,hh⟩
      unfold qa2.j2 at hh
      refine CW.cond t49 rfl (fun hb_4=>?_) (fun hb_4=>?_)
      ·have hh:=hh.1 hb_4
       refine .sr (.A (reg false) (.nx ?_))
       refine CW.ret ?_
       refine QN.blockRet ?_
       refine QN.thenRet ?_
       refine QN.thenRet ?_
       refine QN.blockRet ?_
       refine QN.thenRet ?_
       exact ret1 rfl rfl ⟨(false:Bool),rfl,hh⟩
      ·have hh:=hh.2 hb_4
       refine CW.skip ?_
       refine QN.blockN ?_
       refine QN.then_ ?_
       refine CW.region ?_
       refine .V (qbp rfl rfl) (.M (reg ((iadd t28 (1:Int)):Int)) ?_)
       refine .nil ?_
       exact QN.thenJ ⟨(iadd t28 (1:Int)),⟨_,qn ⟨rfl,⟨rfl,⟨rfl,⟨rfl,trivial⟩⟩⟩⟩⟩,hh⟩
   ·have hh:=hh.2 hb_1
    refine CW.exit ?_
    refine QN.thenExit ?_
    refine QN.thenExit ?_
    refine QN.blockExit ?_
    exact QN.thenJ ⟨_,qn trivial,hh⟩
  ·rintro ρ h ⟨ρ',rfl,hh⟩
   unfold qa2.j1 at hh
   refine .sr (.A (reg true) (.nx ?_))
   refine CW.ret ?_
   exact ret1 rfl rfl ⟨(true:Bool),rfl,hh⟩
theorem qfi.ok (m:qj) (k:Bool→H→Prop) (h:H) (hh:qfi.b m k h):CallsH Prog 34 [reg m].toArray h fun v h'=>∃ r:Bool,v = reg r∧k r h':=by
 unfold qfi.b at hh
 refine CallsH.of 23 Tryz.func34 rfl Tryz.ntmps34 rfl (fun w0=>?_)
 refine .sr ?_
 refine qy hh (fun m_1 hm_1 hh=>?_)
 refine .e (qan hm_1 rfl rfl rfl ?_)
 refine .A (reg false) (.nx (.sr (.V (qd qe6 rfl) (.L 0 na_3 qd8 hh rfl (fun t4 hh=>.V (qd6 rfl rfl) (.M (reg ((decide ((0:Int) < t4)):Bool)) (.tv 6 rfl rfl rfl (fun hb=>qd qe6 rfl) rfl ?_)))))))
 obtain ⟨t8,⟨xt8,hxt8,hgt8⟩,hh⟩:=hh
 refine .tv 6 rfl rfl rfl (fun hb=>qc2 (p:=m_1) 0 na_3 (gt hb) hxt8 hgt8 qd8) rfl (.tv 6 rfl rfl rfl (fun hb=>qax (gt hb) rfl) rfl (.V (qd4 rfl (fun hb=>gt hb) rfl) (.M (reg (((decide ((0:Int) < t4)) && (decide (t8 < (64:Int)))):Bool)) (.tv 11 rfl rfl rfl (fun hb=>qd fl_82_1 rfl) rfl (.tv 11 rfl rfl rfl (fun hb=>qd fl_33_1 (gt hb)) rfl ?_)))))
 obtain ⟨t14,⟨xt14,hxt14,hgt14⟩,hh⟩:=hh
 refine .tv 11 rfl rfl rfl (fun hb=>qc2 (p:=m_1) 33 na_3 (gt hb) hxt14 hgt14 qdq) rfl (.tv 11 rfl rfl rfl (fun hb=>v_igeq (gt hb) rfl) rfl (.V (qd4 rfl (fun hb=>gt hb) rfl) (.M (reg ((((decide ((0:Int) < t4)) && (decide (t8 < (64:Int)))) && (decide ((0:Int)≤t14))):Bool)) (.tv 17 rfl rfl rfl (fun hb=>qd fl_82_1 rfl) rfl (.tv 17 rfl rfl rfl (fun hb=>qd fl_33_1 (gt hb)) rfl ?_)))))
 obtain ⟨t20,⟨xt20,hxt20,hgt20⟩,hh⟩:=hh
 refine .tv 17 rfl rfl rfl (fun hb=>qc2 (p:=m_1) 33 na_3 (gt hb) hxt20 hgt20 qdq) rfl (.tv 17 rfl rfl rfl (fun hb=>qax (gt hb) rfl) rfl (.V (qd4 rfl (fun hb=>gt hb) rfl) (.A (reg (((((decide ((0:Int) < t4)) && (decide (t8 < (64:Int)))) && (decide ((0:Int)≤t14))) && (decide (t20 < (7:Int)))):Bool)) (.nx ?_))))
 refine CW.ret ?_
 exact ret1 rfl rfl ⟨(((((decide ((0:Int) < t4)) && (decide (t8 < (64:Int)))) && (decide ((0:Int)≤t14))) && (decide (t20 < (7:Int)))):Bool),rfl,hh⟩
theorem qfm.ok (id:Int) (n:Int) (k:(Arr 32 UInt8)→H→Prop) (h:H) (hh:qfm.b id n k h):CallsH Prog 14 [reg id,reg n].toArray h fun v h'=>∃ r:Arr 32 UInt8,v = reg r∧k r h':=by
 unfold qfm.b at hh
 refine CallsH.of 10 Tryz.func14 rfl Tryz.ntmps14 rfl (fun w0=>?_)
 refine .sr ?_
 refine qy hh (fun t4 ht4 hh=>?_)
 refine .e (qaq ht4 qdd rfl ?_)
 refine .nx (.sr (.M (reg id) (.V (v_conv_u8 un_3 un_5 rfl) (.M (reg n) (.V (v_conv_u8 un_3 un_5 rfl) (.V (v_buildAT (arrOf [(toU8 id),(toU8 n),(77:UInt8),0,0,0,0,0,0,0,0,0,0,0,0,0,0,0,0,0,0,0,0,0,0,0,0,0,0,0,0,0]:Arr 32 UInt8) qdd ar_31 rfl rfl rfl) (.S ((arrOf [(toU8 id),(toU8 n),(77:UInt8),0,0,0,0,0,0,0,0,0,0,0,0,0,0,0,0,0,0,0,0,0,0,0,0,0,0,0,0,0]:Arr 32 UInt8):Arr 32 UInt8) 0 sz_31 (qb5 (n:=32) (fun _=>rfl) _) (fun _=>qr (n:=32) _) (qr (n:=32) _) (fun x=>qcw x ((arrOf [(toU8 id),(toU8 n),(77:UInt8),0,0,0,0,0,0,0,0,0,0,0,0,0,0,0,0,0,0,0,0,0,0,0,0,0,0,0,0,0]:Arr 32 UInt8):Arr 32 UInt8)) hh rfl rfl (fun _ hh=>.nx ?_))))))))
 refine CW.ret ?_
 obtain ⟨r4,⟨xr4,hxr4,hgr4⟩,hh⟩:=hh
 have hr4:=qc3 hxr4 hgr4
 exact retc rfl rfl qco hr4 (qr (n:=32) _) ⟨(r4:Arr 32 UInt8),rfl,hh⟩
end Go.Proofs.YtmpmildpioebhaaGreatDoor
namespace Go.Vm
open Go Go.Sh
open Go.Sh.Ty (reg)
section
variable {P:Program} {w0:World} {nt:Nat} {X:Cx} {T:Tb} {θ:Th} {hp:Hp} {h:H} {ρ:Env}
def res1 (tmps:Array Value):ResultVar→Sem Value
 | .tmp t=>pure (tmps.getD t undef)
 | .cell c t=>do loadVar t (← asAddr (tmps.getD c undef))
def RsRun (P:Program) (w0:World) (nt:Nat) (ρ:Env) (h:H) (rs:List ResultVar) (vs:List Value):Prop:=
 ∀ a w,St ⟨P,w0,nt⟩ ρ h a w→(rs.mapM (res1 a.tmps)).run P w = .ok vs w
theorem loadVar_run (hT : TbOk P T) (S : SR X θ hp h) {t : Nat} {ty : TypeId} {a : AV} (ha : RV θ a (ρ t)) (hn : (ldQ T ty).f a hp ≠ .er) :
    ∃ V p, ρ t = .pointer (some p) ∧ RV θ ((ldQ T ty).f a hp) V ∧ ∀ w : World, w.heap = h → (loadVar ty p).run P w = .ok V w := by
  obtain ⟨V, h1, h2⟩ := ldQ_ok (C := ⟨P, default, 0⟩) (ρ := ρ) (ty := 0) (x := .tmp t) hT S ha hn
  have hp' : ∃ p, ρ t = .pointer (some p) := by
    cases a <;> first
      | (exfalso; apply hn; unfold ldQ; cases aggT T ty <;> cases sclT T ty <;> rfl)
      | skip
    obtain ⟨b, o0, tt, hr, e⟩ := ha.ra (v := .p _ _) trivial
    exact ⟨_, e⟩
  obtain ⟨p, hp'⟩ := hp'
  refine ⟨V, p, hp', h2, fun w hw => ?_⟩
  have := h1 w hw "" #[] none none
  have e1 : ev ρ (.tmp t) = .pointer (some p) := hp'
  simp only [execOp, e1, Instr.loadAt, Instr.sureAddr, Sem.run_bind, Sem.run_pure, Result.andThen_ok] at this
  revert this
  cases hl : (loadVar ty p).run P w with
  | ok v w' => intro this; simp only [Result.andThen_ok] at this; injection this with e1 e2; injection e1 with e1; subst e1; subst e2; rfl
  | _ => intro this; cases this
def RVl (θ:Th):List AV→List Value→Prop
 | [],vs=>vs = []
 | a :: l,vs=>∃ V r,vs = V :: r∧RV θ a V∧RVl θ l r
theorem RVl.rvs:∀ {l:List AV} {vs:List Value},RVl θ l vs→okAs l = true→RVs θ l vs
 | [],_,h,_=>h
 | a :: l,_,⟨V,r,e,h1,h2⟩,ho=>by
  obtain ⟨o1,o2⟩:=okAs_cons ho
  exact ⟨V,r,e,okA_rv1 h1 o1,RVl.rvs h2 o2⟩
theorem RVl.cons {a:AV} {l:List AV} {V:Value} {vs:List Value} (h:RV θ a V) (h':RVl θ l vs):RVl θ (a :: l) (V :: vs):=⟨V,vs,rfl,h,h'⟩
theorem RsRun.cons {r:ResultVar} {rs:List ResultVar} {V:Value} {vs:List Value} (h1:∀ a w,St ⟨P,w0,nt⟩ ρ h a w→(res1 a.tmps r).run P w = .ok V w) (h2:RsRun P w0 nt ρ h rs vs):RsRun P w0 nt ρ h (r :: rs) (V :: vs):=by
 intro a w s
 have e1:=h1 a w s
 have e2:=h2 a w s
 rw [List.mapM_cons]
 simp only [Sem.run_bind,e1,Result.andThen_ok,e2,Sem.run_pure]
theorem kR_ok (hX:CxOk X) (hT:TbOk P T) (S:SR X θ hp h) {e:E} (he:RE θ e ρ):∀ (rs:List ResultVar) {k:List AV→Ans},X.G ((kR T rs).f e hp k)→∃ l vs,RVl θ l vs∧RsRun P w0 nt ρ h rs vs∧X.G (k l)
 | [],k,g=>⟨[],[],rfl,fun a w s=>rfl,g⟩
 | .tmp t :: rs,k,g=>by
  have g:X.G (frH ((gT t).f e) fun v=>(kR T rs).f e hp fun l=>k (v :: l)):=g
  obtain ⟨hn,g⟩:=qdn hX.gd g
  obtain ⟨l,vs,h1,h2,g⟩:=kR_ok hX hT S he rs g
  exact ⟨_,ρ t :: vs,(gT_ok he hn).elim (fun h=>RVl.cons (.inl h) h1) (fun h=>RVl.cons (.inr h) h1),RsRun.cons (fun a w s=>by simp only [res1,Sem.run_pure,s.env t]) h2,g⟩
 | .cell c t :: rs,k,g=>by
  have g:X.G (frV ((ldQ T t).f ((gT c).f e) hp) fun v=>(kR T rs).f e hp fun l=>k (v :: l)):=g
  obtain ⟨hn,g⟩:=frV_ok hX.gd g
  obtain ⟨l,vs,h1,h2,g⟩:=kR_ok hX hT S he rs g
  have hne:(gT c).f e ≠ .er:=by intro e1; rw [e1,ldQ_er] at hn; exact hn rfl
  obtain ⟨V,p,e0,hv,hrun⟩:=loadVar_run hT S (gT_ok he hne) hn
  refine ⟨_,V :: vs,RVl.cons hv h1,RsRun.cons (fun a w s=>?_) h2,g⟩
  have e2:=hrun w s.heap
  simp only [res1,Sem.run_bind,s.env c,e0,asAddr,Sem.run_pure,Result.andThen_ok,e2]
theorem results_run {fn:Func} {vs:List Value} (h2:RsRun P w0 nt ρ h fn.results.toList vs) {a:Act} {w:World} (s:St ⟨P,w0,nt⟩ ρ h a w):
  (results fn a.tmps).run P w = .ok (if hh:vs.toArray.size = 1 then vs.toArray[0] else .tuple vs.toArray) w:=by
 have e:=h2 a w s
 have ef:results fn a.tmps = (do
  let vs ← fn.results.mapM (res1 a.tmps)
  pure (if h:vs.size = 1 then vs[0] else .tuple vs)):=by
  unfold results
  congr 1
 rw [ef,Array.mapM_eq_mapM_toList]
 simp only [Sem.run_bind,Sem.run_map,e,Result.andThen_ok,Sem.run_pure]
theorem reK_ok (hX:CxOk X) (hT:TbOk P T) {fn:Func} {R:Value→H→Prop} {q:K1} (S:SR X θ hp h) {e:E} (he:RE θ e ρ) {ex:Ex} (g:X.G (reK T fn.results.toList q ex e hp)) (hR:∀ a w,RV θ a w→X.G (q a hp)→R w h):
  QN ⟨P,w0,nt⟩ (bodyPost P fn (RetOk w0 R)) (exX ex) ρ h:=by
 have main:X.G ((kR T fn.results.toList).f e hp fun l=>tupK l fun v=>q v hp)→∀ a w,St ⟨P,w0,nt⟩ ρ h a w→a.defers = []∧∃ v,(results fn a.tmps).run P w = .ok v w∧RetOk w0 R (.returned v) w:=by
  intro g a w s
  obtain ⟨l,vs,h1,h2,g⟩:=kR_ok (w0:=w0) (nt:=nt) hX hT S he _ g
  refine ⟨s.defers,_,results_run h2 s,_,rfl,s.tape,s.os,s.output,?_⟩
  rw [s.heap]
  have multi:l.length ≠ 1→X.G (bz (okAs l) (q (.t l) hp) (.er 63))→R (if hh:vs.toArray.size = 1 then vs.toArray[0] else .tuple vs.toArray) h:=by
   intro hl g
   obtain ⟨c,g⟩:=qak hX.gd g
   have hr:=h1.rvs c
   have hlen:∀ {l:List AV} {vs:List Value},RVs θ l vs→vs.length = l.length:=by
    intro l
    induction l with
    | nil=>intro vs h; rw [show vs = [] from h]; rfl
    | cons a l ih=>intro vs ⟨V,r,e,_,h2⟩; subst e; simp [ih h2]
   rw [dif_neg (by rw [List.size_toArray,hlen hr]; exact hl)]
   exact hR _ _ (.inr ⟨l,vs,rfl,rfl,hr⟩) g
  match l,h1,g,multi with
  | [],h1,g,multi=>exact multi (by simp) g
  | [v],⟨V,r,e1,hv,hr⟩,g,_=>
   have hr:r = []:=hr
   subst hr; subst e1
   obtain ⟨_,g⟩:=qdn hX.gd (show X.G (frH v fun v=>q v hp) from g)
   exact hR _ _ hv g
  | a :: b :: l,h1,g,multi=>exact multi (by simp) g
 cases ex with
 | n=>exact fun a w s=>main g a w s
 | r=>exact fun a w s=>main g a w s
 | x id=>exact (hX.gd.er _ g).elim
 | g l=>exact (hX.gd.er _ g).elim
end
section
variable {P:Program} {X:Cx} {T:Tb} {θ:Th} {hp:Hp} {h:H}
theorem env0_snoc (pre:List Value) (V:Value):Go.Sh.env0 (pre ++ [V]) = up (Go.Sh.env0 pre) pre.length V:=by
 funext i
 unfold Go.Sh.env0 up
 by_cases hi:i = pre.length
 ·subst hi; simp
 ·have hb:Nat.beq i pre.length = false:=by
   cases c:Nat.beq i pre.length with
   | true=>exact absurd (ya c) hi
   | false=>rfl
  simp only [List.getD_eq_getElem?_getD,hb,cond_false]
  rcases Nat.lt_or_ge i pre.length with h | h
  ·rw [List.getElem?_append_left h]
  ·rw [List.getElem?_eq_none (by simp; omega),List.getElem?_eq_none h]
theorem setA_ok (hX:CxOk X) {nt:Nat} (hnt:nt≤256) {k:E→Ans}:∀ {l:List AV} {vs pre:List Value} {e:E},RVs θ l vs→RE θ e (Go.Sh.env0 pre)→pre.length≤nt→X.G (setA l pre.length nt e k) →
  (pre ++ vs).length≤nt∧∃ e',RE θ e' (Go.Sh.env0 (pre ++ vs))∧X.G (k e')
 | [],vs,pre,e,hv,he,hl,g=>by
  have:vs = []:=hv
  subst this
  rw [List.append_nil]
  exact ⟨hl,e,he,g⟩
 | a :: l,_,pre,e,⟨V,r,e1,h1,h2⟩,he,hl,g=>by
  subst e1
  have g:X.G (bz (Nat.ble (Nat.add pre.length 1) nt) (frH a fun v=>(sE pre.length).f e v fun e=>setA l (Nat.add pre.length 1) nt e k) (.er 55)):=g
  obtain ⟨c,g⟩:=qak hX.gd g
  have c:pre.length + 1≤nt:=yh c
  obtain ⟨_,g⟩:=qdn hX.gd g
  rw [sE_eq] at g
  have he':=he.set (d:=pre.length) (by omega) h1.toRV
  rw [← env0_snoc] at he'
  have hlen:(pre ++ [V]).length = pre.length + 1:=by simp
  have g:X.G (setA l (pre ++ [V]).length nt (eSet e pre.length a) k):=by rw [hlen]; exact g
  have:=setA_ok hX hnt h2 he' (by rw [hlen]; exact c) g
  rwa [List.append_assoc] at this
theorem re0:RE θ Vm.env0 (Go.Sh.env0 []):=fun t _ _=>by
 rw [eGet_env0]; exact RV.undef
def Res (X:Cx) (θ:Th) (hp:Hp) (q:K1) (w:Value) (h':H):Prop:=∃ θ' hp' a,SR X θ' hp' h'∧Ext θ θ' (tor hp.nx)∧tor hp.nx≤tor hp'.nx∧RV θ' a w∧X.G (q a hp')
theorem body_ok {cl:CallT} (hcl:CallOk P cl) (hT:TbOk P T) (hX:CxOk X) {f:Nat} {fn:Func} {c:Code} (hdr:∀ w0,DrawOk ⟨P,w0,fn.ntmps⟩ T cl) (hf:T.func f = some fn) (hb:fn.body = some c) (hnt:fn.ntmps≤256) {args:List AV} {vals:List Value} {q:K1} {hp0:Hp}
  (S:SR X θ hp h) (hv:RVs θ args vals) (g:X.G (setA args 0 fn.ntmps Vm.env0 fun e=>(cC T fn.ntmps 400 c).f cl e hp (reK T fn.results.toList q))):
  FnOk P f∧CallsH P f vals.toArray h (Res X θ hp q):=by
 have hfn:=hT.func _ _ hf
 refine ⟨⟨fn,hfn,hT.name _ _ hf,by rw [hb]; rfl⟩,?_⟩
 obtain ⟨hl,e',he',g⟩:=setA_ok (pre:=[]) hX hnt hv re0 (Nat.zero_le _) g
 refine CallsH.of fn.ntmps hfn hb rfl (Nat.ble_eq_true_of_le hl) fun w0=>?_
 refine cC_ok (C:=⟨P,w0,fn.ntmps⟩) hcl (hdr w0) hX hT hnt 400 c S he' g ?_
 intro ex θ' hp' h' e2 ρ' S' hE hle he2 g2
 exact reK_ok hX hT S' he2 g2 fun a w ha ga=>⟨θ',hp',a,S',hE,hle,ha,ga⟩
end
theorem beqX_ok {x y:AV} (h:beqX x y = true):x = y:=by
 unfold beqX at h
 split at h <;> first
  | rfl
  | (cases h; done)
  | (rw [xb_eq] at h; rw [eq_of_beq h])
  | (rw [ya h])
  | (rw [tor_inj (ya h)])
  | (obtain ⟨a,b⟩:=qaf h; first
    | (rw [ya a,ya b])
    | (rw [tor_inj (ya a),ya b])
    | (obtain ⟨c,d⟩:=qaf a; first
      | (rw [tor_inj (ya c),ya d,ya b])
      | (obtain ⟨e,f⟩:=qaf b; first
        | (rw [tor_inj (ya c),ya d,ya e,ya f])
        | (obtain ⟨i,j⟩:=qaf f; rw [tor_inj (ya c),ya d,ya e,ya i,ya j]))))
theorem beqC_ok:∀ {l m:CL AV},beqC l m = true→l = m
 | .nil,.nil,_=>rfl
 | .nil,.cons _ _ _,h=>by cases h
 | .cons _ _ _,.nil,h=>by cases h
 | .cons w v l,.cons w2 v2 m,h=>by
  obtain ⟨a,b⟩:=qaf (show an (Nat.beq w w2) (an (beqX v v2) (beqC l m)) = true from h)
  obtain ⟨c,d⟩:=qaf b
  rw [ya a,beqX_ok c,beqC_ok d]
theorem beqV1_ok {x y:AV} (h:beqV1 x y = true):x = y:=by
 unfold beqV1 at h
 split at h
 ·rw [beqC_ok h]
 ·exact beqX_ok h
theorem beqL_ok:∀ {l m:List AV},beqL l m = true→l = m
 | [],[],_=>rfl
 | [],_ :: _,h=>by cases h
 | _ :: _,[],h=>by cases h
 | v :: l,v2 :: m,h=>by
  obtain ⟨a,b⟩:=qaf (show an (beqV1 v v2) (beqL l m) = true from h)
  rw [beqV1_ok a,beqL_ok b]
theorem beqV_ok {x y:AV} (h:beqV x y = true):x = y:=by
 unfold beqV at h
 split at h
 ·rw [beqL_ok h]
 ·exact beqV1_ok h
def PX (X:Cx) (hp:Hp) (v:AV):Cx:=⟨X.U,X.h0,fun r=>if tor r < tor hp.nx then some (getH hp r) else none,some (tor hp.nx),fun a=>∃ hf,a = .ok v hf⟩
theorem PX_ok {X:Cx} (hX:CxOk X) (hp:Hp) (v:AV):CxOk (PX X hp v):=by
 refine ⟨⟨fun n h=>by obtain ⟨hf,h⟩:=h; cases h⟩,fun _ a b h=>?_,fun a b h=>(by obtain ⟨hf,h⟩:=h; cases h),hX.gl⟩
 obtain ⟨hf,h⟩:=h
 cases a with
 | er n=>cases b <;> cases h
 | br _ _=>cases b <;> cases h
 | ok x h1=>
  cases b with
  | er n=>cases h
  | br _ _=>cases h
  | ok y h2=>
   have h:bz (beqV x y) (.ok x h1) (.er 31) = .ok v hf:=h
   cases c:beqV x y with
   | false=>rw [c] at h; cases h
   | true=>
    rw [c] at h
    have h:Ans.ok x h1 = .ok v hf:=h
    injection h with e1 e2
    have:=beqV_ok c
    subst this; subst e1; subst e2
    exact ⟨⟨_,rfl⟩,⟨_,rfl⟩⟩
theorem PX_in {X:Cx} {θ:Th} {hp:Hp} {h:H} (S:SR X θ hp h) (v:AV):SR (PX X hp v) θ ⟨hp.rows,hp.nx,some (tor hp.nx)⟩ h:=by
 refine ⟨S.rows,S.dist,S.fresh,S.own,S.keepU,fun r row hr=>?_,rfl,S.blk⟩
 have hr:(if tor r < tor hp.nx then some (getH hp r) else none) = some row:=hr
 split at hr
 ·rename_i hlt; injection hr with hr; exact ⟨hr,hlt,.inr ⟨_,rfl,hlt⟩⟩
 ·cases hr
theorem PX_out {X:Cx} {θ θ':Th} {hp hp':Hp} {h h':H} {v:AV} (S:SR X θ hp h) (S':SR (PX X hp v) θ' hp' h') (hE:Ext θ θ' (tor hp.nx)):SR X θ hp h':=by
 have hrow:∀ r x,θ r = some x→getH hp' r = getH hp r:=fun r x hr=>by
  have:=S.fresh r x hr
  exact (S'.kept r (getH hp r) (by show (if tor r < tor hp.nx then some (getH hp r) else none) = _; rw [if_pos this])).1
 refine ⟨fun r x hr=>?_,S.dist,S.fresh,S.own,S'.keepU,S.kept,S.ro,fun r x hr=>S'.blk r x (hE.1 r x hr)⟩
 have h1:=S.rows r x hr
 have h2:=S'.rows r x (hE.1 r x hr)
 rw [hrow r x hr] at h2
 exact h1.back hE.1 h2
theorem fr1_ok {θ θ':Th} {v:AV} {w:Value} (hf:fr1 v = true) (h:RV1 θ' v w):RV1 θ v w:=by
 have at_:Atm' v→(RA θ' v w→RA θ v w)→RV1 θ v w:=fun ha hh=>.inl (.inl (hh (RV.ra h.toRV ha)))
 unfold fr1 at hf
 split at hf <;> first | (cases hf; done) | (exact at_ trivial id) | skip
 ·rename_i n m x
  obtain ⟨vs,e,hc⟩:=(RV1.toRV h).agg
  subst e
  refine .inr (.inl ⟨_,vs,rfl,rfl,?_⟩)
  obtain ⟨v1,v2,e,h1,h2⟩:=hc
  refine ⟨v1,v2,e,?_,h2⟩
  rcases h1 with h1 | ⟨_,_,U,_,hU⟩
  ·exact .inl h1
  ·exact hU.noB.elim
 ·obtain ⟨vs,e,hc⟩:=(RV1.toRV h).agg
  subst e
  exact .inr (.inl ⟨_,vs,rfl,rfl,hc⟩)
theorem free_ok {θ θ':Th} {v:AV} {w:Value} (hf:free v = true) (h:RV θ' v w):RV θ v w:=by
 unfold free at hf
 split at hf
 ·rename_i l
  obtain ⟨vs,e,hr⟩:=h.tup
  subst e
  refine .inr ⟨l,vs,rfl,rfl,?_⟩
  have go:∀ {l:List AV} {vs:List Value},l.all fr1 = true→RVs θ' l vs→RVs θ l vs:=by
   intro l
   induction l with
   | nil=>intro vs _ h; exact h
   | cons a l ih=>
    intro vs ha ⟨V,r,e,h1,h2⟩
    rw [List.all_cons,Bool.and_eq_true] at ha
    exact ⟨V,r,e,fr1_ok ha.1 h1,ih ha.2 h2⟩
  exact go hf hr
 ·rename_i hn
  exact (fr1_ok hf (h.rv1 fun l e=>hn l e)).toRV
section
variable {P:Program} {T:Tb}
theorem cFn_ok {cl:CallT} (hcl:CallOk P cl) (hdr:∀ w0 nt,nt≤256→DrawOk ⟨P,w0,nt⟩ T cl) (hT:TbOk P T) {pu:Bool} {f:Nat} {fn:Func} (hf:T.func f = some fn) {X:Cx} (hX:CxOk X) {θ:Th} {hp:Hp} {h:H} {args:List AV} {vals:List Value} {q:K1}
  (S:SR X θ hp h) (hv:RVs θ args vals) (g:X.G ((cFn T pu fn).f cl args hp q)):FnOk P f∧CallsH P f vals.toArray h (Res X θ hp q):=by
 unfold cFn at g
 cases hb:fn.body with
 | none=>simp only [hb] at g; exact (hX.gd.er _ g).elim
 | some c=>
  simp only [hb] at g
  cases hn:Nat.ble fn.ntmps 256 with
  | false=>simp only [hn] at g; exact (hX.gd.er _ g).elim
  | true=>
   simp only [hn,cond_true] at g
   have hnt:=yh hn
   cases pu with
   | false=>exact body_ok (hp0:=hp) hcl hT hX (fun w0=>hdr w0 _ hnt) hf hb hnt S hv g
   | true=>
    have g:X.G (puK (setA args 0 fn.ntmps Vm.env0 fun e=>(cC T fn.ntmps 400 c).f cl e ⟨hp.rows,hp.nx,some (tor hp.nx)⟩ (reK T fn.results.toList fun v h=>.ok v h)) hp q):=g
    revert g
    cases ha:setA args 0 fn.ntmps Vm.env0 fun e=>(cC T fn.ntmps 400 c).f cl e ⟨hp.rows,hp.nx,some (tor hp.nx)⟩ (reK T fn.results.toList fun v h=>.ok v h) with
    | er n=>intro g; exact (hX.gd.er _ g).elim
    | br _ _=>intro g; exact (hX.gd.er _ g).elim
    | ok v hf'=>
     intro g
     have g:X.G (bz (free v) (frH v fun v=>q v hp) (.er 57)):=g
     obtain ⟨c1,g⟩:=qak hX.gd g
     obtain ⟨_,g⟩:=qdn hX.gd g
     obtain ⟨h1,h2⟩:=body_ok (hp0:=hp) hcl hT (PX_ok hX hp v) (fun w0=>hdr w0 _ hnt) hf hb hnt (PX_in S v) hv (q:=fun v h=>.ok v h) ⟨hf',ha⟩
     refine ⟨h1,h2.mono ?_⟩
     rintro w h' ⟨θ',hp',a,S',hE,hle,hv',hg⟩
     obtain ⟨hf2,hg⟩:=hg
     have hg:Ans.ok a hp' = .ok v hf2:=hg
     injection hg with e1 e2
     subst e1
     exact ⟨θ,hp,a,PX_out S S' hE,Ext.refl _ _,Nat.le_refl _,free_ok c1 hv',g⟩
def HookOk (P:Program) (f:Nat) (hk:Hook):Prop:=
 ∀ (X:Cx),CxOk X→∀ (θ:Th) (hp:Hp) (h:H) (args:List AV) (vals:List Value) (q:K1),SR X θ hp h→RVs θ args vals→X.G (hk args hp q)→FnOk P f∧CallsH P f vals.toArray h (Res X θ hp q)
theorem rn_ok {G:Cfg} (hT:TbOk P G.P) (hh:∀ f hk,G.hook f = some hk→HookOk P f hk) (hdr:∀ cl,CallOk P cl→∀ w0 nt,nt≤256→DrawOk ⟨P,w0,nt⟩ G.P cl):∀ n,CallOk P (rn G n)
 | 0=>fun X hX θ hp h f args vals q S hv g=>(hX.gd.er _ g).elim
 | n + 1=>fun X hX θ hp h f args vals q S hv g=>by
  have ih:=rn_ok hT hh hdr n
  have g:X.G ((cF G f).f (rn G n) args hp q):=g
  unfold cF at g
  cases hk:G.hook f with
  | some k=>
   simp only [hk] at g
   exact hh f k hk X hX θ hp h args vals q S hv g
  | none=>
   simp only [hk] at g
   cases hf:G.P.func f with
   | none=>simp only [hf] at g; exact (hX.gd.er _ g).elim
   | some fn=>
    simp only [hf] at g
    exact cFn_ok ih (hdr _ ih) hT hf hX S hv g
end
def Ag (e e':E) (x:Operand):Prop:=(gO x).f e = (gO x).f e'
theorem Ag.tmp {e e':E} {x:Operand} (h:∀ t,x = .tmp t→(gT t).f e = (gT t).f e'):Ag e e' x:=by
 cases x with
 | tmp t=>exact h t rfl
 | const v=>rfl
 | global g=>rfl
 | func f=>rfl
section
variable {T:Tb} {e e':E}
theorem gL_ag:∀ {l:List Operand},(∀ x ∈ l,Ag e e' x)→(gL l).f e = (gL l).f e'
 | [],_=>rfl
 | x :: l,h=>by
  show (gO x).f e :: (gL l).f e = (gO x).f e' :: (gL l).f e'
  rw [show (gO x).f e = (gO x).f e' from h x (by simp),gL_ag fun y hy=>h y (by simp [hy])]
theorem gM_ag {o:Option Operand} (h:∀ x,o = some x→Ag e e' x):(gM o).f e = (gM o).f e':=by
 cases o with
 | none=>rfl
 | some x=>show some ((gO x).f e) = some ((gO x).f e'); rw [show (gO x).f e = (gO x).f e' from h x rfl]
theorem filQ_ag {L:Nat} {pl:Nat→Option (Nat×Nat)}:∀ {ps:List (Nat×Operand)},(∀ p ∈ ps,Ag e e' p.2)→∀ cs,(filQ L pl ps).f e cs = (filQ L pl ps).f e' cs
 | [],_,_=>rfl
 | p :: ps,h,cs=>by
  have ih:=filQ_ag (L:=L) (pl:=pl) (ps:=ps) fun y hy=>h y (by simp [hy])
  have hx:(gO p.2).f e = (gO p.2).f e':=h p (by simp)
  have hc:filQ L pl (p :: ps) = (match pl p.1 with | some (o,sz)=>bif Nat.ble (Nat.add o sz) L then ⟨fun e cs=>fil1 ((gO p.2).f e) cs o sz fun cs=>(filQ L pl ps).f e cs⟩ else ⟨fun _ _=>.er⟩ | none=>⟨fun _ _=>.er⟩):=rfl
  rw [hc]
  cases pl p.1 with
  | none=>rfl
  | some y=>
   obtain ⟨o,sz⟩:=y
   cases c:Nat.ble (Nat.add o sz) L with
   | false=>simp only [c]; rfl
   | true=>
    simp only [c,cond_true,hx]
    congr 1
    funext cs
    exact ih cs
theorem bldQ_ag {t:Nat} {ps:List (Nat×Operand)} (h:∀ p ∈ ps,Ag e e' p.2):(bldQ T t ps).f e = (bldQ T t ps).f e':=by
 have b2:∀ pl,(bld2 T t pl ps).f e = (bld2 T t pl ps).f e':=fun pl=>by
  unfold bld2
  cases zOk T t with
  | false=>rfl
  | true=>exact filQ_ag h _
 unfold bldQ
 split
 ·split
  ·exact b2 _
  ·rfl
 ·rename_i el _
  cases Nat.ble 1 (szT T el) with
  | false=>rfl
  | true=>exact b2 _
 ·rfl
theorem cQ_ag {o:Op} {q:Qf} (hq:cQ T o = some q) (ha:∀ x ∈ o.operands.toList,Ag e e' x) (hp:Hp):q.f e hp = q.f e' hp:=by
 have a:∀ x,x ∈ o.operands.toList→(gO x).f e = (gO x).f e':=ha
 unfold cQ at hq
 split at hq <;> first | (cases hq; done) | skip
 case h_4 t ps=>
  injection hq with hq; subst hq
  exact bldQ_ag fun p hp=>ha p.2 (by simp only [Op.operands,List.mem_map]; exact ⟨p,hp,rfl⟩)
 case h_10=>
  split at hq
  ·injection hq with hq; subst hq
   rename_i fs cs f _
   show mkF _ ((gL fs.toList).f e) ((gL cs.toList).f e) = mkF _ ((gL fs.toList).f e') ((gL cs.toList).f e')
   rw [gL_ag fun x hx=>ha x (by simp [Op.operands]; simp at hx; exact .inl hx),gL_ag fun x hx=>ha x (by simp [Op.operands]; simp at hx; exact .inr hx)]
  ·injection hq with hq; subst hq; rfl
 case h_11 t x l h m=>
  split at hq
  ·injection hq with hq; subst hq; rfl
  ·injection hq with hq; subst hq
   show (slQ (tkT T t)).f ((gO x).f e) ((gM l).f e) ((gM h).f e) ((gM m).f e) hp = (slQ (tkT T t)).f ((gO x).f e') ((gM l).f e') ((gM h).f e') ((gM m).f e') hp
   rw [a x (by simp [Op.operands]),gM_ag fun y hy=>ha y (by subst hy; simp [Op.operands]),gM_ag (o:=h) fun y hy=>ha y (by subst hy; simp [Op.operands]),gM_ag (o:=m) fun y hy=>ha y (by subst hy; simp [Op.operands])]
 all_goals first
  | (injection hq with hq; subst hq; simp [Op.operands] at a; simp only [a]; done)
  | skip
 ·split at hq
  ·cases hq
  ·injection hq with hq; subst hq
   simp [Op.operands] at a
   rename_i s d x _ _
   cases isOt (tkT T s) <;> simp only [cond_true,cond_false,a]
 ·split at hq
  ·injection hq with hq; subst hq; simp [Op.operands] at a; simp only [a]
  ·injection hq with hq; subst hq; rfl
 ·split at hq
  ·injection hq with hq; subst hq; simp [Op.operands] at a; simp only [a]
  ·injection hq with hq; subst hq; rfl
 ·split at hq
  ·rename_i h1 h2
   injection hq with hq; subst hq; simp [Op.operands,Call.operands,list1 h1] at a; simp only [a]
  ·injection hq with hq; subst hq; rfl
 ·split at hq
  ·rename_i h1
   injection hq with hq; subst hq; simp [Op.operands,Call.operands,list2 h1] at a; simp only [a]
  ·injection hq with hq; subst hq; rfl
 ·split at hq
  ·rename_i h1
   injection hq with hq; subst hq; simp [Op.operands,Call.operands,list2 h1] at a; simp only [a]
  ·injection hq with hq; subst hq; rfl
theorem fldQ_hp {t o:Nat} {x:AV} (hp hp':Hp):(fldQ T t o).f x hp = (fldQ T t o).f x hp':=by
 unfold fldQ
 cases aggT T t <;> cases sclT T t <;> rfl
theorem cQ_hp {o:Op} {q:Qf} (hq:cQ T o = some q) (hr:isRd o = false) (hp hp':Hp):q.f e hp = q.f e hp':=by
 unfold cQ at hq
 split at hq <;> first | (cases hq; done) | (cases hr; done) | skip
 all_goals first
  | (injection hq with hq; subst hq; rfl)
  | skip
 ·split at hq <;> (injection hq with hq; subst hq; rfl)
 ·split at hq <;> (injection hq with hq; subst hq; rfl)
 ·split at hq
  ·injection hq with hq; subst hq; exact fldQ_hp hp hp'
  ·injection hq with hq; subst hq; rfl
end
section
variable {T:Tb} {e e':E} {cl:CallT} {hp:Hp} {q:K1}
theorem celK_ag {sz:Nat}:∀ {ps:List (Nat×Operand)},(∀ p ∈ ps,Ag e e' p.2)→∀ k,(celK sz ps).f e k = (celK sz ps).f e' k
 | [],_,_=>rfl
 | p :: ps,h,k=>by
  show (celK sz ps).f e (fun g=>frH ((gO p.2).f e) fun v=>cel v sz g k) = (celK sz ps).f e' (fun g=>frH ((gO p.2).f e') fun v=>cel v sz g k)
  rw [show (gO p.2).f e = (gO p.2).f e' from h p (by simp)]
  exact celK_ag (fun y hy=>h y (by simp [hy])) _
theorem cE_ag {o:Op} (ha:∀ x ∈ o.operands.toList,Ag e e' x):(cE T o).f cl e hp q = (cE T o).f cl e' hp q:=by
 have a:∀ x,x ∈ o.operands.toList→(gO x).f e = (gO x).f e':=ha
 unfold cE
 split
 ·simp [Op.operands] at a
  rename_i t x y
  unfold cSt
  cases aggT T t <;> cases an (sclT T t) (Nat.beq (szT T t) 1) <;> simp only [cond_true,cond_false,a,erx]
 ·simp [Op.operands] at a
  simp only [a]
 ·rename_i t
  unfold alA
  cases zOk T t <;> rfl
 ·rename_i t n ps
  have ha':∀ p ∈ ps.toList,Ag e e' p.2:=fun p hp=>ha p.2 (by simp only [Op.operands,List.mem_map]; exact ⟨p,hp,rfl⟩)
  unfold bsA
  split
  ·rename_i t' sz _
   cases an (zOk T t') (an (Nat.ble 1 sz) (an (Nat.ble (Nat.mul n sz) 16777216) (covr ps.toList 0 n))) with
   | false=>rfl
   | true=>exact celK_ag ha' _
  ·rfl
 ·rename_i t
  unfold mmA
  split
  ·split <;> rfl
  ·rfl
 ·rename_i t n c
  simp [Op.operands] at a
  unfold msA
  split
  ·rename_i t' sz _
   cases an (zOk T t') (an (Nat.ble 1 sz) (byT T t')) with
   | false=>rfl
   | true=>
    simp only [cond_true,a]
    cases (gO n).f e' <;> first | rfl | simp only [a]
  ·rfl
 ·rename_i t m k v
  simp [Op.operands] at a
  unfold muA
  split
  ·simp only [a]
   cases (gO m).f e' <;> first | rfl | simp only [a]
  ·rfl
 ·rename_i t m k v
  simp [Op.operands] at a
  unfold muA
  split
  ·simp only [a]
   cases (gO m).f e' <;> first | rfl | simp only [a]
  ·rfl
 ·rename_i t m k
  simp [Op.operands] at a
  unfold meA
  split
  ·simp only [a]
   cases (gO m).f e' <;> first | rfl | simp only [a]
  ·rfl
 ·simp [Op.operands] at a
  unfold esA
  simp only [a]
 ·simp [Op.operands] at a
  unfold rgA
  split <;> simp only [a,erx]
 ·simp [Op.operands] at a
  unfold nxA
  simp only [a]
 ·simp [Op.operands] at a
  rename_i s d x
  split
  ·rename_i e0 sz _
   split
   ·unfold cvM
    cases an (Nat.beq s d) (an (Nat.beq sz 1) (u8T T e0)) <;> simp only [cond_true,cond_false,a,erx]
   ·unfold cvL
    split
    ·cases an (Nat.beq sz 1) (u8T T e0) <;> simp only [cond_true,cond_false,a,erx]
    ·rfl
  ·rfl
 ·rename_i f xs ts
  show clA cl f ((gL xs.toList).f e) hp q = clA cl f ((gL xs.toList).f e') hp q
  rw [gL_ag fun x hx=>ha x (by simp [Op.operands,Call.operands]; simp at hx; exact .inr hx)]
 ·rename_i g xs ts _
  have h1:=gL_ag (l:=xs.toList) fun x hx=>ha x (by simp [Op.operands,Call.operands]; simp at hx; exact .inr hx)
  have h2:=a g (by simp [Op.operands,Call.operands])
  simp only [h2]
  cases (gO g).f e' <;> first
   | rfl
   | (simp only [h1])
 ·split
  ·rename_i h1 h2
   rename_i _ _ _ _ T0 U
   simp [Op.operands,Call.operands,list2 h1] at a
   unfold apA
   split
   ·rename_i t' sz _
    cases an (zOk T t') (an (Nat.ble 1 sz) (an (byT T t') (apT (tkT T U)))) <;> simp only [cond_true,cond_false,a,erx]
   ·rfl
  ·rfl
 ·split
  ·rename_i h1 h2
   simp [Op.operands,Call.operands,list2 h1] at a
   unfold cpE
   split
   ·rename_i sz _
    cases Nat.ble 1 sz <;> simp only [cond_true,cond_false,a,erx]
   ·rfl
  ·rfl
 ·split
  ·rename_i h1 h2
   simp [Op.operands,Call.operands,list1 h1] at a
   unfold clE
   split
   ·simp only [a]
   ·rename_i t' sz _
    cases an (zOk T t') (Nat.ble 1 sz) <;> simp only [cond_true,cond_false,a,erx]
   ·rfl
  ·rfl
 ·split
  ·rename_i h1 h2
   simp [Op.operands,Call.operands,list2 h1] at a
   unfold dlE
   split <;> simp only [a,erx]
  ·rfl
 ·rfl
end
theorem tb_eq (m i:Nat):tb m i = m.testBit i:=by
 unfold tb
 have h:Nat.land (Nat.shiftRight m i) 1 = m / 2 ^ i % 2:=by
  show (m >>> i) &&& 1 = _
  rw [Nat.and_one_is_mod,Nat.shiftRight_eq_div_pow]
 rw [h,Nat.testBit_eq_decide_div_mod_eq]
 cases c:Nat.beq (m / 2 ^ i % 2) 1 with
 | true=>exact (decide_eq_true (ya c)).symm
 | false=>exact (decide_eq_false (qcl c)).symm
theorem qec (i t:Nat):(bit i).testBit t = decide (i = t):=by
 unfold bit
 show (1 <<< i).testBit t = _
 rw [Nat.one_shiftLeft,Nat.testBit_two_pow]
theorem qc5 (a b t:Nat):(Nat.lor a b).testBit t = (a.testBit t || b.testBit t):=Nat.testBit_or a b t
theorem tB_dif (m s t:Nat):(Nat.xor m (Nat.land m s)).testBit t = (m.testBit t && !s.testBit t):=by
 show (m ^^^ (m &&& s)).testBit t = _
 rw [Nat.testBit_xor,Nat.testBit_and]
 cases m.testBit t <;> cases s.testBit t <;> rfl
theorem land0 {a b:Nat} (h:Nat.beq (Nat.land a b) 0 = true) {t:Nat} (ha:a.testBit t = true):b.testBit t = false:=by
 have h0:a &&& b = 0:=ya h
 have h1:(a &&& b).testBit t = false:=by rw [h0,Nat.zero_testBit]
 rw [Nat.testBit_and,ha] at h1
 exact h1
theorem landS {a b:Nat} (h:Nat.beq (Nat.land a b) a = true) {t:Nat} (ha:a.testBit t = true):b.testBit t = true:=by
 have h0:a &&& b = a:=ya h
 have h1:(a &&& b).testBit t = true:=by rw [h0,ha]
 rw [Nat.testBit_and,ha] at h1
 exact h1
theorem depL_tb {l:List Edge} {t:Nat}:(depL l).testBit t = true ↔ ∃ e ∈ l,Region.binds .any e = true∧e.on = t:=by
 induction l with
 | nil=>show Nat.testBit 0 t = true ↔ _; simp
 | cons e l ih=>
  show (bif Region.binds .any e then Nat.lor (bit e.on) (depL l) else depL l).testBit t = true ↔ _
  cases c:Region.binds .any e with
  | false=>simp [c,ih]
  | true=>simp [c,qc5,qec,ih]
theorem tmL_tb {l:List Nat} {t:Nat}:(tmL l).testBit t = true ↔ t ∈ l:=by
 induction l with
 | nil=>show Nat.testBit 0 t = true ↔ _; simp
 | cons x l ih=>
  show (Nat.lor (bit x) (tmL l)).testBit t = true ↔ _
  rw [qc5,qec,List.mem_cons,Bool.or_eq_true,decide_eq_true_eq,ih]
  exact or_congr eq_comm Iff.rfl
theorem msk_tb {l:List IX} {mp:Nat} {g:IX→Nat} {t:Nat}:(msk l mp g).testBit t = true ↔ ∃ x ∈ l,mp.testBit x.i = true∧(g x).testBit t = true:=by
 induction l with
 | nil=>show Nat.testBit 0 t = true ↔ _; simp
 | cons x l ih=>
  show (bif tb mp x.i then Nat.lor (g x) (msk l mp g) else msk l mp g).testBit t = true ↔ _
  rw [tb_eq]
  cases c:mp.testBit x.i with
  | false=>simp [c,ih]
  | true=>simp [c,qc5,ih]
theorem anc_sub {S:Nat→Prop} {s:Nat} (hs:∀ t,s.testBit t = true→S t):∀ {l:List IX},(∀ x ∈ l,S x.i→∀ t,x.dep.testBit t = true→S t)→∀ t,(anc l s).testBit t = true→S t
 | [],_,t,h=>hs t h
 | x :: l,hl,t,h=>by
  have ih:=anc_sub hs (l:=l) fun y hy=>hl y (by simp [hy])
  have h:(bif tb (anc l s) x.i then Nat.lor (anc l s) x.dep else anc l s).testBit t = true:=h
  rw [tb_eq] at h
  cases c:(anc l s).testBit x.i with
  | false=>rw [c] at h; exact ih t h
  | true=>
   rw [c] at h
   simp only [cond_true,qc5,Bool.or_eq_true] at h
   rcases h with h | h
   ·exact ih t h
   ·exact hl x (by simp) (ih _ c) t h
theorem fnd_some {p:IX→Bool}:∀ {l:List IX} {x:IX},fnd p l = some x→x ∈ l∧p x = true
 | [],_,h=>by cases h
 | y :: l,x,h=>by
  have h:(bif p y then some y else fnd p l) = some x:=h
  cases c:p y with
  | true=>rw [c] at h; cases h; exact ⟨by simp,c⟩
  | false=>rw [c] at h; obtain ⟨h1,h2⟩:=fnd_some h; exact ⟨by simp [h1],h2⟩
theorem flt_eq {p:IX→Bool}:∀ {l:List IX},flt p l = l.filter p
 | []=>rfl
 | y :: l=>by
  show (bif p y then y :: flt p l else flt p l) = _
  rw [flt_eq (l:=l),List.filter_cons]
  cases p y <;> rfl
theorem allL_ok {p:IX→Bool}:∀ {l:List IX},allL p l = true→∀ x ∈ l,p x = true
 | [],_,_,h=>by cases h
 | y :: l,h,x,hx=>by
  obtain ⟨h1,h2⟩:=qaf (show an (p y) (allL p l) = true from h)
  simp only [List.mem_cons] at hx
  rcases hx with rfl | hx
  ·exact h1
  ·exact allL_ok h2 x hx
theorem nt_eq (a:Bool):nt a = !a:=by cases a <;> rfl
theorem mkIXs_mem {P:Tb} {ops:Array Oper}:∀ {l:List Oper} {i:Nat} {x:IX},x ∈ mkIXs P ops l i ↔ ∃ j o,l[j]? = some o∧x = mkIX P ops (i + j) o
 | [],i,x=>by
  show x ∈ [] ↔ _
  simp
 | o :: l,i,x=>by
  show x ∈ mkIX P ops i o :: mkIXs P ops l (i + 1) ↔ _
  rw [List.mem_cons,mkIXs_mem (l:=l)]
  constructor
  ·rintro (rfl | ⟨j,o',h1,h2⟩)
   ·exact ⟨0,o,rfl,rfl⟩
   ·exact ⟨j + 1,o',by simpa using h1,by rw [h2]; congr 1; omega⟩
  ·rintro ⟨j,o',h1,h2⟩
   cases j with
   | zero=>simp at h1; subst h1; exact .inl h2
   | succ j=>exact .inr ⟨j,o',by simpa using h1,by rw [h2]; congr 1; omega⟩
def IXs (T:Tb) (ops:Array Oper):List IX:=mkIXs T ops ops.toList 0
theorem IXs_mem {T:Tb} {ops:Array Oper} {x:IX}:x ∈ IXs T ops ↔ ∃ o,ops[x.i]? = some o∧x = mkIX T ops x.i o:=by
 unfold IXs
 rw [mkIXs_mem]
 constructor
 ·rintro ⟨j,o,h1,h2⟩
  subst h2
  refine ⟨o,?_,?_⟩
  ·show ops[0 + j]? = some o
   rw [Nat.zero_add]; simpa using h1
  ·show mkIX T ops (0 + j) o = mkIX T ops (0 + j) o
   rfl
 ·rintro ⟨o,h1,h2⟩
  exact ⟨x.i,o,by simpa using h1,by rw [Nat.zero_add]; exact h2⟩
theorem IXs_of {T:Tb} {ops:Array Oper} {i:Nat} {o:Oper} (h:ops[i]? = some o):mkIX T ops i o ∈ IXs T ops:=IXs_mem.2 ⟨o,h,rfl⟩
section
variable {P:Tb} {nt:Nat} {ops:Array Oper} {cl:CallT}
theorem cSS_app:∀ {a b:List SS} {e:E} {hp:Hp} {k:E→Hp→Ans},(cSS P nt ops (a ++ b)).f cl e hp k = (cSS P nt ops a).f cl e hp fun e hp=>(cSS P nt ops b).f cl e hp k
 | [],_,_,_,_=>rfl
 | .x i :: a,b,e,hp,k=>by
  show (match ops[i]? with | some o=>(⟨fun cl e h k=>(cOp P nt ops o).f cl e h fun e h=>(cSS P nt ops (a ++ b)).f cl e h k⟩:Bo) | none=>⟨fun _ _ _ _=>.er 46⟩).f cl e hp k =
   (match ops[i]? with | some o=>(⟨fun cl e h k=>(cOp P nt ops o).f cl e h fun e h=>(cSS P nt ops a).f cl e h k⟩:Bo) | none=>⟨fun _ _ _ _=>.er 46⟩).f cl e hp fun e hp=>(cSS P nt ops b).f cl e hp k
  cases ops[i]? with
  | none=>rfl
  | some o=>
   show (cOp P nt ops o).f cl e hp (fun e h=>(cSS P nt ops (a ++ b)).f cl e h k) = (cOp P nt ops o).f cl e hp (fun e h=>(cSS P nt ops a).f cl e h fun e hp=>(cSS P nt ops b).f cl e hp k)
   congr 1
   funext e h
   exact cSS_app
 | .r i :: a,b,e,hp,k=>by
  show (match ops[i]? with | some o=>(⟨fun cl e h k=>(cR P ops o).f cl e h fun e h=>(cSS P nt ops (a ++ b)).f cl e h k⟩:Bo) | none=>⟨fun _ _ _ _=>.er 46⟩).f cl e hp k =
   (match ops[i]? with | some o=>(⟨fun cl e h k=>(cR P ops o).f cl e h fun e h=>(cSS P nt ops a).f cl e h k⟩:Bo) | none=>⟨fun _ _ _ _=>.er 46⟩).f cl e hp fun e hp=>(cSS P nt ops b).f cl e hp k
  cases ops[i]? with
  | none=>rfl
  | some o=>
   show (cR P ops o).f cl e hp (fun e h=>(cSS P nt ops (a ++ b)).f cl e h k) = (cR P ops o).f cl e hp (fun e h=>(cSS P nt ops a).f cl e h fun e hp=>(cSS P nt ops b).f cl e hp k)
   congr 1
   funext e h
   exact cSS_app
 | .bad :: a,_,_,_,_=>rfl
theorem cSS_x {G:Ans→Prop} (hG:Gd G) {i:Nat} {l:List SS} {e:E} {hp:Hp} {k:E→Hp→Ans} (g:G ((cSS P nt ops (.x i :: l)).f cl e hp k)):
  ∃ o,ops[i]? = some o∧G ((cOp P nt ops o).f cl e hp fun e h=>(cSS P nt ops l).f cl e h k):=by
 have g:G ((match ops[i]? with | some o=>(⟨fun cl e h k=>(cOp P nt ops o).f cl e h fun e h=>(cSS P nt ops l).f cl e h k⟩:Bo) | none=>⟨fun _ _ _ _=>.er 46⟩).f cl e hp k):=g
 cases c:ops[i]? with
 | none=>rw [c] at g; exact (hG.er _ g).elim
 | some o=>rw [c] at g; exact ⟨o,rfl,g⟩
def Rck (T:Tb) (ops:Array Oper) (e:E) (hp:Hp) (i:Nat):Prop:=
 ∀ o q,ops[i]? = some o→cQ T o.op = some q→(∀ t,o.dst = some t→(qG ops o.guard q).f e hp = (gT t).f e)∧(o.dst = none→(qG ops o.guard q).f e hp ≠ .er)
theorem cR_ok {G:Ans→Prop} (hG:Gd G) {i:Nat} {l:List SS} {e:E} {hp:Hp} {k:E→Hp→Ans} (g:G ((cSS P nt ops (.r i :: l)).f cl e hp k)):
  Rck P ops e hp i∧G ((cSS P nt ops l).f cl e hp k):=by
 have g:G ((match ops[i]? with | some o=>(⟨fun cl e h k=>(cR P ops o).f cl e h fun e h=>(cSS P nt ops l).f cl e h k⟩:Bo) | none=>⟨fun _ _ _ _=>.er 46⟩).f cl e hp k):=g
 cases c:ops[i]? with
 | none=>rw [c] at g; exact (hG.er _ g).elim
 | some o=>
  rw [c] at g
  have g:G ((cR P ops o).f cl e hp fun e h=>(cSS P nt ops l).f cl e h k):=g
  unfold cR at g
  cases hq:cQ P o.op with
  | none=>simp only [hq] at g; exact (hG.er _ g).elim
  | some q=>
   cases hd:o.dst with
   | none=>
    simp only [hq,hd] at g
    obtain ⟨h1,h2⟩:=frV_ok hG (k:=fun _=>(cSS P nt ops l).f cl e hp k) g
    refine ⟨fun o' q' ho hq'=>?_,h2⟩
    rw [c] at ho; cases ho
    rw [hq] at hq'; cases hq'
    exact ⟨fun t ht=>absurd ht (by rw [hd]; simp),fun _=>h1⟩
   | some t=>
    simp only [hq,hd] at g
    obtain ⟨h1,h2⟩:=qak hG g
    refine ⟨fun o' q' ho hq'=>?_,h2⟩
    rw [c] at ho; cases ho
    rw [hq] at hq'; cases hq'
    refine ⟨fun t' ht=>?_,fun hn=>absurd hn (by rw [hd]; simp)⟩
    rw [hd] at ht
    cases ht
    exact beqV_ok h1
theorem rch_ok {G:Ans→Prop} (hG:Gd G) {mp:Nat} {e:E} {hp:Hp} {k:E→Hp→Ans}:∀ {l:List IX} {m:List SS},G ((cSS P nt ops (rch l mp ++ m)).f cl e hp k) →
  (∀ y ∈ l,mp.testBit y.i = true→y.kind = 1→Rck P ops e hp y.i)∧G ((cSS P nt ops m).f cl e hp k)
 | [],m,g=>⟨fun y hy=>(by cases hy),g⟩
 | y :: l,m,g=>by
  have g:G ((cSS P nt ops ((bif an (tb mp y.i) (Nat.beq y.kind 1) then .r y.i :: rch l mp else rch l mp) ++ m)).f cl e hp k):=g
  cases c:an (tb mp y.i) (Nat.beq y.kind 1) with
  | false=>
   rw [c] at g
   obtain ⟨h1,h2⟩:=rch_ok hG (l:=l) g
   refine ⟨fun z hz hm hk=>?_,h2⟩
   simp only [List.mem_cons] at hz
   rcases hz with rfl | hz
   ·rw [an_eq,tb_eq,hm,hk] at c; cases c
   ·exact h1 z hz hm hk
  | true=>
   rw [c] at g
   have g:G ((cSS P nt ops (.r y.i :: (rch l mp ++ m))).f cl e hp k):=g
   obtain ⟨h0,g⟩:=cR_ok hG g
   obtain ⟨h1,h2⟩:=rch_ok hG (l:=l) g
   refine ⟨fun z hz hm hk=>?_,h2⟩
   simp only [List.mem_cons] at hz
   rcases hz with rfl | hz
   ·exact h0
   ·exact h1 z hz hm hk
end
theorem mask (p:Nat→Prop) (e:E):∃ e',∀ t,t < 256→(p t→eGet e' t = .er)∧(¬ p t→eGet e' t = eGet e t):=by
 have key:∀ N,N≤256→∃ e',∀ t,t < 256→(t < N∧p t→eGet e' t = .er)∧(¬ (t < N∧p t)→eGet e' t = eGet e t):=by
  intro N
  induction N with
  | zero=>intro _; exact ⟨e,fun t ht=>⟨fun h=>absurd h.1 (Nat.not_lt_zero _),fun _=>rfl⟩⟩
  | succ N ih=>
   intro hN
   obtain ⟨e',h⟩:=ih (by omega)
   by_cases hp:p N
   ·refine ⟨eSet e' N .er,fun t ht=>?_⟩
    by_cases c:t = N
    ·subst c
     rw [eGet_same]
     exact ⟨fun _=>rfl,fun hn=>absurd ⟨by omega,hp⟩ hn⟩
    ·rw [eGet_ne (by omega) ht c]
     exact ⟨fun ⟨h1,h2⟩=>(h t ht).1 ⟨by omega,h2⟩,fun hn=>(h t ht).2 fun ⟨h1,h2⟩=>hn ⟨by omega,h2⟩⟩
   ·refine ⟨e',fun t ht=>⟨fun ⟨h1,h2⟩=>(h t ht).1 ⟨?_,h2⟩,fun hn=>(h t ht).2 fun ⟨h1,h2⟩=>hn ⟨by omega,h2⟩⟩⟩
    by_cases c:t = N
    ·subst c; exact absurd h2 hp
    ·omega
 obtain ⟨e',h⟩:=key 256 (Nat.le_refl _)
 exact ⟨e',fun t ht=>⟨fun hp=>(h t ht).1 ⟨ht,hp⟩,fun hp=>(h t ht).2 fun h=>hp h.2⟩⟩
theorem gT_lt {e:E} {t:Nat} (h:t < 256):(gT t).f e = eGet e t:=by
 unfold gT
 rw [show Nat.ble t 255 = true from Nat.ble_eq_true_of_le (by omega)]
 rfl
theorem gT_ge {e:E} {t:Nat} (h:¬ t < 256):(gT t).f e = .er:=by
 unfold gT
 cases c:Nat.ble t 255 with
 | true=>have:=yh c; omega
 | false=>rfl
theorem gT_ag {e e':E} {t:Nat} (h:t < 256→eGet e t = eGet e' t):(gT t).f e = (gT t).f e':=by
 by_cases c:t < 256
 ·rw [gT_lt c,gT_lt c,h c]
 ·rw [gT_ge c,gT_ge c]
theorem upE_ne {e:E} {d:Option Nat} {t:Nat} (ht:t < 256) (hd:∀ s,d = some s→s < 256) (hn:d ≠ some t) (v:AV):eGet (upE e d v) t = eGet e t:=by
 cases d with
 | none=>rfl
 | some s=>exact eGet_ne (hd s rfl) ht (fun h=>hn (by rw [h])) v
theorem upE_same {e:E} {t:Nat} (v:AV):eGet (upE e (some t) v) t = v:=eGet_same e t v
theorem okD_lt {nt:Nat} (hnt:nt≤256) {d:Option Nat} (h:okD nt d = true):∀ s,d = some s→s < 256:=by
 rintro s rfl
 have:=yh h
 have:s + 1≤nt:=this
 omega
section
variable {T:Tb} {e e':E} {cl:CallT} {ops:Array Oper}
theorem looks_ag {o:Oper} (h:∀ t,t ∈ Oper.looksAt ops o→(gT t).f e = (gT t).f e'):
  (∀ x ∈ o.op.operands.toList,Ag e e' x)∧∀ g,o.guard = some g→∀ t,gTmp ops g = some t→(gT t).f e = (gT t).f e':=by
 constructor
 ·intro x hx
  refine Ag.tmp fun t ht=>h t ?_
  subst ht
  unfold Oper.looksAt
  rw [List.mem_append]
  left
  rw [List.mem_filterMap]
  exact ⟨_,hx,rfl⟩
 ·intro g hg t ht
  refine h t ?_
  unfold Oper.looksAt
  rw [List.mem_append]
  right
  obtain ⟨g1,g2⟩:=g
  have:=gTmp_ok ht
  simp only at this
  simp [hg,this]
theorem qG_ag {g:Option (Nat×Bool)} {q:Qf} {hp hp':Hp} (hg:∀ g',g = some g'→∀ t,gTmp ops g' = some t→(gT t).f e = (gT t).f e') (hq:q.f e hp = q.f e' hp'):(qG ops g q).f e hp = (qG ops g q).f e' hp':=by
 cases g with
 | none=>exact hq
 | some g'=>
  unfold qG
  cases ht:gTmp ops g' with
  | none=>simp only [ht]
  | some t=>
   have h1:=hg g' rfl t ht
   simp only [ht,h1]
   cases (gT t).f e' <;> first
    | rfl
    | (rename_i x; show bv (xb x g'.2) (q.f e hp) .u = bv (xb x g'.2) (q.f e' hp') .u; rw [hq])
theorem eG_ag {g:Option (Nat×Bool)} {q:Ef} {hp:Hp} {k:K1} (hg:∀ g',g = some g'→∀ t,gTmp ops g' = some t→(gT t).f e = (gT t).f e') (hq:q.f cl e hp k = q.f cl e' hp k):(eG ops g q).f cl e hp k = (eG ops g q).f cl e' hp k:=by
 cases g with
 | none=>exact hq
 | some g'=>
  unfold eG
  cases ht:gTmp ops g' with
  | none=>simp only [ht]; rfl
  | some t=>
   have h1:=hg g' rfl t ht
   simp only [ht,h1]
   cases (gT t).f e' <;> first
    | rfl
    | (rename_i x; show bz (xb x g'.2) (q.f cl e hp k) (k .u hp) = bz (xb x g'.2) (q.f cl e' hp k) (k .u hp); rw [hq])
theorem cOp_ag {n:Nat} {o:Oper} (h:∀ t,t ∈ Oper.looksAt ops o→(gT t).f e = (gT t).f e') {hp:Hp} {k k':E→Hp→Ans} (hk:∀ v hp,k (upE e o.dst v) hp = k' (upE e' o.dst v) hp):(cOp T n ops o).f cl e hp k = (cOp T n ops o).f cl e' hp k':=by
 obtain ⟨h1,h2⟩:=looks_ag h
 unfold cOp
 cases okD n o.dst with
 | false=>rfl
 | true=>
  simp only [cond_true]
  cases hq:cQ T o.op with
  | some q=>
   simp only []
   have e1:(qG ops o.guard q).f e hp = (qG ops o.guard q).f e' hp:=qG_ag h2 (cQ_ag hq h1 hp)
   have ek:(fun v=>(upD o.dst).f e v fun e=>k e hp) = fun v=>(upD o.dst).f e' v fun e=>k' e hp:=by
    funext v; rw [upD_eq,upD_eq]; exact hk v hp
   match isMv T o.op with
   | 0=>
    show frV ((qG ops o.guard q).f e hp) (fun v=>(upD o.dst).f e v fun e=>k e hp) = frV ((qG ops o.guard q).f e' hp) (fun v=>(upD o.dst).f e' v fun e=>k' e hp)
    rw [e1,ek]
   | 1=>
    show frH ((qG ops o.guard q).f e hp) (fun v=>(upD o.dst).f e v fun e=>k e hp) = frH ((qG ops o.guard q).f e' hp) (fun v=>(upD o.dst).f e' v fun e=>k' e hp)
    rw [e1,ek]
   | n + 2=>
    show frA ((qG ops o.guard q).f e hp) (fun v=>(upD o.dst).f e v fun e=>k e hp) = frA ((qG ops o.guard q).f e' hp) (fun v=>(upD o.dst).f e' v fun e=>k' e hp)
    rw [e1,ek]
  | none=>
   simp only []
   have ek:(fun v h=>(upD o.dst).f e v fun e=>k e h) = fun v h=>(upD o.dst).f e' v fun e=>k' e h:=by
    funext v h; rw [upD_eq,upD_eq]; exact hk v h
   show (eG ops o.guard (cE T o.op)).f cl e hp (fun v h=>(upD o.dst).f e v fun e=>k e h) = (eG ops o.guard (cE T o.op)).f cl e' hp (fun v h=>(upD o.dst).f e' v fun e=>k' e h)
   rw [ek]
   exact eG_ag h2 (cE_ag h1)
end
section
variable {C:Ctx} {ρ:Env} {h:H} {Q:Exit→Act→World→Prop} {X:Cx} {θ:Th} {hp:Hp} {T:Tb} {ops:Array Oper}
theorem quiet_ok (hT:TbOk C.P T) (S:SR X θ hp h) {e:E} (he:RE θ e ρ) {o:Oper} {q:Qf} (hq:cQ T o.op = some q) (hd:okD C.n o.dst = true) (hne:(qG ops o.guard q).f e hp ≠ .er):
  ∃ V,RV θ ((qG ops o.guard q).f e hp) V∧∀ J:Env→H→Prop,J (upo ρ o.dst V) h→OpW C ops Q o J ρ h:=by
 obtain ⟨dst,op,ty,pos,after,gd⟩:=o
 have hok:=okD_ok hd
 have val:(qG ops gd q).f e hp = q.f e hp→∃ V,RV θ ((qG ops gd q).f e hp) V∧OpVal C op ty ρ h V:=by
  intro e1
  simp only [e1] at hne
  obtain ⟨V,h1,h2⟩:=cQ_ok (ty:=ty) hT S he hq hne
  rw [e1]
  exact ⟨V,h2,h1⟩
 cases gd with
 | none=>
  obtain ⟨V,h1,h2⟩:=val rfl
  exact ⟨V,h1,fun J hj=>OpW.val hok h2 hj⟩
 | some gg=>
  unfold qG at hne val ⊢
  cases ht:gTmp ops gg with
  | none=>simp only [ht] at hne; exact absurd rfl hne
  | some t=>
   simp only [ht] at hne val ⊢
   have ht':=gTmp_ok ht
   cases hv:(gT t).f e <;> simp only [hv] at hne val ⊢ <;> first | exact absurd rfl hne | skip
   ·have hr:=gT_ok he (t:=t) (by rw [hv]; intro e; cases e)
    rw [hv] at hr
    have hu:=rv_u hr
    refine ⟨undef,RV.undef,fun J hj a w s=>?_⟩
    rw [if_neg (by rw [qek s ht' hu]; simp)]
    exact ⟨_,_,s.put hok undef,hj⟩
   ·rename_i x
    have hr:=gT_ok he (t:=t) (by rw [hv]; intro e; cases e)
    rw [hv] at hr
    have hb:ρ t = .bool x:=hr.ra (v:=.b x) trivial
    cases hx:xb x gg.2 with
    | true=>
     rw [hx] at hne val
     obtain ⟨V,h1,h2⟩:=val rfl
     rw [xb_eq] at hx
     have hx:=eq_of_beq hx
     refine ⟨V,h1,fun J hj a w s=>?_⟩
     exact OpW.yv t ht' (by rw [hb,hx]) (by rw [Nat.blt_eq]; exact qfk s (by rw [hb]; intro e; cases e)) hok h2 hj a w s
    | false=>
     rw [xb_eq] at hx
     have hx:x = !gg.2:=by cases x <;> cases h:gg.2 <;> simp_all
     refine ⟨undef,RV.undef,fun J hj a w s=>?_⟩
     exact OpW.no t ht' (by rw [hb,hx]) (by rw [Nat.blt_eq]; exact qfk s (by rw [hb]; intro e; cases e)) hok hj a w s
theorem wpOp_of {i:Nat} {o:Oper} (hi:ops[i]? = some o) {J:Env→H→Prop} {a:Act} {w:World} (s:St C ρ h a w) (hh:OpW C ops Q o J ρ h) {K:Act→World→Prop} (hK:∀ ρ' h' a' w',St C ρ' h' a' w'→J ρ' h'→K a' w'):wpOp C.P ops Q i K a w:=by
 have h0:=hh a w s
 unfold wpOp
 simp only [hi]
 split at h0
 ·rename_i hw
  rw [if_pos hw]
  refine .inl (Oper.wp_mono (fun a' w'=>?_) h0)
  rintro ⟨ρ',h',s',hA⟩
  exact hK ρ' h' a' w' s' hA
 ·rename_i hw
  rw [if_neg hw]
  obtain ⟨ρ',h',s',hA⟩:=h0
  exact hK ρ' h' _ _ s' hA
theorem SR.lay (S:SR X θ hp h) {row:Row} {nx':Rid} (hnx:tor nx' = tor hp.nx + 1):SR X θ ⟨uR hp.rows hp.nx row,nx',hp.ro⟩ h:=by
 have ne:∀ r x,θ r = some x→r ≠ hp.nx:=fun r x hr e=>by have:=S.fresh r x hr; subst e; omega
 have gs:∀ r,r ≠ hp.nx→getH ⟨uR hp.rows hp.nx row,nx',hp.ro⟩ r = getH hp r:=fun r hn=>by
  have:=qcz hp hp.nx row r
  rw [if_neg hn] at this
  exact this
 refine ⟨fun r x hr=>?_,fun r r' x x' h1 h2 l1 l2 hn=>?_,fun r x hr=>?_,fun r x hr hl=>?_,S.keepU,fun r row' hk=>?_,S.ro,S.blk⟩
 ·rw [gs r (ne r x hr)]; exact S.rows r x hr
 ·rw [gs r (ne r x h1)] at l1
  rw [gs r' (ne r' x' h2)] at l2
  exact S.dist r r' x x' h1 h2 l1 l2 hn
 ·have:=S.fresh r x hr
  show tor r < tor nx'
  omega
 ·rw [gs r (ne r x hr)] at hl; exact S.own r x hr hl
 ·obtain ⟨h1,h2,h3⟩:=S.kept r row' hk
  refine ⟨?_,by show tor r < tor nx'; omega,h3⟩
  rw [gs r (fun e=>by subst e; omega)]; exact h1
theorem SR.place (S:SR X θ hp h) {r:Rid} {x2:Nat×Nat} {obj:Obj} (hr:θ r = none) (hf:tor r < tor hp.nx) (hK:X.K r = none) (hrow:RowOk (thUp θ r (h.size,x2)) (h.size,x2) (getH hp r) (h.push obj)):SR X (thUp θ r (h.size,x2)) hp (h.push obj):=by
 have ext:∀ r' y,θ r' = some y→thUp θ r (h.size,x2) r' = some y:=qe0 hr _
 have old:∀ {r' y},r' ≠ r→thUp θ r (h.size,x2) r' = some y→θ r' = some y:=fun hn h=>by rwa [thUp_ne hn] at h
 have hsz:(h.push obj).size = h.size + 1:=by simp
 have at_:∀ b,b < h.size→(h.push obj)[b]? = h[b]?:=fun b hb=>by rw [Array.getElem?_push,if_neg (by omega)]
 refine ⟨fun r' x hx=>?_,fun r1 r2 x1 x2' h1 h2 l1 l2 hn=>?_,fun r' x hx=>?_,fun r' x hx hl=>?_,fun b hb=>?_,fun r' row' hk=>?_,S.ro,fun r' x hx=>?_⟩
 ·by_cases c:r' = r
  ·subst c; rw [qb1] at hx; cases hx; exact hrow
  ·have:=old c hx
   exact ((S.rows r' x this).at_ (at_ _ (S.blk _ _ this))).mono ext
 ·by_cases c1:r1 = r
  ·subst c1
   rw [qb1] at h1; cases h1
   have:=S.blk _ _ (old (fun e=>hn e.symm) h2)
   exact fun e=>by simp only at e; omega
  ·by_cases c2:r2 = r
   ·subst c2
    rw [qb1] at h2; cases h2
    have:=S.blk _ _ (old c1 h1)
    exact fun e=>by simp only at e; omega
   ·exact S.dist _ _ _ _ (old c1 h1) (old c2 h2) l1 l2 hn
 ·by_cases c:r' = r
  ·subst c; exact hf
  ·exact S.fresh _ _ (old c hx)
 ·by_cases c:r' = r
  ·subst c
   rw [qb1] at hx; cases hx
   intro hU
   have:=(S.keepU _ hU).1
   simp only at this
   omega
  ·exact S.own _ _ (old c hx) hl
 ·obtain ⟨h1,h2⟩:=S.keepU b hb
  refine ⟨by omega,?_⟩
  rw [at_ b h1]; exact h2
 ·obtain ⟨h1,h2,h3⟩:=S.kept r' row' hk
  have c:r' ≠ r:=fun e=>by subst e; rw [hK] at hk; cases hk
  exact ⟨h1,h2,by rw [thUp_ne c]; exact h3⟩
 ·rw [hsz]
  by_cases c:r' = r
  ·subst c; rw [qb1] at hx; cases hx; exact Nat.lt_succ_self _
  ·have:=S.blk _ _ (old c hx); omega
open Classical in
def XK (X:Cx) (hp:Hp) (p:Rid→Prop):Cx:=⟨X.U,X.h0,fun r=>if p r then some (getH hp r) else X.K r,X.ro,X.G⟩
theorem XK_ok (hX:CxOk X) (p:Rid→Prop):CxOk (XK X hp p):=⟨hX.gd,hX.mg,hX.br,hX.gl⟩
open Classical in
theorem XK_in (S:SR X θ hp h) {p:Rid→Prop} (hp':∀ r,p r→tor r < tor hp.nx∧θ r = none):SR (XK X hp p) θ hp h:=by
 refine ⟨S.rows,S.dist,S.fresh,S.own,S.keepU,fun r row hk=>?_,S.ro,S.blk⟩
 have hk:(if p r then some (getH hp r) else X.K r) = some row:=hk
 split at hk
 ·rename_i hr
  cases hk
  exact ⟨rfl,(hp' r hr).1,.inl (hp' r hr).2⟩
 ·exact S.kept r row hk
open Classical in
theorem XK_out (S:SR X θ hp h) {p:Rid→Prop} {θ':Th} {hp':Hp} {h':H} (S':SR (XK X hp p) θ' hp' h'):SR X θ' hp' h':=by
 refine ⟨S'.rows,S'.dist,S'.fresh,S'.own,S'.keepU,fun r row hk=>?_,S'.ro,S'.blk⟩
 refine S'.kept r row ?_
 show (if p r then some (getH hp r) else X.K r) = some row
 split
 ·rw [(S.kept r row hk).1]
 ·exact hk
open Classical in
theorem XK_kept {p:Rid→Prop} {θ':Th} {hp':Hp} {h':H} (S':SR (XK X hp p) θ' hp' h') {r:Rid} (hr:p r):getH hp' r = getH hp r∧tor r < tor hp'.nx:=by
 have:=S'.kept r (getH hp r) (by show (if p r then some (getH hp r) else X.K r) = _; rw [if_pos hr])
 exact ⟨this.1,this.2.1⟩
def AlOk (C:Ctx) (Q:Exit→Act→World→Prop) (o:Oper) (row:Row) (x2:Nat×Nat) (mk:Rid→AV):Prop:=
 ∀ ρ h,∃ obj V,(∀ θ,RowOk θ (h.size,x2) row (h.push obj))∧(∀ θ r,θ r = some (h.size,x2)→RV θ (mk r) V)∧∀ J:Env→H→Prop,J (upo ρ o.dst V) (h.push obj)→OpE C Q o.op o.type o.dst J ρ h
theorem al_ok (hT:TbOk C.P T) (hX:CxOk X) (S:SR X θ hp h) {e:E} {cl:CallT} {o:Oper} (hd:okD C.n o.dst = true) (ha:isAl o.op = true) {q:K1} (g:X.G ((cE T o.op).f cl e hp q)):
  ∃ row x2 mk nx',tor nx' = tor hp.nx + 1∧X.G (q (mk hp.nx) ⟨uR hp.rows hp.nx row,nx',hp.ro⟩)∧AlOk C Q o row x2 mk∧(∀ r,mk r ≠ .er):=by
 obtain ⟨dst,op,ty,pos,after,gd⟩:=o
 have hok:=okD_ok hd
 simp only at ha g
 unfold isAl at ha
 split at ha
 ·rename_i t
  have g:X.G ((alA T t).f cl e hp q):=g
  unfold alA at g
  cases c:zOk T t with
  | false=>rw [c] at g; exact (hX.gd.er _ g).elim
  | true=>
   rw [c] at g
   have g:X.G (hnew hp (.c (szT T t) (zeroC T t)) fun r h=>q (.p r 0) h):=g
   obtain ⟨nx',hnx,g1⟩:=hnew_ok S hX g
   refine ⟨_,(0,szT T t),fun r=>.p r 0,nx',hnx,g1,fun ρ h=>?_,fun r=>by simp⟩
   obtain ⟨vs,hz,_⟩:=zero_ok hT (θ:=θ) c
   refine ⟨.cells vs.toArray t (0,0),.pointer (some ⟨h.size,0,none⟩),fun θ=>?_,fun θ r hr=>rv_p (o:=0) hr,fun J hj=>e_alloc hz hok hj⟩
   obtain ⟨vs',hz',hc⟩:=zero_ok hT (θ:=θ) c
   have hvv:vs' = vs:=by
    obtain ⟨i,z,a1,a2,a3⟩:=hz
    obtain ⟨i',z',b1,b2,b3⟩:=hz'
    rw [a1] at b1; cases b1
    rw [a2] at b2; cases b2
    rw [a3] at b3
    simpa using b3.symm
   subst hvv
   have hl:=zero_len c hc
   refine ⟨vs'.toArray,t,(0,0),vs',push_at,?_,Nat.le_refl _,.inl rfl,hc,hl,?_⟩
   ·simp [hl]
   ·simp [← hl]
 ·rename_i t
  have g:X.G ((mmA T t).f cl e hp q):=g
  unfold mmA at g
  split at g
  ·split at g
   ·rename_i kk hkk
    obtain ⟨nx',hnx,g1⟩:=hnew_ok S hX (k:=fun r h=>q (.m r) h) g
    refine ⟨_,(0,0),fun r=>.m r,nx',hnx,g1,fun ρ h=>?_,fun r=>by simp⟩
    refine ⟨.map #[] 0,.map (some h.size),fun θ=>⟨#[],push_at,rfl,by simp,by simp⟩,fun θ r hr=>rv_m hr,fun J hj=>?_⟩
    refine OpE.of hok (v:=.map (some h.size)) (h.push (.map #[] 0)) (fun w hw pos after g=>⟨{ w with heap:=h.push (.map #[] 0) },?_,rfl,rfl,rfl,rfl⟩) hj
    subst hw
    simp [execOp,Instr.makeMap]
   ·exact (hX.gd.er _ g).elim
  ·exact (hX.gd.er _ g).elim
 ·cases ha
end
def Pd (D:Array Bool) (pr i:Nat):Prop:=pr.testBit i = true∧D.getD i true = false
def depO (o:Oper):Nat:=depL o.after.toList
def lookO (ops:Array Oper) (o:Oper):Nat:=tmL (Oper.looksAt ops o)
def dstO (o:Oper):Nat:=match o.dst with | some t=>bit t | none=>0
theorem dstO_tb {o:Oper} {t:Nat}:(dstO o).testBit t = true ↔ o.dst = some t:=by
 unfold dstO
 cases o.dst with
 | none=>simp
 | some s=>simp [qec]
theorem getD_lt {D:Array Bool} {i:Nat} (h:D.getD i true = false):i < D.size:=by
 rcases Nat.lt_or_ge i D.size with h' | h'
 ·exact h'
 ·simp [Array.getD_eq_getD_getElem?,Array.getElem?_eq_none h'] at h
theorem getD_ft {D:Array Bool} {i:Nat} (h:D.getD i false = true):D.getD i true = true∧i < D.size:=by
 rcases Nat.lt_or_ge i D.size with h' | h'
 ·simp only [Array.getD_eq_getD_getElem?,Array.getElem?_eq_getElem h',Option.getD_some] at h ⊢
  exact ⟨h,h'⟩
 ·simp [Array.getD_eq_getD_getElem?,Array.getElem?_eq_none h'] at h
theorem Pd.set {D:Array Bool} {pr i k:Nat} (h:Pd (D.setIfInBounds i true) pr k):Pd D pr k∧k ≠ i:=by
 obtain ⟨h1,h2⟩:=h
 by_cases c:i = k
 ·subst c
  exfalso
  rcases Nat.lt_or_ge i D.size with h' | h'
  ·simp [Array.getD_eq_getD_getElem?,Array.getElem?_setIfInBounds,h'] at h2
  ·simp [Array.getD_eq_getD_getElem?,Array.getElem?_setIfInBounds,h',Nat.not_lt.2 h'] at h2
 ·rw [getD_set_ne true c] at h2
  exact ⟨⟨h1,h2⟩,fun e=>c e.symm⟩
structure Inv (C:Ctx) (T:Tb) (ops:Array Oper) (Q:Exit→Act→World→Prop) (X:Cx) (θ0:Th) (n0:Nat) (D:Array Bool) (θ:Th) (ρ:Env) (h:H) (pr mp lm:Nat) (e:E) (hp:Hp) (R:Nat→Rid) (rk:Nat→Nat) (now:Nat):Prop where
 cl:Closed ops D
 dpr:∀ i,i < ops.size→D.getD i true = true→pr.testBit i = true
 prs:∀ i,pr.testBit i = true→i < ops.size
 pmp:∀ i,Pd D pr i→mp.testBit i = true
 prc:∀ i o,ops[i]? = some o→pr.testBit i = true→∀ t,(depO o).testBit t = true→pr.testBit t = true
 mlm:∀ i o,ops[i]? = some o→mp.testBit i = true→(∀ t,(lookO ops o).testBit t = true→lm.testBit t = true)∧∀ t,o.dst = some t→lm.testBit t = true
 dep:∀ i k oi ok t,Pd D pr i→Pd D pr k→ops[i]? = some oi→ops[k]? = some ok→ok.dst = some t→(lookO ops oi).testBit t = true→(depO oi).testBit k = true
 dst:∀ i k oi ok t,Pd D pr i→Pd D pr k→i ≠ k→ops[i]? = some oi→ops[k]? = some ok→oi.dst = some t→ok.dst ≠ some t
 rkd:∀ i k o,Pd D pr i→Pd D pr k→ops[i]? = some o→(depO o).testBit k = true→rk k < rk i
 rkn:∀ i,Pd D pr i→rk i < now
 okd:∀ i o,Pd D pr i→ops[i]? = some o→okD C.n o.dst = true
 vq:∀ i o q,Pd D pr i→ops[i]? = some o→cQ T o.op = some q→(qG ops o.guard q).f e hp ≠ .er∧∀ t,o.dst = some t→eGet e t = (qG ops o.guard q).f e hp
 va:∀ i o,Pd D pr i→ops[i]? = some o→cQ T o.op = none→∃ row x2 mk,o.guard = none∧AlOk C Q o row x2 mk∧(∀ t,o.dst = some t→eGet e t = mk (R i))∧getH hp (R i) = row∧θ (R i) = none∧tor (R i) < tor hp.nx∧n0≤tor (R i)∧X.K (R i) = none
 inj:∀ i k oi ok,Pd D pr i→Pd D pr k→i ≠ k→ops[i]? = some oi→ops[k]? = some ok→cQ T oi.op = none→cQ T ok.op = none→R i ≠ R k
 sr:SR X θ hp h
 re:∀ t,t < 256→(∀ i o,Pd D pr i→ops[i]? = some o→o.dst ≠ some t)→eGet e t ≠ .er→RV θ (eGet e t) (ρ t)
 ext:Ext θ0 θ n0
 le:n0≤tor hp.nx
section
variable {C:Ctx} {Q:Exit→Act→World→Prop} {X:Cx} {T:Tb} {ops:Array Oper} {θ0:Th} {n0:Nat} {D:Array Bool} {θ:Th} {ρ:Env} {h:H} {pr mp lm:Nat} {e:E} {hp:Hp} {R:Nat→Rid} {rk:Nat→Nat} {now:Nat}
theorem Inv.seen (I:Inv C T ops Q X θ0 n0 D θ ρ h pr mp lm e hp R rk now):∃ e',RE θ e' ρ∧(∀ t,t < 256→(∀ i o,Pd D pr i→ops[i]? = some o→o.dst ≠ some t)→eGet e' t = eGet e t):=by
 obtain ⟨e',he⟩:=mask (fun t=>∃ i o,Pd D pr i∧ops[i]? = some o∧o.dst = some t) e
 have hno:∀ t,(∀ i o,Pd D pr i→ops[i]? = some o→o.dst ≠ some t)→¬ ∃ i o,Pd D pr i∧ops[i]? = some o∧o.dst = some t:=fun t h ⟨i,o,h1,h2,h3⟩=>h i o h1 h2 h3
 refine ⟨e',fun t ht hn=>?_,fun t ht hh=>(he t ht).2 (hno t hh)⟩
 by_cases c:∃ i o,Pd D pr i∧ops[i]? = some o∧o.dst = some t
 ·exact absurd ((he t ht).1 c) hn
 ·have h1:=(he t ht).2 c
  rw [h1] at hn ⊢
  exact I.re t ht (fun i o h1 h2 h3=>c ⟨i,o,h1,h2,h3⟩) hn
theorem ready_dep {i:Nat} {o:Oper} (hi:i ∈ Region.ready .any ops D) (ho:ops[i]? = some o):D.getD i true = false∧∀ t,(depO o).testBit t = true→D.getD t false = true:=by
 obtain ⟨hun,o',ho',hall⟩:=mem_ready.1 hi
 rw [ho] at ho'; cases ho'
 refine ⟨hun,fun t ht=>?_⟩
 obtain ⟨ed,h1,h2,h3⟩:=depL_tb.1 ht
 subst h3
 exact hall ed (by simpa using h1) h2
theorem Inv.closed (I:Inv C T ops Q X θ0 n0 D θ ρ h pr mp lm e hp R rk now) {i:Nat} {o:Oper} (ho:ops[i]? = some o) (hd:D.getD i false = true):∀ t,(depO o).testBit t = true→D.getD t false = true:=fun t ht=>by
 obtain ⟨ed,h1,h2,h3⟩:=depL_tb.1 ht
 subst h3
 exact I.cl.2 i o ho hd ed (by simpa using h1) h2
theorem Pd.no {pr k:Nat} (h:Pd D pr k) (h':D.getD k false = true):False:=by
 have:=(getD_ft h').1
 rw [h.2] at this; cases this
theorem Pd.oper (I:Inv C T ops Q X θ0 n0 D θ ρ h pr mp lm e hp R rk now) {k:Nat} (hk:Pd D pr k):∃ o,ops[k]? = some o:=by
 have:=getD_lt hk.2
 rw [I.cl.1] at this
 exact ⟨_,Array.getElem?_eq_getElem this⟩
theorem Inv.listed (I:Inv C T ops Q X θ0 n0 D θ ρ h pr mp lm e hp R rk now) {i:Nat} {o:Oper} (hi:i ∈ Region.ready .any ops D) (hpr:pr.testBit i = true) (ho:ops[i]? = some o) {θ':Th} {ρ':Env} {h':H} (sr:SR X θ' hp h') (hE:Ext θ θ' n0)
  (hθ:∀ k ok,Pd D pr k→k ≠ i→ops[k]? = some ok→cQ T ok.op = none→θ' (R k) = none) (hV:∀ t,o.dst = some t→RV θ' (eGet e t) (ρ' t)) (hρ:∀ t,o.dst ≠ some t→ρ' t = ρ t):
  Inv C T ops Q X θ0 n0 (D.setIfInBounds i true) θ' ρ' h' pr mp lm e hp R rk now:=by
 have sub:∀ k,Pd (D.setIfInBounds i true) pr k→Pd D pr k:=fun k h=>(Pd.set h).1
 refine ⟨I.cl.set hi,fun k hk hd=>?_,I.prs,fun k hk=>I.pmp k (sub k hk),I.prc,I.mlm,fun k l ok ol t h1 h2=>I.dep k l ok ol t (sub k h1) (sub l h2),fun k l ok ol t h1 h2=>I.dst k l ok ol t (sub k h1) (sub l h2),
  fun k l o h1 h2=>I.rkd k l o (sub k h1) (sub l h2),fun k h1=>I.rkn k (sub k h1),fun k o h1=>I.okd k o (sub k h1),fun k o q h1=>I.vq k o q (sub k h1),fun k ok h1 h2 h3=>?_,fun k l ok ol h1 h2=>I.inj k l ok ol (sub k h1) (sub l h2),sr,fun t ht hn hne=>?_,?_,I.le⟩
 ·by_cases c:i = k
  ·subst c; exact hpr
  ·rw [getD_set_ne true c] at hd
   exact I.dpr k hk hd
 ·obtain ⟨row,x2,mk,a1,a2,a3,a4,a5,a6,a7,a8⟩:=I.va k ok (sub k h1) h2 h3
  exact ⟨row,x2,mk,a1,a2,a3,a4,hθ k ok (sub k h1) (Pd.set h1).2 h2 h3,a6,a7,a8⟩
 ·by_cases c:o.dst = some t
  ·exact hV t c
  ·rw [hρ t c]
   refine RV.mono hE.1 (I.re t ht (fun k ok h1 h2 h3=>?_) hne)
   by_cases c2:k = i
   ·subst c2; rw [ho] at h2; cases h2; exact c h3
   ·exact hn k ok ⟨h1.1,by rw [getD_set_ne true (fun e=>c2 e.symm)]; exact h1.2⟩ h2 h3
 ·exact I.ext.trans hE (Nat.le_refl _)
theorem upo_same {ρ:Env} {t:Nat} {V:Value}:upo ρ (some t) V t = V:=by
 show (bif Nat.beq t t then V else ρ t) = V
 simp
theorem upo_ne {ρ:Env} {d:Option Tmp} {t:Nat} {V:Value} (h:d ≠ some t):upo ρ d V t = ρ t:=by
 cases d with
 | none=>rfl
 | some s=>
  show (bif Nat.beq t s then V else ρ t) = ρ t
  have:Nat.beq t s = false:=by rw [Bool.eq_false_iff]; exact fun e=>h (by rw [Nat.eq_of_beq_eq_true e])
  rw [this]; rfl
theorem Inv.perf (hX:CxOk X) (hT:TbOk C.P T) (hnt:C.n≤256) (I:Inv C T ops Q X θ0 n0 D θ ρ h pr mp lm e hp R rk now) {i:Nat} (hi:i ∈ Region.ready .any ops D) (hpr:pr.testBit i = true) {a:Act} {w:World} (s:St C ρ h a w):
  wpOp C.P ops Q i (fun a' w'=>∃ θ' ρ' h',Inv C T ops Q X θ0 n0 (D.setIfInBounds i true) θ' ρ' h' pr mp lm e hp R rk now∧St C ρ' h' a' w') a w:=by
 obtain ⟨hun0,o,ho,_⟩:=mem_ready.1 hi
 obtain ⟨hun,hdep⟩:=ready_dep hi ho
 have pd:Pd D pr i:=⟨hpr,hun⟩
 have hd:=I.okd i o pd ho
 cases hq:cQ T o.op with
 | some q=>
  obtain ⟨h1,h2⟩:=I.vq i o q pd ho hq
  obtain ⟨e',he,hs⟩:=I.seen
  have hag:∀ t,t ∈ Oper.looksAt ops o→(gT t).f e' = (gT t).f e:=fun t ht=>gT_ag fun h256=>hs t h256 fun k ok hk hok hkt=>by
   have:=I.dep i k o ok t pd hk ho hok hkt (tmL_tb.2 ht)
   exact hk.no (hdep k this)
  obtain ⟨g1,g2⟩:=looks_ag hag
  have e1:(qG ops o.guard q).f e' hp = (qG ops o.guard q).f e hp:=qG_ag g2 (cQ_ag hq g1 hp)
  obtain ⟨V,hv,hw⟩:=quiet_ok (ops:=ops) (Q:=Q) hT I.sr he hq hd (by rw [e1]; exact h1)
  refine wpOp_of ho s (hw (fun ρ' h'=>ρ' = upo ρ o.dst V∧h' = h) ⟨rfl,rfl⟩) ?_
  rintro ρ' h' a' w' s' ⟨rfl,rfl⟩
  refine ⟨θ,_,_,I.listed hi hpr ho I.sr (Ext.refl _ _) (fun k ok h1 h2 h3 h4=>?_) (fun t ht=>?_) (fun t ht=>upo_ne ht),s'⟩
  ·obtain ⟨_,_,_,_,_,_,_,h5,_⟩:=I.va k ok h1 h3 h4
   exact h5
  ·rw [h2 t ht,ht,upo_same,← e1]; exact hv
 | none=>
  obtain ⟨row,x2,mk,a1,a2,a3,a4,a5,a6,a7,a8⟩:=I.va i o pd ho hq
  obtain ⟨obj,V,b1,b2,b3⟩:=a2 ρ h
  obtain ⟨dst,op,ty,pos,after,gd⟩:=o
  simp only at a1
  subst a1
  refine wpOp_of ho s (OpW.e (b3 (fun ρ' h'=>ρ' = upo ρ dst V∧h' = h.push obj) ⟨rfl,rfl⟩)) ?_
  rintro ρ' h' a' w' s' ⟨rfl,rfl⟩
  have S':=I.sr.place (x2:=x2) (obj:=obj) a5 a6 a8 (by rw [a4]; exact b1 _)
  have hE:Ext θ (thUp θ (R i) (h.size,x2)) n0:=⟨qe0 a5 _,fun r hr hn=>by rw [thUp_ne]; exact hn; intro e; subst e; omega⟩
  refine ⟨_,_,_,I.listed hi hpr ho S' hE (fun k ok h1 h2 h3 h4=>?_) (fun t ht=>?_) (fun t ht=>upo_ne ht),s'⟩
  ·obtain ⟨_,_,_,_,_,_,_,h5,_⟩:=I.va k ok h1 h3 h4
   rw [thUp_ne]
   ·exact h5
   ·exact I.inj k i ok _ h1 pd h2 h3 ho h4 hq
  ·have ht':dst = some t:=ht
   rw [a3 t ht,ht',upo_same]
   exact b2 _ _ (qb1 _ _ _)
end
section
variable {C:Ctx} {Q:Exit→Act→World→Prop} {X:Cx} {T:Tb} {ops:Array Oper} {θ0:Th} {n0:Nat} {D:Array Bool} {θ:Th} {ρ:Env} {h:H} {pr mp lm:Nat} {e:E} {hp:Hp} {R:Nat→Rid} {rk:Nat→Nat} {now:Nat}
theorem Inv.out (I:Inv C T ops Q X θ0 n0 D θ ρ h pr mp lm e hp R rk now) {i:Nat} {o:Oper} (ho:ops[i]? = some o) (hni:pr.testBit i = false):D.getD i true = false:=by
 have hi:i < ops.size:=by rw [Array.getElem?_eq_some_iff] at ho; exact ho.1
 cases c:D.getD i true with
 | false=>rfl
 | true=>have:=I.dpr i hi c; rw [hni] at this; cases this
theorem Inv.grow (hnt:C.n≤256) (I:Inv C T ops Q X θ0 n0 D θ ρ h pr mp lm e hp R rk now) {i:Nat} {o:Oper} (ho:ops[i]? = some o) (hni:pr.testBit i = false)
  (hr:∀ t,(depO o).testBit t = true→pr.testBit t = true) (c1:∀ t,o.dst = some t→lm.testBit t = false) (c2:∀ t,o.dst = some t→(lookO ops o).testBit t = false)
  (c3:∀ t k ok,(lookO ops o).testBit t = true→mp.testBit k = true→ops[k]? = some ok→ok.dst = some t→(depO o).testBit k = true)
  (hd:okD C.n o.dst = true) {v:AV} {hp':Hp} {r':Rid} (sr':SR X θ hp' h) (hle:tor hp.nx≤tor hp'.nx) (hrow:∀ r,tor r < tor hp.nx→getH hp' r = getH hp r)
  (old:∀ k ok q,Pd D pr k→ops[k]? = some ok→cQ T ok.op = some q→(qG ops ok.guard q).f (upE e o.dst v) hp' ≠ .er∧∀ t,ok.dst = some t→eGet e t = (qG ops ok.guard q).f (upE e o.dst v) hp')
  (newq:∀ q,cQ T o.op = some q→(qG ops o.guard q).f (upE e o.dst v) hp' ≠ .er∧v = (qG ops o.guard q).f (upE e o.dst v) hp')
  (newa:cQ T o.op = none→∃ row x2 mk,o.guard = none∧AlOk C Q o row x2 mk∧v = mk r'∧getH hp' r' = row∧θ r' = none∧tor r' < tor hp'.nx∧n0≤tor r'∧X.K r' = none∧tor hp.nx≤tor r'):
  Inv C T ops Q X θ0 n0 D θ ρ h (Nat.lor pr (bit i)) (Nat.lor mp (bit i)) (Nat.lor lm (Nat.lor (lookO ops o) (dstO o))) (upE e o.dst v) hp' (fun j=>if j = i then r' else R j) (fun j=>if j = i then now else rk j) (now + 1):=by
 have hD:=I.out ho hni
 have d256:=okD_lt hnt hd
 have new:Pd D (Nat.lor pr (bit i)) i:=⟨by rw [qc5,qec]; simp,hD⟩
 have back:∀ k,Pd D (Nat.lor pr (bit i)) k→k = i∨(k ≠ i∧Pd D pr k):=fun k ⟨h1,h2⟩=>by
  rw [qc5,qec,Bool.or_eq_true,decide_eq_true_eq] at h1
  by_cases c:k = i
  ·exact .inl c
  ·exact .inr ⟨c,h1.resolve_right fun e=>c e.symm,h2⟩
 have lor_l:∀ {a b t:Nat},a.testBit t = true→(Nat.lor a b).testBit t = true:=fun h=>by rw [qc5,h]; rfl
 have lor_r:∀ {a b t:Nat},b.testBit t = true→(Nat.lor a b).testBit t = true:=fun h=>by rw [qc5,h,Bool.or_true]
 have isO:∀ {ok:Oper},ops[i]? = some ok→ok = o:=fun h=>by rw [ho] at h; cases h; rfl
 have ne:∀ k ok t,Pd D pr k→ops[k]? = some ok→ok.dst = some t→o.dst ≠ some t:=fun k ok t h1 h2 h3 h4=>by
  have:=(I.mlm k ok h2 (I.pmp k h1)).2 t h3
  rw [c1 t h4] at this; cases this
 have ge:∀ t,t < 256→o.dst ≠ some t→eGet (upE e o.dst v) t = eGet e t:=fun t ht hn=>upE_ne ht d256 hn v
 refine ⟨I.cl,fun k hk hd=>lor_l (I.dpr k hk hd),fun k hk=>?_,fun k hk=>?_,fun k ok hk hb t ht=>?_,fun k ok hk hb=>?_,fun j k oj ok t h1 h2 h3 h4 h5 h6=>?_,fun j k oj ok t h1 h2 hn h3 h4 h5 h6=>?_,fun j k oj h1 h2 h3 h4=>?_,fun k hk=>?_,fun k ok hk hok=>?_,fun k ok q hk hok hq=>?_,fun k ok hk hok hq=>?_,fun j k oj ok h1 h2 hn h3 h4 h5 h6=>?_,sr',fun t ht hno hne=>?_,I.ext,Nat.le_trans I.le hle⟩
 ·rw [qc5,qec,Bool.or_eq_true,decide_eq_true_eq] at hk
  rcases hk with hk | rfl
  ·exact I.prs k hk
  ·rw [Array.getElem?_eq_some_iff] at ho; exact ho.1
 ·rcases back k hk with rfl | ⟨_,hk⟩
  ·exact lor_r (by rw [qec]; simp)
  ·exact lor_l (I.pmp k hk)
 ·rw [qc5,qec,Bool.or_eq_true,decide_eq_true_eq] at hb
  rcases hb with hb | rfl
  ·exact lor_l (I.prc k ok hk hb t ht)
  ·rw [isO hk] at ht; exact lor_l (hr t ht)
 ·rw [qc5,qec,Bool.or_eq_true,decide_eq_true_eq] at hb
  rcases hb with hb | rfl
  ·obtain ⟨h1,h2⟩:=I.mlm k ok hk hb
   exact ⟨fun t ht=>lor_l (h1 t ht),fun t ht=>lor_l (h2 t ht)⟩
  ·rw [isO hk]
   exact ⟨fun t ht=>lor_r (lor_l ht),fun t ht=>lor_r (lor_r (dstO_tb.2 ht))⟩
 ·rcases back j h1 with rfl | ⟨_,p1⟩
  ·rw [isO h3] at h6 ⊢
   rcases back k h2 with rfl | ⟨_,p2⟩
   ·rw [isO h4] at h5
    rw [c2 t h5] at h6; cases h6
   ·exact c3 t k ok h6 (I.pmp k p2) h4 h5
  ·rcases back k h2 with rfl | ⟨_,p2⟩
   ·rw [isO h4] at h5
    have:=(I.mlm j oj h3 (I.pmp j p1)).1 t h6
    rw [c1 t h5] at this; cases this
   ·exact I.dep j k oj ok t p1 p2 h3 h4 h5 h6
 ·rcases back j h1 with rfl | ⟨_,p1⟩
  ·rcases back k h2 with rfl | ⟨_,p2⟩
   ·exact hn rfl
   ·rw [isO h3] at h5; exact ne k ok t p2 h4 h6 h5
  ·rcases back k h2 with rfl | ⟨_,p2⟩
   ·rw [isO h4] at h6; exact ne j oj t p1 h3 h5 h6
   ·exact I.dst j k oj ok t p1 p2 hn h3 h4 h5 h6
 ·rcases back j h1 with rfl | ⟨hj,p1⟩
  ·rcases back k h2 with rfl | ⟨hk,p2⟩
   ·rw [isO h3] at h4
    have:=hr _ h4
    rw [hni] at this; cases this
   ·simp only [if_neg hk,if_true]
    exact I.rkn k p2
  ·rcases back k h2 with rfl | ⟨hk,p2⟩
   ·have:=I.prc j oj h3 p1.1 _ h4
    rw [hni] at this; cases this
   ·simp only [if_neg hk,if_neg hj]
    exact I.rkd j k oj p1 p2 h3 h4
 ·rcases back k hk with rfl | ⟨hn,hk⟩
  ·simp
  ·simp only [if_neg hn]
   exact Nat.lt_succ_of_lt (I.rkn k hk)
 ·rcases back k hk with rfl | ⟨hn,hk⟩
  ·rw [isO hok]; exact hd
  ·exact I.okd k ok hk hok
 ·rcases back k hk with rfl | ⟨hn,hk⟩
  ·rw [isO hok] at hq ⊢
   obtain ⟨h1,h2⟩:=newq q hq
   refine ⟨h1,fun t ht=>?_⟩
   rw [← h2,ht,upE_same]
  ·obtain ⟨h1,h2⟩:=old k ok q hk hok hq
   refine ⟨h1,fun t ht=>?_⟩
   rw [ge t (okD_lt hnt (I.okd k ok hk hok) t ht) (ne k ok t hk hok ht)]
   exact h2 t ht
 ·rcases back k hk with rfl | ⟨hn,hk⟩
  ·rw [isO hok] at hq ⊢
   obtain ⟨row,x2,mk,a1,a2,a3,a4,a5,a6,a7,a8,a9⟩:=newa hq
   simp only [if_true]
   exact ⟨row,x2,mk,a1,a2,fun t ht=>by rw [ht,upE_same]; exact a3,a4,a5,a6,a7,a8⟩
  ·obtain ⟨row,x2,mk,a1,a2,a3,a4,a5,a6,a7,a8⟩:=I.va k ok hk hok hq
   simp only [if_neg hn]
   exact ⟨row,x2,mk,a1,a2,fun t ht=>by rw [ge t (okD_lt hnt (I.okd k ok hk hok) t ht) (ne k ok t hk hok ht)]; exact a3 t ht,by rw [hrow _ a6]; exact a4,a5,by omega,a7,a8⟩
 ·have far:∀ k ok,Pd D pr k→ops[k]? = some ok→cQ T ok.op = none→cQ T o.op = none→R k ≠ r':=fun k ok b1 b2 b3 b4 e=>by
   obtain ⟨_,_,_,_,_,_,_,_,a6,_⟩:=I.va k ok b1 b2 b3
   obtain ⟨_,_,_,_,_,_,_,_,_,_,_,a9⟩:=newa b4
   rw [e] at a6; omega
  rcases back j h1 with rfl | ⟨hj,p1⟩
  ·rcases back k h2 with rfl | ⟨hk,p2⟩
   ·exact absurd rfl hn
   ·simp only [if_neg hk,if_true]
    rw [isO h3] at h5
    exact fun e=>far k ok p2 h4 h6 h5 e.symm
  ·rcases back k h2 with rfl | ⟨hk,p2⟩
   ·simp only [if_neg hj,if_true]
    rw [isO h4] at h6
    exact far j oj p1 h3 h5 h6
   ·simp only [if_neg hj,if_neg hk]
    exact I.inj j k oj ok p1 p2 hn h3 h4 h5 h6
 ·have hno':o.dst ≠ some t:=hno i o new ho
  rw [ge t ht hno'] at hne ⊢
  exact I.re t ht (fun k ok h1 h2=>hno k ok ⟨lor_l h1.1,h1.2⟩ h2) hne
theorem opK_q {o:Oper} {q:Qf} (hq:cQ T o.op = some q):opK T o = (bif isRd o.op then 1 else 0):=by unfold opK; rw [hq]
theorem opK_n {o:Oper} (hq:cQ T o.op = none) (h:opK T o≤2):o.guard = none∧isAl o.op = true∧opK T o = 2:=by
 unfold opK at h ⊢
 rw [hq] at h ⊢
 simp only at h ⊢
 cases hg:o.guard with
 | some g=>rw [hg] at h; simp at h
 | none=>
  rw [hg] at h
  simp only at h ⊢
  cases ha:isAl o.op with
  | false=>rw [ha] at h; simp at h
  | true=>simp
theorem cOp_okD {G:Ans→Prop} (hG:Gd G) {n:Nat} {o:Oper} {cl:CallT} {k:E→Hp→Ans} (g:G ((cOp T n ops o).f cl e hp k)):okD n o.dst = true:=by
 unfold cOp at g
 cases hd:okD n o.dst with
 | false=>simp only [hd] at g; exact (hG.er _ g).elim
 | true=>rfl
theorem Inv.take (hX:CxOk X) (hT:TbOk C.P T) (hnt:C.n≤256) (I:Inv C T ops Q X θ0 n0 D θ ρ h pr mp lm e hp R rk now) {i:Nat} {o:Oper} (ho:ops[i]? = some o) (hni:pr.testBit i = false) (hk:opK T o≤2)
  (hr:∀ t,(depO o).testBit t = true→pr.testBit t = true) (c1:∀ t,o.dst = some t→lm.testBit t = false) (c2:∀ t,o.dst = some t→(lookO ops o).testBit t = false)
  (c3:∀ t k ok,(lookO ops o).testBit t = true→mp.testBit k = true→ops[k]? = some ok→ok.dst = some t→(depO o).testBit k = true)
  {cl:CallT} {k:E→Hp→Ans} {L:List SS} (g:X.G ((cSS T C.n ops (.x i :: ((bif Nat.beq (opK T o) 2 then rch (IXs T ops) mp else []) ++ L))).f cl e hp k)):
  ∃ e' hp' R' rk' now',Inv C T ops Q X θ0 n0 D θ ρ h (Nat.lor pr (bit i)) (Nat.lor mp (bit i)) (Nat.lor lm (Nat.lor (lookO ops o) (dstO o))) e' hp' R' rk' now'∧X.G ((cSS T C.n ops L).f cl e' hp' k):=by
 obtain ⟨o',ho',g⟩:=cSS_x hX.gd g
 rw [ho] at ho'; cases ho'
 have hd:=cOp_okD hX.gd g
 have d256:=okD_lt hnt hd
 have agr:∀ k ok v,Pd D pr k→ops[k]? = some ok→∀ t,t ∈ Oper.looksAt ops ok→(gT t).f (upE e o.dst v) = (gT t).f e:=fun k ok v h1 h2 t ht=>gT_ag fun h256=>upE_ne h256 d256 (fun hh=>by
  have:=(I.mlm k ok h2 (I.pmp k h1)).1 t (tmL_tb.2 ht)
  rw [c1 t hh] at this; cases this) v
 cases hq:cQ T o.op with
 | some q=>
  have hk2:Nat.beq (opK T o) 2 = false:=by rw [opK_q hq]; cases isRd o.op <;> rfl
  rw [hk2] at g
  unfold cOp at g
  simp only [hd,hq,cond_true,cond_false,List.nil_append] at g
  obtain ⟨hne,g⟩:=frX_ok hX.gd _ _ _ g
  have agi:∀ v t,t ∈ Oper.looksAt ops o→(gT t).f (upE e o.dst v) = (gT t).f e:=fun v t ht=>gT_ag fun h256=>upE_ne h256 d256 (fun hh=>by
   have:=c2 t hh
   rw [show (lookO ops o).testBit t = true from tmL_tb.2 ht] at this; cases this) v
  have e1:∀ v,(qG ops o.guard q).f (upE e o.dst v) hp = (qG ops o.guard q).f e hp:=fun v=>by
   obtain ⟨g1,g2⟩:=looks_ag (agi v)
   exact qG_ag g2 (cQ_ag hq g1 hp)
  refine ⟨_,hp,_,_,_,I.grow hnt ho hni hr c1 c2 c3 hd (r':=hp.nx) I.sr (Nat.le_refl _) (fun _ _=>rfl) (fun k ok qk h1 h2 h3=>?_) (fun q' hq'=>?_) (fun hn=>by rw [hq] at hn; cases hn),g⟩
  ·obtain ⟨g1,g2⟩:=looks_ag (agr k ok ((qG ops o.guard q).f e hp) h1 h2)
   rw [qG_ag g2 (cQ_ag h3 g1 hp)]
   exact I.vq k ok qk h1 h2 h3
  ·rw [hq] at hq'; cases hq'
   exact ⟨by rw [e1]; exact hne,(e1 _).symm⟩
 | none=>
  obtain ⟨n1,n2,n3⟩:=opK_n hq hk
  rw [n3] at g
  unfold cOp at g
  simp only [hd,hq,cond_true,Nat.beq_refl,n1] at g
  have g:X.G ((cE T o.op).f cl e hp fun v h=>(upD o.dst).f e v fun e=>(cSS T C.n ops (rch (IXs T ops) mp ++ L)).f cl e h k):=g
  obtain ⟨row,x2,mk,nx',hnx,g,hal,hmk⟩:=al_ok (Q:=Q) hT hX I.sr hd n2 g
  rw [upD_eq] at g
  obtain ⟨hrk,g⟩:=rch_ok hX.gd g
  have gr:∀ r,tor r < tor hp.nx→getH ⟨uR hp.rows hp.nx row,nx',hp.ro⟩ r = getH hp r:=fun r hr=>by
   have:=qcz hp hp.nx row r
   rw [if_neg (fun e=>by subst e; omega)] at this
   exact this
  refine ⟨_,_,_,_,_,I.grow hnt ho hni hr c1 c2 c3 hd (r':=hp.nx) (I.sr.lay hnx) (by show tor hp.nx≤tor nx'; omega) gr (fun k ok qk h1 h2 h3=>?_) (fun q' hq'=>by rw [hq] at hq'; cases hq') (fun _=>⟨row,x2,mk,n1,hal,rfl,?_,I.sr.nx_none,by show tor hp.nx < tor nx'; omega,I.le,I.sr.nx_K,Nat.le_refl _⟩),g⟩
  ·obtain ⟨v1,v2⟩:=I.vq k ok qk h1 h2 h3
   have hag:=agr k ok (mk hp.nx) h1 h2
   obtain ⟨g1,g2⟩:=looks_ag hag
   cases hrd:isRd ok.op with
   | false=>
    rw [qG_ag g2 ((cQ_hp h3 hrd _ hp).trans (cQ_ag h3 g1 hp))]
    exact ⟨v1,v2⟩
   | true=>
    have hk1:opK T ok = 1:=by rw [opK_q h3,hrd]; rfl
    obtain ⟨b1,b2⟩:=hrk (mkIX T ops k ok) (IXs_of h2) (I.pmp k h1) hk1 ok qk h2 h3
    have hdk:=okD_lt hnt (I.okd k ok h1 h2)
    have eg:∀ t,ok.dst = some t→(qG ops ok.guard qk).f (upE e o.dst (mk hp.nx)) ⟨uR hp.rows hp.nx row,nx',hp.ro⟩ = eGet e t:=fun t ht=>by
     rw [b1 t ht,gT_lt (hdk t ht)]
     refine upE_ne (hdk t ht) d256 (fun hh=>?_) _
     have:=(I.mlm k ok h2 (I.pmp k h1)).2 t ht
     rw [c1 t hh] at this; cases this
    cases hdd:ok.dst with
    | none=>exact ⟨b2 hdd,fun t ht=>by cases ht⟩
    | some t=>
     refine ⟨?_,fun t' ht'=>?_⟩
     ·rw [eg t hdd,v2 t hdd]; exact v1
     ·cases ht'; exact (eg t hdd).symm
  ·have:=qcz hp hp.nx row hp.nx
   rw [if_pos rfl] at this
   exact this
end
section
variable {C:Ctx} {Q:Exit→Act→World→Prop} {X:Cx} {T:Tb} {ops:Array Oper} {θ0:Th} {n0:Nat} {D:Array Bool} {θ:Th} {ρ:Env} {h:H} {pr mp lm:Nat} {e:E} {hp:Hp} {R:Nat→Rid} {rk:Nat→Nat} {now:Nat}
theorem Inv.eff {cl:CallT} (hcl:CallOk C.P cl) (hX:CxOk X) (hT:TbOk C.P T) (hnt:C.n≤256) (I:Inv C T ops Q X θ0 n0 D θ ρ h pr mp lm e hp R rk now) {i:Nat} {o:Oper} (hi:i ∈ Region.ready .any ops D) (ho:ops[i]? = some o) (hni:pr.testBit i = false)
  {mp2 lm2:Nat} (hmp:mp2 = Nat.xor mp (Nat.land mp (anc (IXs T ops) (depO o)))) (hlm:lm2 = msk (IXs T ops) mp2 fun y=>Nat.lor y.look y.dst)
  (hc1:Nat.beq (Nat.land (dstO o) lm2) 0 = true) (hc2:Nat.beq (Nat.land (lookO ops o) (msk (IXs T ops) mp2 fun y=>y.dst)) 0 = true)
  {k:E→Hp→Ans} {L:List SS} (g:X.G ((cSS T C.n ops (.x i :: (rch (IXs T ops) mp2 ++ L))).f cl e hp k)) {a:Act} {w:World} (s:St C ρ h a w):
  wpOp C.P ops Q i (fun a' w'=>∃ θ' ρ' h' e' hp',Inv C T ops Q X θ0 n0 (D.setIfInBounds i true) θ' ρ' h' (Nat.lor pr (bit i)) mp2 lm2 e' hp' R rk now∧X.G ((cSS T C.n ops L).f cl e' hp' k)∧St C ρ' h' a' w') a w:=by
 obtain ⟨o',ho',g⟩:=cSS_x hX.gd g
 rw [ho] at ho'; cases ho'
 have hd:=cOp_okD hX.gd g
 have d256:=okD_lt hnt hd
 obtain ⟨hun,hdep⟩:=ready_dep hi ho
 have inD:∀ t,(anc (IXs T ops) (depO o)).testBit t = true→D.getD t false = true:=anc_sub hdep fun x hx hS t ht=>by
  obtain ⟨ox,hox,hxx⟩:=IXs_mem.1 hx
  rw [hxx] at ht
  exact I.closed hox hS t ht
 have pm2:∀ l,Pd D pr l→mp2.testBit l = true:=fun l hl=>by
  rw [hmp,tB_dif,I.pmp l hl]
  cases c:(anc (IXs T ops) (depO o)).testBit l with
  | false=>rfl
  | true=>exact (hl.no (inD l c)).elim
 have lm2ok:∀ l ol,ops[l]? = some ol→mp2.testBit l = true→(∀ t,(lookO ops ol).testBit t = true→lm2.testBit t = true)∧∀ t,ol.dst = some t→lm2.testBit t = true:=fun l ol hl hm=>by
  rw [hlm]
  exact ⟨fun t ht=>msk_tb.2 ⟨_,IXs_of hl,hm,by rw [qc5,Bool.or_eq_true]; exact .inl ht⟩,fun t ht=>msk_tb.2 ⟨_,IXs_of hl,hm,by rw [qc5,Bool.or_eq_true]; exact .inr (dstO_tb.2 ht)⟩⟩
 have nod:∀ l ol t,Pd D pr l→ops[l]? = some ol→ol.dst = some t→(lookO ops o).testBit t = true→False:=fun l ol t h1 h2 h3 h4=>by
  have:=land0 hc2 h4
  rw [msk_tb.2 ⟨_,IXs_of h2,pm2 l h1,dstO_tb.2 h3⟩] at this; cases this
 have nol:∀ l ol t,Pd D pr l→ops[l]? = some ol→o.dst = some t→(lookO ops ol).testBit t = true→False:=fun l ol t h1 h2 h3 h4=>by
  have:=land0 hc1 (dstO_tb.2 h3)
  rw [(lm2ok l ol h2 (pm2 l h1)).1 t h4] at this; cases this
 have nodd:∀ l ol t,Pd D pr l→ops[l]? = some ol→ol.dst = some t→o.dst ≠ some t:=fun l ol t h1 h2 h3 h4=>by
  have:=land0 hc1 (dstO_tb.2 h4)
  rw [(lm2ok l ol h2 (pm2 l h1)).2 t h3] at this; cases this
 obtain ⟨es,hre,hs⟩:=I.seen
 have hag:∀ t,t ∈ Oper.looksAt ops o→(gT t).f e = (gT t).f es:=fun t ht=>(gT_ag fun h256=>hs t h256 fun l ol h1 h2 h3=>nod l ol t h1 h2 h3 (tmL_tb.2 ht)).symm
 let p:Rid→Prop:=fun r=>∃ l ol,Pd D pr l∧ops[l]? = some ol∧cQ T ol.op = none∧r = R l
 have hp1:∀ r,p r→tor r < tor hp.nx∧θ r = none:=fun r ⟨l,ol,h1,h2,h3,h4⟩=>by
  obtain ⟨_,_,_,_,_,_,_,a5,a6,_⟩:=I.va l ol h1 h2 h3
  subst h4
  exact ⟨a6,a5⟩
 have S':=XK_in I.sr hp1
 let wv:E→AV:=fun e2=>match o.dst with | none=>.u | some d=>eGet e2 d
 let k1:E→Hp→Ans:=fun e h=>(cSS T C.n ops (rch (IXs T ops) mp2 ++ L)).f cl e h k
 have:∃ k2:E→Hp→Ans,(∀ v hp,k1 (upE e o.dst v) hp = k2 (upE es o.dst v) hp)∧∀ e2 hp2,X.G (k2 e2 hp2)→(∀ t,t < 256→o.dst ≠ some t→eGet e2 t = eGet es t)∧X.G (k1 (upE e o.dst (wv e2)) hp2):=by
  classical
  refine ⟨fun e2 hp2=>if (∀ t,t < 256→o.dst ≠ some t→eGet e2 t = eGet es t) then k1 (upE e o.dst (wv e2)) hp2 else .er 99,fun v hp=>?_,fun e2 hp2 g=>?_⟩
  ·simp only []
   rw [if_pos fun t ht hn=>upE_ne ht d256 hn v]
   congr 1
   cases hdd:o.dst with
   | none=>rfl
   | some d=>simp only [wv,hdd,upE_same]
  ·simp only [] at g
   split at g
   ·rename_i hc; exact ⟨hc,g⟩
   ·exact (hX.gd.er _ g).elim
 obtain ⟨k2,hk2,hk3⟩:=this
 have g2:(XK X hp p).G ((cOp T C.n ops o).f cl es hp k2):=by
  show X.G _
  rw [← cOp_ag hag hk2]
  exact g
 refine wpOp_of ho s (cOp_ok hcl (XK_ok hX p) hT hnt S' hre (J:=fun ρ' h'=>∃ θ' e' hp',Inv C T ops Q X θ0 n0 (D.setIfInBounds i true) θ' ρ' h' (Nat.lor pr (bit i)) mp2 lm2 e' hp' R rk now∧X.G ((cSS T C.n ops L).f cl e' hp' k)) g2 ?_) ?_
 ·intro θ' hp' h' e2 ρ' S2 hE hle he2 g3
  obtain ⟨hsame,g3⟩:=hk3 e2 hp' g3
  obtain ⟨hrk,g3⟩:=rch_ok hX.gd g3
  refine ⟨θ',_,hp',?_,g3⟩
  have sub:∀ l,Pd (D.setIfInBounds i true) (Nat.lor pr (bit i)) l→Pd D pr l:=fun l hl=>by
   obtain ⟨⟨h1,h2⟩,h3⟩:=Pd.set hl
   rw [qc5,qec,Bool.or_eq_true,decide_eq_true_eq] at h1
   exact ⟨h1.resolve_right fun e=>h3 e.symm,h2⟩
  have lor_l:∀ {a b t:Nat},a.testBit t = true→(Nat.lor a b).testBit t = true:=fun h=>by rw [qc5,h]; rfl
  have ge:∀ t,t < 256→o.dst ≠ some t→eGet (upE e o.dst (wv e2)) t = eGet e t:=fun t ht hn=>upE_ne ht d256 hn _
  have dD:∀ t,D.getD t false = true→pr.testBit t = true:=fun t ht=>by
   obtain ⟨h1,h2⟩:=getD_ft ht
   exact I.dpr t (by rw [← I.cl.1]; exact h2) h1
  refine ⟨I.cl.set hi,fun l hl hdl=>?_,fun l hl=>?_,fun l hl=>pm2 l (sub l hl),fun l ol hl hb t ht=>?_,lm2ok,fun j l oj ol t h1 h2=>I.dep j l oj ol t (sub j h1) (sub l h2),fun j l oj ol t h1 h2=>I.dst j l oj ol t (sub j h1) (sub l h2),fun j l oj h1 h2=>I.rkd j l oj (sub j h1) (sub l h2),
   fun l hl=>I.rkn l (sub l hl),fun l ol hl=>I.okd l ol (sub l hl),fun l ol ql hl hol hql=>?_,fun l ol hl hol hql=>?_,fun j l oj ol h1 h2=>I.inj j l oj ol (sub j h1) (sub l h2),XK_out I.sr S2,fun t ht hno hne=>?_,I.ext.trans hE I.le,Nat.le_trans I.le hle⟩
  ·by_cases c:i = l
   ·subst c; rw [qc5,qec]; simp
   ·rw [getD_set_ne true c] at hdl
    exact lor_l (I.dpr l hl hdl)
  ·rw [qc5,qec,Bool.or_eq_true,decide_eq_true_eq] at hl
   rcases hl with hl | rfl
   ·exact I.prs l hl
   ·rw [Array.getElem?_eq_some_iff] at ho; exact ho.1
  ·rw [qc5,qec,Bool.or_eq_true,decide_eq_true_eq] at hb
   rcases hb with hb | rfl
   ·exact lor_l (I.prc l ol hl hb t ht)
   ·rw [ho] at hl; cases hl
    exact lor_l (dD t (hdep t ht))
  ·have hl':=sub l hl
   obtain ⟨v1,v2⟩:=I.vq l ol ql hl' hol hql
   have hag2:∀ t,t ∈ Oper.looksAt ops ol→(gT t).f (upE e o.dst (wv e2)) = (gT t).f e:=fun t ht=>gT_ag fun h256=>ge t h256 fun hh=>nol l ol t hl' hol hh (tmL_tb.2 ht)
   obtain ⟨g1,g2⟩:=looks_ag hag2
   have hdl:=okD_lt hnt (I.okd l ol hl' hol)
   have eg:∀ t,ol.dst = some t→eGet (upE e o.dst (wv e2)) t = eGet e t:=fun t ht=>ge t (hdl t ht) (nodd l ol t hl' hol ht)
   cases hrd:isRd ol.op with
   | false=>
    rw [qG_ag g2 ((cQ_hp hql hrd _ hp).trans (cQ_ag hql g1 hp))]
    exact ⟨v1,fun t ht=>by rw [eg t ht]; exact v2 t ht⟩
   | true=>
    have hk1:opK T ol = 1:=by rw [opK_q hql,hrd]; rfl
    obtain ⟨b1,b2⟩:=hrk (mkIX T ops l ol) (IXs_of hol) (pm2 l hl') hk1 ol ql hol hql
    cases hdd:ol.dst with
    | none=>exact ⟨b2 hdd,fun t ht=>by cases ht⟩
    | some t=>
     have b3:=b1 t hdd
     rw [gT_lt (hdl t hdd)] at b3
     refine ⟨?_,fun t' ht'=>?_⟩
     ·rw [b3,eg t hdd,v2 t hdd]; exact v1
     ·cases ht'; exact b3.symm
  ·have hl':=sub l hl
   obtain ⟨row,x2,mk,a1,a2,a3,a4,a5,a6,a7,a8⟩:=I.va l ol hl' hol hql
   have hdl:=okD_lt hnt (I.okd l ol hl' hol)
   obtain ⟨b1,b2⟩:=XK_kept S2 (r:=R l) ⟨l,ol,hl',hol,hql,rfl⟩
   exact ⟨row,x2,mk,a1,a2,fun t ht=>by rw [ge t (hdl t ht) (nodd l ol t hl' hol ht)]; exact a3 t ht,by rw [b1]; exact a4,hE.2 _ a6 a5,b2,a7,a8⟩
  ·by_cases c:o.dst = some t
   ·have e1:eGet (upE e o.dst (wv e2)) t = eGet e2 t:=by
     rw [c,upE_same]
     simp only [wv,c]
    rw [e1] at hne ⊢
    exact he2 t ht hne
   ·have e1:eGet (upE e o.dst (wv e2)) t = eGet e2 t:=by
     rw [ge t ht c,hsame t ht c]
     refine (hs t ht fun l ol h1 h2 h3=>?_).symm
     by_cases c2:l = i
     ·subst c2; rw [ho] at h2; cases h2; exact c h3
     ·exact hno l ol ⟨lor_l h1.1,by rw [getD_set_ne true (fun e=>c2 e.symm)]; exact h1.2⟩ h2 h3
    rw [e1] at hne ⊢
    exact he2 t ht hne
 ·rintro ρ' h' a' w' s' ⟨θ',e',hp',h1,h2⟩
  exact ⟨θ',ρ',h',e',hp',h1,h2,s'⟩
theorem sched_succ (l:List IX) (f pr mp lm:Nat):sched l (f + 1) pr mp lm = (match fnd (qk l pr mp lm) l with
 | some x=>.x x.i :: ((bif Nat.beq x.kind 2 then rch l mp else []) ++ sched l f (Nat.lor pr (bit x.i)) (Nat.lor mp (bit x.i)) (Nat.lor lm (Nat.lor x.look x.dst)))
 | none=>(match flt (rdy pr) l with
  | []=>bif allL (fun x=>tb pr x.i) l then [] else [.bad]
  | [x]=>bif an (Nat.beq (Nat.land x.dst (msk l (Nat.xor mp (Nat.land mp (anc l x.dep))) fun y=>Nat.lor y.look y.dst)) 0) (Nat.beq (Nat.land x.look (msk l (Nat.xor mp (Nat.land mp (anc l x.dep))) fun y=>y.dst)) 0)
    then .x x.i :: (rch l (Nat.xor mp (Nat.land mp (anc l x.dep))) ++ sched l f (Nat.lor pr (bit x.i)) (Nat.xor mp (Nat.land mp (anc l x.dep))) (msk l (Nat.xor mp (Nat.land mp (anc l x.dep))) fun y=>Nat.lor y.look y.dst)) else [.bad]
  | _=>[.bad])):=rfl
theorem rdy_of {x:IX} (h1:pr.testBit x.i = false) (h2:∀ t,x.dep.testBit t = true→pr.testBit t = true):rdy pr x = true:=by
 unfold rdy
 rw [tb_eq,h1,an_eq]
 have:Nat.land x.dep pr = x.dep:=by
  apply Nat.eq_of_testBit_eq
  intro t
  show (x.dep &&& pr).testBit t = _
  rw [Nat.testBit_and]
  cases c:x.dep.testBit t with
  | false=>rfl
  | true=>rw [h2 t c]; rfl
 rw [this,Nat.beq_refl]; rfl
theorem rdy_ok {x:IX} (h:rdy pr x = true):pr.testBit x.i = false∧∀ t,x.dep.testBit t = true→pr.testBit t = true:=by
 obtain ⟨h1,h2⟩:=qaf h
 rw [nt_eq,tb_eq] at h1
 exact ⟨by simpa using h1,fun t ht=>landS h2 ht⟩
theorem bad_no {G:Ans→Prop} (hG:Gd G) {cl:CallT} {k:E→Hp→Ans} {n:Nat} (g:G ((cSS T n ops [.bad]).f cl e hp k)):False:=hG.er _ g
theorem adv {cl:CallT} (hcl:CallOk C.P cl) (hX:CxOk X) (hT:TbOk C.P T) (hnt:C.n≤256) {k:E→Hp→Ans}:∀ (f:Nat) {pr mp lm:Nat} {e:E} {hp:Hp} {R:Nat→Rid} {rk:Nat→Nat} {now:Nat},Inv C T ops Q X θ0 n0 D θ ρ h pr mp lm e hp R rk now →
  X.G ((cSS T C.n ops (sched (IXs T ops) f pr mp lm)).f cl e hp k)→∀ {i:Nat},i ∈ Region.ready .any ops D→∀ {a:Act} {w:World},St C ρ h a w →
  wpOp C.P ops Q i (fun a' w'=>∃ f' θ' ρ' h' pr' mp' lm' e' hp' R' rk' now',Inv C T ops Q X θ0 n0 (D.setIfInBounds i true) θ' ρ' h' pr' mp' lm' e' hp' R' rk' now'∧X.G ((cSS T C.n ops (sched (IXs T ops) f' pr' mp' lm')).f cl e' hp' k)∧St C ρ' h' a' w') a w:=by
 intro f
 induction f with
 | zero=>intro pr mp lm e hp R rk now I g; exact (bad_no hX.gd g).elim
 | succ f ih=>
  intro pr mp lm e hp R rk now I g i hi a w s
  cases hpr:pr.testBit i with
  | true=>
   refine wpOp_mono (fun a' w'=>?_) (I.perf hX hT hnt hi hpr s)
   rintro ⟨θ',ρ',h',I',s'⟩
   exact ⟨_,θ',ρ',h',_,_,_,_,_,_,_,_,I',g,s'⟩
  | false=>
   obtain ⟨_,o,ho,_⟩:=mem_ready.1 hi
   obtain ⟨hun,hdep⟩:=ready_dep hi ho
   rw [sched_succ] at g
   cases hf:fnd (qk (IXs T ops) pr mp lm) (IXs T ops) with
   | some x=>
    simp only [hf] at g
    obtain ⟨hm,hq⟩:=fnd_some hf
    obtain ⟨ox,hox,hx⟩:=IXs_mem.1 hm
    obtain ⟨q1,hq⟩:=qaf hq
    obtain ⟨q2,hq⟩:=qaf hq
    obtain ⟨q3,hq⟩:=qaf hq
    obtain ⟨q4,q5⟩:=qaf hq
    obtain ⟨r1,r2⟩:=rdy_ok q2
    have xk:x.kind = opK T ox:=by rw [hx]; rfl
    have xd:x.dep = depO ox:=by rw [hx]; rfl
    have xl:x.look = lookO ops ox:=by rw [hx]; rfl
    have xs:x.dst = dstO ox:=by rw [hx]; rfl
    rw [xk,xl,xs] at g
    obtain ⟨e',hp',R',rk',now',I',g⟩:=I.take hX hT hnt hox r1 (by rw [← xk]; exact yh q1) (by rw [← xd]; exact r2) (fun t ht=>land0 q3 (by rw [xs]; exact dstO_tb.2 ht))
     (fun t ht=>by rw [← xl]; exact land0 q4 (by rw [xs]; exact dstO_tb.2 ht)) (fun t l ol h1 h2 h3 h4=>by
      have h5:=land0 q5 (by rw [xl]; exact h1)
      cases c:(depO ox).testBit l with
      | true=>rfl
      | false=>
       rw [msk_tb.2 ⟨_,IXs_of h3,by rw [tB_dif,xd]; show (mp.testBit l && !(depO ox).testBit l) = true; rw [h2,c]; rfl,dstO_tb.2 h4⟩] at h5
       cases h5) g
    exact ih I' g hi s
   | none=>
    simp only [hf] at g
    have hmem:mkIX T ops i o ∈ (IXs T ops).filter (rdy pr):=List.mem_filter.2 ⟨IXs_of ho,rdy_of hpr fun t ht=>by
     obtain ⟨h1,h2⟩:=getD_ft (hdep t ht)
     exact I.dpr t (by rw [← I.cl.1]; exact h2) h1⟩
    rw [flt_eq] at g
    cases hfl:(IXs T ops).filter (rdy pr) with
    | nil=>rw [hfl] at hmem; cases hmem
    | cons x rest=>
     rw [hfl] at hmem g
     cases rest with
     | cons y rest=>exact (bad_no hX.gd g).elim
     | nil=>
      rw [List.mem_singleton] at hmem
      subst hmem
      simp only [] at g
      cases hc:an (Nat.beq (Nat.land (mkIX T ops i o).dst (msk (IXs T ops) (Nat.xor mp (Nat.land mp (anc (IXs T ops) (mkIX T ops i o).dep))) fun y=>Nat.lor y.look y.dst)) 0) (Nat.beq (Nat.land (mkIX T ops i o).look (msk (IXs T ops) (Nat.xor mp (Nat.land mp (anc (IXs T ops) (mkIX T ops i o).dep))) fun y=>y.dst)) 0) with
      | false=>rw [hc] at g; exact (bad_no hX.gd g).elim
      | true=>
       rw [hc] at g
       obtain ⟨hc1,hc2⟩:=qaf hc
       refine wpOp_mono (fun a' w'=>?_) (I.eff hcl hX hT hnt hi ho hpr rfl rfl hc1 hc2 g s)
       rintro ⟨θ',ρ',h',e',hp',I',g',s'⟩
       exact ⟨_,θ',ρ',h',_,_,_,_,_,_,_,_,I',g',s'⟩
theorem Inv.done (hX:CxOk X) (I:Inv C T ops Q X θ0 n0 D θ ρ h pr mp lm e hp R rk now) {cl:CallT} {k:E→Hp→Ans} {f:Nat} (g:X.G ((cSS T C.n ops (sched (IXs T ops) f pr mp lm)).f cl e hp k)) (hr:Region.ready .any ops D = []):RE θ e ρ∧X.G (k e hp):=by
 have nr:∀ l ol,ops[l]? = some ol→D.getD l true = false→(∀ t,(depO ol).testBit t = true→D.getD t false = true)→False:=fun l ol h1 h2 h3=>by
  have:l ∈ Region.ready .any ops D:=mem_ready.2 ⟨h2,ol,h1,fun ed hed hb=>h3 _ (depL_tb.2 ⟨ed,by simpa using hed,hb,rfl⟩)⟩
  rw [hr] at this; cases this
 have np:∀ n l,rk l = n→¬ Pd D pr l:=by
  intro n
  induction n using Nat.strongRecOn with
  | _ n ih=>
   intro l hn hl
   obtain ⟨ol,hol⟩:=Pd.oper I hl
   refine nr l ol hol hl.2 fun t ht=>?_
   have h1:=I.prc l ol hol hl.1 t ht
   cases c:D.getD t true with
   | false=>
    have hpd:Pd D pr t:=⟨h1,c⟩
    have:=I.rkd l t ol hl hpd hol ht
    exact (ih (rk t) (by omega) t rfl hpd).elim
   | true=>
    have hlt:t < D.size:=by rw [I.cl.1]; exact I.prs t h1
    simp only [Array.getD_eq_getD_getElem?,Array.getElem?_eq_getElem hlt,Option.getD_some] at c ⊢
    exact c
 have npd:∀ l,¬ Pd D pr l:=fun l=>np _ l rfl
 refine ⟨fun t ht hne=>I.re t ht (fun l ol h1=>(npd l h1).elim) hne,?_⟩
 have prD:∀ t,pr.testBit t = true→D.getD t false = true:=fun t h=>by
  have hlt:t < D.size:=by rw [I.cl.1]; exact I.prs t h
  cases c:D.getD t true with
  | true=>
   simp only [Array.getD_eq_getD_getElem?,Array.getElem?_eq_getElem hlt,Option.getD_some] at c ⊢
   exact c
  | false=>exact (npd t ⟨h,c⟩).elim
 have nrd:∀ x,x ∈ IXs T ops→rdy pr x = true→False:=fun x hx hr=>by
  obtain ⟨ox,hox,hxx⟩:=IXs_mem.1 hx
  obtain ⟨r1,r2⟩:=rdy_ok hr
  refine nr x.i ox hox (I.out hox r1) fun t ht=>prD t (r2 t ?_)
  rw [hxx]; exact ht
 cases f with
 | zero=>exact (bad_no hX.gd g).elim
 | succ f=>
  rw [sched_succ] at g
  cases hf:fnd (qk (IXs T ops) pr mp lm) (IXs T ops) with
  | some x=>
   obtain ⟨hm,hq⟩:=fnd_some hf
   obtain ⟨q1,hq⟩:=qaf hq
   obtain ⟨q2,hq⟩:=qaf hq
   exact (nrd x hm q2).elim
  | none=>
   simp only [hf,flt_eq] at g
   cases hfl:(IXs T ops).filter (rdy pr) with
   | cons x rest=>
    have:x ∈ (IXs T ops).filter (rdy pr):=by rw [hfl]; simp
    obtain ⟨h1,h2⟩:=List.mem_filter.1 this
    exact (nrd x h1 h2).elim
   | nil=>
    rw [hfl] at g
    simp only [] at g
    cases c:allL (fun x=>tb pr x.i) (IXs T ops) with
    | false=>rw [c] at g; exact (bad_no hX.gd g).elim
    | true=>rw [c] at g; exact g
theorem count_set:∀ {l:List Bool} {i:Nat},l[i]? = some false→(l.set i true).count false + 1 = l.count false
 | [],i,h=>by simp at h
 | b :: l,0,h=>by simp at h; subst h; simp
 | b :: l,i + 1,h=>by
  have:=count_set (l:=l) (i:=i) (by simpa using h)
  cases b <;> simp <;> omega
theorem left_set {i:Nat} (h:D.getD i true = false):(D.setIfInBounds i true).toList.count false + 1 = D.toList.count false:=by
 have hl:=getD_lt h
 rw [Array.toList_setIfInBounds]
 refine count_set ?_
 simp only [Array.getD_eq_getD_getElem?,Array.getElem?_eq_getElem hl,Option.getD_some] at h
 simp [hl,h]
theorem sim {cl:CallT} (hcl:CallOk C.P cl) (hX:CxOk X) (hT:TbOk C.P T) (hnt:C.n≤256) {k:E→Hp→Ans} (hj:∀ θ' hp' h' e' ρ',SR X θ' hp' h'→Ext θ0 θ' n0→n0≤tor hp'.nx→RE θ' e' ρ'→X.G (k e' hp')→QN C Q .normal ρ' h'):
  ∀ (fuel:Nat) {D:Array Bool} {θ:Th} {ρ:Env} {h:H} {f pr mp lm:Nat} {e:E} {hp:Hp} {R:Nat→Rid} {rk:Nat→Nat} {now:Nat},D.toList.count false≤fuel→Inv C T ops Q X θ0 n0 D θ ρ h pr mp lm e hp R rk now →
  X.G ((cSS T C.n ops (sched (IXs T ops) f pr mp lm)).f cl e hp k)→∀ {a:Act} {w:World},St C ρ h a w→wpAny C.P .any ops Q fuel D a w:=by
 intro fuel
 have fin:∀ {D:Array Bool} {θ:Th} {ρ:Env} {h:H} {f pr mp lm:Nat} {e:E} {hp:Hp} {R:Nat→Rid} {rk:Nat→Nat} {now:Nat},Inv C T ops Q X θ0 n0 D θ ρ h pr mp lm e hp R rk now →
   X.G ((cSS T C.n ops (sched (IXs T ops) f pr mp lm)).f cl e hp k)→∀ {a:Act} {w:World},St C ρ h a w→Region.ready .any ops D = []→Q .normal a w:=by
  intro D θ ρ h f pr mp lm e hp R rk now I g a w s hr
  obtain ⟨h1,h2⟩:=I.done hX g hr
  exact hj _ _ _ _ _ I.sr I.ext I.le h1 h2 a w s
 induction fuel with
 | zero=>
  intro D θ ρ h f pr mp lm e hp R rk now hc I g a w s
  have hr:Region.ready .any ops D = []:=by
   rw [List.eq_nil_iff_forall_not_mem]
   intro i hi
   have:=left_set (mem_ready.1 hi).1
   omega
  exact ⟨hr,fin I g s hr⟩
 | succ fuel ih=>
  intro D θ ρ h f pr mp lm e hp R rk now hc I g a w s
  refine ⟨fun hr=>fin I g s hr,fun i hi=>?_⟩
  refine wpOp_mono (fun a' w'=>?_) (adv hcl hX hT hnt f I g hi s)
  rintro ⟨f',θ',ρ',h',pr',mp',lm',e',hp',R',rk',now',I',g',s'⟩
  have:=left_set (mem_ready.1 hi).1
  exact ih (by omega) I' g' s'
theorem drawOk (hm:C.P.follows .mixedOrders = true) {cl:CallT} (hcl:CallOk C.P cl) (hT:TbOk C.P T) (hnt:C.n≤256):DrawOk C T cl:=by
 intro X hX θ hp h e ρ id ops k Q S he g hj a w s
 refine wp_region_any hm ?_
 have hno:∀ i,(Array.replicate ops.size false).getD i false = false:=fun i=>by
  rw [Array.getD_eq_getD_getElem?,Array.getElem?_replicate]; split <;> rfl
 have z:∀ i,Nat.testBit 0 i = true→False:=fun i h=>by simp at h
 have np:∀ i,¬ Pd (Array.replicate ops.size false) 0 i:=fun i h=>z i h.1
 refine sim hcl hX hT hnt (θ0:=θ) (n0:=tor hp.nx) (fun θ' hp' h' e' ρ' s1 s2 s3 s4 s5=>hj θ' hp' h' e' ρ' s1 s2 s3 s4 s5) ops.size (θ:=θ) (by simp [Array.toList_replicate,List.count_replicate]) (h:=h) (ρ:=ρ) (R:=fun _=>hp.nx) (rk:=fun _=>0) (now:=0) (f:=ops.toList.length + 1) (pr:=0) (mp:=0) (lm:=0) (e:=e) (hp:=hp) ?_ g s.drew
 exact ⟨⟨by simp,fun j o ho hj=>by rw [hno] at hj; cases hj⟩,fun i hi hd=>by simp [Array.getD_eq_getD_getElem?,Array.getElem?_replicate,hi] at hd,fun i h=>(z i h).elim,fun i h=>(np i h).elim,fun i o _ h=>(z i h).elim,fun i o _ h=>(z i h).elim,fun i k _ _ _ h=>(np i h).elim,fun i k _ _ _ h=>(np i h).elim,fun i k _ h=>(np i h).elim,fun i h=>(np i h).elim,fun i _ h=>(np i h).elim,fun i _ _ h=>(np i h).elim,fun i _ h=>(np i h).elim,fun i k _ _ h=>(np i h).elim,S,fun t ht _ hne=>he t ht hne,Ext.refl _ _,Nat.le_refl _⟩
theorem rn_sound {P:Program} {G:Cfg} (hm:P.follows .mixedOrders = true) (hT:TbOk P G.P) (hh:∀ f hk,G.hook f = some hk→HookOk P f hk) (n:Nat):CallOk P (rn G n):=
 rn_ok hT hh (fun cl hcl w0 nt hnt=>drawOk (C:=⟨P,w0,nt⟩) hm hcl hT hnt) n
end
def mkN {α:Type} (f:Nat→α):N α:=⟨f 0,f 1,f 2,f 3,f 4,f 5,f 6,f 7,f 8,f 9,f 10,f 11,f 12,f 13,f 14,f 15⟩
def mkT {α:Type} (l:List α):N (N (N (Option α))):=mkN fun a=>mkN fun b=>mkN fun c=>l[a * 256 + b * 16 + c]?
theorem gN_mkN {α:Type} (f:Nat→α) (d:D16):(gN d).f (mkN f) = f (ofD d):=by cases d <;> rfl
theorem look3_mkT {α:Type} {l:List α} {n:Nat} (h:n < 4096):look3 (mkT l) n = l[n]?:=by
 unfold look3 mkT
 rw [gN_mkN,gN_mkN,gN_mkN]
 have m:∀ k:Nat,k.mod 16 < 16:=fun k=>Nat.mod_lt _ (by decide)
 unfold hi lo
 rw [ofD_toD (m _),ofD_toD (m _),ofD_toD (m _)]
 congr 1
 show n / 16 / 16 % 16 * 256 + n / 16 % 16 * 16 + n % 16 = n
 omega
section
variable {X:Cx} {θ:Th} {hp:Hp} {h:H}
theorem SR.glob (S:SR X θ hp h) (hX:CxOk X):AtH h ⟨0,0,none⟩ shaTab:=by
 obtain ⟨h1,h2,arr,T,fr,h3,h4⟩:=hX.gl
 exact ⟨h2,arr,T,fr,by rw [(S.keepU 0 h1).2]; exact h3,h4⟩
theorem SR.grow (S:SR X θ hp h) {h':H} (hb:∀ b,b < h.size→b < h'.size∧h'[b]? = h[b]?):SR X θ hp h':=by
 refine ⟨fun r x hr=>(S.rows r x hr).at_ (hb _ (S.blk r x hr)).2,S.dist,S.fresh,S.own,fun b hU=>?_,S.kept,S.ro,fun r x hr=>(hb _ (S.blk r x hr)).1⟩
 obtain ⟨h1,h2⟩:=S.keepU b hU
 exact ⟨(hb b h1).1,by rw [(hb b h1).2]; exact h2⟩
def hpE:Hp:=⟨rows0,⟨.d0,.d0,.d0,.d0⟩,none⟩
def ansIs (a:Ans) (v:AV):Bool:=match a with | .ok x _=>beqV x v | _=>false
theorem ansIs_ok {a:Ans} {v:AV} (h:ansIs a v = true):∃ hf,a = .ok v hf:=by
 unfold ansIs at h
 split at h
 ·rename_i x hf; rw [beqV_ok h]; exact ⟨hf,rfl⟩
 ·cases h
def ok1:K1:=fun v h=>.ok v h
theorem fr1s_rvs {θ θ':Th}:∀ {l:List AV} {vs:List Value},l.all fr1 = true→RVs θ' l vs→RVs θ l vs
 | [],_,_,h=>h
 | a :: l,_,ha,⟨V,r,e,h1,h2⟩=>by
  rw [List.all_cons,Bool.and_eq_true] at ha
  exact ⟨V,r,e,fr1_ok ha.1 h1,fr1s_rvs ha.2 h2⟩
def X0 (h:H) (G:Ans→Prop):Cx:=⟨fun b=>b < h.size,h,fun _=>none,none,G⟩
theorem X0_ok (S:SR X θ hp h) (hX:CxOk X) {G:Ans→Prop} (hG:Gd G) (hB:∀ a b,G (.br a b)→G a∧G b):CxOk (X0 h G):=by
 have hg:=S.glob hX
 refine ⟨hG,fun hn=>absurd rfl hn,hB,?_,hg⟩
 obtain ⟨_,arr,T,fr,h3,_⟩:=hg
 rw [Array.getElem?_eq_some_iff] at h3
 exact h3.1
theorem X0_sr (h:H) (G:Ans→Prop):SR (X0 h G) (fun _=>none) hpE h:=
 ⟨fun r x hr=>(by cases hr),fun r r' x x' hr=>(by cases hr),fun r x hr=>(by cases hr),fun r x hr=>(by cases hr),fun b hb=>⟨hb,rfl⟩,fun r row hr=>(by cases hr),rfl,fun r x hr=>(by cases hr)⟩
def PureAt (P:Program) (f:Nat) (args:List AV) (v:AV):Prop:=
 ∀ (X:Cx),CxOk X→∀ (θ:Th) (hp:Hp) (h:H) (vals:List Value),SR X θ hp h→RVs θ args vals →
  FnOk P f∧CallsH P f vals.toArray h fun w h'=>SR X θ hp h'∧RV θ v w
theorem yg {P:Program} {cl:CallT} (hcl:CallOk P cl) {f:Nat} {args:List AV} {v:AV} (he:ansIs (cl f args hpE ok1) v = true) (ha:args.all fr1 = true) (hv:free v = true):PureAt P f args v:=by
 intro X hX θ hp h vals S hr
 obtain ⟨hf,he⟩:=ansIs_ok he
 have hG:Gd fun a=>∃ hf,a = Ans.ok v hf:=⟨fun n h=>by obtain ⟨_,h⟩:=h; cases h⟩
 obtain ⟨h1,h2⟩:=hcl (X0 h fun a=>∃ hf,a = .ok v hf) (X0_ok S hX hG fun a b h=>(by obtain ⟨_,h⟩:=h; cases h)) (fun _=>none) hpE h f args vals ok1 (X0_sr h _) (fr1s_rvs ha hr) ⟨hf,he⟩
 refine ⟨h1,h2.mono ?_⟩
 rintro w h' ⟨θ',hp',a,S',_,_,hw,hg⟩
 obtain ⟨hf2,hg⟩:=hg
 have hg:Ans.ok a hp' = .ok v hf2:=hg
 injection hg with e1 e2
 subst e1
 refine ⟨S.grow fun b hb=>S'.keepU b hb,free_ok hv hw⟩
theorem PureAt.hook {P:Program} {f:Nat} {args:List AV} {v:AV} (hP:PureAt P f args v) {X:Cx} (hX:CxOk X) {θ:Th} {hp:Hp} {h:H} {vals:List Value} {q:K1} (S:SR X θ hp h) (hr:RVs θ args vals) (g:X.G (q v hp)):FnOk P f∧CallsH P f vals.toArray h (Res X θ hp q):=by
 obtain ⟨h1,h2⟩:=hP X hX θ hp h vals S hr
 exact ⟨h1,h2.mono fun w h' ⟨a,b⟩=>⟨θ,hp,v,a,Ext.refl _ _,Nat.le_refl _,b,g⟩⟩
def hkT (t:List (List AV×AV)):Hook:=fun args h q=>List.rec (motive:=fun _=>Ans) (.er 220) (fun e _ ih=>bz (beqL args e.1) (frH e.2 fun v=>q v h) ih) t
theorem hkT_ok {P:Program} {f:Nat}:∀ {t:List (List AV×AV)},(∀ e ∈ t,PureAt P f e.1 e.2)→HookOk P f (hkT t)
 | [],_=>fun X hX θ hp h args vals q S hr g=>(hX.gd.er _ g).elim
 | e :: t,ht=>fun X hX θ hp h args vals q S hr g=>by
  have g:X.G (bz (beqL args e.1) (frH e.2 fun v=>q v hp) (hkT t args hp q)):=g
  cases c:beqL args e.1 with
  | true=>
   rw [c] at g
   obtain ⟨_,g2⟩:=qdn hX.gd (show X.G (frH e.2 fun v=>q v hp) from g)
   have he:=beqL_ok c
   rw [he] at hr
   exact (ht e (by simp)).hook hX S hr g2
  | false=>
   rw [c] at g
   exact hkT_ok (t:=t) (fun e he=>ht e (by simp [he])) X hX θ hp h args vals q S hr g
end
end Go.Vm
namespace Go.Vm
open Go
def fN {α:Type} (n:Nat) (k:Nat→α):α:=Nat.rec (motive:=fun _=>(Nat→α)→α) (fun k=>k 0) (fun m _ k=>k (Nat.succ m)) n k
abbrev RdT:=Nat→Nat→Nat→Nat→Nat→Nat→Nat→Nat→Nat→Nat→Nat→Nat→Nat→Nat→Nat→Nat→Nat→Nat→Nat→Nat→Nat→Nat→Nat→Nat→Nat
def dbl (x:Nat):Nat:=Nat.mul x 4294967297
def sg (a b c y:Nat):Nat:=Nat.xor (Nat.xor (Nat.shiftRight y a) (Nat.shiftRight y b)) (Nat.shiftRight y c)
def sg3 (a b c x y:Nat):Nat:=Nat.xor (Nat.xor (Nat.shiftRight y a) (Nat.shiftRight y b)) (Nat.shiftRight x c)
def pk (a b c d e f g h:Nat):Nat:=Nat.add (Nat.mul (Nat.add (Nat.mul (Nat.add (Nat.mul (Nat.add (Nat.mul (Nat.add (Nat.mul (Nat.add (Nat.mul (Nat.add (Nat.mul a 4294967296) b) 4294967296) c) 4294967296) d) 4294967296) e) 4294967296) f) 4294967296) g) 4294967296) h
def shaK:List Nat:=[1116352408,1899447441,3049323471,3921009573,961987163,1508970993,2453635748,2870763221,3624381080,310598401,607225278,1426881987,1925078388,2162078206,2614888103,3248222580,3835390401,4022224774,264347078,604807628,770255983,1249150122,1555081692,1996064986,2554220882,2821834349,2952996808,3210313671,3336571891,3584528711,113926993,338241895,666307205,773529912,1294757372,1396182291,1695183700,1986661051,2177026350,2456956037,2730485921,2820302411,3259730800,3345764771,3516065817,3600352804,4094571909,275423344,430227734,506948616,659060556,883997877,958139571,1322822218,1537002063,1747873779,1955562222,2024104815,2227730452,2361852424,2428436474,2756734187,3204031479,3329325298]
def rdN (ks:List Nat):RdT:=List.rec (motive:=fun _=>RdT) (fun a b c d e f g h w0 w1 w2 w3 w4 w5 w6 w7 w8 w9 w10 w11 w12 w13 w14 w15=>pk a b c d e f g h)
 (fun k _ ih a b c d e f g h w0 w1 w2 w3 w4 w5 w6 w7 w8 w9 w10 w11 w12 w13 w14 w15=>
  fN (Nat.add (Nat.add (Nat.add h (sg 6 11 25 (dbl e))) (Nat.xor g (Nat.land e (Nat.xor f g)))) (Nat.add k w0)) fun t=>
  fN (Nat.mod (Nat.add d t) 4294967296) fun e1=>
  fN (Nat.mod (Nat.add t (Nat.add (sg 2 13 22 (dbl a)) (Nat.lor (Nat.land a b) (Nat.land c (Nat.lor a b))))) 4294967296) fun a1=>
  fN (Nat.mod (Nat.add (Nat.add (sg3 17 19 10 w14 (dbl w14)) w9) (Nat.add (sg3 7 18 3 w1 (dbl w1)) w0)) 4294967296) fun w16=>
  ih a1 a b c e1 e f g w1 w2 w3 w4 w5 w6 w7 w8 w9 w10 w11 w12 w13 w14 w15 w16) ks
def wd (x i:Nat):Nat:=Nat.mod (Nat.shiftRight x (Nat.mul 32 i)) 4294967296
def addH (x y:Nat):Nat:=pk (Nat.mod (Nat.add (wd x 7) (wd y 7)) 4294967296) (Nat.mod (Nat.add (wd x 6) (wd y 6)) 4294967296) (Nat.mod (Nat.add (wd x 5) (wd y 5)) 4294967296) (Nat.mod (Nat.add (wd x 4) (wd y 4)) 4294967296) (Nat.mod (Nat.add (wd x 3) (wd y 3)) 4294967296) (Nat.mod (Nat.add (wd x 2) (wd y 2)) 4294967296) (Nat.mod (Nat.add (wd x 1) (wd y 1)) 4294967296) (Nat.mod (Nat.add (wd x 0) (wd y 0)) 4294967296)
def comp (h b:Nat):Nat:=addH h (rdN shaK (wd h 7) (wd h 6) (wd h 5) (wd h 4) (wd h 3) (wd h 2) (wd h 1) (wd h 0) (wd b 15) (wd b 14) (wd b 13) (wd b 12) (wd b 11) (wd b 10) (wd b 9) (wd b 8) (wd b 7) (wd b 6) (wd b 5) (wd b 4) (wd b 3) (wd b 2) (wd b 1) (wd b 0))
def shaBs (x:Nat) (m:Nat):Nat→Nat:=Nat.rec (motive:=fun _=>Nat) 47962653771679561900652889051773562940742041696833059450490514104358170316057 (fun i ih=>comp ih (Nat.mod (Nat.shiftRight x (Nat.mul 512 (Nat.sub (Nat.pred m) i))) (Nat.shiftLeft 1 512)))
def shaN (n x:Nat):Nat:=
 let z:=Nat.sub (Nat.mul 64 (Nat.div (Nat.add n 72) 64)) n
 shaBs (Nat.add (Nat.shiftLeft (Nat.add (Nat.mul x 256) 128) (Nat.mul 8 (Nat.pred z))) (Nat.mul 8 n)) (Nat.div (Nat.add n 72) 64) (Nat.div (Nat.add n 72) 64)
end Go.Vm
namespace Go.Vm
open Go Go.Sh
open Go.Sh.Ty (reg)
def sgm (T:R4) (s:Rid):Option Rid:=match getR T s with | .it r _ _ _ _=>r | _=>none
structure St where
 L:List (Rid×Row)
 nx:Rid
 par:List (Rid×Rid×Nat)
 vs:List AV
 rt:List (Rid×Nat)
end Go.Vm

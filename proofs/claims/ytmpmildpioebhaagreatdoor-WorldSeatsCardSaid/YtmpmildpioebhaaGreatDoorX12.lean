/-
  The statement WorldSeats (law 23): a seat whose power goes off is gone, and comes back with nothing lost. Part 12 of 27. No condition stands ahead of the statement. Parts of this text were printed by a program of ours.
-/
import Derived.Test.YtmpmildpioebhaaGreatDoorX10
import Derived.Laws.BytesString
set_option linter.all false
set_option maxRecDepth 100000
set_option maxHeartbeats 4000000
noncomputable section
namespace Go.Proofs.YtmpmildpioebhaaGreatDoor
open Go Go.Sh
open Go.Sh.Ty (reg)
theorem yb.ok (hv:Pt) (b:Sl) (k:Unit→H→Prop) (h:H) (hh:yb.b hv b k h):CallsH Prog 114 [reg hv,reg b].toArray h fun v h'=>∃ r:Unit,v = reg r∧k r h':=by
 unfold yb.b at hh
 refine CallsH.of 200 Tryz.func114 rfl Tryz.ntmps114 rfl (fun w0=>?_)
 refine .sr ?_
 refine qy hh (fun w hw hh=>?_)
 refine .e (qaq hw zo_350 rfl ?_)
 refine .nx ?_
 refine CW.join (fun ρ h=>∃ (ρ':Env),ρ = setl ρ' [(0,reg hv),(4,.pointer (some w))]∧(yb.j1 k) hv w h) ?_ ?_
 ·refine .sr (.M (reg ((0:Int):Int)) (.nx ?_))
  refine CW.block ?_
  unfold yb.l1 at hh
  refine CW.loop (fun (σ0:Int) ρ=>match σ0 with | t26=>∃ ρ':Env,ρ = setl ρ' [(0,reg hv),(1,reg b),(4,.pointer (some w)),(26,reg t26)]) hh ⟨_,qn ⟨rfl,⟨rfl,⟨rfl,⟨rfl,trivial⟩⟩⟩⟩⟩ ?_
  clear hh
  rintro s1 t26 ρ h ⟨ρ',rfl⟩ hh
  refine .sr (.V (qax rfl rfl) (.nx (.seq ?_)))
  refine CW.cond (decide (t26 < (16:Int))) rfl (fun hb=>?_) (fun hb=>?_)
  ·have hh:=hh.1 hb
   refine CW.skip ?_
   refine QN.then_ ?_
   refine CW.seq ?_
   refine CW.block ?_
   refine .sr (.M (reg t26) (.A (reg t26) (.nx ?_)))
   refine CW.region ?_
   refine .M (reg t26) (.M (reg b) (.M (reg t26) (.V (v_imul rfl rfl) ?_)))
   obtain ⟨hm,hh⟩:=hh
   refine .V (v_slice_ll qbc rfl rfl hm.1 hm.2) ?_
   refine .e (qw fn_198 rfl rfl hh ?_)
   intro h t34 hh
   obtain ⟨i35,hi35,hh⟩:=hh
   refine .V (qay ar_350 rfl rfl hi35) ?_
   obtain ⟨xw_2,hxw_2,hwxw_2,hh⟩:=hh
   refine .e (e_store (p:=w) (nv:=enc (t34:UInt32)) i35.val rfl rfl rfl sz_249 rfl hxw_2 hwxw_2 (arr_ble i35 xw_2 _ rfl) (arr_set i35 xw_2 (t34:UInt32) rfl) ?_)
   refine .nil ?_
   refine QN.blockN ?_
   refine QN.then_ ?_
   refine CW.region ?_
   refine .V (qbp rfl rfl) (.M (reg ((iadd t26 (1:Int)):Int)) ?_)
   refine .nil ?_
   exact QN.thenJ ⟨(iadd t26 (1:Int)),⟨_,qn ⟨rfl,⟨rfl,⟨rfl,⟨rfl,trivial⟩⟩⟩⟩⟩,hh⟩
  ·have hh:=hh.2 hb
   refine CW.exit ?_
   refine QN.thenExit ?_
   refine QN.thenExit ?_
   refine QN.blockExit ?_
   exact QN.thenJ ⟨_,qn ⟨rfl,⟨rfl,trivial⟩⟩,hh⟩
 ·rintro ρ h ⟨ρ',rfl,hh⟩
  unfold yb.j1 at hh
  refine CW.join (fun ρ h=>∃ (ρ':Env),ρ = setl ρ' [(0,reg hv),(4,.pointer (some w))]∧(yb.j2 k) hv w h) ?_ ?_
  ·refine .sr (.A (reg ((16:Int):Int)) (.nx ?_))
   refine CW.block ?_
   unfold yb.l2 at hh
   refine CW.loop (fun (σ0:Int) ρ=>match σ0 with | i=>∃ ρ':Env,ρ = setl ρ' [(0,reg hv),(4,.pointer (some w)),(6,reg i)]) hh ⟨_,qn ⟨rfl,⟨rfl,⟨rfl,trivial⟩⟩⟩⟩ ?_
   clear hh
   rintro s2 i ρ h ⟨ρ',rfl⟩ hh
   refine CW.seq ?_
   refine .sr (.M (reg i) (.V (qax rfl rfl) (.nx ?_)))
   refine CW.cond (decide (i < (64:Int))) rfl (fun hb_1=>?_) (fun hb_1=>?_)
   ·have hh:=hh.1 hb_1
    refine CW.skip ?_
    refine QN.then_ ?_
    refine CW.seq ?_
    refine CW.block ?_
    refine CW.seq ?_
    refine CW.drawN 10 rfl ym [0,1,2,3,4,5,6,7,8,9] ?_
    refine .P 0 rfl (qu (v:=reg i) rfl) (.P 1 rfl (v_isub rfl rfl) ?_)
    obtain ⟨i43,hi43,hh⟩:=hh
    refine .P 2 rfl (qay ar_350 rfl rfl hi43) (.KL 3 i43.val qdh (qda i43) rfl hh rfl (fun t44 hh=>.P 4 rfl (qu (v:=reg i) rfl) (.P 5 rfl (v_isub rfl rfl) ?_)))
    obtain ⟨i47,hi47,hh⟩:=hh
    refine .P 6 rfl (qay ar_350 rfl rfl hi47) (.KL 7 i47.val qdh (qda i47) rfl hh rfl (fun t48 hh=>.P 8 rfl (qad (v:=reg t44) rfl) (.P 9 rfl (qad (v:=reg t48) rfl) ?_)))
    refine .done (by kernel_rfl) ?_
    refine QN.then_ ?_
    refine .sr (.M (reg t44) ?_)
    refine .e (qw fn_199 rfl rfl hh ?_)
    intro h t50 hh
    refine .M (reg t44) ?_
    refine .e (qw fn_199 rfl rfl hh ?_)
    intro h t52 hh
    refine .V (qel (a:=t50) (b:=t52) rfl rfl) (.M (reg t44) (.V (v_shr32 (a:=t44) (b:=3) rfl rfl (by decide)) (.V (qel (a:=(t50 ^^^ t52)) (b:=(shr32 t44 3)) rfl rfl) (.A (reg (((t50 ^^^ t52) ^^^ (shr32 t44 3)):UInt32)) (.nx (.sr (.M (reg t48) ?_)))))))
    refine .e (qw fn_199 rfl rfl hh ?_)
    intro h t58 hh
    refine .M (reg t48) ?_
    refine .e (qw fn_199 rfl rfl hh ?_)
    intro h t60 hh
    refine .V (qel (a:=t58) (b:=t60) rfl rfl) (.M (reg t48) (.V (v_shr32 (a:=t48) (b:=10) rfl rfl (by decide)) (.V (qel (a:=(t58 ^^^ t60)) (b:=(shr32 t48 10)) rfl rfl) (.A (reg (((t58 ^^^ t60) ^^^ (shr32 t48 10)):UInt32)) (.nx ?_)))))
    refine CW.drawN 16 rfl ym [0,1,2,3,4,5,6,7,8,9,10,11,12,13,14] ?_
    refine .P 0 rfl (qu (v:=reg i) rfl) (.P 1 rfl (qu (v:=reg i) rfl) (.P 2 rfl (v_isub rfl rfl) ?_))
    obtain ⟨i68,hi68,hh⟩:=hh
    refine .P 3 rfl (qay ar_350 rfl rfl hi68) (.KL 4 i68.val qdh (qda i68) rfl hh rfl (fun t69 hh=>.P 5 rfl (qu (v:=reg (((t50 ^^^ t52) ^^^ (shr32 t44 3)):UInt32)) rfl) (.P 6 rfl (qeg (a:=t69) (b:=((t50 ^^^ t52) ^^^ (shr32 t44 3))) rfl rfl) (.P 7 rfl (qu (v:=reg i) rfl) (.P 8 rfl (v_isub rfl rfl) ?_)))))
    obtain ⟨i74,hi74,hh⟩:=hh
    refine .P 9 rfl (qay ar_350 rfl rfl hi74) (.KL 10 i74.val qdh (qda i74) rfl hh rfl (fun t75 hh=>.P 11 rfl (qeg (a:=(t69 + ((t50 ^^^ t52) ^^^ (shr32 t44 3)))) (b:=t75) rfl rfl) (.P 12 rfl (qu (v:=reg (((t58 ^^^ t60) ^^^ (shr32 t48 10)):UInt32)) rfl) (.P 13 rfl (qeg (a:=((t69 + ((t50 ^^^ t52) ^^^ (shr32 t44 3))) + t75)) (b:=((t58 ^^^ t60) ^^^ (shr32 t48 10))) rfl rfl) ?_))))
    obtain ⟨i79,hi79,hh⟩:=hh
    refine .P 14 rfl (qay ar_350 rfl rfl hi79) ?_
    obtain ⟨xw_5,hxw_5,hwxw_5,hh⟩:=hh
    refine .w 15 (by kernel_rfl) rfl (by kernel_rfl) (.e (e_store (p:=w) (nv:=enc ((((t69 + ((t50 ^^^ t52) ^^^ (shr32 t44 3))) + t75) + ((t58 ^^^ t60) ^^^ (shr32 t48 10))):UInt32)) i79.val rfl rfl rfl sz_249 rfl hxw_5 hwxw_5 (arr_ble i79 xw_5 _ rfl) (arr_set i79 xw_5 ((((t69 + ((t50 ^^^ t52) ^^^ (shr32 t44 3))) + t75) + ((t58 ^^^ t60) ^^^ (shr32 t48 10))):UInt32) rfl) ?_))
    refine ⟨⟨⟨trivial,.inl (by kernel_rfl)⟩,.inl (by kernel_rfl)⟩,?_⟩
    refine .done (by kernel_rfl) ?_
    refine QN.blockN ?_
    refine QN.then_ ?_
    refine CW.region ?_
    refine .M (reg i) (.V (qbp rfl rfl) (.A (reg ((iadd i (1:Int)):Int)) ?_))
    refine .nil ?_
    exact QN.thenJ ⟨(iadd i (1:Int)),⟨_,qn ⟨rfl,⟨rfl,⟨rfl,trivial⟩⟩⟩⟩,hh⟩
   ·have hh:=hh.2 hb_1
    refine CW.exit ?_
    refine QN.thenExit ?_
    refine QN.thenExit ?_
    refine QN.blockExit ?_
    exact QN.thenJ ⟨_,qn ⟨rfl,⟨rfl,trivial⟩⟩,hh⟩
  ·rintro ρ h ⟨ρ',rfl,hh⟩
   unfold yb.j2 at hh
   refine CW.seq ?_
   refine CW.drawN 40 rfl ym [0,1,2,3,4,5,6,7,8,9,10,11,12,13,14,15,16,17,18,19,20,21,22,23,24,25,26,27,28,29,30,31,32,33,34,35,36,37,38,39] ?_
   refine .P 0 rfl (qu (v:=reg hv) rfl) ?_
   obtain ⟨p,hp,hh⟩:=hh
   refine .P 1 rfl (qv (congrArg Value.pointer hp)) ?_
   obtain ⟨i82,hi82,hh⟩:=hh
   refine .P 2 rfl (qay ar_251 rfl rfl hi82) (.KL 3 i82.val qdh (qda i82) rfl hh rfl (fun t83 hh=>.P 4 rfl (qu (v:=reg hv) rfl) (.P 5 rfl (qv (congrArg Value.pointer hp)) ?_)))
   obtain ⟨i86,hi86,hh⟩:=hh
   refine .P 6 rfl (qay ar_251 rfl rfl hi86) (.KL 7 i86.val qdh (qda i86) rfl hh rfl (fun t87 hh=>.P 8 rfl (qu (v:=reg hv) rfl) (.P 9 rfl (qv (congrArg Value.pointer hp)) ?_)))
   obtain ⟨i90,hi90,hh⟩:=hh
   refine .P 10 rfl (qay ar_251 rfl rfl hi90) (.KL 11 i90.val qdh (qda i90) rfl hh rfl (fun t91 hh=>.P 12 rfl (qu (v:=reg hv) rfl) (.P 13 rfl (qv (congrArg Value.pointer hp)) ?_)))
   obtain ⟨i94,hi94,hh⟩:=hh
   refine .P 14 rfl (qay ar_251 rfl rfl hi94) (.KL 15 i94.val qdh (qda i94) rfl hh rfl (fun t95 hh=>.P 16 rfl (qu (v:=reg hv) rfl) (.P 17 rfl (qv (congrArg Value.pointer hp)) ?_)))
   obtain ⟨i98,hi98,hh⟩:=hh
   refine .P 18 rfl (qay ar_251 rfl rfl hi98) (.KL 19 i98.val qdh (qda i98) rfl hh rfl (fun t99 hh=>.P 20 rfl (qu (v:=reg hv) rfl) (.P 21 rfl (qv (congrArg Value.pointer hp)) ?_)))
   obtain ⟨i102,hi102,hh⟩:=hh
   refine .P 22 rfl (qay ar_251 rfl rfl hi102) (.KL 23 i102.val qdh (qda i102) rfl hh rfl (fun t103 hh=>.P 24 rfl (qu (v:=reg hv) rfl) (.P 25 rfl (qv (congrArg Value.pointer hp)) ?_)))
   obtain ⟨i106,hi106,hh⟩:=hh
   refine .P 26 rfl (qay ar_251 rfl rfl hi106) (.KL 27 i106.val qdh (qda i106) rfl hh rfl (fun t107 hh=>.P 28 rfl (qu (v:=reg hv) rfl) (.P 29 rfl (qv (congrArg Value.pointer hp)) ?_)))
   obtain ⟨i110,hi110,hh⟩:=hh
   refine .P 30 rfl (qay ar_251 rfl rfl hi110) (.KL 31 i110.val qdh (qda i110) rfl hh rfl (fun t111 hh=>.P 32 rfl (qad (v:=reg t83) rfl) (.P 33 rfl (qad (v:=reg t87) rfl) (.P 34 rfl (qad (v:=reg t91) rfl) (.P 35 rfl (qad (v:=reg t95) rfl) (.P 36 rfl (qad (v:=reg t99) rfl) (.P 37 rfl (qad (v:=reg t103) rfl) (.P 38 rfl (qad (v:=reg t107) rfl) (.P 39 rfl (qad (v:=reg t111) rfl) ?_)))))))))
   refine .done (by kernel_rfl) ?_
   refine QN.then_ ?_
   refine CW.join (fun ρ h=>∃ (ρ':Env) (a_1:UInt32) (c_1:UInt32) (d_1:UInt32) (e_1:UInt32) (f_1:UInt32) (g_1:UInt32) (kv_1:UInt32) (l_1:UInt32),ρ = setl ρ' [(0,reg hv),(11,reg a_1),(12,reg c_1),(13,reg d_1),(14,reg e_1),(15,reg f_1),(16,reg g_1),(17,reg kv_1),(18,reg l_1)]∧(yb.j3 k) hv a_1 c_1 d_1 e_1 f_1 g_1 kv_1 l_1 h) ?_ ?_
   ·refine .sr (.LA 0 ag_350 get_350_all (fun _=>(qr (n:=64) _)) hh rfl (fun t112 hh=>.M (reg ((0:Int):Int)) (.nx ?_)))
    refine CW.block ?_
    unfold yb.l3 at hh
    refine CW.loop (fun (σ0:UInt32×UInt32×UInt32×UInt32×UInt32×UInt32×UInt32×UInt32×Int) ρ=>match σ0 with | (a,c,d,e,f,g,kv,l,t113)=>∃ ρ':Env,ρ = setl ρ' [(0,reg hv),(112,reg (t112:Arr 64 UInt32)),(11,reg a),(12,reg c),(13,reg d),(14,reg e),(15,reg f),(16,reg g),(17,reg kv),(18,reg l),(113,reg t113)]) hh ⟨_,qn ⟨rfl,⟨rfl,⟨rfl,⟨rfl,⟨rfl,⟨rfl,⟨rfl,⟨rfl,⟨rfl,⟨rfl,⟨rfl,trivial⟩⟩⟩⟩⟩⟩⟩⟩⟩⟩⟩⟩ ?_
    clear hh
    rintro s3 ⟨a,c,d,e,f,g,kv,l,t113⟩ ρ h ⟨ρ',rfl⟩ hh
    refine .sr (.V (qax rfl rfl) (.nx (.seq ?_)))
    refine CW.cond (decide (t113 < (64:Int))) rfl (fun hb_2=>?_) (fun hb_2=>?_)
    ·have hh:=hh.1 hb_2
     refine CW.skip ?_
     refine QN.then_ ?_
     refine CW.seq ?_
     refine CW.block ?_
     refine .sr (.M (reg t113) ?_)
     obtain ⟨i116,hi116,hh⟩:=hh
     refine .V (v_index1P ar_350 qdh rfl rfl hi116) (.A (reg t113) (.A (reg ((t112 i116):UInt32)) (.nx (.sr (.M (reg f) ?_)))))
     refine .e (qw fn_199 rfl rfl hh ?_)
     intro h t118 hh
     refine .M (reg f) ?_
     refine .e (qw fn_199 rfl rfl hh ?_)
     intro h t120 hh
     refine .V (qel (a:=t118) (b:=t120) rfl rfl) (.M (reg f) ?_)
     refine .e (qw fn_199 rfl rfl hh ?_)
     intro h t123 hh
     refine .V (qel (a:=(t118 ^^^ t120)) (b:=t123) rfl rfl) (.A (reg (((t118 ^^^ t120) ^^^ t123):UInt32)) (.nx (.sr (.M (reg l) (.M (reg (((t118 ^^^ t120) ^^^ t123):UInt32)) (.V (qeg (a:=l) (b:=((t118 ^^^ t120) ^^^ t123)) rfl rfl) (.M (reg f) (.M (reg g) (.V (v_and32 (a:=f) (b:=g) rfl rfl) (.M (reg f) ?_))))))))))
     refine .V (v_not32 rfl) (.M (reg kv) (.V (v_and32 (a:=(~~~f)) (b:=kv) rfl rfl) (.V (qel (a:=(f &&& g)) (b:=((~~~f) &&& kv)) rfl rfl) (.V (qeg (a:=(l + ((t118 ^^^ t120) ^^^ t123))) (b:=((f &&& g) ^^^ ((~~~f) &&& kv))) rfl rfl) (.M (reg t113) ?_)))))
     obtain ⟨i138,hi138,hh⟩:=hh
     refine .V (qay ar_350 rfl rfl hi138) (.L i138.val qdh (qda i138) hh rfl (fun t139 hh=>.V (qeg (a:=((l + ((t118 ^^^ t120) ^^^ t123)) + ((f &&& g) ^^^ ((~~~f) &&& kv)))) (b:=t139) rfl rfl) (.M (reg ((t112 i116):UInt32)) (.V (qeg (a:=(((l + ((t118 ^^^ t120) ^^^ t123)) + ((f &&& g) ^^^ ((~~~f) &&& kv))) + t139)) (b:=(t112 i116)) rfl rfl) (.A (reg (((((l + ((t118 ^^^ t120) ^^^ t123)) + ((f &&& g) ^^^ ((~~~f) &&& kv))) + t139) + (t112 i116)):UInt32)) (.nx (.sr (.M (reg a) ?_))))))))
     refine .e (qw fn_199 rfl rfl hh ?_)
     intro h t144 hh
     refine .M (reg a) ?_
     refine .e (qw fn_199 rfl rfl hh ?_)
     intro h t146 hh
     refine .V (qel (a:=t144) (b:=t146) rfl rfl) (.M (reg a) ?_)
     refine .e (qw fn_199 rfl rfl hh ?_)
     intro h t149 hh
     refine .V (qel (a:=(t144 ^^^ t146)) (b:=t149) rfl rfl) (.A (reg (((t144 ^^^ t146) ^^^ t149):UInt32)) (.nx (.sr (.M (reg (((t144 ^^^ t146) ^^^ t149):UInt32)) (.M (reg a) (.M (reg c) (.V (v_and32 (a:=a) (b:=c) rfl rfl) (.M (reg a) (.M (reg d) (.V (v_and32 (a:=a) (b:=d) rfl rfl) ?_))))))))))
     refine .V (qel (a:=(a &&& c)) (b:=(a &&& d)) rfl rfl) (.M (reg c) (.M (reg d) (.V (v_and32 (a:=c) (b:=d) rfl rfl) (.V (qel (a:=((a &&& c) ^^^ (a &&& d))) (b:=(c &&& d)) rfl rfl) (.V (qeg (a:=((t144 ^^^ t146) ^^^ t149)) (b:=(((a &&& c) ^^^ (a &&& d)) ^^^ (c &&& d))) rfl rfl) (.A (reg ((((t144 ^^^ t146) ^^^ t149) + (((a &&& c) ^^^ (a &&& d)) ^^^ (c &&& d))):UInt32)) (.nx ?_)))))))
     refine CW.region ?_
     refine .M (reg (((((l + ((t118 ^^^ t120) ^^^ t123)) + ((f &&& g) ^^^ ((~~~f) &&& kv))) + t139) + (t112 i116)):UInt32)) (.M (reg ((((t144 ^^^ t146) ^^^ t149) + (((a &&& c) ^^^ (a &&& d)) ^^^ (c &&& d))):UInt32)) (.V (qeg (a:=((((l + ((t118 ^^^ t120) ^^^ t123)) + ((f &&& g) ^^^ ((~~~f) &&& kv))) + t139) + (t112 i116))) (b:=(((t144 ^^^ t146) ^^^ t149) + (((a &&& c) ^^^ (a &&& d)) ^^^ (c &&& d)))) rfl rfl) (.M (reg a) (.M (reg c) (.M (reg d) (.M (reg e) (.M (reg (((((l + ((t118 ^^^ t120) ^^^ t123)) + ((f &&& g) ^^^ ((~~~f) &&& kv))) + t139) + (t112 i116)):UInt32)) (.V (qeg (a:=e) (b:=((((l + ((t118 ^^^ t120) ^^^ t123)) + ((f &&& g) ^^^ ((~~~f) &&& kv))) + t139) + (t112 i116))) rfl rfl) (.M (reg f) ?_)))))))))
     refine .M (reg g) (.M (reg kv) (.A (reg ((((((l + ((t118 ^^^ t120) ^^^ t123)) + ((f &&& g) ^^^ ((~~~f) &&& kv))) + t139) + (t112 i116)) + (((t144 ^^^ t146) ^^^ t149) + (((a &&& c) ^^^ (a &&& d)) ^^^ (c &&& d)))):UInt32)) (.A (reg a) (.A (reg c) (.A (reg d) (.A (reg ((e + ((((l + ((t118 ^^^ t120) ^^^ t123)) + ((f &&& g) ^^^ ((~~~f) &&& kv))) + t139) + (t112 i116))):UInt32)) (.A (reg f) (.A (reg g) (.A (reg kv) ?_)))))))))
     refine .nil ?_
     refine QN.blockN ?_
     refine QN.then_ ?_
     refine CW.region ?_
     refine .V (qbp rfl rfl) (.M (reg ((iadd t113 (1:Int)):Int)) ?_)
     refine .nil ?_
     exact QN.thenJ ⟨((((((l + ((t118 ^^^ t120) ^^^ t123)) + ((f &&& g) ^^^ ((~~~f) &&& kv))) + t139) + (t112 i116)) + (((t144 ^^^ t146) ^^^ t149) + (((a &&& c) ^^^ (a &&& d)) ^^^ (c &&& d)))),a,c,d,(e + ((((l + ((t118 ^^^ t120) ^^^ t123)) + ((f &&& g) ^^^ ((~~~f) &&& kv))) + t139) + (t112 i116))),f,g,kv,(iadd t113 (1:Int))),⟨_,qn ⟨rfl,⟨rfl,⟨rfl,⟨rfl,⟨rfl,⟨rfl,⟨rfl,⟨rfl,⟨rfl,⟨rfl,⟨rfl,trivial⟩⟩⟩⟩⟩⟩⟩⟩⟩⟩⟩⟩,hh⟩
    ·have hh:=hh.2 hb_2
     refine CW.exit ?_
     refine QN.thenExit ?_
     refine QN.thenExit ?_
     refine QN.blockExit ?_
     exact QN.thenJ ⟨_,a,c,d,e,f,g,kv,l,qn ⟨rfl,⟨rfl,⟨rfl,⟨rfl,⟨rfl,⟨rfl,⟨rfl,⟨rfl,⟨rfl,trivial⟩⟩⟩⟩⟩⟩⟩⟩⟩,hh⟩
   ·rintro ρ h ⟨ρ',a_1,c_1,d_1,e_1,f_1,g_1,kv_1,l_1,rfl,hh⟩
    unfold yb.j3 at hh
    refine .sr (.M (reg a_1) (.M (reg c_1) (.M (reg d_1) (.M (reg e_1) (.M (reg f_1) (.M (reg g_1) (.M (reg kv_1) (.M (reg l_1) (.V (v_buildAT (arrOf [a_1,c_1,d_1,e_1,f_1,g_1,kv_1,l_1]:Arr 8 UInt32) zo_250 ar_250 rfl rfl rfl) ?_)))))))))
    refine .M (reg ((0:Int):Int)) (.nx ?_)
    refine CW.block ?_
    unfold yb.l4 at hh
    refine CW.loop (fun (σ0:Int) ρ=>match σ0 with | t186=>∃ ρ':Env,ρ = setl ρ' [(0,reg hv),(185,reg ((arrOf [a_1,c_1,d_1,e_1,f_1,g_1,kv_1,l_1]:Arr 8 UInt32):Arr 8 UInt32)),(186,reg t186)]) hh ⟨_,qn ⟨rfl,⟨rfl,⟨rfl,trivial⟩⟩⟩⟩ ?_
    clear hh
    rintro s4 t186 ρ h ⟨ρ',rfl⟩ hh
    refine .sr (.V (qax rfl rfl) (.nx (.seq ?_)))
    refine CW.cond (decide (t186 < (8:Int))) rfl (fun hb_3=>?_) (fun hb_3=>?_)
    ·have hh:=hh.1 hb_3
     refine CW.skip ?_
     refine QN.then_ ?_
     refine CW.seq ?_
     refine CW.block ?_
     refine .sr (.M (reg t186) ?_)
     obtain ⟨i189,hi189,hh⟩:=hh
     refine .V (v_index1P ar_250 qdh rfl rfl hi189) (.A (reg t186) (.A (reg (((arrOf [a_1,c_1,d_1,e_1,f_1,g_1,kv_1,l_1]:Arr 8 UInt32) i189):UInt32)) (.nx ?_)))
     refine CW.drawN 10 rfl ym [0,1,2,3,4,5,6,7,8] ?_
     refine .P 0 rfl (qu (v:=reg hv) rfl) (.P 1 rfl (qu (v:=reg t186) rfl) ?_)
     obtain ⟨p_1,hp_1,hh⟩:=hh
     refine .P 2 rfl (qv (congrArg Value.pointer hp_1)) ?_
     obtain ⟨i193,hi193,hh⟩:=hh
     refine .P 3 rfl (qay ar_251 rfl rfl hi193) (.KL 4 i193.val qdh (qda i193) rfl hh rfl (fun t194 hh=>.P 5 rfl (qu (v:=reg (((arrOf [a_1,c_1,d_1,e_1,f_1,g_1,kv_1,l_1]:Arr 8 UInt32) i189):UInt32)) rfl) (.P 6 rfl (qeg (a:=t194) (b:=((arrOf [a_1,c_1,d_1,e_1,f_1,g_1,kv_1,l_1]:Arr 8 UInt32) i189)) rfl rfl) (.P 7 rfl (qv (congrArg Value.pointer hp_1)) ?_))))
     obtain ⟨i198,hi198,hh⟩:=hh
     refine .P 8 rfl (qay ar_251 rfl rfl hi198) ?_
     obtain ⟨xw_7,hxw_7,hwxw_7,hh⟩:=hh
     refine .w 9 (by kernel_rfl) rfl (by kernel_rfl) (.e (e_store (p:=p_1) (nv:=enc ((t194 + ((arrOf [a_1,c_1,d_1,e_1,f_1,g_1,kv_1,l_1]:Arr 8 UInt32) i189)):UInt32)) i198.val rfl rfl rfl sz_249 rfl hxw_7 hwxw_7 (arr_ble i198 xw_7 _ rfl) (arr_set i198 xw_7 ((t194 + ((arrOf [a_1,c_1,d_1,e_1,f_1,g_1,kv_1,l_1]:Arr 8 UInt32) i189)):UInt32) rfl) ?_))
     refine ⟨⟨trivial,.inl (by kernel_rfl)⟩,?_⟩
     refine .done (by kernel_rfl) ?_
     refine QN.blockN ?_
     refine QN.then_ ?_
     refine CW.region ?_
     refine .V (qbp rfl rfl) (.M (reg ((iadd t186 (1:Int)):Int)) ?_)
     refine .nil ?_
     exact QN.thenJ ⟨(iadd t186 (1:Int)),⟨_,qn ⟨rfl,⟨rfl,⟨rfl,trivial⟩⟩⟩⟩,hh⟩
    ·have hh:=hh.2 hb_3
     refine CW.exit ?_
     refine QN.thenExit ?_
     refine QN.thenExit ?_
     refine QN.blockExit ?_
     exact ret0n rfl ⟨(),rfl,hh⟩
end Go.Proofs.YtmpmildpioebhaaGreatDoor

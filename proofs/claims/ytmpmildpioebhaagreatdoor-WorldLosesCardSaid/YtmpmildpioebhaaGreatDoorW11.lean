/-
  The statement WorldLoses (law 23): where all letters are lost nobody decides anything. Part 11 of 30. No condition stands ahead of the statement. Parts of this text were printed by a program of ours.
-/
import Derived.Test.YtmpmildpioebhaaGreatDoorW10
set_option linter.all false
set_option maxRecDepth 100000
set_option maxHeartbeats 4000000
noncomputable section
namespace Go.Proofs.YtmpmildpioebhaaGreatDoor
open Go Go.Sh
open Go.Sh.Ty (reg)
theorem mail_Encode.ok (m : api_Mail) (k : (T2 Sl Int) → H → Prop) (h : H) (hh : mail_Encode.b m k h) : CallsH Prog 79 [reg m].toArray h fun v h' => ∃ r : T2 Sl Int, v = reg r ∧ k r h' := by
 unfold mail_Encode.b at hh
 refine CallsH.of 32 Tryz.func79 rfl Tryz.ntmps79 rfl (fun w0 => ?_)
 refine .sr ?_
 refine box_elim hh (fun m_1 hm_1 hh => ?_)
 refine .e (e_boxP hm_1 rfl rfl rfl ?_)
 refine .A (reg (Sl.nil : Sl)) (.A (reg ((0 : Int) : Int)) (.nx (.sr (.V (v_buildT code_Writer.zero zo_246 pl_246 rfl (rfl) rfl) ?_))))
 refine box_elim hh (fun t9 ht9 hh => ?_)
 refine .e (e_boxP ht9 rfl rfl rfl ?_)
 refine .A (.pointer (some t9)) (.nx (.sr (.M (.pointer (some t9)) (.V (v_fieldAddr fl_158_0 rfl) (.L 0 na_3 get_158_Kind hh rfl (fun t12 hh => ?_))))))
 refine mks_elim hh (fun pt13 t13 hpt13 ht13 hh => ?_)
 refine .e (e_mks [(t12 : Int)] hpt13 ht13 zo_3 sl_48 rfl rfl rfl rfl rfl ?_)
 refine .e (e_callP fn_116 rfl rfl hh ?_)
 intro h t14 hh
 refine .nx (.seq (.sr (.M (.pointer (some t9)) (.LA 0 ag_158 get_158_all (fun _ => (len_api_Mail _)) hh rfl (fun t16 hh => ?_)))))
 refine .e (e_callP fn_117 rfl rfl hh ?_)
 intro h t17 hh
 refine .V (v_not rfl) (.nx ?_)
 refine CW.cond (!t17) rfl (fun hb => ?_) (fun hb => ?_)
 ·have hh := hh.1 hb
  refine .sr (.A (reg (Sl.nil : Sl)) (.A (reg ((1 : Int) : Int)) (.nx ?_)))
  refine CW.ret ?_
  refine QN.thenRet ?_
  exact ret2 rfl rfl rfl ⟨(⟨Sl.nil, (1 : Int)⟩ : T2 Sl Int), rfl, hh⟩
 ·have hh := hh.2 hb
  refine CW.skip ?_
  refine QN.then_ ?_
  refine .sr (.M (.pointer (some t9)) ?_)
  refine .e (e_callP fn_113 rfl rfl hh ?_)
  intro h t20 hh
  refine .A (reg t20) (.nx (.seq (.sr (.M (reg t20) (.V (v_len_sl (sl_173).1 rfl) (.V (v_igtr rfl rfl) (.nx ?_)))))))
  refine CW.cond (decide ((262144 : Int) < (t20.len : Int))) rfl (fun hb_1 => ?_) (fun hb_1 => ?_)
  ·have hh := hh.1 hb_1
   refine .sr (.A (reg (Sl.nil : Sl)) (.A (reg ((3 : Int) : Int)) (.nx ?_)))
   refine CW.ret ?_
   refine QN.thenRet ?_
   exact ret2 rfl rfl rfl ⟨(⟨Sl.nil, (3 : Int)⟩ : T2 Sl Int), rfl, hh⟩
  ·have hh := hh.2 hb_1
   refine CW.skip ?_
   refine QN.then_ ?_
   refine CW.seq ?_
   refine .sr (.M (reg t20) ?_)
   refine .e (e_callP fn_103 rfl rfl hh ?_)
   intro h t26 hh
   refine .M (reg (t26 : T2 api_Mail Int)) (.V (v_extract (v := reg (t26.a : api_Mail)) rfl rfl) (.V (v_extract (v := reg (t26.b : Int)) rfl rfl) ?_))
   refine box_elim hh (fun t6 ht6 hh => ?_)
   refine .e (e_allocP ht6 zo_158 rfl ?_)
   refine .S (t26.a : api_Mail) 0 sz_158 (one_api_Mail _) len_api_Mail (len_api_Mail _) (fun x => set_158_all x (t26.a : api_Mail)) hh rfl rfl (fun _ hh => .A (reg (t26.b : Int)) (.nx (.sr (.M (reg (t26.b : Int)) (.V (v_ineq rfl rfl) (.nx ?_))))))
   refine CW.cond (t26.b != (0 : Int)) rfl (fun hb_2 => ?_) (fun hb_2 => ?_)
   ·have hh := hh.1 hb_2
    refine .sr (.A (reg (Sl.nil : Sl)) (.A (reg ((1 : Int) : Int)) (.nx ?_)))
    refine CW.ret ?_
    refine QN.thenRet ?_
    exact ret2 rfl rfl rfl ⟨(⟨Sl.nil, (1 : Int)⟩ : T2 Sl Int), rfl, hh⟩
   ·have hh := hh.2 hb_2
    refine CW.skip ?_
    refine QN.then_ ?_
    refine .sr (.M (reg t20) (.A (reg t20) (.A (reg ((0 : Int) : Int)) (.nx ?_))))
    refine CW.ret ?_
    exact ret2 rfl rfl rfl ⟨(⟨t20, (0 : Int)⟩ : T2 Sl Int), rfl, hh⟩
theorem client_post.ok (m : api_Mail) (k : Sl → H → Prop) (h : H) (hh : client_post.b m k h) : CallsH Prog 55 [reg m].toArray h fun v h' => ∃ r : Sl, v = reg r ∧ k r h' := by
 unfold client_post.b at hh
 refine CallsH.of 16 Tryz.func55 rfl Tryz.ntmps55 rfl (fun w0 => ?_)
 refine .sr ?_
 refine box_elim hh (fun m_1 hm_1 hh => ?_)
 refine .e (e_boxP hm_1 rfl rfl rfl ?_)
 refine .A (reg (Sl.nil : Sl)) (.nx (.sr (.LA 0 ag_158 get_158_all (fun _ => (len_api_Mail _)) hh rfl (fun t6 hh => ?_))))
 refine .e (e_callP fn_79 rfl rfl hh ?_)
 intro h t7 hh
 refine .M (reg (t7 : T2 Sl Int)) (.V (v_extract (v := reg (t7.a : Sl)) rfl rfl) (.V (v_extract (v := reg (t7.b : Int)) rfl rfl) (.A (reg (t7.a : Sl)) (.A (reg (t7.b : Int)) (.nx (.seq (.sr (.M (reg (t7.b : Int)) (.V (v_ineq rfl rfl) (.nx ?_))))))))))
 refine CW.cond (t7.b != (0 : Int)) rfl (fun hb => ?_) (fun hb => ?_)
 ·have hh := hh.1 hb
  refine .sr (.A (reg (Sl.nil : Sl)) (.nx ?_))
  refine CW.ret ?_
  refine QN.thenRet ?_
  exact ret1 rfl rfl ⟨(Sl.nil : Sl), rfl, hh⟩
 ·have hh := hh.2 hb
  refine CW.skip ?_
  refine QN.then_ ?_
  refine .sr (.M (reg (t7.a : Sl)) ?_)
  refine .e (e_b2s sl_173 un_5 un_9 rfl rfl hh ?_)
  intro h t13 hh
  refine .V (v_buildT ({ api_Post.zero with Frame := t13 } : api_Post) zo_160 pl_160 rfl (fill_step rfl rfl (len_s _) (len_api_Post _) rfl (set_160_Frame _ _) (rfl)) rfl) ?_
  refine mks_elim hh (fun pt15 t15 hpt15 ht15 hh => ?_)
  refine .e (e_mks [(({ api_Post.zero with Frame := t13 } : api_Post) : api_Post)] hpt15 ht15 zo_160 sl_83 rfl rfl rfl rfl rfl ?_)
  refine .A (reg t15) (.nx ?_)
  refine CW.ret ?_
  exact ret1 rfl rfl ⟨(t15 : Sl), rfl, hh⟩
theorem request_Good.ok (q : api_Request) (k : Bool → H → Prop) (h : H) (hh : request_Good.b q k h) : CallsH Prog 54 [reg q].toArray h fun v h' => ∃ r : Bool, v = reg r ∧ k r h' := by
 unfold request_Good.b at hh
 refine CallsH.of 44 Tryz.func54 rfl Tryz.ntmps54 rfl (fun w0 => ?_)
 refine .sr ?_
 refine box_elim hh (fun q_1 hq_1 hh => ?_)
 refine .e (e_boxP hq_1 rfl rfl rfl ?_)
 refine .A (reg false) (.nx (.sr (.V (v_fieldAddr fl_128_2 rfl) (.LA 2 ag_37 get_128_Op (fun _ => (len_api_Op _)) hh rfl (fun t5 hh => ?_)))))
 refine box_elim hh (fun o ho hh => ?_)
 refine .e (e_allocP ho zo_37 rfl ?_)
 refine .S (t5 : api_Op) 0 sz_37 (one_api_Op _) len_api_Op (len_api_Op _) (fun x => set_37_all x (t5 : api_Op)) hh rfl rfl (fun _ hh => .nx ?_)
 refine CW.join (fun ρ h => ∃ (ρ' : Env) (t2 : Bool), ρ = setl ρ' [(2, reg t2)] ∧ (request_Good.j1 k) t2 h) ?_ ?_
 ·refine CW.region ?_
  refine .V (v_fieldAddr fl_128_0 rfl) (.L 0 na_3 get_128_Client hh rfl (fun t7 hh => .V (v_igeq rfl rfl) (.M (reg ((decide ((1 : Int) ≤ t7)) : Bool)) (.tv 9 rfl rfl rfl (fun hb => v_fieldAddr fl_128_0 rfl) rfl ?_))))
  obtain ⟨t11, ⟨xt11, hxt11, hgt11⟩, hh⟩ := hh
  refine .tv 9 rfl rfl rfl (fun hb => v_ld1 (p := q_1) 0 na_3 (gt hb) hxt11 hgt11 get_128_Client) rfl (.tv 9 rfl rfl rfl (fun hb => v_ileq (gt hb) rfl) rfl (.V (v_pick_and rfl (fun hb => gt hb) rfl) (.M (reg (((decide ((1 : Int) ≤ t7)) && (decide (t11 ≤ (64 : Int)))) : Bool)) (.tv 14 rfl rfl rfl (fun hb => v_fieldAddr fl_128_1 rfl) rfl ?_))))
  obtain ⟨t16, ⟨xt16, hxt16, hgt16⟩, hh⟩ := hh
  refine .tv 14 rfl rfl rfl (fun hb => v_ld1 (p := q_1) 1 na_3 (gt hb) hxt16 hgt16 get_128_Num) rfl (.tv 14 rfl rfl rfl (fun hb => v_igeq (gt hb) rfl) rfl (.V (v_pick_and rfl (fun hb => gt hb) rfl) (.M (reg ((((decide ((1 : Int) ≤ t7)) && (decide (t11 ≤ (64 : Int)))) && (decide ((1 : Int) ≤ t16))) : Bool)) (.tv 19 rfl rfl rfl (fun hb => v_fieldAddr fl_128_1 rfl) rfl ?_))))
  obtain ⟨t21, ⟨xt21, hxt21, hgt21⟩, hh⟩ := hh
  refine .tv 19 rfl rfl rfl (fun hb => v_ld1 (p := q_1) 1 na_3 (gt hb) hxt21 hgt21 get_128_Num) rfl (.tv 19 rfl rfl rfl (fun hb => v_ileq (gt hb) rfl) rfl (.V (v_pick_and rfl (fun hb => gt hb) rfl) (.M (reg (((((decide ((1 : Int) ≤ t7)) && (decide (t11 ≤ (64 : Int)))) && (decide ((1 : Int) ≤ t16))) && (decide (t21 ≤ (1099511627776 : Int)))) : Bool)) (.tv 24 rfl rfl rfl (fun hb => v_fieldAddr fl_37_0 rfl) rfl ?_))))
  obtain ⟨t26, ⟨xt26, hxt26, hgt26⟩, hh⟩ := hh
  refine .tv 24 rfl rfl rfl (fun hb => v_ld1 (p := o) 0 na_3 (gt hb) hxt26 hgt26 get_37_Kind) rfl (.tv 24 rfl rfl rfl (fun hb => v_igeq (gt hb) rfl) rfl (.V (v_pick_and rfl (fun hb => gt hb) rfl) (.M (reg ((((((decide ((1 : Int) ≤ t7)) && (decide (t11 ≤ (64 : Int)))) && (decide ((1 : Int) ≤ t16))) && (decide (t21 ≤ (1099511627776 : Int)))) && (decide ((1 : Int) ≤ t26))) : Bool)) (.tv 29 rfl rfl rfl (fun hb => v_fieldAddr fl_37_0 rfl) rfl ?_))))
  obtain ⟨t31, ⟨xt31, hxt31, hgt31⟩, hh⟩ := hh
  refine .tv 29 rfl rfl rfl (fun hb => v_ld1 (p := o) 0 na_3 (gt hb) hxt31 hgt31 get_37_Kind) rfl (.tv 29 rfl rfl rfl (fun hb => v_ileq (gt hb) rfl) rfl (.V (v_pick_and rfl (fun hb => gt hb) rfl) (.M (reg (((((((decide ((1 : Int) ≤ t7)) && (decide (t11 ≤ (64 : Int)))) && (decide ((1 : Int) ≤ t16))) && (decide (t21 ≤ (1099511627776 : Int)))) && (decide ((1 : Int) ≤ t26))) && (decide (t31 ≤ (7 : Int)))) : Bool)) ?_)))
  refine ifb_cases hh (fun hb hh => ?_) (fun hb hh => ?_)
  ·refine .yv 34 rfl (cb hb) rfl (v_fieldAddr fl_37_1 rfl) rfl ?_
   obtain ⟨t36, ⟨xt36, hxt36, hgt36⟩, hh⟩ := hh
   refine .yv 34 rfl (cb hb) rfl (v_ld1 (p := o) 1 na_9 rfl hxt36 hgt36 get_37_Key) rfl (.yv 34 rfl (cb hb) rfl (v_fieldAddr fl_37_2 rfl) rfl ?_)
   obtain ⟨t38, ⟨xt38, hxt38, hgt38⟩, hh⟩ := hh
   refine .yv 34 rfl (cb hb) rfl (v_ld1 (p := o) 2 na_9 rfl hxt38 hgt38 get_37_Val) rfl (.yv 34 rfl (cb hb) rfl (v_fieldAddr fl_37_3 rfl) rfl ?_)
   obtain ⟨t40, ⟨xt40, hxt40, hgt40⟩, hh⟩ := hh
   refine .yv 34 rfl (cb hb) rfl (v_ld1 (p := o) 3 na_9 rfl hxt40 hgt40 get_37_Old) rfl ?_
   refine mks_elim hh (fun pt41 t41 hpt41 ht41 hh => ?_)
   refine .ye 34 rfl (cb hb) rfl (e_mks [(t36 : ByteArray), (t38 : ByteArray), (t40 : ByteArray)] hpt41 ht41 zo_9 sl_69 rfl rfl rfl rfl rfl ?_)
   refine .ye 34 rfl (cb hb) rfl (e_callP fn_78 rfl rfl hh ?_)
   intro h t42 hh
   refine .V (v_pickT (v := reg t42) rfl hb rfl) (.A (reg t42) ?_)
   refine .nil ?_
   exact QN.thenJ ⟨_, t42, setl_eq ⟨rfl, trivial⟩, hh⟩
  ·refine .no 34 rfl (cb hb) rfl rfl (.no 34 rfl (cb hb) rfl rfl (.no 34 rfl (cb hb) rfl rfl (.no 34 rfl (cb hb) rfl rfl (.no 34 rfl (cb hb) rfl rfl (.no 34 rfl (cb hb) rfl rfl (.no 34 rfl (cb hb) rfl rfl (.no 34 rfl (cb hb) rfl rfl (.V (v_pickF (v := reg false) rfl hb rfl) (.A (reg false) ?_)))))))))
   refine .nil ?_
   exact QN.thenJ ⟨_, false, setl_eq ⟨rfl, trivial⟩, hh⟩
 ·rintro ρ h ⟨ρ', t2, rfl, hh⟩
  unfold request_Good.j1 at hh
  refine CW.ret ?_
  exact ret1 rfl rfl ⟨(t2 : Bool), rfl, hh⟩
theorem request_short.ok (list : Sl) (k : Bool → H → Prop) (h : H) (hh : request_short.b list k h) : CallsH Prog 78 [reg list].toArray h fun v h' => ∃ r : Bool, v = reg r ∧ k r h' := by
 unfold request_short.b at hh
 refine CallsH.of 15 Tryz.func78 rfl Tryz.ntmps78 rfl (fun w0 => ?_)
 refine .sr (.A (reg false) (.nx ?_))
 refine CW.join (fun ρ h => ∃ (ρ' : Env), ρ = setl ρ' [] ∧ (request_short.j1 k)  h) ?_ ?_
 ·refine .sr (.M (reg list) (.V (v_len_sl (sl_69).1 rfl) (.M (reg ((0 : Int) : Int)) (.nx ?_))))
  refine CW.block ?_
  unfold request_short.l1 at hh
  refine CW.loop (fun (σ0 : Int) ρ => match σ0 with | t7 => ∃ ρ' : Env, ρ = setl ρ' [(5, reg list), (6, reg ((list.len : Int) : Int)), (7, reg t7)]) hh ⟨_, setl_eq ⟨rfl, ⟨rfl, ⟨rfl, trivial⟩⟩⟩⟩ ?_
  clear hh
  rintro s1 t7 ρ h ⟨ρ', rfl⟩ hh
  refine .sr (.V (v_ilss rfl rfl) (.nx (.seq ?_)))
  refine CW.cond (decide (t7 < (list.len : Int))) rfl (fun hb => ?_) (fun hb => ?_)
  ·have hh := hh.1 hb
   refine CW.skip ?_
   refine QN.then_ ?_
   refine CW.seq ?_
   refine CW.block ?_
   refine .sr ?_
   obtain ⟨t9, ht9, hh⟩ := hh
   refine .V (v_idx_slP sl_69 rfl rfl ht9.1 ht9.2.1 ht9.2.2) (.L 0 na_9 get_9_all hh rfl (fun t10 hh => .A (reg t10) (.nx (.sr (.M (reg t10) (.V (v_len_str un_9 rfl) (.V (v_igtr rfl rfl) (.nx ?_))))))))
   refine CW.cond (decide ((1024 : Int) < (t10.size : Int))) rfl (fun hb_1 => ?_) (fun hb_1 => ?_)
   ·have hh := hh.1 hb_1
    refine .sr (.A (reg false) (.nx ?_))
    refine CW.ret ?_
    refine QN.blockRet ?_
    refine QN.thenRet ?_
    refine QN.thenRet ?_
    refine QN.blockRet ?_
    refine QN.thenRet ?_
    exact ret1 rfl rfl ⟨(false : Bool), rfl, hh⟩
   ·have hh := hh.2 hb_1
    refine CW.skip ?_
    refine QN.blockN ?_
    refine QN.then_ ?_
    refine CW.region ?_
    refine .V (v_iadd rfl rfl) (.M (reg ((iadd t7 (1 : Int)) : Int)) ?_)
    refine .nil ?_
    exact QN.thenJ ⟨(iadd t7 (1 : Int)), ⟨_, setl_eq ⟨rfl, ⟨rfl, ⟨rfl, trivial⟩⟩⟩⟩, hh⟩
  ·have hh := hh.2 hb
   refine CW.exit ?_
   refine QN.thenExit ?_
   refine QN.thenExit ?_
   refine QN.blockExit ?_
   exact QN.thenJ ⟨_, setl_eq trivial, hh⟩
 ·rintro ρ h ⟨ρ', rfl, hh⟩
  unfold request_short.j1 at hh
  refine .sr (.A (reg true) (.nx ?_))
  refine CW.ret ?_
  exact ret1 rfl rfl ⟨(true : Bool), rfl, hh⟩
end Go.Proofs.YtmpmildpioebhaaGreatDoor
namespace Go.Vm
open Go Go.Sh
open Go.Sh.Ty (reg)
def sgm (T:R4) (s:Rid):Option Rid:=match getR T s with | .it r _ _ _ _=>r | _=>none
def sRid (T:R4) (s r:Rid):Bool:=match sgm T s with | some r'=>Nat.beq (tor r') (tor r) | none=>false
def sU (k:Nat) (a:AV):Bool:=match a with
 | .s n _=>an (Nat.beq k 0) (Nat.ble n 1048576)
 | .i _=>Nat.beq k 1
 | .b _=>Nat.beq k 2
 | .y _=>Nat.beq k 3
 | .o j=>Nat.beq j k
 | _=>false
def sA (T:R4) (c a:AV):Bool:=match c,a with
 | .p s o,.p r o'=>an (sRid T s r) (Nat.beq o o')
 | .sl s o n z,.sl r o' n' z'=>an (sRid T s r) (an (Nat.beq o o') (an (Nat.beq n n') (Nat.beq z z')))
 | .sr s o n k z,.sr r o' n' k' z'=>an (sRid T s r) (an (Nat.beq o o') (an (Nat.beq n n') (an (Nat.beq k k') (Nat.beq z z'))))
 | .se s o z,.se r o' z'=>an (sRid T s r) (an (Nat.beq o o') (Nat.beq z z'))
 | .m s,.m r=>sRid T s r
 | .o k,a=>sU k a
 | .b x,.b y=>xb x y
 | .i n,.i m | .w n,.w m | .h n,.h m | .y n,.y m=>Nat.beq n m
 | .s n x,.s m z | .rk n x,.rk m z=>an (Nat.beq n m) (Nat.beq x z)
 | .pn,.pn | .sz,.sz | .sn,.sn | .mn,.mn | .fn,.fn | .ifn,.ifn=>true
 | _,_=>false
def isY (v:AV):Bool:=match v with | .y _=>true | _=>false
def sC (T:R4):CL AV→CL AV→Bool:=fun c=>CL.rec (motive:=fun _=>CL AV→Bool) (fun a=>match a with | .nil=>true | _=>false)
 (fun w v _ ih a=>match v with
  | .bs n x=>(match a with | .cons w' (.bs n' x') tl=>an (an (Nat.beq w w') (Nat.beq n n')) (an (Nat.beq x x') (ih tl)) | _=>false)
  | v=>bif isY v then false else an (Nat.beq w 1) (an (Nat.ble 1 (clen a)) (an (sA T v (ld1 a 0)) (ih (cdr a 1))))) c
def sV (T:R4) (c a:AV):Bool:=match c with | .a cs=>(match a with | .a cs'=>sC T cs cs' | _=>false) | c=>sA T c a
def sEs (T:R4) (kk:KK):List KV→List KV→Bool:=fun c=>List.rec (motive:=fun _=>List KV→Bool) (fun a=>match a with | []=>true | _=>false)
 (fun e _ ih a=>match a with | e' :: tl=>an (an (kOk kk e.k) (Nat.beq e.bn e'.bn)) (an (sV T e.k e'.k) (an (sV T e.v e'.v) (ih tl))) | []=>false) c
def sRow (T:R4) (c a:Row):Bool:=match c,a with
 | .c 0 .nil,.c _ _=>true
 | .c L cs,.c L' cs'=>an (Nat.beq L L') (sC T cs cs')
 | .m kk clk es,.m kk' clk' es'=>an (an (kEq kk kk') (Nat.beq clk clk')) (sEs T kk es es')
 | _,_=>false
def sVs (T:R4):List AV→List AV→Bool:=fun c=>List.rec (motive:=fun _=>List AV→Bool) (fun a=>match a with | []=>true | _=>false)
 (fun v _ ih a=>match a with | v' :: tl=>an (sV T v v') (ih tl) | []=>false) c
theorem sRid_ok {T:R4} {s r:Rid} (h:sRid T s r = true):sgm T s = some r:=by
 unfold sRid at h
 split at h
 ·rename_i r' e; rw [e,tor_inj (beq_ok h)]
 ·cases h
theorem sU_ok {θ:Th} {k:Nat} {a:AV} {V:Value} (h:sU k a = true) (hv:RF θ a V):Uk k V:=by
 unfold sU at h
 split at h
 ·rename_i n x
  obtain ⟨h1,h2⟩:=an_ok h
  have:=beq_ok h1; subst this
  obtain ⟨hx,e⟩:=hv.ra (v:=.s n x) trivial
  exact ⟨byS n x,by rw [byS_size]; exact ble_ok h2,e⟩
 ·rename_i n
  have:=beq_ok h; subst this
  obtain ⟨_,e⟩:=hv.ra (v:=.i n) trivial
  refine ⟨_,?_,e⟩
  simp only [IntKind.wrap_i64]; omega
 ·rename_i b
  have:=beq_ok h; subst this
  exact ⟨_,hv.ra (v:=.b b) trivial⟩
 ·rename_i n
  have:=beq_ok h; subst this
  obtain ⟨hn,e⟩:=hv.ra (v:=.y n) trivial
  exact ⟨n,hn,e⟩
 ·rename_i j
  have:=beq_ok h; subst this
  exact hv.ra (v:=.o j) trivial
 ·cases h
section
variable {T:R4} {θ:Th}
variable {θS:Th} (hS:∀ s r,sgm T s = some r→θS s = θ r)
include hS
theorem sA_ok {c a:AV} {V:Value} (h:sA T c a = true) (hv:RF θ a V):RA θS c V:=by
 unfold sA at h
 split at h
 ·rename_i s o r o'
  obtain ⟨h1,h2⟩:=an_ok h
  have:=beq_ok h2; subst this
  obtain ⟨b,o0,t,e,e2⟩:=hv.ra (v:=.p r o) trivial
  exact ⟨b,o0,t,by rw [hS _ _ (sRid_ok h1)]; exact e,e2⟩
 ·rename_i s o n z r o' n' z'
  obtain ⟨h1,h2⟩:=an_ok h
  obtain ⟨h2,h3⟩:=an_ok h2
  obtain ⟨h3,h4⟩:=an_ok h3
  have:=beq_ok h2; subst this
  have:=beq_ok h3; subst this
  have:=beq_ok h4; subst this
  obtain ⟨b,o0,t,c,e,e2⟩:=hv.ra (v:=.sl r o n z) trivial
  exact ⟨b,o0,t,c,by rw [hS _ _ (sRid_ok h1)]; exact e,e2⟩
 ·rename_i s o n k z r o' n' k' z'
  obtain ⟨h1,h2⟩:=an_ok h
  obtain ⟨h2,h3⟩:=an_ok h2
  obtain ⟨h3,h4⟩:=an_ok h3
  obtain ⟨h4,h5⟩:=an_ok h4
  have:=beq_ok h2; subst this
  have:=beq_ok h3; subst this
  have:=beq_ok h4; subst this
  have:=beq_ok h5; subst this
  obtain ⟨b,o0,t,e,e2⟩:=hv.ra (v:=.sr r o n k z) trivial
  exact ⟨b,o0,t,by rw [hS _ _ (sRid_ok h1)]; exact e,e2⟩
 ·rename_i s o z r o' z'
  obtain ⟨h1,h2⟩:=an_ok h
  obtain ⟨h2,h3⟩:=an_ok h2
  have:=beq_ok h2; subst this
  have:=beq_ok h3; subst this
  obtain ⟨b,o0,t,c,e,e2⟩:=hv.ra (v:=.se r o z) trivial
  exact ⟨b,o0,t,c,by rw [hS _ _ (sRid_ok h1)]; exact e,e2⟩
 ·rename_i s r
  obtain ⟨b,o0,t,e,e2⟩:=hv.ra (v:=.m r) trivial
  exact ⟨b,o0,t,by rw [hS _ _ (sRid_ok h)]; exact e,e2⟩
 ·exact sU_ok h hv
 ·rename_i x y
  rw [xb_eq] at h
  have:=eq_of_beq h; subst this
  exact hv.ra (v:=.b x) trivial
 ·rename_i n m; have:=beq_ok h; subst this; exact hv.ra (v:=.i n) trivial
 ·rename_i n m; have:=beq_ok h; subst this; exact hv.ra (v:=.w n) trivial
 ·rename_i n m; have:=beq_ok h; subst this; exact hv.ra (v:=.h n) trivial
 ·rename_i n m; have:=beq_ok h; subst this; exact hv.ra (v:=.y n) trivial
 ·rename_i n x m z
  obtain ⟨h1,h2⟩:=an_ok h
  have:=beq_ok h1; subst this
  have:=beq_ok h2; subst this
  exact hv.ra (v:=.s n x) trivial
 ·rename_i n x m z
  obtain ⟨h1,h2⟩:=an_ok h
  have:=beq_ok h1; subst this
  have:=beq_ok h2; subst this
  exact hv.ra (v:=.rk n x) trivial
 ·exact hv.ra (v:=.pn) trivial
 ·exact hv.ra (v:=.sz) trivial
 ·exact hv.ra (v:=.sn) trivial
 ·exact hv.ra (v:=.mn) trivial
 ·exact hv.ra (v:=.fn) trivial
 ·exact hv.ra (v:=.ifn) trivial
 ·cases h
theorem sC_ok:∀ {c a:CL AV} {vs:List Value},sC T c a = true→RC θ a vs→RC θS c vs:=by
 intro c
 induction c with
 | nil=>
  intro a vs h hv
  cases a with
  | nil=>exact hv
  | cons _ _ _=>cases h
 | cons w v tl ih=>
  intro a vs h hv
  have main:(bif isY v then false else an (Nat.beq w 1) (an (Nat.ble 1 (clen a)) (an (sA T v (ld1 a 0)) (sC T tl (cdr a 1))))) = true→RC θS (.cons w v tl) vs:=by
   intro h
   cases hy:isY v with
   | true=>rw [hy] at h; cases h
   | false=>
    rw [hy] at h
    obtain ⟨h1,h⟩:=an_ok h
    obtain ⟨h2,h⟩:=an_ok h
    obtain ⟨h3,h4⟩:=an_ok h
    have:=beq_ok h1; subst this
    have hl:=hv.len
    have h2:=ble_ok h2
    have hne:ld1 a 0 ≠ .er:=by
     intro e
     rw [e] at h3
     unfold sA at h3
     cases v <;> first | cases h3 | (simp [sU] at h3)
    obtain ⟨V,q1,q2⟩:=ld1_ok hv hne
    have q3:=cdr_ok hv 1 (by omega)
    refine ⟨[V],vs.drop 1,?_,.inr ⟨rfl,?_,V,rfl,.inl (sA_ok hS h3 q2)⟩,ih h4 q3⟩
    ·cases vs with
     | nil=>simp at q1
     | cons x xs=>simp at q1; rw [q1]; rfl
    ·intro n e; rw [e] at hy; cases hy
  cases v <;> first | exact main h | skip
  rename_i n x
  cases a with
  | nil=>cases h
  | cons w' v' tl'=>
   cases v' <;> first | cases h | skip
   rename_i n' x'
   obtain ⟨h1,h2⟩:=an_ok h
   obtain ⟨h3,h4⟩:=an_ok h1
   obtain ⟨h5,h6⟩:=an_ok h2
   have:=beq_ok h3; subst this
   have:=beq_ok h4; subst this
   have:=beq_ok h5; subst this
   obtain ⟨v1,v2,e,q1,q2⟩:=hv
   refine ⟨v1,v2,e,?_,ih h6 q2⟩
   rcases q1 with q1 | ⟨_,_,V,_,q⟩
   ·exact .inl q1
   ·exact q.noB.elim
theorem sV_ok {c a:AV} {V:Value} (h:sV T c a = true) (hv:RV1 θ a V):RV1 θS c V:=by
 have main:sA T c a = true→RV1 θS c V:=by
  intro h
  refine .inl (.inl (sA_ok hS h ?_))
  rcases hv with hv | ⟨cs,vs,e,_⟩ | ⟨e,_⟩
  ·exact hv
  ·subst e; exfalso; unfold sA at h; cases c <;> first | cases h | (simp [sU] at h)
  ·subst e; exfalso; unfold sA at h; cases c <;> first | cases h | (simp [sU] at h)
 cases c <;> first | exact main h | skip
 rename_i cs
 cases a <;> first | (exact absurd (show false = true from h) (by decide)) | skip
 rename_i cs'
 rcases hv with hv | ⟨cs2,vs,e,e2,hc⟩ | ⟨e,_⟩
 ·rcases hv with hv | ⟨_,_,_,_,_,e,_⟩
  ·exact hv.elim
  ·cases e
 ·cases e
  exact .inr (.inl ⟨cs,vs,rfl,e2,sC_ok hS h hc⟩)
 ·cases e
theorem sEs_ok {kk:KK}:∀ {c a:List KV} {ms:List MapEntry},sEs T kk c a = true→KVs θ kk a ms→KVs θS kk c ms
 | [],[],_,_,hv=>hv
 | [],_ :: _,_,h,_=>by cases h
 | _ :: _,[],_,h,_=>by cases h
 | e :: c,e' :: a,ms,h,⟨m,r,em,h1,h2⟩=>by
  obtain ⟨q1,q2⟩:=an_ok (show an (an (kOk kk e.k) (Nat.beq e.bn e'.bn)) (an (sV T e.k e'.k) (an (sV T e.v e'.v) (sEs T kk c a))) = true from h)
  obtain ⟨q1,q3⟩:=an_ok q1
  obtain ⟨q2,q4⟩:=an_ok q2
  obtain ⟨q4,q5⟩:=an_ok q4
  exact ⟨m,r,em,⟨q1,sV_ok hS q2 h1.2.1,sV_ok hS q4 h1.2.2.1,by rw [h1.2.2.2,beq_ok q3]⟩,sEs_ok q5 h2⟩
theorem sRow_ok {c a:Row} {x:Nat×Nat×Nat} {h:H} (hh:sRow T c a = true) (hv:RowOk θ x a h):RowOk θS x c h∧live a:=by
 unfold sRow at hh
 split at hh
 ·obtain ⟨arr,TT,fr,vs,h1,h2,h3,h4,h5,h6,h7⟩:=hv
  exact ⟨⟨arr,TT,fr,[],h1,h2,Nat.zero_le _,h4,rfl,rfl,by simp⟩,trivial⟩
 ·rename_i L cs L' cs' _
  obtain ⟨q1,q2⟩:=an_ok hh
  have:=beq_ok q1; subst this
  obtain ⟨arr,TT,fr,vs,h1,h2,h3,h4,h5,h6,h7⟩:=hv
  exact ⟨⟨arr,TT,fr,vs,h1,h2,h3,h4,sC_ok hS q2 h5,h6,h7⟩,trivial⟩
 ·rename_i kk clk es kk' clk' es'
  obtain ⟨q1,q2⟩:=an_ok hh
  obtain ⟨q1,q3⟩:=an_ok q1
  have:=kEq_ok q1; subst this
  have:=beq_ok q3; subst this
  obtain ⟨ms,h1,h2,h3⟩:=hv
  exact ⟨⟨ms,h1,sEs_ok hS q2 h2,h3⟩,trivial⟩
 ·cases hh
theorem sVs_ok:∀ {c a:List AV} {vs:List Value},sVs T c a = true→RVs θ a vs→RVs θS c vs
 | [],[],_,_,hv=>hv
 | [],_ :: _,_,h,_=>by cases h
 | _ :: _,[],_,h,_=>by cases h
 | v :: c,v' :: a,vs,h,⟨V,r,e,h1,h2⟩=>by
  obtain ⟨q1,q2⟩:=an_ok (show an (sV T v v') (sVs T c a) = true from h)
  exact ⟨V,r,e,sV_ok hS q1 h1,sVs_ok q2 h2⟩
end
structure St where
 L:List (Rid×Row)
 nx:Rid
 par:List (Rid×Rid×Nat)
 vs:List AV
 rt:List (Rid×Nat)
def mkR (L:List (Rid×Row)):R4:=List.rec (motive:=fun _=>R4) rows0 (fun p _ ih=>uR ih p.1 p.2) L
def bld (L:List (Rid×Row)) (k:R4→Ans):Ans:=List.rec (motive:=fun _=>(R4→Ans)→Ans) (fun k=>k rows0) (fun p _ ih k=>ih fun R=>putR R p.1 p.2 k) L k
def St.hp (C:St):Hp:=⟨mkR C.L,C.nx,none⟩
def St.run (C:St) (k:Hp→Ans):Ans:=bld C.L fun R=>k ⟨R,C.nx,none⟩
theorem bld_eq:∀ (L:List (Rid×Row)) (k:R4→Ans),bld L k = k (mkR L)
 | [],k=>rfl
 | p :: L,k=>by
  show bld L (fun R=>putR R p.1 p.2 k) = _
  rw [bld_eq L,putR_eq]
  rfl
theorem St.run_eq (C:St) (k:Hp→Ans):C.run k = k C.hp:=bld_eq _ _
def ptR (v:AV):Option Rid:=match v with | .p r _ | .sl r _ _ _ | .sr r _ _ _ _ | .se r _ _ | .m r=>some r | _=>none
def acR (row:Row) (i:Nat):Option Rid:=match row with | .c _ cs=>ptR (ld1 cs i) | .m _ _ es=>(match es[i]? with | some e=>ptR e.v | none=>none) | _=>none
def put1 (T:R4) (s r:Rid) (k:R4→Ans):Ans:=putR T s (.it (some r) 0 [] [] none) k
def mk0 (az:List AV) (l:List (Rid×Nat)) (T U:R4) (k:R4→R4→Ans):Ans:=List.rec (motive:=fun _=>R4→R4→(R4→R4→Ans)→Ans) (fun T U k=>k T U)
 (fun q _ ih T U k=>match az[q.2]? with | some a=>(match ptR a with | some r=>put1 T q.1 r fun T=>put1 U r q.1 fun U=>ih T U k | none=>.er 300) | none=>.er 300) l T U k
def mk1 (hp:Hp) (l:List (Rid×Rid×Nat)) (T U:R4) (k:R4→R4→Ans):Ans:=List.rec (motive:=fun _=>R4→R4→(R4→R4→Ans)→Ans) (fun T U k=>k T U)
 (fun q _ ih T U k=>match sgm T q.2.1 with | some r0=>(match acR (getH hp r0) q.2.2 with | some r=>put1 T q.1 r fun T=>put1 U r q.1 fun U=>ih T U k | none=>.er 301) | none=>.er 301) l T U k
def sLs (T U:R4) (nx:Rid) (a:Hp) (L:List (Rid×Row)):Bool:=List.rec (motive:=fun _=>Bool) true
 (fun p _ ih=>match sgm T p.1 with
  | some r=>an (an (Nat.blt (tor p.1) (tor nx)) (sRid U r p.1)) (an (sRow T p.2 (getH a r)) ih)
  | none=>false) L
def inL (l:List Rid) (r:Rid):Bool:=List.rec (motive:=fun _=>Bool) false (fun a _ ih=>bif Nat.beq (tor a) (tor r) then true else ih) l
def allIn (l m:List Rid):Bool:=List.rec (motive:=fun _=>Bool) true (fun a _ ih=>an (inL m a) ih) l
def St.good (C:St):Bool:=an (allIn (C.rt.map (·.1)) (C.L.map (·.1))) (allIn (C.par.map (·.1)) (C.L.map (·.1)))
def St.chk (C:St) (hp:Hp) (az:List AV) (k:Ans):Ans:=mk0 az C.rt rows0 rows0 fun T U=>mk1 hp C.par T U fun T U=>bz (an (sVs T C.vs az) (sLs T U C.nx hp C.L)) k (.er 302)
theorem inL_ok:∀ {l:List Rid} {r:Rid},inL l r = true→r ∈ l
 | [],_,h=>by cases h
 | a :: l,r,h=>by
  have h:(bif Nat.beq (tor a) (tor r) then true else inL l r) = true:=h
  cases c:Nat.beq (tor a) (tor r) with
  | true=>rw [tor_inj (beq_ok c)]; simp
  | false=>rw [c] at h; exact List.mem_cons_of_mem _ (inL_ok h)
theorem allIn_ok:∀ {l m:List Rid},allIn l m = true→∀ r ∈ l,r ∈ m
 | [],_,_,_,h=>by cases h
 | a :: l,m,h,r,hr=>by
  obtain ⟨h1,h2⟩:=an_ok (show an (inL m a) (allIn l m) = true from h)
  rcases List.mem_cons.1 hr with rfl | hr
  ·exact inL_ok h1
  ·exact allIn_ok h2 r hr
theorem gfill {α:Type} (d:D16) (x:α):gN' d (fillN x) = x:=by cases d <;> rfl
theorem sgm_rows0 (s:Rid):sgm rows0 s = none:=by
 unfold sgm
 rw [getR_eq]
 show (match gN' s.d (gN' s.c (gN' s.b (gN' s.a (fillN (fillN (fillN (fillN Row.no))))))) with | .it r _ _ _ _=>r | _=>none) = none
 rw [gfill,gfill,gfill,gfill]
theorem sgm_put (T:R4) (s r s':Rid):sgm (uR T s (.it (some r) 0 [] [] none)) s' = if s' = s then some r else sgm T s':=by
 unfold sgm
 by_cases e:s' = s
 ·subst e; simp only [getR_same,if_true]
 ·simp only [getR_ne e,if_neg e]
section
variable {G:Ans→Prop} (hG:Gd G)
include hG
theorem mk0_ok {az:List AV}:∀ {l:List (Rid×Nat)} {T U:R4} {k:R4→R4→Ans},G (mk0 az l T U k)→∃ T' U',(∀ s r,sgm T' s = some r→sgm T s = some r∨s ∈ l.map (·.1))∧G (k T' U')
 | [],T,U,k,g=>⟨T,U,fun s r h=>.inl h,g⟩
 | q :: l,T,U,k,g=>by
  have g:G (match az[q.2]? with | some a=>(match ptR a with | some r=>put1 T q.1 r fun T=>put1 U r q.1 fun U=>mk0 az l T U k | none=>.er 300) | none=>.er 300):=g
  split at g
  ·split at g
   ·rename_i r _
    unfold put1 at g
    rw [putR_eq,putR_eq] at g
    obtain ⟨T',U',h1,h2⟩:=mk0_ok g
    refine ⟨T',U',fun s r' h=>?_,h2⟩
    rcases h1 s r' h with h | h
    ·rw [sgm_put] at h
     split at h
     ·rename_i e; exact .inr (by rw [e]; simp)
     ·exact .inl h
    ·exact .inr (List.mem_cons_of_mem _ h)
   ·exact (hG.er _ g).elim
  ·exact (hG.er _ g).elim
theorem mk1_ok {hp:Hp}:∀ {l:List (Rid×Rid×Nat)} {T U:R4} {k:R4→R4→Ans},G (mk1 hp l T U k)→∃ T' U',(∀ s r,sgm T' s = some r→sgm T s = some r∨s ∈ l.map (·.1))∧G (k T' U')
 | [],T,U,k,g=>⟨T,U,fun s r h=>.inl h,g⟩
 | q :: l,T,U,k,g=>by
  have g:G (match sgm T q.2.1 with | some r0=>(match acR (getH hp r0) q.2.2 with | some r=>put1 T q.1 r fun T=>put1 U r q.1 fun U=>mk1 hp l T U k | none=>.er 301) | none=>.er 301):=g
  split at g
  ·split at g
   ·rename_i r _
    unfold put1 at g
    rw [putR_eq,putR_eq] at g
    obtain ⟨T',U',h1,h2⟩:=mk1_ok g
    refine ⟨T',U',fun s r' h=>?_,h2⟩
    rcases h1 s r' h with h | h
    ·rw [sgm_put] at h
     split at h
     ·rename_i e; exact .inr (by rw [e]; simp)
     ·exact .inl h
    ·exact .inr (List.mem_cons_of_mem _ h)
   ·exact (hG.er _ g).elim
  ·exact (hG.er _ g).elim
end
theorem mkR_in:∀ {L:List (Rid×Row)} {s:Rid},s ∈ L.map (·.1)→∃ row,(s,row) ∈ L∧getR (mkR L) s = row
 | [],_,h=>by cases h
 | p :: L,s,h=>by
  by_cases e:s = p.1
  ·exact ⟨p.2,by rw [e]; simp,by show getR (uR (mkR L) p.1 p.2) s = _; rw [e,getR_same]⟩
  ·have h:s ∈ L.map (·.1):=by
    rcases List.mem_cons.1 (show s ∈ p.1 :: L.map (·.1) from h) with h | h
    ·exact absurd h e
    ·exact h
   obtain ⟨row,h1,h2⟩:=mkR_in h
   exact ⟨row,List.mem_cons_of_mem _ h1,by show getR (uR (mkR L) p.1 p.2) s = _; rw [getR_ne e,h2]⟩
theorem sLs_ok {T U:R4} {nx:Rid} {a:Hp}:∀ {L:List (Rid×Row)},sLs T U nx a L = true→∀ p ∈ L,∃ r,sgm T p.1 = some r∧tor p.1 < tor nx∧sgm U r = some p.1∧sRow T p.2 (getH a r) = true
 | [],_,_,h=>by cases h
 | q :: L,h,p,hp=>by
  have h:(match sgm T q.1 with | some r=>an (an (Nat.blt (tor q.1) (tor nx)) (sRid U r q.1)) (an (sRow T q.2 (getH a r)) (sLs T U nx a L)) | none=>false) = true:=h
  split at h
  ·rename_i r e
   obtain ⟨h1,h2⟩:=an_ok h
   obtain ⟨h3,h4⟩:=an_ok h1
   obtain ⟨h5,h6⟩:=an_ok h2
   rcases List.mem_cons.1 hp with rfl | hp
   ·exact ⟨r,e,(by have h3:Nat.ble (tor p.1 + 1) (tor nx) = true:=h3; exact ble_ok h3),sRid_ok h4,h5⟩
   ·exact sLs_ok h6 p hp
  ·cases h
theorem St.chk_ok {X:Cx} {θ:Th} {hp:Hp} {h:H} (S:SR X θ hp h) (hX:CxOk X) (hK:∀ r,X.K r = none) (hro:X.ro = none) {C:St} (hgd:C.good = true) {az:List AV} {k:Ans} (g:X.G (C.chk hp az k)):
  ∃ θS,SR X θS C.hp h∧(∀ vs,RVs θ az vs→RVs θS C.vs vs)∧X.G k:=by
 unfold St.chk at g
 obtain ⟨T1,U1,a1,g⟩:=mk0_ok hX.gd g
 obtain ⟨T,U,a2,g⟩:=mk1_ok hX.gd g
 obtain ⟨c,g⟩:=bz_ok hX.gd g
 obtain ⟨c1,c2⟩:=an_ok c
 obtain ⟨d1,d2⟩:=an_ok hgd
 have hall:=sLs_ok c2
 have hdom:∀ s r,sgm T s = some r→s ∈ C.L.map (·.1):=by
  intro s r e
  rcases a2 s r e with e | e
  ·rcases a1 s r e with e | e
   ·rw [sgm_rows0] at e; cases e
   ·exact allIn_ok d1 s e
  ·exact allIn_ok d2 s e
 let θS:Th:=fun s=>match sgm T s with | some r=>θ r | none=>none
 have hS:∀ s r,sgm T s = some r→θS s = θ r:=fun s r e=>by show (match sgm T s with | some r=>θ r | none=>none) = _; rw [e]
 have hrow:∀ s x,θS s = some x→∃ r,sgm T s = some r∧θ r = some x∧tor s < tor C.nx∧sgm U r = some s∧RowOk θS x (getH C.hp s) h∧live (getH hp r):=by
  intro s x e
  cases es:sgm T s with
  | none=>have e:(match sgm T s with | some r=>θ r | none=>none) = some x:=e; rw [es] at e; cases e
  | some r=>
   rw [hS s r es] at e
   obtain ⟨row,q1,q2⟩:=mkR_in (hdom s r es)
   obtain ⟨r',q3,q4,q5,q6⟩:=hall _ q1
   have q3:sgm T s = some r':=q3
   rw [es] at q3; cases q3
   have:=sRow_ok hS q6 (S.rows r x e)
   refine ⟨r,rfl,e,q4,q5,?_,this.2⟩
   show RowOk θS x (getR (mkR C.L) s) h
   rw [q2]; exact this.1
 refine ⟨θS,⟨fun s x e=>?_,fun s s' x x' e e' l l' hne=>?_,fun s x e=>?_,fun s x e l=>?_,S.keepU,fun r row e=>?_,?_,fun s x e=>?_⟩,fun vs hv=>sVs_ok hS c1 hv,g⟩
 ·obtain ⟨r,_,_,_,_,q,_⟩:=hrow s x e; exact q
 ·obtain ⟨r,q1,q2,_,q3,_,q4⟩:=hrow s x e
  obtain ⟨r',p1,p2,_,p3,_,p4⟩:=hrow s' x' e'
  exact S.dist r r' x x' q2 p2 q4 p4 (fun e=>hne (by subst e; rw [q3] at p3; exact Option.some.inj p3))
 ·obtain ⟨r,_,_,q,_⟩:=hrow s x e; exact q
 ·obtain ⟨r,_,q,_,_,_,q4⟩:=hrow s x e; exact S.own r x q q4
 ·rw [hK] at e; cases e
 ·show none = X.ro; rw [hro]
 ·obtain ⟨r,_,q,_⟩:=hrow s x e; exact S.blk r x q
end Go.Vm

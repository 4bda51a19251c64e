/-
  The statement WorldLoses (law 23): where all letters are lost nobody decides anything. Part 28 of 30. No condition stands ahead of the statement. Parts of this text were printed by a program of ours.
-/
import Derived.Test.YtmpmildpioebhaaGreatDoorW24
import Derived.Test.YtmpmildpioebhaaGreatDoorW25
import Derived.Test.YtmpmildpioebhaaGreatDoorW26
import Derived.Test.YtmpmildpioebhaaGreatDoorW27
import Derived.Deep.Slices
import Derived.OpenShut
import Derived.SizedLaws
set_option linter.all false
set_option maxRecDepth 100000
set_option maxHeartbeats 4000000
noncomputable section
namespace Go.Vm
open Go Go.Sh Go.Proofs.YtmpmildpioebhaaGreatDoor
open Go.Sh.Ty (reg)
section
variable {C:Ctx} {h0:H} {n0:Nat} {ρ:Env} {Q:Exit→Act→World→Prop}
theorem made_ok (h1:0 < n0) (h2:AtH h0 ⟨0,0,none⟩ shaTab) {n:Nat} (hn:n≤4) {S:Vm.St} (hS:Wf S) (F:evMade n [S] = .ok .u hpE) {h:H} (S0:SR (XW h0 n0 .u) (fun _=>none) hpE h):
  CallsH PR 6 #[reg ((n:Nat):Int),reg ((n:Nat):Int)] h fun v h'=>∃ r:T2 Go.Sh.Pt api_Config,v = reg r∧∃ θ,SR (XW h0 n0 .u) θ S.hp h'∧RV θ (.p rid0 0) (reg r.a):=by
 have hX:CxOk (XW h0 n0 .u):=XW_ok h1 h2
 have hr:RVs (fun _=>none) [.i n,.i n] [reg ((n:Nat):Int),reg ((n:Nat):Int)]:=⟨_,_,rfl,(rv_i n (by omega)).rv1 (fun l e=>by cases e),_,_,rfl,(rv_i n (by omega)).rv1 (fun l e=>by cases e),rfl⟩
 unfold evMade at F
 generalize hR:rn GW 60 = R at F
 have hG:CallOk PR R:=by rw [← hR]; exact GW_ok 60
 have g:lv .u (R 6 [.i n,.i n] hpE (evMd [S])):=by
  rw [F]; show AV.u = AV.u; rfl
 obtain ⟨_,hc⟩:=hG (XW h0 n0 .u) hX (fun _=>none) hpE h 6 _ _ _ S0 hr g
 refine hc.mono ?_
 rintro v h' ⟨θ',hp',a,S',hE,hle,hv,g⟩
 unfold evMd at g
 split at g
 ·rename_i r o e r2 o2 m z
  obtain ⟨vs,rfl,V1,rest,rfl,hV1,V2,rest2,rfl,hV2,hnil⟩:=hv.tup
  have:rest2 = []:=hnil
  subst this
  obtain ⟨cs,rfl,hc⟩:=hV2.toRV.agg
  obtain ⟨w1,w2,rfl,q1,u1,u2,rfl,q2,hn2⟩:=hc
  have:u2 = []:=hn2
  subst this
  have ra1:∀ {v:AV} {vs:List Value},(∀ n x,v ≠ .bs n x)→Atm' v→RW θ' 1 v vs→∃ V,vs = [V]∧RA θ' v V:=by
   intro v vs hb ha h
   rcases h with ⟨x,e,_⟩ | ⟨_,_,V,e1,hF⟩
   ·exact absurd e (hb _ _)
   ·exact ⟨V,e1,hF.ra ha⟩
  obtain ⟨X1,rfl,_,e1⟩:=ra1 (v:=.i e) (fun _ _ e=>by cases e) trivial q1
  obtain ⟨X2,rfl,_,_,_,c,_,_,_,_,e2⟩:=ra1 (v:=.sl r2 o2 m z) (fun _ _ e=>by cases e) trivial q2
  subst e1; subst e2
  obtain ⟨b,o0,t,_,e1⟩:=hV1.toRV.ra (v:=.p r o) trivial
  subst e1
  refine ⟨⟨some _,⟨_,⟨some _,_,_⟩⟩⟩,rfl,?_⟩
  obtain ⟨d,hd,g2⟩:=chk2_ok hX.gd g
  have hd:d = S:=by simpa using hd
  rw [hd] at g2
  obtain ⟨θS,S4,hrv,_⟩:=St.chk_ok S' hX (fun _=>rfl) rfl hS.good g2
  have hvs:=hrv _ ⟨_,[],rfl,hV1,rfl⟩
  rw [hS.vs] at hvs
  obtain ⟨V,r,e,hV,_⟩:=hvs
  injection e with e e'
  subst e
  exact ⟨θS,S4,hV.toRV⟩
 ·exact (hX.gd.er _ g).elim
theorem cW_ok2 (hP:C.P = PR) (hn:C.n = 81) {X:Cx} (hX:CxOk X) {θ:Th} {hp:Hp} {h:H} {e:E} {code:Code} {B:Bc} (hB:cC TB 81 400 code = B) {k:K2} (S:SR X θ hp h) (he:RE θ e ρ) (g:X.G (B.f (rn GW 60) e hp k)) (hk:Kx C X θ hp k Q):CW C code Q ρ h:=by
 subst hB; exact cW_ok hP hn hX S he g hk
theorem okG {h0:H} {n0:Nat} {v:AV}:(XW h0 n0 v).G (.ok v hpE):=by unfold XW; show v = v; rfl
theorem fin_ok (hP:C.P = PR) (hn:C.n = 81) (h1:0 < n0) (h2:AtH h0 ⟨0,0,none⟩ shaTab) {S:Vm.St} {n:Nat} (hn4:n≤4) (F:(S.run fun hp=>evFin n hp) = .ok (.b true) hpE)
  {θ:Th} {h:H} (SS:SR (XW h0 n0 .u) θ S.hp h) (r1:ρ 1 = reg ((n:Nat):Int)) (r5:RV θ (.p rid0 0) (ρ 5))
  (hk:∀ (θ':Th) (hp':Hp) (h':H) (ρ':Env),SR (XW h0 n0 .u) θ' hp' h'→ρ' 4 = .bool true→QN C Q .ret ρ' h'):CW C fin3 Q ρ h:=by
 have hX:CxOk (XW h0 n0 (.b true)):=XW_ok h1 h2
 have F1:evFin n S.hp = .ok (.b true) hpE:=(St.run_eq S _).symm.trans F
 have F':(XW h0 n0 (.b true)).G (evFin n S.hp):=by
  rw [F1]; exact okG
 clear F F1
 unfold evFin at F'
 rw [sE_eq,sE_eq] at F'
 generalize hB:cC TB 81 400 fin3 = B at F'
 refine cW_ok2 hP hn hX hB (SS.chG (v':=.b true)) ?_ F' ?_
 ·refine RE.reg (RE.reg RE.none (by decide) ?_) (by decide) r5
  rw [r1]; exact rv_i n (by omega)
 ·intro ex θ3 hp3 h3 e3 ρ3 S3 hE hle he g
  cases ex with
  | r=>
   have g:(gE 4).f e3 = .b true:=g
   refine hk θ3 hp3 h3 ρ3 S3.chG ?_
   have hr:RV θ3 (eGet e3 4) (ρ3 4):=he 4 (by decide) (by show (gE 4).f e3 ≠ .er; rw [g]; intro e; cases e)
   rw [show eGet e3 4 = .b true from g] at hr
   exact hr.ra (v:=.b true) trivial
  | n=>exact (hX.gd.er _ g).elim
  | x id=>exact (hX.gd.er _ g).elim
  | g l=>exact (hX.gd.er _ g).elim
theorem XW_start (h:H) (hp:0 < h.size):SR (XW h h.size .u) (fun _=>none) hpE h:=
 ⟨fun r x hr=>(by cases hr),fun r r' x x' hr=>(by cases hr),fun r x hr=>(by cases hr),fun r x hr=>(by cases hr),fun b hb=>⟨hb,rfl⟩,fun r row hr=>(by cases hr),rfl,fun r x hr=>(by cases hr)⟩
theorem XW_ext {h h':H} {v:AV} {θ:Th} {hp:Hp} (h1:0 < h.size) (S:SR (XW h h.size v) θ hp h'):Go.Sh.Ext h h':=by
 refine ⟨?_,fun i hi _=>(S.keepU i hi).2⟩
 have:=(S.keepU (h.size - 1) (show h.size - 1 < h.size by omega)).1
 omega
theorem alive_ok {h:H} (h1:0 < h.size) (h2:AtH h ⟨0,0,none⟩ shaTab):CallsH PR 5 #[] h fun v h'=>∃ r:Bool,v = reg r∧r = true∧SR (XW h h.size .u) (fun _=>none) hpE h':=by
 obtain ⟨_,hc⟩:=pure_at (G0_ok 200) alive_run rfl rfl (XW h h.size .u) (XW_ok h1 h2) (fun _=>none) hpE h [] (XW_start h h1) rfl
 exact hc.mono fun w h' ⟨S,hv⟩=>⟨true,hv.ra (v:=.b true) trivial,rfl,S⟩
end
end Go.Vm
namespace Go.Proofs.YtmpmildpioebhaaGreatDoor
open Go Go.Sh
open Go.Sh.Ty (reg)
open Go.Vm (SR Th RV Hp AV Wf XW XW_ok rid0 hpE shaTab evMade evW evFin lv it3 fin3 made_ok fin_ok it_ok alive_ok XW_ext Nxt opC RC)
theorem at_newC (h:H) (T:TypeId) (cs:List Value):AtH (newC h T cs) ⟨h.size,0,none⟩ cs:=⟨rfl,cs.toArray,T,(0,0),by simp [newC],fun i v hi=>by simpa using hi⟩
theorem wat_newC (h:H) (T:TypeId) (cs:List Value):WAt (newC h T cs) ⟨h.size,0,none⟩ cs.length:=⟨rfl,cs.toArray,T,(0,0),by simp [newC],by simp,fun i _ ⟨_,h2⟩=>by simp at h2⟩
theorem newC_ext (h:H) (T:TypeId) (cs:List Value):Go.Sh.Ext h (newC h T cs):=⟨by simp [newC],fun i hi _=>by simp only [newC]; rw [Array.getElem?_push_lt hi]; simp [hi]⟩
theorem sizes_small {a b c:Nat} (ha:a≤140737488355328) (hb:b≤140737488355328) (hc:c≤140737488355328) (h:¬ (4096:Int) < iadd (iadd (a:Int) (b:Int)) (c:Int)):a + b + c≤1048576:=by
 rw [iadd_eq (a:=(a:Int)) (b:=(b:Int)) (by omega) (by omega),iadd_eq (by omega) (by omega)] at h
 omega
structure WFacts (N:Nat) (cur:Nat→List Vm.St):Prop where
 made:∃ S0,S0 ∈ cur 0∧evMade N [S0] = .ok .u hpE
 wf:∀ i,∀ S ∈ cur i,Wf S
 stp:∀ i,i < 20→∀ S ∈ cur i,∃ D,(∀ d ∈ D,d ∈ cur (i + 1))∧∀ L c,lv (.t [.sr S.nx 0 L c 40,.i L,.i i,.i N]) (S.run fun hp=>evW N i L c D hp)
 fin:∀ i,∀ S ∈ cur i,(S.run fun hp=>evFin N hp) = .ok (.b true) hpE
theorem lvEq {a b:Go.Vm.Ans} {v:AV} (h:a = b) (hb:lv v b):lv v a:=h ▸ hb
theorem f0 {α:Type} {p:α→Prop}:∀ x ∈ ([]:List α),p x:=fun _ h=>(List.not_mem_nil h).elim
theorem f1 {α:Type} {p:α→Prop} {a:α} {l:List α} (h:p a) (t:∀ x ∈ l,p x):∀ x ∈ a :: l,p x:=List.forall_mem_cons.2 ⟨h,t⟩
def StP (cur:Nat→List Vm.St) (N i:Nat):Prop:=∀ S ∈ cur i,∃ D,(∀ d ∈ D,d ∈ cur (i + 1))∧∀ L c,lv (.t [.sr S.nx 0 L c 40,.i L,.i i,.i N]) (S.run fun hp=>evW N i L c D hp)
def OpOk (x:api_Op):Prop:=(x.Key.size≤140737488355328∧x.Val.size≤140737488355328∧x.Old.size≤140737488355328)∧∀ (θ:Th),x.Key.size≤1048576→x.Val.size≤1048576→x.Old.size≤1048576→RC θ opC (enc x)
def SVo (h:H) (s:Sl) (l:List api_Op):Prop:=s.len = l.length∧(l ≠ []→SV 40 h s l)
def WI (h0:H) (N:Nat) (cur:Nat→List Vm.St) (ops:Sl) (t:Nat) (ρ:Env) (h:H):Prop:=
 ∃ (ρ':Env) (w5:Value),ρ = setl ρ' [(1,reg ((N:Nat):Int)),(5,w5),(30,reg ops),(31,reg ((ops.len:Nat):Int)),(32,reg ((t:Nat):Int))]∧t≤ops.len∧∃ S ∈ cur t,∃ θ,SR (XW h0 h0.size .u) θ S.hp h∧RV θ (.p rid0 0) w5
theorem wl_go (all : ∀ N, 2 ≤ N → N ≤ 4 → ∃ cur, WFacts N cur) (ops : Sl) (n : Int) (xs : List api_Op) (h0 : H) (h1 : 0 < h0.size) (h2 : AtH h0 ⟨0, 0, none⟩ shaTab) (hv : SVo h0 ops xs) (hx : ∀ x ∈ xs, OpOk x) :
    CallsH Prog 3 [reg ops, reg n].toArray h0 fun v h' => v = reg true ∧ Go.Sh.Ext h0 h' := by
 refine CallsH.of 81 Tryz.func3 rfl Tryz.ntmps3 rfl (fun w0 => ?_)
 refine .sr (.A (reg false) (.nx (.seq (.sr ?_))))
 refine .e (e_callP (β := Bool) (k := fun r h' => r = true ∧ SR (XW h0 h0.size .u) (fun _ => none) hpE h') fn_5 rfl rfl ((alive_ok h1 h2).mono fun v h' ⟨r, e, q⟩ => ⟨r, e, q⟩) ?_)
 rintro h t11 ⟨rfl, S0⟩
 refine .V (v_not rfl) (.nx ?_)
 refine CW.cond false rfl (fun hb => by cases hb) (fun _ => ?_)
 refine CW.skip ?_
 refine QN.then_ ?_
 refine CW.seq ?_
 refine .sr (.M (reg n) (.V (v_ilss rfl rfl) (.M (reg ((decide (n < (2 : Int))) : Bool)) (.fv 15 rfl rfl rfl (fun hb => v_move (v := reg (n : Int)) rfl) rfl (.fv 15 rfl rfl rfl (fun hb => v_igtr (gf hb) rfl) rfl (.V (v_pick_or rfl rfl (fun hb => gf hb)) (.M (reg (((decide (n < (2 : Int))) || (decide ((4 : Int) < n))) : Bool)) (.fv 19 rfl rfl rfl (fun hb => v_move (v := reg (ops : Sl)) rfl) rfl (.fv 19 rfl rfl rfl (fun hb => v_len_sl (sl_22).1 (gf hb)) rfl ?_)))))))))
 refine .fv 19 rfl rfl rfl (fun hb => v_igtr (gf hb) rfl) rfl (.V (v_pick_or rfl rfl (fun hb => gf hb)) (.nx ?_))
 refine CW.cond (((decide (n < (2 : Int))) || (decide ((4 : Int) < n))) || (decide ((20 : Int) < (ops.len : Int)))) rfl (fun hb => ?_) (fun hb => ?_)
 · refine .sr (.A (reg true) (.nx ?_))
   refine CW.ret ?_
   refine QN.thenRet ?_
   exact ret1 rfl rfl ⟨rfl, XW_ext h1 S0⟩
 · refine CW.skip ?_
   refine QN.then_ ?_
   simp only [Bool.or_eq_false_iff, decide_eq_false_iff_not] at hb
   obtain ⟨N, rfl⟩ : ∃ N : Nat, n = (N : Int) := Int.eq_ofNat_of_zero_le (by omega)
   obtain ⟨cur, W⟩ := all N (by omega) (by omega)
   have hN4 : N ≤ 4 := by omega
   have hlen : ops.len ≤ 20 := by omega
   obtain ⟨M0, hM, hmade⟩ := W.made
   refine .sr (.M (reg ((N : Nat) : Int)) (.M (reg ((N : Nat) : Int)) ?_))
   refine .e (e_callP (β := T2 Go.Sh.Pt api_Config) (k := fun r h' => ∃ θ, SR (XW h0 h0.size .u) θ M0.hp h' ∧ RV θ (.p rid0 0) (reg r.a)) fn_6 rfl rfl (made_ok h1 h2 hN4 (W.wf 0 M0 hM) hmade S0) ?_)
   rintro h t27 ⟨θ, S1, hr⟩
   refine .M (reg (t27 : T2 Go.Sh.Pt api_Config)) (.V (v_extract (v := reg (t27.a : Pt)) rfl rfl) (.V (v_extract (v := reg (t27.b : api_Config)) rfl rfl) ?_))
   have hz : (enc api_Config.zero).length = (enc t27.b).length := (len_api_Config _).trans (len_api_Config _).symm
   have hst : st (σ := api_Config) ⟨h.size, 0, none⟩ (fun _ => t27.b) (fun h' => h' = newC h 27 (enc t27.b)) (newC h 27 (enc api_Config.zero)) :=
     ⟨api_Config.zero, at_newC _ _ _, wat_newC _ _ _, put_new _ _ hz⟩
   refine .e (e_allocP rfl zo_27 rfl ?_)
   refine .A (reg (t27.a : Pt)) (.S (t27.b : api_Config) 0 sz_27 (one_api_Config _) len_api_Config (len_api_Config _) (fun x => set_27_all x (t27.b : api_Config)) hst rfl rfl (fun _ hh => .nx ?_))
   rw [hh]
   have S2 : SR (XW h0 h0.size .u) θ M0.hp (newC h 27 (enc t27.b)) := S1.grow fun b hb => ⟨by simp [newC]; omega, by simp only [newC]; rw [Array.getElem?_push_lt hb]; simp [hb]⟩
   refine CW.join (fun ρ h' => ∃ t, WI h0 N cur ops t ρ h') ?_ ?_
   · refine .sr (.M (reg ops) (.V (v_len_sl (sl_22).1 rfl) (.M (reg ((0 : Int) : Int)) (.nx ?_))))
     refine CW.block ?_
     refine CW.loopI (WI h0 N cur ops) ops.len (fun t ρ h ⟨_, _, _, q, _⟩ => q) ⟨_, reg t27.a, setl_eq ⟨rfl, ⟨rfl, ⟨rfl, ⟨rfl, ⟨rfl, trivial⟩⟩⟩⟩⟩, Nat.zero_le _, M0, hM, θ, S2, hr⟩ ?_
     clear S2 hst hh S1 hr
     rintro t ρ h ⟨ρ', w5, rfl, ht, S, hS, θ, SS, hr⟩
     refine .sr (.V (v_ilss rfl rfl) (.nx (.seq ?_)))
     refine CW.cond (decide ((t : Int) < (ops.len : Int))) rfl (fun hb_2 => ?_) (fun hb_2 => ?_)
     · have hlt : t < ops.len := by simpa using hb_2
       refine CW.skip ?_
       refine QN.then_ ?_
       refine CW.join (fun ρ h' => ∃ (ρ' : Env) (w5 : Value), ρ = setl ρ' [(1, reg ((N : Nat) : Int)), (5, w5), (30, reg ops), (31, reg ((ops.len : Nat) : Int)), (32, reg ((t : Nat) : Int))] ∧ ∃ S ∈ cur (t + 1), ∃ θ, SR (XW h0 h0.size .u) θ S.hp h' ∧ RV θ (.p rid0 0) w5) ?_ ?_
       · obtain ⟨hv1, hv2⟩ := hv
         have hxl : t < xs.length := by omega
         have hgi : xs[t]? = some xs[t] := List.getElem?_eq_getElem hxl
         have hop := hx _ (List.getElem_mem hxl)
         generalize xs[t] = x at hgi hop
         have hne : xs ≠ [] := fun e => by rw [e] at hxl; simp at hxl
         have hsv := hv2 hne
         have hsv2 : SV 40 h ops xs := hsv.ext (XW_ext h1 SS)
         obtain ⟨a, ha, hat, _⟩ := hsv2.elem (n := 40) len_api_Op (j := (t : Int)) (Int.natCast_nonneg _) (by rw [Int.toNat_natCast]; exact hgi)
         obtain ⟨q1, q2, q3⟩ : a.spot = none ∧ a.block < h.size ∧ ops.len ≤ ops.cap := by
           obtain ⟨hc, _, hcap⟩ := hsv2
           rcases hc with ⟨e, _⟩ | ⟨a', e, ⟨hs, arr, T, fr, hb, _⟩, _⟩
           · rw [ha] at e; cases e
           · rw [ha] at e; cases e
             exact ⟨hs, by rw [Array.getElem?_eq_some_iff] at hb; exact hb.1, hcap⟩
         refine CW.block ?_
         refine .sr (.M (reg ((t : Nat) : Int)) ?_)
         have hz : (enc api_Op.zero).length = (enc x).length := (len_api_Op _).trans (len_api_Op _).symm
         have hst : st (σ := api_Op) ⟨h.size, 0, none⟩ (fun _ => x) (fun h' => h' = newC h 37 (enc x)) (newC h 37 (enc api_Op.zero)) :=
           ⟨api_Op.zero, at_newC _ _ _, wat_newC _ _ _, put_new _ _ hz⟩
         have hat3 : AtH (newC h 37 (enc x)) ⟨h.size, 0, none⟩ (enc x) := at_newC _ _ _
         refine .V (v_idx_slP (p := a.add ((t : Int).toNat * 40)) sl_22 rfl rfl ⟨a, ha, rfl⟩ (Int.natCast_nonneg _) (by omega)) (.LA (g := fun (x : api_Op) => x) (k := fun y h' => y = x ∧ h' = h) 0 ag_37 get_37_all (fun _ => (len_api_Op _)) ⟨x, ⟨x, hat, rfl⟩, rfl, rfl⟩ rfl (fun t36 hh => ?_))
         obtain ⟨rfl, _⟩ := hh
         refine .e (e_allocP rfl zo_37 rfl ?_)
         refine .A (reg ((t : Nat) : Int)) (.S (t36 : api_Op) 0 sz_37 (one_api_Op _) len_api_Op (len_api_Op _) (fun x => set_37_all x (t36 : api_Op)) hst rfl rfl (fun _ hh => .nx (.seq (.sr ?_))))
         rw [hh]
         refine .V (v_fieldAddr fl_37_1 rfl) (.L (g := fun (x : api_Op) => x.Key) (k := fun y h' => y = t36.Key) 1 na_9 get_37_Key ⟨t36.Key, ⟨t36, hat3, rfl⟩, rfl⟩ rfl (fun t38 e38 => .V (v_len_str un_9 rfl) (.V (v_fieldAddr fl_37_2 rfl) (.L (g := fun (x : api_Op) => x.Val) (k := fun y h' => y = t36.Val) 2 na_9 get_37_Val ⟨t36.Val, ⟨t36, hat3, rfl⟩, rfl⟩ rfl (fun t41 e41 => .V (v_len_str un_9 rfl) ?_)))))
         refine .V (v_iadd rfl rfl) (.V (v_fieldAddr fl_37_3 rfl) (.L (g := fun (x : api_Op) => x.Old) (k := fun y h' => y = t36.Old) 3 na_9 get_37_Old ⟨t36.Old, ⟨t36, hat3, rfl⟩, rfl⟩ rfl (fun t45 e45 => .V (v_len_str un_9 rfl) (.V (v_iadd rfl rfl) (.V (v_igtr rfl rfl) (.nx ?_))))))
         subst e38; subst e41; subst e45
         refine CW.cond (decide ((4096 : Int) < (iadd (iadd (t36.Key.size : Int) (t36.Val.size : Int)) (t36.Old.size : Int)))) rfl (fun hb_3 => ?_) (fun hb_3 => ?_)
         · refine .sr (.A (reg true) (.nx ?_))
           refine CW.ret ?_
           refine QN.thenRet ?_
           refine QN.blockRet ?_
           refine QN.thenRet ?_
           refine QN.thenRet ?_
           refine QN.blockRet ?_
           refine QN.thenRet ?_
           exact ret1 rfl rfl ⟨rfl, (XW_ext h1 SS).trans (newC_ext _ _ _)⟩
         · have hsz : t36.Key.size + t36.Val.size + t36.Old.size ≤ 1048576 := sizes_small hop.1.1 hop.1.2.1 hop.1.2.2 (by simpa using hb_3)
           refine CW.skip ?_
           refine QN.then_ ?_
           obtain ⟨D, hD, F⟩ := W.stp t (by omega) S hS
           refine it_ok rfl rfl h1 h2 (fun d hd => W.wf _ d (hD d hd)) hN4 (by omega) ha q1 q3 hlen q2 (F _ _) SS (fun θ => hop.2 θ (by omega) (by omega) (by omega)) (len_api_Op _) rfl rfl hr rfl rfl rfl rfl rfl ?_
           intro d hd θ' h' ρ3 S' r5 r30 r31 r32 r1
           refine QN.blockN ?_
           exact QN.thenJ ⟨ρ3, ρ3 5, setl_eq ⟨r1, rfl, r30, r31, r32, trivial⟩, d, hD d hd, θ', S', r5⟩
       · rintro ρ h ⟨ρ', w5, rfl, S, hS, θ, SS, hr⟩
         refine CW.region ?_
         refine .V (v_iadd rfl rfl) (.M (reg ((iadd (t : Int) (1 : Int)) : Int)) ?_)
         refine .nil ?_
         have e1 : iadd (t : Int) 1 = ((t + 1 : Nat) : Int) := by rw [iadd_eq (by omega) (by omega)]; omega
         exact QN.thenJ ⟨_, w5, setl_eq ⟨rfl, rfl, rfl, rfl, (by rw [← e1]; rfl), trivial⟩, hlt, S, hS, θ, SS, hr⟩
     · refine CW.exit ?_
       refine QN.thenExit ?_
       refine QN.thenExit ?_
       refine QN.blockExit ?_
       exact QN.thenJ ⟨t, _, w5, setl_eq ⟨rfl, ⟨rfl, ⟨rfl, ⟨rfl, ⟨rfl, trivial⟩⟩⟩⟩⟩, ht, S, hS, θ, SS, hr⟩
   · rintro ρ h ⟨t, ρ', w5, rfl, ht, S, hS, θ, SS, hr⟩
     refine fin_ok rfl rfl h1 h2 hN4 (W.fin t S hS) SS rfl hr (fun θ' hp' h' ρ2 S' e4 => ?_)
     exact ret1 rfl e4 ⟨rfl, XW_ext h1 S'⟩
def SVz {α:Type} [Ty α] (n:Nat) (h:H) (s:Sl) (l:List α):Prop:=s.len = l.length∧(l ≠ []→SV n h s l)
def Dec (t:TypeId) {α:Type} [Ty α] (S:H→α→Prop):Prop:=
 ∀ {HT:Type} (en:TypeId×Value→HT) (W:World) (fuel:Nat) (cs:List Value) (x:DataW HT×List MemPlace),DataW.trod en Prog W 0 (fun _=>true) true fuel t cs = some x→∃ a:α,cs = enc a∧S W.heap a
def IntOk (_:H) (n:Int):Prop:=-9223372036854775808≤n∧n≤9223372036854775807
theorem dec_int {t:TypeId} (ht:Tryz.prog.underlying t = some (.int .i64)):Dec t IntOk:=by
 intro HT en W fuel cs x h
 obtain ⟨n,rfl,_,hw⟩:=DataW.trod_int ht h
 refine ⟨n,rfl,?_⟩
 simp [Lit.wf,IntKind.min,IntKind.max,IntKind.signed,IntKind.bits] at hw
 exact hw
theorem dec_u8 {t:TypeId} (ht:Tryz.prog.underlying t = some (.int .u8)):Dec t (fun _ (_:UInt8)=>True):=by
 intro HT en W fuel cs x h
 obtain ⟨n,rfl,_,hw⟩:=DataW.trod_int ht h
 simp [Lit.wf,IntKind.min,IntKind.max,IntKind.signed,IntKind.bits] at hw
 refine ⟨UInt8.ofNat n.toNat,?_,trivial⟩
 show [Value.int .u8 n] = [Value.int .u8 ((UInt8.ofNat n.toNat).toNat:Int)]
 have:((UInt8.ofNat n.toNat).toNat:Int) = n:=by
  rw [UInt8.toNat_ofNat']; omega
 rw [this]
theorem dec_arr {t e:TypeId} {n:Nat} {α:Type} [Ty α] {S:H→α→Prop} (ht:Tryz.prog.underlying t = some (.array n e)) (hc:Tryz.prog.cellsOf e = 1) (hct:Tryz.prog.cellsOf t = n) (h1:∀ a:α,enc a = [reg a]) (D:Dec e S):Dec t (fun h (x:Arr n α)=>∀ i,S h (x i)):=by
 intro HT en W fuel cs x h
 obtain ⟨xs,m,_,_,hl,hxl,hget⟩:=DataW.trod_array ht h
 have hl':cs.length = n:=hl.trans hct
 have key:∀ i:Fin n,∃ a:α,cs[i.1]? = some (reg a)∧S W.heap a:=by
  intro i
  have h2:=hget i.1 i.2
  rw [hc,List.getElem?_eq_getElem (by omega),Nat.mul_one] at h2
  obtain ⟨a,ha,hs⟩:=D en W m _ _ h2
  refine ⟨a,?_,hs⟩
  rw [h1] at ha
  have:=congrArg (fun l=>l[0]?) ha
  simpa [List.getElem?_take] using this
 refine ⟨fun i=>(key i).choose,?_,fun i=>(key i).choose_spec.2⟩
 show cs = (List.ofFn fun i=>reg ((key i).choose))
 apply List.ext_getElem?
 intro i
 by_cases hi:i < n
 ·rw [(key ⟨i,hi⟩).choose_spec.1]; simp [List.getElem?_ofFn,hi]
 ·rw [List.getElem?_eq_none (by omega),List.getElem?_eq_none (by simpa using hi)]
def AtA (arr:Array Value) (off:Nat) (cs:List Value):Prop:=∀ i v,cs[i]? = some v→arr[off + i]? = some v
theorem AtA.app {arr:Array Value} {off:Nat} {a b:List Value} (ha:AtA arr off a) (hb:AtA arr (off + a.length) b):AtA arr off (a ++ b):=by
 intro i v hv
 by_cases hi:i < a.length
 ·rw [List.getElem?_append_left hi] at hv; exact ha i v hv
 ·rw [List.getElem?_append_right (by omega)] at hv
  have:=hb _ _ hv
  rwa [show off + a.length + (i - a.length) = off + i by omega] at this
theorem AtA.flat {arr:Array Value} {c:Nat}:∀ (L:List (List Value)) (off:Nat),(∀ i x,L[i]? = some x→x.length = c∧AtA arr (off + i * c) x)→AtA arr off L.flatten
 | [],off,_=>by intro i v hv; simp at hv
 | x :: L,off,h=>by
  have h0:=h 0 x rfl
  rw [List.flatten_cons]
  refine AtA.app (by simpa using h0.2) ?_
  rw [h0.1]
  refine AtA.flat (c:=c) L (off + c) (fun i y hy=>?_)
  have:=h (i + 1) y hy
  rwa [show off + (i + 1) * c = off + c + i * c by rw [Nat.add_mul]; omega] at this
theorem flat_len {α:Type} [Ty α] {c:Nat} (hn:∀ y:α,(enc y).length = c):∀ l:List α,(l.map enc).flatten.length = l.length * c
 | []=>by simp
 | x :: l=>by rw [List.map_cons,List.flatten_cons,List.length_append,hn,flat_len hn l,List.length_cons,Nat.add_mul]; omega
theorem add_add (a:Addr) (x y:Nat):(a.add x).add y = a.add (x + y):=by
 unfold Addr.add
 by_cases hx:x = 0
 ·subst hx; simp
 ·by_cases hy:y = 0
  ·subst hy; simp
  ·simp [hx,hy,Nat.add_assoc]
theorem cell_add {W:World} {a:Addr} {arr:Array Value} {T:TypeId} {fr:Nat×Nat} (ho:W.heap[a.block]? = some (.cells arr T fr)) (hs:a.spot = none) (k:Nat):W.cell? (a.add k) = arr[a.off + k]?:=by
 unfold Addr.add
 by_cases hk:k = 0
 ·subst hk; simp [World.cell?,ho,hs]
 ·simp [World.cell?,ho,hk]
def SlOk {α:Type} [Ty α] (c:Nat) (S:H→α→Prop) (h:H) (s:Sl):Prop:=∃ l:List α,SVz c h s l∧∀ a ∈ l,S h a
theorem dec_slice {t e:TypeId} {c:Nat} {α:Type} [Ty α] {S:H→α→Prop} (ht:Tryz.prog.underlying t = some (.slice e)) (hc:Tryz.prog.cellsOf e = c) (h0:0 < c) (hn:∀ y:α,(enc y).length = c) (D:Dec e S):Dec t (SlOk c S):=by
 intro HT en W fuel cs x h
 rcases Go.Deep.open_slice ht h with ⟨rfl,_⟩ | ⟨a,len,cap,m,n,DD,Pl,rfl,_,hlc,_,hm,_,hx⟩
 ·exact ⟨Sl.nil,rfl,[],⟨rfl,fun hne=>absurd rfl hne⟩,by simp⟩
 ·simp only [if_true] at hm
  subst hm
  have key:∀ i:Fin len,∃ y:α,(∀ r v,(enc y)[r]? = some v→W.cell? (a.add (i.1 * c + r)) = some v)∧S W.heap y:=by
   intro i
   obtain ⟨cs',h1,h2⟩:=hx i.1 (by omega)
   obtain ⟨y,rfl,hs⟩:=D en W n _ _ h2
   refine ⟨y,fun r v hv=>?_,hs⟩
   rw [hc] at h1
   obtain ⟨_,h4,h5⟩:=World.cells?_some h1
   have hr:r < c:=by
    rw [List.getElem?_eq_some_iff] at hv; obtain ⟨h9,_⟩:=hv; rw [hn] at h9; exact h9
   have:=h5 r hr
   rw [hv] at this
   rw [← this,add_add]
  refine ⟨⟨some a,len,_⟩,rfl,List.ofFn fun i=>(key i).choose,⟨by simp,fun hne=>?_⟩,?_⟩
  ·have hlen:0 < len:=by
    rcases Nat.eq_zero_or_pos len with h9 | h9
    ·subst h9; simp at hne
    ·exact h9
   have h00:=(key ⟨0,hlen⟩).choose_spec.1
   generalize hy:(key ⟨0,hlen⟩).choose = y at h00
   obtain ⟨v,hv⟩:∃ v,(enc y)[0]? = some v:=⟨_,List.getElem?_eq_getElem (by rw [hn]; exact h0)⟩
   have hc0:=h00 0 v hv
   rw [show a.add ((⟨0,hlen⟩:Fin len).1 * c + 0) = a by simp [Addr.add]] at hc0
   unfold World.cell? at hc0
   cases ho:W.heap[a.block]? with
   | none=>simp [ho] at hc0
   | some o=>
    cases o with
    | cells arr T fr=>
     have hsp:a.spot = none:=by
      cases hs:a.spot with
      | none=>rfl
      | some z=>simp [ho,hs] at hc0
     refine ⟨.inr ⟨a,rfl,⟨hsp,arr,T,fr,ho,?_⟩,?_⟩,by simp,hlc⟩
     ·refine AtA.flat (c:=c) _ _ (fun i z hz=>?_)
      rw [List.getElem?_map] at hz
      by_cases hi:i < len
      ·rw [List.getElem?_ofFn] at hz
       simp only [hi,dite_true,Option.map_some,Option.some.injEq] at hz
       subst hz
       refine ⟨hn _,fun r v hv=>?_⟩
       have h8:=(key ⟨i,hi⟩).choose_spec.1 r v hv
       rw [cell_add ho hsp] at h8
       rw [← h8,Nat.add_assoc]
      ·rw [List.getElem?_eq_none (by simpa using hi)] at hz; simp at hz
     ·rw [flat_len hn]; simp
    | _=>simp [ho] at hc0
  ·intro y hy
   rw [List.mem_ofFn] at hy
   obtain ⟨i,rfl⟩:=hy
   exact (key i).choose_spec.2
theorem cut_at (cs:List Value) (o s:Nat):cs.drop o = (cs.drop o).take s ++ cs.drop (o + s):=by
 rw [← List.drop_drop,List.take_append_drop]
theorem cut_end {cs:List Value} {o s:Nat} (h:cs.length = o + s):cs.drop o = (cs.drop o).take s:=by
 rw [List.take_of_length_le]; simp; omega
theorem fld {α:Type} {xs:List α} {m:Nat} (h:xs.length = m) (i:Nat) (hi:i < m):∃ y,xs[i]? = some y:=⟨_,List.getElem?_eq_getElem (by omega)⟩
theorem fdec {t:TypeId} {α:Type} [Ty α] {S:H→α→Prop} (D:Dec t S) {c:Nat} (hc:Tryz.prog.cellsOf t = c) (o:Nat) {HT:Type} {en:TypeId×Value→HT} {W:World} {n:Nat} {cs:List Value} {r:Option (DataW HT×List MemPlace)} {y:DataW HT×List MemPlace}
  (h:DataW.trod en Prog W 0 (fun _=>true) true n t ((cs.drop o).take (Tryz.prog.cellsOf t)) = r) (e:r = some y):∃ a:α,(cs.drop o).take c = enc a∧S W.heap a:=by
 rw [hc] at h
 exact D en W n _ _ (h.trans e)
theorem cof3:Tryz.prog.cellsOf 3 = 1:=by kernel_rfl
theorem cof9:Tryz.prog.cellsOf 9 = 1:=by kernel_rfl
theorem cof31:Tryz.prog.cellsOf 31 = 32:=by kernel_rfl
theorem cof33:Tryz.prog.cellsOf 33 = 33:=by kernel_rfl
theorem cof35:Tryz.prog.cellsOf 35 = 36:=by kernel_rfl
theorem cof37:Tryz.prog.cellsOf 37 = 40:=by kernel_rfl
theorem dec_i:Dec 3 IntOk:=dec_int Tryz.underlying3
def StrOk (_:H) (s:ByteArray):Prop:=s.size≤140737488355328
theorem ba_len (n:ByteArray):n.data.toList.length = n.size:=Array.length_toList
theorem w_str {HT:Type} {P:Program} {t:TypeId} {bytes:List UInt8}:bytes.length ∈ (DataW.lit (.string bytes):DataW HT).weights P t:=by simp [DataW.weights]
theorem w_st {HT:Type} {P:Program} {t:TypeId} {fs:Array Field} (hu:P.underlying t = some (.struct fs)) (parts:List (DataW HT)):(DataW.agg parts:DataW HT).weights P t = DataW.weightsEach P (fs.toList.map (·.type)) parts:=by simp [DataW.weights,hu]
theorem w_sl {HT:Type} {P:Program} {t e:TypeId} (hu:P.underlying t = some (.slice e)) {elems spare:List (DataW HT)} {n:Nat} (hn:n ∈ DataW.weightsAll P e elems):n ∈ (DataW.slice elems spare:DataW HT).weights P t:=by simp [DataW.weights,hu,hn]
theorem w_all {HT:Type} {P:Program} {e:TypeId} {d:DataW HT} {n:Nat} (hn:n ∈ d.weights P e):∀ {l:List (DataW HT)},d ∈ l→n ∈ DataW.weightsAll P e l
 | [],h=>by cases h
 | d0 :: l,h=>by
  simp only [DataW.weightsAll,List.mem_append]
  rcases List.mem_cons.1 h with rfl | h
  ·exact .inl hn
  ·exact .inr (w_all hn h)
def Rch {HT:Type} (t:TypeId) (d:DataW HT):Prop:=∀ n ∈ d.weights Prog t,n≤reachBytes
def DecW (t:TypeId) {α:Type} [Ty α] (S:H→α→Prop):Prop:=
 ∀ {HT:Type} (en:TypeId×Value→HT) (W:World) (fuel:Nat) (cs:List Value) (x:DataW HT×List MemPlace),DataW.trod en Prog W 0 (fun _=>true) true fuel t cs = some x→Rch t x.1→∃ a:α,cs = enc a∧S W.heap a
theorem dec_s:DecW 9 StrOk:=by
 intro HT en W fuel cs x h hr
 obtain ⟨n,rfl,rfl,_⟩:=DataW.trod_string Tryz.underlying9 h
 refine ⟨n,rfl,?_⟩
 have h1:=hr n.data.toList.length w_str
 have h2:=reachBytes_lt
 have h3:n.data.toList.length = n.size:=ba_len n
 show n.size≤140737488355328
 omega
theorem fdecW {t:TypeId} {α:Type} [Ty α] {S:H→α→Prop} (D:DecW t S) {c:Nat} (hc:Tryz.prog.cellsOf t = c) (o:Nat) {HT:Type} {en:TypeId×Value→HT} {W:World} {n:Nat} {cs:List Value} {r:Option (DataW HT×List MemPlace)} {y:DataW HT×List MemPlace}
  (h:DataW.trod en Prog W 0 (fun _=>true) true n t ((cs.drop o).take (Tryz.prog.cellsOf t)) = r) (e:r = some y) (hr:Rch t y.1):∃ a:α,(cs.drop o).take c = enc a∧S W.heap a:=by
 rw [hc] at h
 exact D en W n _ _ (h.trans e) hr
theorem dec_dig:Dec 31 (fun _ (_:Dig)=>True):=by
 intro HT en W fuel cs x h
 obtain ⟨a,h1,_⟩:=dec_arr (α:=UInt8) (S:=fun _ _=>True) Tryz.underlying31 (by kernel_rfl) (by kernel_rfl) (fun _=>rfl) (dec_u8 Tryz.underlying5) en W fuel cs x h
 exact ⟨a,h1,trivial⟩
def KeyOk (h:H) (x:api_Key):Prop:=IntOk h x.Height
def ChangeOk (h:H) (x:api_Change):Prop:=IntOk h x.Kind∧IntOk h x.Id∧IntOk h x.New∧KeyOk h x.Key
def OpD (h:H) (x:api_Op):Prop:=IntOk h x.Kind∧StrOk h x.Key∧StrOk h x.Val∧StrOk h x.Old∧ChangeOk h x.Change
theorem dec_key:Dec 33 KeyOk:=by
 intro HT en W fuel cs x h
 obtain ⟨xs,n,_,_,hl,hxl,hf⟩:=DataW.trod_struct Tryz.underlying33 h
 rw [cof33] at hl
 obtain ⟨y0,e0⟩:=fld hxl 0 (by decide)
 obtain ⟨a0,c0,s0⟩:=fdec (S:=fun _ (_:Dig)=>True) dec_dig cof31 0 (hf 0 _ rfl) e0
 obtain ⟨y1,e1⟩:=fld hxl 1 (by decide)
 obtain ⟨a1,c1,s1⟩:=fdec (S:=IntOk) dec_i cof3 32 (hf 1 _ rfl) e1
 refine ⟨⟨a0,a1⟩,?_,s1⟩
 rw [enc_api_Key]
 dsimp only
 rw [← c0,← c1,← cut_end (show cs.length = 32 + 1 by omega)]
 exact cut_at cs 0 32
theorem dec_change:Dec 35 ChangeOk:=by
 intro HT en W fuel cs x h
 obtain ⟨xs,n,_,_,hl,hxl,hf⟩:=DataW.trod_struct Tryz.underlying35 h
 rw [cof35] at hl
 obtain ⟨y0,e0⟩:=fld hxl 0 (by decide)
 obtain ⟨a0,c0,s0⟩:=fdec (S:=IntOk) dec_i cof3 0 (hf 0 _ rfl) e0
 obtain ⟨y1,e1⟩:=fld hxl 1 (by decide)
 obtain ⟨a1,c1,s1⟩:=fdec (S:=IntOk) dec_i cof3 1 (hf 1 _ rfl) e1
 obtain ⟨y2,e2⟩:=fld hxl 2 (by decide)
 obtain ⟨a2,c2,s2⟩:=fdec (S:=IntOk) dec_i cof3 2 (hf 2 _ rfl) e2
 obtain ⟨y3,e3⟩:=fld hxl 3 (by decide)
 obtain ⟨a3,c3,s3⟩:=fdec (S:=KeyOk) dec_key cof33 3 (hf 3 _ rfl) e3
 refine ⟨⟨a0,a1,a2,a3⟩,?_,s0,s1,s2,s3⟩
 rw [enc_api_Change]
 dsimp only
 rw [← c0,← c1,← c2,← c3,← cut_end (show cs.length = 3 + 33 by omega),← cut_at cs 2 1,← cut_at cs 1 1]
 exact cut_at cs 0 1
theorem dec_op:DecW 37 OpD:=by
 intro HT en W fuel cs x h hr
 obtain ⟨xs,n,_,rfl,hl,hxl,hf⟩:=DataW.trod_struct Tryz.underlying37 h
 rw [cof37] at hl
 have hw:∀ (i:Nat) (t:TypeId) (y:DataW HT×List MemPlace),[3,9,9,9,35][i]? = some t→xs[i]? = some y→Rch t y.1:=by
  intro i t y ht hy m hm
  refine hr m ?_
  show m ∈ (DataW.agg (xs.map (·.1)):DataW HT).weights Prog 37
  rw [w_st (P:=Prog) (t:=37) Tryz.underlying37]
  exact DataW.weights_mem_each ht (by rw [List.getElem?_map,hy]; rfl) m hm
 obtain ⟨y0,e0⟩:=fld hxl 0 (by decide)
 obtain ⟨a0,c0,s0⟩:=fdec (S:=IntOk) dec_i cof3 0 (hf 0 _ rfl) e0
 obtain ⟨y1,e1⟩:=fld hxl 1 (by decide)
 obtain ⟨a1,c1,s1⟩:=fdecW (S:=StrOk) dec_s cof9 1 (hf 1 _ rfl) e1 (hw 1 9 y1 rfl e1)
 obtain ⟨y2,e2⟩:=fld hxl 2 (by decide)
 obtain ⟨a2,c2,s2⟩:=fdecW (S:=StrOk) dec_s cof9 2 (hf 2 _ rfl) e2 (hw 2 9 y2 rfl e2)
 obtain ⟨y3,e3⟩:=fld hxl 3 (by decide)
 obtain ⟨a3,c3,s3⟩:=fdecW (S:=StrOk) dec_s cof9 3 (hf 3 _ rfl) e3 (hw 3 9 y3 rfl e3)
 obtain ⟨y4,e4⟩:=fld hxl 4 (by decide)
 obtain ⟨a4,c4,s4⟩:=fdec (S:=ChangeOk) dec_change cof35 4 (hf 4 _ rfl) e4
 refine ⟨⟨a0,a1,a2,a3,a4⟩,?_,s0,s1,s2,s3,s4⟩
 rw [enc_api_Op]
 dsimp only
 rw [← c0,← c1,← c2,← c3,← c4,← cut_end (show cs.length = 4 + 36 by omega),← cut_at cs 3 1,← cut_at cs 2 1,← cut_at cs 1 1]
 exact cut_at cs 0 1
theorem dec_sliceW {t e:TypeId} {c:Nat} {α:Type} [Ty α] {S:H→α→Prop} (ht:Tryz.prog.underlying t = some (.slice e)) (hc:Tryz.prog.cellsOf e = c) (h0:0 < c) (hn:∀ y:α,(enc y).length = c) (D:DecW e S):DecW t (SlOk c S):=by
 intro HT en W fuel cs x h hr
 rcases Go.Deep.open_slice ht h with ⟨rfl,_⟩ | ⟨a,len,cap,m,n,DD,Pl,rfl,_,hlc,_,hm,hx0,hx⟩
 ·exact ⟨Sl.nil,rfl,[],⟨rfl,fun hne=>absurd rfl hne⟩,by simp⟩
 ·simp only [if_true] at hm
  subst hm
  have key:∀ i:Fin len,∃ y:α,(∀ r v,(enc y)[r]? = some v→W.cell? (a.add (i.1 * c + r)) = some v)∧S W.heap y:=by
   intro i
   obtain ⟨cs',h1,h2⟩:=hx i.1 (by omega)
   obtain ⟨y,rfl,hs⟩:=D en W n _ _ h2 (fun m hm=>by rw [hx0] at hr; refine hr m ?_; exact w_sl ht (w_all hm (List.mem_map.2 ⟨i.1,List.mem_range.2 i.2,rfl⟩)))
   refine ⟨y,fun r v hv=>?_,hs⟩
   rw [hc] at h1
   obtain ⟨_,h4,h5⟩:=World.cells?_some h1
   have hr:r < c:=by
    rw [List.getElem?_eq_some_iff] at hv; obtain ⟨h9,_⟩:=hv; rw [hn] at h9; exact h9
   have:=h5 r hr
   rw [hv] at this
   rw [← this,add_add]
  refine ⟨⟨some a,len,_⟩,rfl,List.ofFn fun i=>(key i).choose,⟨by simp,fun hne=>?_⟩,?_⟩
  ·have hlen:0 < len:=by
    rcases Nat.eq_zero_or_pos len with h9 | h9
    ·subst h9; simp at hne
    ·exact h9
   have h00:=(key ⟨0,hlen⟩).choose_spec.1
   generalize hy:(key ⟨0,hlen⟩).choose = y at h00
   obtain ⟨v,hv⟩:∃ v,(enc y)[0]? = some v:=⟨_,List.getElem?_eq_getElem (by rw [hn]; exact h0)⟩
   have hc0:=h00 0 v hv
   rw [show a.add ((⟨0,hlen⟩:Fin len).1 * c + 0) = a by simp [Addr.add]] at hc0
   unfold World.cell? at hc0
   cases ho:W.heap[a.block]? with
   | none=>simp [ho] at hc0
   | some o=>
    cases o with
    | cells arr T fr=>
     have hsp:a.spot = none:=by
      cases hs:a.spot with
      | none=>rfl
      | some z=>simp [ho,hs] at hc0
     refine ⟨.inr ⟨a,rfl,⟨hsp,arr,T,fr,ho,?_⟩,?_⟩,by simp,hlc⟩
     ·refine AtA.flat (c:=c) _ _ (fun i z hz=>?_)
      rw [List.getElem?_map] at hz
      by_cases hi:i < len
      ·rw [List.getElem?_ofFn] at hz
       simp only [hi,dite_true,Option.map_some,Option.some.injEq] at hz
       subst hz
       refine ⟨hn _,fun r v hv=>?_⟩
       have h8:=(key ⟨i,hi⟩).choose_spec.1 r v hv
       rw [cell_add ho hsp] at h8
       rw [← h8,Nat.add_assoc]
      ·rw [List.getElem?_eq_none (by simpa using hi)] at hz; simp at hz
     ·rw [flat_len hn]; simp
    | _=>simp [ho] at hc0
  ·intro y hy
   rw [List.mem_ofFn] at hy
   obtain ⟨i,rfl⟩:=hy
   exact (key i).choose_spec.2
theorem dec_ops:DecW 22 (SlOk 40 OpD):=dec_sliceW Tryz.underlying22 cof37 (by decide) len_api_Op dec_op
open Go.Vm (RC RW Th dig32 opT opC) in
theorem rc1 {θ:Th} {k:Nat} {V:Value} {t:Go.Vm.CL Go.Vm.AV} {r:List Value} (h:Go.Vm.Uk k V) (hr:RC θ t r):RC θ (.cons 1 (.o k) t) (V :: r):=
 ⟨[V],r,rfl,.inr ⟨rfl,(fun n e=>by cases e),V,rfl,.inl h⟩,hr⟩
theorem uk_i {h:H} {n:Int} (hn:IntOk h n):Go.Vm.Uk 1 (reg n):=⟨n,by have:=hn.1; have:=hn.2; simp only [IntKind.wrap_i64]; omega,rfl⟩
open Go.Vm (RC Th) in
theorem rc_dig {θ:Th} {t:Go.Vm.CL Go.Vm.AV} {r:List Value} (hr:RC θ t r):∀ (l:List UInt8),RC θ (Nat.rec (motive:=fun _=>Go.Vm.CL Go.Vm.AV) t (fun _ ih=>.cons 1 (.o 3) ih) l.length) (l.map (fun b:UInt8=>(reg b:Value)) ++ r)
 | []=>hr
 | b :: l=>rc1 (k:=3) ⟨b.toNat,by have:=b.toNat_lt; omega,rfl⟩ (rc_dig hr l)
theorem opOk_of {h:H} {x:api_Op} (hx:OpD h x):OpOk x:=by
 obtain ⟨h1,h2,h3,h4,c1,c2,c3,c4⟩:=hx
 refine ⟨⟨h2,h3,h4⟩,fun θ q1 q2 q3=>?_⟩
 have e:enc x = (reg x.Kind:Value) :: (reg x.Key:Value) :: (reg x.Val:Value) :: (reg x.Old:Value) :: (reg x.Change.Kind:Value) :: (reg x.Change.Id:Value) :: (reg x.Change.New:Value) :: ((List.ofFn x.Change.Key.Root).map (fun b:UInt8=>(reg b:Value)) ++ [(reg x.Change.Key.Height:Value)]):=by
  rw [enc_api_Op,enc_api_Change,enc_api_Key,List.map_ofFn]
  rfl
 rw [e]
 unfold Go.Vm.opC Go.Vm.opT
 refine rc1 (uk_i h1) (rc1 ⟨_,q1,rfl⟩ (rc1 ⟨_,q2,rfl⟩ (rc1 ⟨_,q3,rfl⟩ (rc1 (uk_i c1) (rc1 (uk_i c2) (rc1 (uk_i c3) ?_))))))
 have:=rc_dig (θ:=θ) (t:=.cons 1 (.o 1) .nil) (r:=[(reg x.Change.Key.Height:Value)]) (rc1 (uk_i c4) rfl) (List.ofFn x.Change.Key.Root)
 rw [List.length_ofFn] at this
 exact this
end Go.Proofs.YtmpmildpioebhaaGreatDoor
namespace Go.Proofs.YtmpmildpioebhaaGreatDoor
open Go Go.Sh Go.Vm
open Go.Sh.Ty (reg)
noncomputable def cur2:Nat→List Vm.St
 | 0=>[S2_0]
 | 1=>[S2_1,S2_2]
 | 2=>[S2_3]
 | 3=>[S2_4]
 | 4=>[S2_5]
 | 5=>[S2_4]
 | 6=>[S2_5]
 | 7=>[S2_4]
 | 8=>[S2_5]
 | 9=>[S2_4]
 | 10=>[S2_5]
 | 11=>[S2_4]
 | 12=>[S2_5]
 | 13=>[S2_4]
 | 14=>[S2_5]
 | 15=>[S2_4]
 | 16=>[S2_5]
 | 17=>[S2_4]
 | 18=>[S2_5]
 | 19=>[S2_4]
 | 20=>[S2_5]
 | _=>[]
theorem wf2_0:Wf S2_0:=⟨S2_0_good,rfl,rfl⟩
theorem wf2_1:Wf S2_1:=⟨S2_1_good,rfl,rfl⟩
theorem wf2_2:Wf S2_2:=⟨S2_2_good,rfl,rfl⟩
theorem wf2_3:Wf S2_3:=⟨S2_3_good,rfl,rfl⟩
theorem wf2_4:Wf S2_4:=⟨S2_4_good,rfl,rfl⟩
theorem wf2_5:Wf S2_5:=⟨S2_5_good,rfl,rfl⟩
theorem wfs2:∀ i,∀ S ∈ cur2 i,Wf S
 | 0=>f1 (wf2_0) (f0)
 | 1=>f1 (wf2_1) (f1 (wf2_2) (f0))
 | 2=>f1 (wf2_3) (f0)
 | 3=>f1 (wf2_4) (f0)
 | 4=>f1 (wf2_5) (f0)
 | 5=>f1 (wf2_4) (f0)
 | 6=>f1 (wf2_5) (f0)
 | 7=>f1 (wf2_4) (f0)
 | 8=>f1 (wf2_5) (f0)
 | 9=>f1 (wf2_4) (f0)
 | 10=>f1 (wf2_5) (f0)
 | 11=>f1 (wf2_4) (f0)
 | 12=>f1 (wf2_5) (f0)
 | 13=>f1 (wf2_4) (f0)
 | 14=>f1 (wf2_5) (f0)
 | 15=>f1 (wf2_4) (f0)
 | 16=>f1 (wf2_5) (f0)
 | 17=>f1 (wf2_4) (f0)
 | 18=>f1 (wf2_5) (f0)
 | 19=>f1 (wf2_4) (f0)
 | 20=>f1 (wf2_5) (f0)
 | _ + 21=>f0
theorem fins2:∀ i,∀ S ∈ cur2 i,(S.run fun hp=>evFin 2 hp) = .ok (.b true) hpE
 | 0=>f1 (Fin2_0) (f0)
 | 1=>f1 (Fin2_1) (f1 (Fin2_2) (f0))
 | 2=>f1 (Fin2_3) (f0)
 | 3=>f1 (Fin2_4) (f0)
 | 4=>f1 (Fin2_5) (f0)
 | 5=>f1 (Fin2_4) (f0)
 | 6=>f1 (Fin2_5) (f0)
 | 7=>f1 (Fin2_4) (f0)
 | 8=>f1 (Fin2_5) (f0)
 | 9=>f1 (Fin2_4) (f0)
 | 10=>f1 (Fin2_5) (f0)
 | 11=>f1 (Fin2_4) (f0)
 | 12=>f1 (Fin2_5) (f0)
 | 13=>f1 (Fin2_4) (f0)
 | 14=>f1 (Fin2_5) (f0)
 | 15=>f1 (Fin2_4) (f0)
 | 16=>f1 (Fin2_5) (f0)
 | 17=>f1 (Fin2_4) (f0)
 | 18=>f1 (Fin2_5) (f0)
 | 19=>f1 (Fin2_4) (f0)
 | 20=>f1 (Fin2_5) (f0)
 | _ + 21=>f0
theorem stp2_0:StP cur2 2 0:=f1 (⟨_,fun d hd=>(f1 (List.mem_cons_self ..) (f1 (List.mem_cons_of_mem _ (List.mem_cons_self ..)) (f0)):∀ d ∈ [S2_1,S2_2],d ∈ cur2 1) d hd,fun L c=>lvEq (F2_0_0 L c) ⟨rfl,rfl,rfl⟩⟩) (f0)
theorem stp2_1:StP cur2 2 1:=f1 (⟨_,fun d hd=>(f1 (List.mem_cons_self ..) (f0):∀ d ∈ [S2_3],d ∈ cur2 2) d hd,fun L c=>lvEq (F2_1_1 L c) ⟨rfl,rfl,rfl⟩⟩) (f1 (⟨_,fun d hd=>(f1 (List.mem_cons_self ..) (f0):∀ d ∈ [S2_3],d ∈ cur2 2) d hd,fun L c=>lvEq (F2_1_2 L c) ⟨rfl,rfl,rfl⟩⟩) (f0))
theorem stp2_2:StP cur2 2 2:=f1 (⟨_,fun d hd=>(f1 (List.mem_cons_self ..) (f0):∀ d ∈ [S2_4],d ∈ cur2 3) d hd,fun L c=>lvEq (F2_2_3 L c) ⟨rfl,rfl,rfl⟩⟩) (f0)
theorem stp2_3:StP cur2 2 3:=f1 (⟨_,fun d hd=>(f1 (List.mem_cons_self ..) (f0):∀ d ∈ [S2_5],d ∈ cur2 4) d hd,fun L c=>lvEq (F2_3_4 L c) ⟨rfl,rfl,rfl,rfl⟩⟩) (f0)
theorem stp2_4:StP cur2 2 4:=f1 (⟨_,fun d hd=>(f1 (List.mem_cons_self ..) (f0):∀ d ∈ [S2_4],d ∈ cur2 5) d hd,fun L c=>lvEq (F2_4_5 L c) ⟨rfl,rfl,rfl,rfl⟩⟩) (f0)
theorem stp2_5:StP cur2 2 5:=f1 (⟨_,fun d hd=>(f1 (List.mem_cons_self ..) (f0):∀ d ∈ [S2_5],d ∈ cur2 6) d hd,fun L c=>lvEq (F2_5_4 L c) ⟨rfl,rfl,rfl,rfl⟩⟩) (f0)
theorem stp2_6:StP cur2 2 6:=f1 (⟨_,fun d hd=>(f1 (List.mem_cons_self ..) (f0):∀ d ∈ [S2_4],d ∈ cur2 7) d hd,fun L c=>lvEq (F2_6_5 L c) ⟨rfl,rfl,rfl,rfl⟩⟩) (f0)
theorem stp2_7:StP cur2 2 7:=f1 (⟨_,fun d hd=>(f1 (List.mem_cons_self ..) (f0):∀ d ∈ [S2_5],d ∈ cur2 8) d hd,fun L c=>lvEq (F2_7_4 L c) ⟨rfl,rfl,rfl,rfl⟩⟩) (f0)
theorem stp2_8:StP cur2 2 8:=f1 (⟨_,fun d hd=>(f1 (List.mem_cons_self ..) (f0):∀ d ∈ [S2_4],d ∈ cur2 9) d hd,fun L c=>lvEq (F2_8_5 L c) ⟨rfl,rfl,rfl,rfl⟩⟩) (f0)
theorem stp2_9:StP cur2 2 9:=f1 (⟨_,fun d hd=>(f1 (List.mem_cons_self ..) (f0):∀ d ∈ [S2_5],d ∈ cur2 10) d hd,fun L c=>lvEq (F2_9_4 L c) ⟨rfl,rfl,rfl,rfl⟩⟩) (f0)
theorem stp2_10:StP cur2 2 10:=f1 (⟨_,fun d hd=>(f1 (List.mem_cons_self ..) (f0):∀ d ∈ [S2_4],d ∈ cur2 11) d hd,fun L c=>lvEq (F2_10_5 L c) ⟨rfl,rfl,rfl,rfl⟩⟩) (f0)
theorem stp2_11:StP cur2 2 11:=f1 (⟨_,fun d hd=>(f1 (List.mem_cons_self ..) (f0):∀ d ∈ [S2_5],d ∈ cur2 12) d hd,fun L c=>lvEq (F2_11_4 L c) ⟨rfl,rfl,rfl,rfl⟩⟩) (f0)
theorem stp2_12:StP cur2 2 12:=f1 (⟨_,fun d hd=>(f1 (List.mem_cons_self ..) (f0):∀ d ∈ [S2_4],d ∈ cur2 13) d hd,fun L c=>lvEq (F2_12_5 L c) ⟨rfl,rfl,rfl,rfl⟩⟩) (f0)
theorem stp2_13:StP cur2 2 13:=f1 (⟨_,fun d hd=>(f1 (List.mem_cons_self ..) (f0):∀ d ∈ [S2_5],d ∈ cur2 14) d hd,fun L c=>lvEq (F2_13_4 L c) ⟨rfl,rfl,rfl,rfl⟩⟩) (f0)
theorem stp2_14:StP cur2 2 14:=f1 (⟨_,fun d hd=>(f1 (List.mem_cons_self ..) (f0):∀ d ∈ [S2_4],d ∈ cur2 15) d hd,fun L c=>lvEq (F2_14_5 L c) ⟨rfl,rfl,rfl,rfl⟩⟩) (f0)
theorem stp2_15:StP cur2 2 15:=f1 (⟨_,fun d hd=>(f1 (List.mem_cons_self ..) (f0):∀ d ∈ [S2_5],d ∈ cur2 16) d hd,fun L c=>lvEq (F2_15_4 L c) ⟨rfl,rfl,rfl,rfl⟩⟩) (f0)
theorem stp2_16:StP cur2 2 16:=f1 (⟨_,fun d hd=>(f1 (List.mem_cons_self ..) (f0):∀ d ∈ [S2_4],d ∈ cur2 17) d hd,fun L c=>lvEq (F2_16_5 L c) ⟨rfl,rfl,rfl,rfl⟩⟩) (f0)
theorem stp2_17:StP cur2 2 17:=f1 (⟨_,fun d hd=>(f1 (List.mem_cons_self ..) (f0):∀ d ∈ [S2_5],d ∈ cur2 18) d hd,fun L c=>lvEq (F2_17_4 L c) ⟨rfl,rfl,rfl,rfl⟩⟩) (f0)
theorem stp2_18:StP cur2 2 18:=f1 (⟨_,fun d hd=>(f1 (List.mem_cons_self ..) (f0):∀ d ∈ [S2_4],d ∈ cur2 19) d hd,fun L c=>lvEq (F2_18_5 L c) ⟨rfl,rfl,rfl,rfl⟩⟩) (f0)
theorem stp2_19:StP cur2 2 19:=f1 (⟨_,fun d hd=>(f1 (List.mem_cons_self ..) (f0):∀ d ∈ [S2_5],d ∈ cur2 20) d hd,fun L c=>lvEq (F2_19_4 L c) ⟨rfl,rfl,rfl,rfl⟩⟩) (f0)
theorem stps2 (i:Nat) (hi:i < 20):StP cur2 2 i:=by
 match i,hi with
 | 0,_=>exact stp2_0
 | 1,_=>exact stp2_1
 | 2,_=>exact stp2_2
 | 3,_=>exact stp2_3
 | 4,_=>exact stp2_4
 | 5,_=>exact stp2_5
 | 6,_=>exact stp2_6
 | 7,_=>exact stp2_7
 | 8,_=>exact stp2_8
 | 9,_=>exact stp2_9
 | 10,_=>exact stp2_10
 | 11,_=>exact stp2_11
 | 12,_=>exact stp2_12
 | 13,_=>exact stp2_13
 | 14,_=>exact stp2_14
 | 15,_=>exact stp2_15
 | 16,_=>exact stp2_16
 | 17,_=>exact stp2_17
 | 18,_=>exact stp2_18
 | 19,_=>exact stp2_19
 | _ + 20,h=>exact absurd h (by omega)
theorem facts2:∃ cur,WFacts 2 cur:=⟨cur2,⟨S2_0,List.mem_cons_self ..,Made2⟩,wfs2,stps2,fins2⟩
noncomputable def cur3:Nat→List Vm.St
 | 0=>[S3_0]
 | 1=>[S3_1,S3_2]
 | 2=>[S3_3]
 | 3=>[S3_4]
 | 4=>[S3_5]
 | 5=>[S3_4]
 | 6=>[S3_5]
 | 7=>[S3_4]
 | 8=>[S3_5]
 | 9=>[S3_4]
 | 10=>[S3_5]
 | 11=>[S3_4]
 | 12=>[S3_5]
 | 13=>[S3_4]
 | 14=>[S3_5]
 | 15=>[S3_4]
 | 16=>[S3_5]
 | 17=>[S3_4]
 | 18=>[S3_5]
 | 19=>[S3_4]
 | 20=>[S3_5]
 | _=>[]
theorem wf3_0:Wf S3_0:=⟨S3_0_good,rfl,rfl⟩
theorem wf3_1:Wf S3_1:=⟨S3_1_good,rfl,rfl⟩
theorem wf3_2:Wf S3_2:=⟨S3_2_good,rfl,rfl⟩
theorem wf3_3:Wf S3_3:=⟨S3_3_good,rfl,rfl⟩
theorem wf3_4:Wf S3_4:=⟨S3_4_good,rfl,rfl⟩
theorem wf3_5:Wf S3_5:=⟨S3_5_good,rfl,rfl⟩
theorem wfs3:∀ i,∀ S ∈ cur3 i,Wf S
 | 0=>f1 (wf3_0) (f0)
 | 1=>f1 (wf3_1) (f1 (wf3_2) (f0))
 | 2=>f1 (wf3_3) (f0)
 | 3=>f1 (wf3_4) (f0)
 | 4=>f1 (wf3_5) (f0)
 | 5=>f1 (wf3_4) (f0)
 | 6=>f1 (wf3_5) (f0)
 | 7=>f1 (wf3_4) (f0)
 | 8=>f1 (wf3_5) (f0)
 | 9=>f1 (wf3_4) (f0)
 | 10=>f1 (wf3_5) (f0)
 | 11=>f1 (wf3_4) (f0)
 | 12=>f1 (wf3_5) (f0)
 | 13=>f1 (wf3_4) (f0)
 | 14=>f1 (wf3_5) (f0)
 | 15=>f1 (wf3_4) (f0)
 | 16=>f1 (wf3_5) (f0)
 | 17=>f1 (wf3_4) (f0)
 | 18=>f1 (wf3_5) (f0)
 | 19=>f1 (wf3_4) (f0)
 | 20=>f1 (wf3_5) (f0)
 | _ + 21=>f0
theorem fins3:∀ i,∀ S ∈ cur3 i,(S.run fun hp=>evFin 3 hp) = .ok (.b true) hpE
 | 0=>f1 (Fin3_0) (f0)
 | 1=>f1 (Fin3_1) (f1 (Fin3_2) (f0))
 | 2=>f1 (Fin3_3) (f0)
 | 3=>f1 (Fin3_4) (f0)
 | 4=>f1 (Fin3_5) (f0)
 | 5=>f1 (Fin3_4) (f0)
 | 6=>f1 (Fin3_5) (f0)
 | 7=>f1 (Fin3_4) (f0)
 | 8=>f1 (Fin3_5) (f0)
 | 9=>f1 (Fin3_4) (f0)
 | 10=>f1 (Fin3_5) (f0)
 | 11=>f1 (Fin3_4) (f0)
 | 12=>f1 (Fin3_5) (f0)
 | 13=>f1 (Fin3_4) (f0)
 | 14=>f1 (Fin3_5) (f0)
 | 15=>f1 (Fin3_4) (f0)
 | 16=>f1 (Fin3_5) (f0)
 | 17=>f1 (Fin3_4) (f0)
 | 18=>f1 (Fin3_5) (f0)
 | 19=>f1 (Fin3_4) (f0)
 | 20=>f1 (Fin3_5) (f0)
 | _ + 21=>f0
theorem stp3_0:StP cur3 3 0:=f1 (⟨_,fun d hd=>(f1 (List.mem_cons_self ..) (f1 (List.mem_cons_of_mem _ (List.mem_cons_self ..)) (f0)):∀ d ∈ [S3_1,S3_2],d ∈ cur3 1) d hd,fun L c=>lvEq (F3_0_0 L c) ⟨rfl,rfl,rfl⟩⟩) (f0)
theorem stp3_1:StP cur3 3 1:=f1 (⟨_,fun d hd=>(f1 (List.mem_cons_self ..) (f0):∀ d ∈ [S3_3],d ∈ cur3 2) d hd,fun L c=>lvEq (F3_1_1 L c) ⟨rfl,rfl,rfl⟩⟩) (f1 (⟨_,fun d hd=>(f1 (List.mem_cons_self ..) (f0):∀ d ∈ [S3_3],d ∈ cur3 2) d hd,fun L c=>lvEq (F3_1_2 L c) ⟨rfl,rfl,rfl⟩⟩) (f0))
theorem stp3_2:StP cur3 3 2:=f1 (⟨_,fun d hd=>(f1 (List.mem_cons_self ..) (f0):∀ d ∈ [S3_4],d ∈ cur3 3) d hd,fun L c=>lvEq (F3_2_3 L c) ⟨rfl,rfl,rfl⟩⟩) (f0)
theorem stp3_3:StP cur3 3 3:=f1 (⟨_,fun d hd=>(f1 (List.mem_cons_self ..) (f0):∀ d ∈ [S3_5],d ∈ cur3 4) d hd,fun L c=>lvEq (F3_3_4 L c) ⟨rfl,rfl,rfl,rfl⟩⟩) (f0)
theorem stp3_4:StP cur3 3 4:=f1 (⟨_,fun d hd=>(f1 (List.mem_cons_self ..) (f0):∀ d ∈ [S3_4],d ∈ cur3 5) d hd,fun L c=>lvEq (F3_4_5 L c) ⟨rfl,rfl,rfl,rfl⟩⟩) (f0)
theorem stp3_5:StP cur3 3 5:=f1 (⟨_,fun d hd=>(f1 (List.mem_cons_self ..) (f0):∀ d ∈ [S3_5],d ∈ cur3 6) d hd,fun L c=>lvEq (F3_5_4 L c) ⟨rfl,rfl,rfl,rfl⟩⟩) (f0)
theorem stp3_6:StP cur3 3 6:=f1 (⟨_,fun d hd=>(f1 (List.mem_cons_self ..) (f0):∀ d ∈ [S3_4],d ∈ cur3 7) d hd,fun L c=>lvEq (F3_6_5 L c) ⟨rfl,rfl,rfl,rfl⟩⟩) (f0)
theorem stp3_7:StP cur3 3 7:=f1 (⟨_,fun d hd=>(f1 (List.mem_cons_self ..) (f0):∀ d ∈ [S3_5],d ∈ cur3 8) d hd,fun L c=>lvEq (F3_7_4 L c) ⟨rfl,rfl,rfl,rfl⟩⟩) (f0)
theorem stp3_8:StP cur3 3 8:=f1 (⟨_,fun d hd=>(f1 (List.mem_cons_self ..) (f0):∀ d ∈ [S3_4],d ∈ cur3 9) d hd,fun L c=>lvEq (F3_8_5 L c) ⟨rfl,rfl,rfl,rfl⟩⟩) (f0)
theorem stp3_9:StP cur3 3 9:=f1 (⟨_,fun d hd=>(f1 (List.mem_cons_self ..) (f0):∀ d ∈ [S3_5],d ∈ cur3 10) d hd,fun L c=>lvEq (F3_9_4 L c) ⟨rfl,rfl,rfl,rfl⟩⟩) (f0)
theorem stp3_10:StP cur3 3 10:=f1 (⟨_,fun d hd=>(f1 (List.mem_cons_self ..) (f0):∀ d ∈ [S3_4],d ∈ cur3 11) d hd,fun L c=>lvEq (F3_10_5 L c) ⟨rfl,rfl,rfl,rfl⟩⟩) (f0)
theorem stp3_11:StP cur3 3 11:=f1 (⟨_,fun d hd=>(f1 (List.mem_cons_self ..) (f0):∀ d ∈ [S3_5],d ∈ cur3 12) d hd,fun L c=>lvEq (F3_11_4 L c) ⟨rfl,rfl,rfl,rfl⟩⟩) (f0)
theorem stp3_12:StP cur3 3 12:=f1 (⟨_,fun d hd=>(f1 (List.mem_cons_self ..) (f0):∀ d ∈ [S3_4],d ∈ cur3 13) d hd,fun L c=>lvEq (F3_12_5 L c) ⟨rfl,rfl,rfl,rfl⟩⟩) (f0)
theorem stp3_13:StP cur3 3 13:=f1 (⟨_,fun d hd=>(f1 (List.mem_cons_self ..) (f0):∀ d ∈ [S3_5],d ∈ cur3 14) d hd,fun L c=>lvEq (F3_13_4 L c) ⟨rfl,rfl,rfl,rfl⟩⟩) (f0)
theorem stp3_14:StP cur3 3 14:=f1 (⟨_,fun d hd=>(f1 (List.mem_cons_self ..) (f0):∀ d ∈ [S3_4],d ∈ cur3 15) d hd,fun L c=>lvEq (F3_14_5 L c) ⟨rfl,rfl,rfl,rfl⟩⟩) (f0)
theorem stp3_15:StP cur3 3 15:=f1 (⟨_,fun d hd=>(f1 (List.mem_cons_self ..) (f0):∀ d ∈ [S3_5],d ∈ cur3 16) d hd,fun L c=>lvEq (F3_15_4 L c) ⟨rfl,rfl,rfl,rfl⟩⟩) (f0)
theorem stp3_16:StP cur3 3 16:=f1 (⟨_,fun d hd=>(f1 (List.mem_cons_self ..) (f0):∀ d ∈ [S3_4],d ∈ cur3 17) d hd,fun L c=>lvEq (F3_16_5 L c) ⟨rfl,rfl,rfl,rfl⟩⟩) (f0)
theorem stp3_17:StP cur3 3 17:=f1 (⟨_,fun d hd=>(f1 (List.mem_cons_self ..) (f0):∀ d ∈ [S3_5],d ∈ cur3 18) d hd,fun L c=>lvEq (F3_17_4 L c) ⟨rfl,rfl,rfl,rfl⟩⟩) (f0)
theorem stp3_18:StP cur3 3 18:=f1 (⟨_,fun d hd=>(f1 (List.mem_cons_self ..) (f0):∀ d ∈ [S3_4],d ∈ cur3 19) d hd,fun L c=>lvEq (F3_18_5 L c) ⟨rfl,rfl,rfl,rfl⟩⟩) (f0)
theorem stp3_19:StP cur3 3 19:=f1 (⟨_,fun d hd=>(f1 (List.mem_cons_self ..) (f0):∀ d ∈ [S3_5],d ∈ cur3 20) d hd,fun L c=>lvEq (F3_19_4 L c) ⟨rfl,rfl,rfl,rfl⟩⟩) (f0)
theorem stps3 (i:Nat) (hi:i < 20):StP cur3 3 i:=by
 match i,hi with
 | 0,_=>exact stp3_0
 | 1,_=>exact stp3_1
 | 2,_=>exact stp3_2
 | 3,_=>exact stp3_3
 | 4,_=>exact stp3_4
 | 5,_=>exact stp3_5
 | 6,_=>exact stp3_6
 | 7,_=>exact stp3_7
 | 8,_=>exact stp3_8
 | 9,_=>exact stp3_9
 | 10,_=>exact stp3_10
 | 11,_=>exact stp3_11
 | 12,_=>exact stp3_12
 | 13,_=>exact stp3_13
 | 14,_=>exact stp3_14
 | 15,_=>exact stp3_15
 | 16,_=>exact stp3_16
 | 17,_=>exact stp3_17
 | 18,_=>exact stp3_18
 | 19,_=>exact stp3_19
 | _ + 20,h=>exact absurd h (by omega)
theorem facts3:∃ cur,WFacts 3 cur:=⟨cur3,⟨S3_0,List.mem_cons_self ..,Made3⟩,wfs3,stps3,fins3⟩
noncomputable def cur4:Nat→List Vm.St
 | 0=>[S4_0]
 | 1=>[S4_1,S4_2]
 | 2=>[S4_3]
 | 3=>[S4_4]
 | 4=>[S4_5]
 | 5=>[S4_4]
 | 6=>[S4_5]
 | 7=>[S4_4]
 | 8=>[S4_5]
 | 9=>[S4_4]
 | 10=>[S4_5]
 | 11=>[S4_4]
 | 12=>[S4_5]
 | 13=>[S4_4]
 | 14=>[S4_5]
 | 15=>[S4_4]
 | 16=>[S4_5]
 | 17=>[S4_4]
 | 18=>[S4_5]
 | 19=>[S4_4]
 | 20=>[S4_5]
 | _=>[]
theorem wf4_0:Wf S4_0:=⟨S4_0_good,rfl,rfl⟩
theorem wf4_1:Wf S4_1:=⟨S4_1_good,rfl,rfl⟩
theorem wf4_2:Wf S4_2:=⟨S4_2_good,rfl,rfl⟩
theorem wf4_3:Wf S4_3:=⟨S4_3_good,rfl,rfl⟩
theorem wf4_4:Wf S4_4:=⟨S4_4_good,rfl,rfl⟩
theorem wf4_5:Wf S4_5:=⟨S4_5_good,rfl,rfl⟩
theorem wfs4:∀ i,∀ S ∈ cur4 i,Wf S
 | 0=>f1 (wf4_0) (f0)
 | 1=>f1 (wf4_1) (f1 (wf4_2) (f0))
 | 2=>f1 (wf4_3) (f0)
 | 3=>f1 (wf4_4) (f0)
 | 4=>f1 (wf4_5) (f0)
 | 5=>f1 (wf4_4) (f0)
 | 6=>f1 (wf4_5) (f0)
 | 7=>f1 (wf4_4) (f0)
 | 8=>f1 (wf4_5) (f0)
 | 9=>f1 (wf4_4) (f0)
 | 10=>f1 (wf4_5) (f0)
 | 11=>f1 (wf4_4) (f0)
 | 12=>f1 (wf4_5) (f0)
 | 13=>f1 (wf4_4) (f0)
 | 14=>f1 (wf4_5) (f0)
 | 15=>f1 (wf4_4) (f0)
 | 16=>f1 (wf4_5) (f0)
 | 17=>f1 (wf4_4) (f0)
 | 18=>f1 (wf4_5) (f0)
 | 19=>f1 (wf4_4) (f0)
 | 20=>f1 (wf4_5) (f0)
 | _ + 21=>f0
theorem fins4:∀ i,∀ S ∈ cur4 i,(S.run fun hp=>evFin 4 hp) = .ok (.b true) hpE
 | 0=>f1 (Fin4_0) (f0)
 | 1=>f1 (Fin4_1) (f1 (Fin4_2) (f0))
 | 2=>f1 (Fin4_3) (f0)
 | 3=>f1 (Fin4_4) (f0)
 | 4=>f1 (Fin4_5) (f0)
 | 5=>f1 (Fin4_4) (f0)
 | 6=>f1 (Fin4_5) (f0)
 | 7=>f1 (Fin4_4) (f0)
 | 8=>f1 (Fin4_5) (f0)
 | 9=>f1 (Fin4_4) (f0)
 | 10=>f1 (Fin4_5) (f0)
 | 11=>f1 (Fin4_4) (f0)
 | 12=>f1 (Fin4_5) (f0)
 | 13=>f1 (Fin4_4) (f0)
 | 14=>f1 (Fin4_5) (f0)
 | 15=>f1 (Fin4_4) (f0)
 | 16=>f1 (Fin4_5) (f0)
 | 17=>f1 (Fin4_4) (f0)
 | 18=>f1 (Fin4_5) (f0)
 | 19=>f1 (Fin4_4) (f0)
 | 20=>f1 (Fin4_5) (f0)
 | _ + 21=>f0
theorem stp4_0:StP cur4 4 0:=f1 (⟨_,fun d hd=>(f1 (List.mem_cons_self ..) (f1 (List.mem_cons_of_mem _ (List.mem_cons_self ..)) (f0)):∀ d ∈ [S4_1,S4_2],d ∈ cur4 1) d hd,fun L c=>lvEq (F4_0_0 L c) ⟨rfl,rfl,rfl⟩⟩) (f0)
theorem stp4_1:StP cur4 4 1:=f1 (⟨_,fun d hd=>(f1 (List.mem_cons_self ..) (f0):∀ d ∈ [S4_3],d ∈ cur4 2) d hd,fun L c=>lvEq (F4_1_1 L c) ⟨rfl,rfl,rfl⟩⟩) (f1 (⟨_,fun d hd=>(f1 (List.mem_cons_self ..) (f0):∀ d ∈ [S4_3],d ∈ cur4 2) d hd,fun L c=>lvEq (F4_1_2 L c) ⟨rfl,rfl,rfl⟩⟩) (f0))
theorem stp4_2:StP cur4 4 2:=f1 (⟨_,fun d hd=>(f1 (List.mem_cons_self ..) (f0):∀ d ∈ [S4_4],d ∈ cur4 3) d hd,fun L c=>lvEq (F4_2_3 L c) ⟨rfl,rfl,rfl⟩⟩) (f0)
theorem stp4_3:StP cur4 4 3:=f1 (⟨_,fun d hd=>(f1 (List.mem_cons_self ..) (f0):∀ d ∈ [S4_5],d ∈ cur4 4) d hd,fun L c=>lvEq (F4_3_4 L c) ⟨rfl,rfl,rfl,rfl⟩⟩) (f0)
theorem stp4_4:StP cur4 4 4:=f1 (⟨_,fun d hd=>(f1 (List.mem_cons_self ..) (f0):∀ d ∈ [S4_4],d ∈ cur4 5) d hd,fun L c=>lvEq (F4_4_5 L c) ⟨rfl,rfl,rfl,rfl⟩⟩) (f0)
theorem stp4_5:StP cur4 4 5:=f1 (⟨_,fun d hd=>(f1 (List.mem_cons_self ..) (f0):∀ d ∈ [S4_5],d ∈ cur4 6) d hd,fun L c=>lvEq (F4_5_4 L c) ⟨rfl,rfl,rfl,rfl⟩⟩) (f0)
theorem stp4_6:StP cur4 4 6:=f1 (⟨_,fun d hd=>(f1 (List.mem_cons_self ..) (f0):∀ d ∈ [S4_4],d ∈ cur4 7) d hd,fun L c=>lvEq (F4_6_5 L c) ⟨rfl,rfl,rfl,rfl⟩⟩) (f0)
theorem stp4_7:StP cur4 4 7:=f1 (⟨_,fun d hd=>(f1 (List.mem_cons_self ..) (f0):∀ d ∈ [S4_5],d ∈ cur4 8) d hd,fun L c=>lvEq (F4_7_4 L c) ⟨rfl,rfl,rfl,rfl⟩⟩) (f0)
theorem stp4_8:StP cur4 4 8:=f1 (⟨_,fun d hd=>(f1 (List.mem_cons_self ..) (f0):∀ d ∈ [S4_4],d ∈ cur4 9) d hd,fun L c=>lvEq (F4_8_5 L c) ⟨rfl,rfl,rfl,rfl⟩⟩) (f0)
theorem stp4_9:StP cur4 4 9:=f1 (⟨_,fun d hd=>(f1 (List.mem_cons_self ..) (f0):∀ d ∈ [S4_5],d ∈ cur4 10) d hd,fun L c=>lvEq (F4_9_4 L c) ⟨rfl,rfl,rfl,rfl⟩⟩) (f0)
theorem stp4_10:StP cur4 4 10:=f1 (⟨_,fun d hd=>(f1 (List.mem_cons_self ..) (f0):∀ d ∈ [S4_4],d ∈ cur4 11) d hd,fun L c=>lvEq (F4_10_5 L c) ⟨rfl,rfl,rfl,rfl⟩⟩) (f0)
theorem stp4_11:StP cur4 4 11:=f1 (⟨_,fun d hd=>(f1 (List.mem_cons_self ..) (f0):∀ d ∈ [S4_5],d ∈ cur4 12) d hd,fun L c=>lvEq (F4_11_4 L c) ⟨rfl,rfl,rfl,rfl⟩⟩) (f0)
theorem stp4_12:StP cur4 4 12:=f1 (⟨_,fun d hd=>(f1 (List.mem_cons_self ..) (f0):∀ d ∈ [S4_4],d ∈ cur4 13) d hd,fun L c=>lvEq (F4_12_5 L c) ⟨rfl,rfl,rfl,rfl⟩⟩) (f0)
theorem stp4_13:StP cur4 4 13:=f1 (⟨_,fun d hd=>(f1 (List.mem_cons_self ..) (f0):∀ d ∈ [S4_5],d ∈ cur4 14) d hd,fun L c=>lvEq (F4_13_4 L c) ⟨rfl,rfl,rfl,rfl⟩⟩) (f0)
theorem stp4_14:StP cur4 4 14:=f1 (⟨_,fun d hd=>(f1 (List.mem_cons_self ..) (f0):∀ d ∈ [S4_4],d ∈ cur4 15) d hd,fun L c=>lvEq (F4_14_5 L c) ⟨rfl,rfl,rfl,rfl⟩⟩) (f0)
theorem stp4_15:StP cur4 4 15:=f1 (⟨_,fun d hd=>(f1 (List.mem_cons_self ..) (f0):∀ d ∈ [S4_5],d ∈ cur4 16) d hd,fun L c=>lvEq (F4_15_4 L c) ⟨rfl,rfl,rfl,rfl⟩⟩) (f0)
theorem stp4_16:StP cur4 4 16:=f1 (⟨_,fun d hd=>(f1 (List.mem_cons_self ..) (f0):∀ d ∈ [S4_4],d ∈ cur4 17) d hd,fun L c=>lvEq (F4_16_5 L c) ⟨rfl,rfl,rfl,rfl⟩⟩) (f0)
theorem stp4_17:StP cur4 4 17:=f1 (⟨_,fun d hd=>(f1 (List.mem_cons_self ..) (f0):∀ d ∈ [S4_5],d ∈ cur4 18) d hd,fun L c=>lvEq (F4_17_4 L c) ⟨rfl,rfl,rfl,rfl⟩⟩) (f0)
theorem stp4_18:StP cur4 4 18:=f1 (⟨_,fun d hd=>(f1 (List.mem_cons_self ..) (f0):∀ d ∈ [S4_4],d ∈ cur4 19) d hd,fun L c=>lvEq (F4_18_5 L c) ⟨rfl,rfl,rfl,rfl⟩⟩) (f0)
theorem stp4_19:StP cur4 4 19:=f1 (⟨_,fun d hd=>(f1 (List.mem_cons_self ..) (f0):∀ d ∈ [S4_5],d ∈ cur4 20) d hd,fun L c=>lvEq (F4_19_4 L c) ⟨rfl,rfl,rfl,rfl⟩⟩) (f0)
theorem stps4 (i:Nat) (hi:i < 20):StP cur4 4 i:=by
 match i,hi with
 | 0,_=>exact stp4_0
 | 1,_=>exact stp4_1
 | 2,_=>exact stp4_2
 | 3,_=>exact stp4_3
 | 4,_=>exact stp4_4
 | 5,_=>exact stp4_5
 | 6,_=>exact stp4_6
 | 7,_=>exact stp4_7
 | 8,_=>exact stp4_8
 | 9,_=>exact stp4_9
 | 10,_=>exact stp4_10
 | 11,_=>exact stp4_11
 | 12,_=>exact stp4_12
 | 13,_=>exact stp4_13
 | 14,_=>exact stp4_14
 | 15,_=>exact stp4_15
 | 16,_=>exact stp4_16
 | 17,_=>exact stp4_17
 | 18,_=>exact stp4_18
 | 19,_=>exact stp4_19
 | _ + 20,h=>exact absurd h (by omega)
theorem facts4:∃ cur,WFacts 4 cur:=⟨cur4,⟨S4_0,List.mem_cons_self ..,Made4⟩,wfs4,stps4,fins4⟩
end Go.Proofs.YtmpmildpioebhaaGreatDoor

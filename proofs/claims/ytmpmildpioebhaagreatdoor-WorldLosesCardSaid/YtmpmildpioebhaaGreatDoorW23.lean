/-
  The statement WorldLoses (law 23): where all letters are lost nobody decides anything. Part 23 of 30. No condition stands ahead of the statement. Parts of this text were printed by a program of ours.
-/
import Derived.Test.YtmpmildpioebhaaGreatDoorW11
import Derived.Test.YtmpmildpioebhaaGreatDoorW16
import Derived.Test.YtmpmildpioebhaaGreatDoorW18
import Derived.Test.YtmpmildpioebhaaGreatDoorW19
import Derived.Test.YtmpmildpioebhaaGreatDoorW20
import Derived.Test.YtmpmildpioebhaaGreatDoorW21
import Derived.Test.YtmpmildpioebhaaGreatDoorW22
set_option linter.all false
set_option maxRecDepth 100000
set_option maxHeartbeats 4000000
noncomputable section
namespace Go.Vm
open Go Go.Proofs.YtmpmildpioebhaaGreatDoor
noncomputable def hkPub:Hook:=hkT (pubT1 ++ pubT2 ++ pubT3 ++ pubT4)
theorem hkPub_ok:HookOk PR 51 hkPub:=hkT_ok fun e he=>by
 simp only [List.mem_append] at he
 rcases he with ((he | he) | he) | he
 ·exact pubT1_ok e he
 ·exact pubT2_ok e he
 ·exact pubT3_ok e he
 ·exact pubT4_ok e he
noncomputable def hooksT (f:Nat):Option Hook:=bif Nat.beq f 51 then some hkPub else bif Nat.beq f 232 then some hkLeader else bif Nat.beq f 88 then some hkRound else bif Nat.beq f 140 then some hkHeight else bif Nat.beq f 138 then some hkGood else bif Nat.beq f 139 then some hkAt else bif Nat.beq f 282 then some hkChunks else bif Nat.beq f 47 then some hkSorted else bif Nat.beq f 76 then some hkSha else none
noncomputable def pureT (f:Nat):Bool:=bif Nat.beq f 294 then true else bif Nat.beq f 233 then true else false
noncomputable def G0:Cfg:=⟨TB,hooksT,pureT⟩
theorem hk_step {f n:Nat} {k hk:Hook} {r:Option Hook} (h:(bif Nat.beq f n then some k else r) = some hk) (h1:HookOk PR n k) (h2:r = some hk→HookOk PR f hk):HookOk PR f hk:=by
 cases c:Nat.beq f n with
 | true=>rw [c] at h; injection h with h; subst h; have:=beq_ok c; subst this; exact h1
 | false=>rw [c] at h; exact h2 h
theorem G0_ok (n:Nat):CallOk PR (rn G0 n):=rn_sound follows_mixed TB_ok (fun f hk h=>hk_step h hkPub_ok fun h=>hk_step h hkLeader_ok fun h=>hk_step h hkRound_ok fun h=>hk_step h hkHeight_ok fun h=>hk_step h hkGood_ok fun h=>hk_step h hkAt_ok fun h=>hk_step h hkChunks_ok fun h=>hk_step h hkSorted_ok fun h=>hk_step h hkSha_ok fun h=>by cases h) n
end Go.Vm
namespace Go.Proofs.YtmpmildpioebhaaGreatDoor
open Go Go.Sh
open Go.Sh.Ty (reg)
theorem num3:toI64 ((numF (numB 3)).toNat:Int) = 3:=by decide +kernel
set_option maxHeartbeats 4000000 in
theorem Decode_spec {s:Sl} {l:List UInt8} {h:H} {k:T2 api_Mail Int→H→Prop} (hv:SV 1 h s l) (hl:l.take 8 = numB 3) (h8:8≤l.length) (hk:∀ r h',Ext h h'→k r h'):mail_Decode.b s k h:=by
 unfold mail_Decode.b
 refine (Sat.init h).box_ (fun t2 h1 hs1 _ hx1=>?_)
 refine ifb_i (fun _=>?_) (fun hc=>?_)
 ·refine hs1.st_ 0 rfl len_api_Mail (fun h2 hs2 _=>?_)
  refine hs2.ld_ 0 rfl ?_
  exact hk _ h2 hs2.fr
 ·have hlen:=hv.2.1
  have hc:¬ (262144:Int) < s.len:=by simpa using hc
  refine hs1.newR (hv.ext hx1) (by omega) (fun p B h2 hs2=>?_)
  refine hs2.in_ 0 rfl (fun v o' h3 hs3 hvv=>?_)
  have hv3:v = 3:=by
   have:=hvv l rfl h8 (by rw [hl,num3]; decide) (by rw [hl,num3]; decide)
   rw [this.1,hl,num3]
  subst hv3
  refine hs3.box_ (fun m h4 hs4 _ _=>?_)
  refine hs4.st_ 0 rfl len_api_Mail (fun h5 hs5 _=>?_)
  refine hs5.ld_ 0 rfl ?_
  refine ifb_i (fun hc=>absurd hc (by decide)) (fun _=>?_)
  refine ifb_i (fun hc=>absurd hc (by decide)) (fun _=>?_)
  refine ifb_i (fun _=>?_) (fun hc=>absurd hc (by decide))
  refine hs5.rreq_ 1 rfl (fun q o2 h6 hs6=>?_)
  refine hs6.st_ 0 rfl len_api_Mail (fun h7 hs7 _=>?_)
  unfold mail_Decode.j1
  refine hs7.rend_ 1 rfl (fun b=>?_)
  refine ifb_i (fun _=>?_) (fun _=>?_)
  ·refine hs7.st_ 2 rfl len_api_Mail (fun h8 hs8 _=>?_)
   refine hs8.ld_ 2 rfl ?_
   exact hk _ h8 hs8.fr
  ·refine hs7.ld_ 0 rfl ?_
   refine hs7.st_ 2 rfl len_api_Mail (fun h8 hs8 _=>?_)
   refine hs8.ld_ 2 rfl ?_
   exact hk _ h8 hs8.fr
theorem Body_spec {p:Addr} {sl:Sl} {bs:List UInt8} {m:api_Mail} {h:H} {k:Bool→H→Prop} (hm:m.Kind = 3) (hw:WrA p sl bs h) (hbig:bs.length + reqN m.Request < 2 ^ 39)
  (hk:∀ sl' h',Fr (p.block :: blk sl) h h'→WrA p sl' (bs ++ reqB m.Request) h'→(∀ b ∈ blk sl',b < h'.size∧(b ∈ p.block :: blk sl∨h.size≤b))→k true h'):mail_body.b (some p) m k h:=by
 unfold mail_body.b
 have hs:Sat h (p.block :: blk sl) h [wrt p sl bs]:=Sat.init1 (e:=wrt p sl bs) hw (wrt_loc _ _ _) hw.lt
 refine hs.box_ (fun m1 h1 hs1 _ hx=>?_)
 refine hs1.ld_ 0 rfl ?_
 rw [hm]
 refine ifb_i (fun hc=>absurd hc (by decide)) (fun _=>?_)
 refine ifb_i (fun hc=>absurd hc (by decide)) (fun _=>?_)
 refine ifb_i (fun _=>?_) (fun hc=>absurd hc (by decide))
 refine hs1.ld_ 0 rfl ?_
 have hw1:WrA p sl bs h1:=hs1.at_ (i:=1) rfl
 refine request_Write.ok _ _ _ _ (Req_spec p sl bs m.Request hw1 hbig (fun sl' h2 hf hw2 hb2=>?_))
 unfold mail_body.j1
 refine hk sl' h2 (Fr.trans (hx.mono (by simp)) hf (fun x hx=>.inl hx)) hw2 (fun b hb=>⟨(hb2 b hb).1,?_⟩)
 rcases (hb2 b hb).2 with h | h
 ·exact .inl h
 ·exact .inr (Nat.le_trans hx.size h)
set_option maxHeartbeats 4000000 in
theorem Encode_spec {m:api_Mail} {h:H} {k:T2 Sl Int→H→Prop} (hm:m.Kind = 3) (hbig:reqN m.Request < 2 ^ 38)
  (hk:∀ s e h',Ext h h'→(e = 0→∃ l:List UInt8,SV 1 h' s l∧l.length≤262144)→k ⟨s,e⟩ h'):mail_Encode.b m k h:=by
 unfold mail_Encode.b
 refine (Sat.init h).box_ (fun m1 h1 hs1 _ hx1=>?_)
 refine hs1.newW (fun w h2 hs2=>?_)
 refine hs2.ld_ 1 rfl ?_
 refine hs2.mks_ (n:=1) (fun s1 h3 hs3 _ _=>?_)
 refine hs3.num_ 1 rfl (hs3.ownSV 0 rfl len_i) (hs3.disj (i:=0) (j:=1) rfl rfl (by decide)) (by simp) (fun sl1 h4 hs4=>?_)
 refine hs4.ld_ 2 rfl ?_
 have hw4:WrA w sl1 _ h4:=hs4.at_ (i:=1) rfl
 have e1:([] ++ ([m.Kind].map numB).flatten:List UInt8) = numB 3:=by rw [hm]; rfl
 rw [e1] at hw4 hs4
 refine mail_body.ok _ _ _ _ (Body_spec hm hw4 (by rw [numB_len]; omega) (fun sl2 h5 hf5 hw5 hb5=>?_))
 have hs5:=hs4.upd (i:=1) rfl hf5 hw5 (wrt_loc _ _ _) (by
  intro b hb
  simp only [wrt,List.mem_cons] at hb ⊢
  rcases hb with rfl | hb
  ·exact ⟨hw5.1.lt,.inl (.inl rfl)⟩
  ·simpa using hb5 b hb)
 refine ifb_i (fun hc=>by cases hc) (fun _=>?_)
 have hbl:(numB 3 ++ reqB m.Request).length = 8 + reqN m.Request:=by rw [List.length_append,numB_len,reqB_len]
 refine hs5.bytes_ 1 rfl (by intro e; rw [e] at hbl; simp at hbl; omega) (by rw [hbl]; omega) (fun r h6 hs6=>?_)
 have hvr:=hs6.ownSV 0 rfl len_u8
 refine ifb_i (fun _=>hk _ _ h6 hs6.fr (fun e=>by cases e)) (fun hc=>?_)
 have hc:¬ (262144:Int) < r.len:=by simpa using hc
 have hrl:=hvr.2.1
 refine mail_Decode.ok _ _ _ (Decode_spec hvr (by rw [List.take_append_of_le_length (by rw [numB_len]; exact Nat.le_refl _)]; exact List.take_of_length_le (by rw [numB_len]; exact Nat.le_refl _)) (by rw [hbl]; omega) (fun rr h7 hx7=>?_))
 have hs7:=hs6.ext hx7
 refine hs7.box_ (fun t6 h8 hs8 _ _=>?_)
 refine hs8.st_ 0 rfl len_api_Mail (fun h9 hs9 _=>?_)
 refine ifb_i (fun _=>hk _ _ h9 hs9.fr (fun e=>by cases e)) (fun _=>?_)
 exact hk _ _ h9 hs9.fr (fun _=>⟨_,hs9.ownSV 1 rfl len_u8,by omega⟩)
theorem Post_spec {m:api_Mail} {h:H} {k:Sl→H→Prop} (hm:m.Kind = 3) (hbig:reqN m.Request < 2 ^ 38)
  (hk0:∀ h',Ext h h'→k Sl.nil h') (hk1:∀ h' h2 p (f:ByteArray),Ext h h'→f.size≤262144→p = ⟨h'.size,0,none⟩→h2 = newC h' 160 (enc ({ api_Post.zero with Frame:=f }:api_Post))→k ⟨some p,1,1⟩ h2):client_post.b m k h:=by
 unfold client_post.b
 refine (Sat.init h).box_ (fun m1 h1 hs1 _ hx1=>?_)
 refine hs1.ld_ 0 rfl ?_
 refine mail_Encode.ok _ _ _ (Encode_spec hm hbig (fun s e h2 hx2 hsv=>?_))
 have hx:Ext h h2:=hx1.trans hx2
 refine ifb_i (fun _=>hk0 h2 hx) (fun hc=>?_)
 have he:e = 0:=by simpa using hc
 obtain ⟨l,hv,hl⟩:=hsv he
 refine b2s_i hv ?_
 intro p s' hp hs'
 subst hs'
 refine hk1 h2 _ p ⟨l.toArray⟩ hx (by simpa [ByteArray.size] using hl) hp ?_
 simp
end Go.Proofs.YtmpmildpioebhaaGreatDoor
namespace Go.Vm
open Go Go.Sh
open Go.Sh.Ty (reg)
noncomputable def dig32:CL AV→CL AV:=fun t=>Nat.rec (motive:=fun _=>CL AV) t (fun _ ih=>.cons 1 (.o 3) ih) 32
noncomputable def opT (t:CL AV):CL AV:=.cons 1 (.o 1) (.cons 1 (.o 0) (.cons 1 (.o 0) (.cons 1 (.o 0) (.cons 1 (.o 1) (.cons 1 (.o 1) (.cons 1 (.o 1) (dig32 (.cons 1 (.o 1) t))))))))
noncomputable def reqT (t:CL AV):CL AV:=.cons 1 (.o 1) (.cons 1 (.o 1) (opT t))
noncomputable def opC:CL AV:=opT .nil
end Go.Vm
namespace Go.Proofs.YtmpmildpioebhaaGreatDoor
open Go Go.Sh Go.Vm
open Go.Sh.Ty (reg)
section
variable {θ:Th}
theorem sC_vac {c a:CL AV} {vs:List Value} (h:sC rows0 c a = true) (hv:RC θ a vs):RC θ c vs:=sC_ok (θ:=θ) (fun s r e=>by rw [sgm_rows0] at e; cases e) h hv
theorem rc_o {k:Nat} {t:CL AV} {vs:List Value} (h:RC θ (.cons 1 (.o k) t) vs):∃ V r,vs = V :: r∧Uk k V∧RC θ t r:=by
 obtain ⟨v1,v2,e,h1,h2⟩:=h
 rcases h1 with ⟨x,e,_⟩ | ⟨_,_,V,e1,hF⟩
 ·cases e
 ·subst e1
  exact ⟨V,v2,e,hF.ra (v:=.o k) trivial,h2⟩
theorem rc_i {t:CL AV} {vs:List Value} (h:RC θ (.cons 1 (.o 1) t) vs):∃ (n:Int) (r:List Value),vs = enc n ++ r∧RC θ t r:=by
 obtain ⟨V,r,e,⟨n,_,rfl⟩,h2⟩:=rc_o h
 exact ⟨n,r,e,h2⟩
theorem rc_s {t:CL AV} {vs:List Value} (h:RC θ (.cons 1 (.o 0) t) vs):∃ (s:ByteArray) (r:List Value),vs = enc s ++ r∧s.size≤1048576∧RC θ t r:=by
 obtain ⟨V,r,e,⟨s,hs,rfl⟩,h2⟩:=rc_o h
 exact ⟨s,r,e,hs,h2⟩
theorem rc_dn (N:Nat) {t:CL AV}:∀ {vs:List Value},RC θ (Nat.rec (motive:=fun _=>CL AV) t (fun _ ih=>.cons 1 (.o 3) ih) N) vs→∃ (l:List UInt8) (r:List Value),l.length = N∧vs = l.map (reg:UInt8→Value) ++ r∧RC θ t r:=by
 induction N with
 | zero=>intro vs h; exact ⟨[],vs,rfl,rfl,h⟩
 | succ N ih=>
  intro vs h
  obtain ⟨V,r,e,⟨n,hn,rfl⟩,h2⟩:=rc_o h
  obtain ⟨l,r2,hl,e2,h3⟩:=ih h2
  refine ⟨UInt8.ofNat n :: l,r2,by simp [hl],?_,h3⟩
  rw [e,e2,List.map_cons,List.cons_append]
  congr 1
  show Value.int .u8 (n:Int) = .int .u8 ((UInt8.ofNat n).toNat:Int)
  rw [UInt8.toNat_ofNat_of_lt' (by simpa using hn)]
theorem rc_d {t:CL AV} {vs:List Value} (h:RC θ (dig32 t) vs):∃ (d:Arr 32 UInt8) (r:List Value),vs = enc d ++ r∧RC θ t r:=by
 obtain ⟨l,r,hl,e,h2⟩:=rc_dn 32 h
 exact ⟨arrOf l,r,by rw [enc_arrOf l hl]; exact e,h2⟩
theorem rc_op {t:CL AV} {vs:List Value} (h:RC θ (opT t) vs):∃ (x:api_Op) (r:List Value),vs = enc x ++ r∧x.Key.size≤1048576∧x.Val.size≤1048576∧x.Old.size≤1048576∧RC θ t r:=by
 obtain ⟨a1,r1,e1,h⟩:=rc_i h
 obtain ⟨a2,r2,e2,s2,h⟩:=rc_s h
 obtain ⟨a3,r3,e3,s3,h⟩:=rc_s h
 obtain ⟨a4,r4,e4,s4,h⟩:=rc_s h
 obtain ⟨a5,r5,e5,h⟩:=rc_i h
 obtain ⟨a6,r6,e6,h⟩:=rc_i h
 obtain ⟨a7,r7,e7,h⟩:=rc_i h
 obtain ⟨a8,r8,e8,h⟩:=rc_d h
 obtain ⟨a9,r9,e9,h⟩:=rc_i h
 refine ⟨⟨a1,a2,a3,a4,⟨a5,a6,a7,⟨a8,a9⟩⟩⟩,r9,?_,s2,s3,s4,h⟩
 rw [e1,e2,e3,e4,e5,e6,e7,e8,e9,enc_api_Op,enc_api_Change,enc_api_Key]
 simp only [List.append_assoc]
theorem rc_req {t:CL AV} {vs:List Value} (h:RC θ (reqT t) vs):∃ (x:api_Request) (r:List Value),vs = enc x ++ r∧reqN x≤100 + 3 * 1048576∧RC θ t r:=by
 obtain ⟨a1,r1,e1,h⟩:=rc_i h
 obtain ⟨a2,r2,e2,h⟩:=rc_i h
 obtain ⟨o,r3,e3,s1,s2,s3,h⟩:=rc_op h
 refine ⟨⟨a1,a2,o⟩,r3,?_,by unfold reqN; dsimp only; omega,h⟩
 rw [e1,e2,e3,enc_api_Request]
 simp only [List.append_assoc]
def cstV:CL AV→List Value
 | .cons _ (.i n) t=>.int .i64 (IntKind.i64.wrap n) :: cstV t
 | .cons w (.bs _ x) t=>byV w x ++ cstV t
 | .cons _ .sn t=>.slice none 0 0 :: cstV t
 | .cons _ (.s n x) t=>.string (byS n x) :: cstV t
 | _=>[]
def cstB:CL AV→Bool
 | .nil=>true
 | .cons _ (.i _) t=>cstB t
 | .cons _ (.bs _ _) t=>cstB t
 | .cons _ .sn t=>cstB t
 | .cons _ (.s _ _) t=>cstB t
 | _=>false
def apC:CL AV→CL AV→CL AV
 | .nil,m=>m
 | .cons w v t,m=>.cons w v (apC t m)
theorem rc_cst:∀ {l m:CL AV} {vs:List Value},cstB l = true→RC θ (apC l m) vs→∃ r,vs = cstV l ++ r∧RC θ m r
 | .nil,m,vs,_,h=>⟨vs,rfl,h⟩
 | .cons w v t,m,vs,hc,⟨v1,v2,e,h1,h2⟩=>by
  have step:∀ ws,cstB t = true→v1 = ws→cstV (.cons w v t) = ws ++ cstV t→∃ r,vs = cstV (.cons w v t) ++ r∧RC θ m r:=by
   intro ws ht e1 e2
   obtain ⟨r,q1,q2⟩:=rc_cst ht h2
   exact ⟨r,by rw [e,e1,q1,e2,List.append_assoc],q2⟩
  cases v <;> first | (exact absurd (show (false = true) from hc) Bool.false_ne_true) | skip
  ·rcases h1 with ⟨x,e,_⟩ | ⟨_,_,V,e1,hF⟩
   ·cases e
   ·exact step _ hc (by rw [e1,(hF.ra (v:=.i _) trivial).2]) rfl
  ·rcases h1 with ⟨x,e,_⟩ | ⟨_,_,V,e1,hF⟩
   ·cases e
   ·exact step _ hc (by rw [e1,(hF.ra (v:=.s _ _) trivial).2]) rfl
  ·rcases h1 with ⟨x,e,_⟩ | ⟨_,_,V,e1,hF⟩
   ·cases e
   ·exact step _ hc (by rw [e1,show V = _ from hF.ra (v:=.sn) trivial]) rfl
  ·rcases h1 with ⟨x,e,_,_,ev⟩ | ⟨_,_,V,e1,hF⟩
   ·cases e
    exact step _ hc ev rfl
   ·exact hF.noB.elim
end
end Go.Proofs.YtmpmildpioebhaaGreatDoor
namespace Go.Proofs.YtmpmildpioebhaaGreatDoor
open Go Go.Sh Go.Vm Go.RowKit
open Go.Sh.Ty (reg)
theorem short_spec {s : Sl} {xs : List ByteArray} {h : H} {k : Bool → H → Prop} (hv : SV 1 h s xs) (hn : xs.length < 2 ^ 40) (hk : ∀ b, k b h) : request_short.b s k h := by
  unfold request_short.b request_short.l1
  have hlen := hv.2.1
  refine ⟨fun (t : Int) h' => h' = h ∧ ∃ j : Nat, t = j ∧ j ≤ xs.length, fun t _ => (xs.length - t).toNat, ⟨rfl, 0, rfl, Nat.zero_le _⟩, ?_⟩
  rintro t h2 ⟨rfl, j, rfl, hj⟩
  refine ifb_i (fun hc => ?_) (fun hc => hk true)
  have hj' : j < xs.length := by have : (j : Int) < s.len := by simpa using hc
                                 omega
  have hgi : xs[j]? = some xs[j] := List.getElem?_eq_getElem hj'
  refine sidx_ld (fun _ => rfl) hv (Int.natCast_nonneg _) (by rw [Int.toNat_natCast]; exact hgi) ?_
  refine ifb_i (fun _ => hk false) (fun _ => ?_)
  have e : iadd (j : Int) 1 = ((j + 1 : Nat) : Int) := by rw [iadd_eq (by omega) (by omega)]; omega
  rw [e]
  exact ⟨⟨rfl, j + 1, rfl, hj'⟩, by dsimp only; omega⟩
theorem Good_spec {q:api_Request} {h:H} {k:Bool→H→Prop} (hk:∀ b h',Go.Sh.Ext h h'→k b h'):request_Good.b q k h:=by
 unfold request_Good.b
 refine (Sat.init h).box_ (fun q1 h1 hs1 _ _=>?_)
 refine hs1.ld_ 0 rfl ?_
 refine hs1.box_ (fun o h2 hs2 _ _=>?_)
 refine hs2.st_ 0 rfl len_api_Op (fun h3 hs3 _=>?_)
 refine hs3.ld_ 1 rfl (hs3.ld_ 1 rfl (hs3.ld_ 1 rfl (hs3.ld_ 1 rfl (hs3.ld_ 0 rfl (hs3.ld_ 0 rfl ?_)))))
 refine ifb_i (fun _=>?_) (fun _=>hk _ _ hs3.fr)
 refine hs3.ld_ 0 rfl (hs3.ld_ 0 rfl (hs3.ld_ 0 rfl ?_))
 refine hs3.mks_ (n:=1) (fun s h4 hs4 _ _=>?_)
 exact request_short.ok _ _ _ (short_spec (hs4.ownSV 0 rfl (fun _=>rfl)) (by simp) (fun b=>hk b h4 hs4.fr))
theorem fn54:FnOk Prog 54:=⟨_,Tryz.func54,by kernel_rfl,by kernel_rfl⟩
theorem fn55:FnOk Prog 55:=⟨_,Tryz.func55,by kernel_rfl,by kernel_rfl⟩
noncomputable def hkReq:Hook:=fun vs h q=>match vs with | [.a cs]=>bz (sC rows0 (reqT .nil) cs) (q (.o 2) h) (.er 251) | _=>.er 252
def zA:CL AV:=.cons 1 (.i 0) (.cons 1 (.i 0) (.cons 1 (.i 0) (.cons 1 (.i 0) (.cons 1 (.i 0) (.cons 1 (.i 0) (.cons 96 (.bs 96 0) (.cons 1 .sn (.cons 1 (.i 0) (.cons 1 (.i 0) (.cons 1 .sn (.cons 1 .sn (.cons 1 .sn (.cons 1 (.i 0) (.cons 1 (.i 0) (.cons 1 (.i 0) (.cons 1 (.i 0) (.cons 32 (.bs 32 0) (.cons 1 (.i 0) (.cons 1 (.i 0) (.cons 1 .sn (.cons 1 .sn (.cons 1 .sn .nil))))))))))))))))))))))
def zB:CL AV:=.cons 1 (.i 0) (.cons 1 (.i 0) (.cons 1 (.i 0) (.cons 1 .sn (.cons 1 (.i 0) (.cons 1 (.i 0) (.cons 1 (.i 0) (.cons 96 (.bs 96 0) (.cons 1 .sn (.cons 1 (.i 0) (.cons 1 .sn (.cons 1 .sn (.cons 1 .sn .nil))))))))))))
noncomputable def mailT:CL AV:=apC (.cons 1 (.i 3) zA) (reqT (apC zB .nil))
noncomputable def postC:CL AV:=.cons 1 (.i 0) (.cons 1 (.o 0) .nil)
noncomputable def hkPost:Hook:=fun vs h q=>match vs with | [.a cs]=>bz (sC rows0 mailT cs) (.br (q .sn h) (newS postC 1 2 h q)) (.er 253) | _=>.er 254
theorem agg_of {θ:Th} {cs:CL AV} {V:Value} (h:RV1 θ (.a cs) V):∃ vs,V = .agg (Array.mk vs)∧RC θ cs vs:=by
 rcases h with h | ⟨cs',vs,e,e2,hc⟩ | ⟨e,_⟩
 ·rcases h with h | ⟨_,_,_,_,_,e,_⟩
  ·exact h.elim
  ·cases e
 ·cases e; exact ⟨vs,e2,hc⟩
 ·cases e
theorem hkReq_ok:HookOk Prog 54 hkReq:=by
 intro X hX θ hp h args vals q S hr g
 refine ⟨fn54,?_⟩
 unfold hkReq at g
 split at g
 ·rename_i cs
  obtain ⟨V,rest,e,hV,hr2⟩:=hr
  have:rest = []:=hr2
  subst this; subst e
  obtain ⟨vs,rfl,hc⟩:=agg_of hV
  obtain ⟨c,g⟩:=bz_ok hX.gd g
  obtain ⟨x,r,e,_,hn⟩:=rc_req (sC_vac c hc)
  have:r = []:=hn
  subst this
  rw [List.append_nil] at e
  subst e
  refine (request_Good.ok x (fun b h'=>Go.Sh.Ext h h') h (Good_spec fun b h' hx=>hx)).mono ?_
  rintro v h' ⟨b,rfl,hx⟩
  exact ⟨θ,hp,.o 2,S.grow fun b hb=>⟨Nat.lt_of_lt_of_le hb hx.size,hx.same b hb (by simp)⟩,Go.Vm.Ext.refl _ _,Nat.le_refl _,.inl (.inl (.inl ⟨b,rfl⟩)),g⟩
 ·exact (hX.gd.er _ g).elim
section
variable {X:Go.Vm.Cx} {θ:Th} {hp:Hp} {h:H}
theorem newS_new (S:SR X θ hp h) (hX:CxOk X) {l:CL AV} {n z:Nat} {vs:List Value} {q:K1} (hl:RC θ l vs) (hlen:vs.length = n * z) (hz:0 < z) {T:Nat} (gg:X.G (newS l n z hp q)):Res X θ hp q (.slice (some ⟨h.size,0,none⟩) n n) (newC h T vs):=by
 unfold newS at gg
 obtain ⟨_,gg⟩:=bz_ok hX.gd gg
 have gg:=frC_ok hX.gd gg
 rw [frN_eq,frN_eq] at gg
 have gg:X.G (hnew hp (.c (n * z) l) fun r h=>q (.sl r 0 n z) h):=gg
 obtain ⟨nx',hnx,gg⟩:=hnew_ok S hX gg
 refine ⟨thUp θ hp.nx (h.size,0,n * z),_,_,S.add (x:=(h.size,0,n * z)) (row:=.c (n * z) l) hnx ?_ ?_ (fun b hbl _=>?_) (fun r y hr _ e=>?_) (fun hU=>?_) ?_,S.ext_new _,by show tor hp.nx≤tor nx'; omega,?_,gg⟩
 ·simp [newC]
 ·simp [newC]
 ·simp only [newC]; rw [Array.getElem?_push_lt hbl]; simp [hbl]
 ·have:=S.blk r y hr
  have e:y.1 = h.size:=e
  omega
 ·have:=(S.keepU h.size hU).1; omega
 ·exact ⟨vs.toArray,T,(0,0),vs,by simp [newC],by show 0 + n * z = vs.toArray.size; simp [hlen],Nat.le_refl _,.inl rfl,RC.mono (thUp_ext S.nx_none _) hl,hlen,by show (vs.drop 0).take (n * z) = vs; rw [List.drop_zero]; exact List.take_of_length_le (by omega)⟩
 ·exact rv_sl (o:=0) (thUp_same _ _ _) hz (by omega) (Nat.le_refl _)
end
theorem mail_enc (x:api_Request):enc ({ api_Mail.zero with Kind:=3,Request:=x }:api_Mail) = cstV (.cons 1 (.i 3) zA) ++ (enc x ++ (cstV zB ++ [])):=by
 have e1:cstV (.cons 1 (.i 3) zA) = enc (3:Int) ++ (enc api_Plan.zero ++ enc api_Vote.zero):=by kernel_rfl
 have e2:cstV zB = enc api_Reply.zero ++ (enc (0:Int) ++ (enc api_Block.zero ++ (enc api_Cert.zero ++ (enc Sl.nil ++ enc Sl.nil)))):=by kernel_rfl
 rw [e1,e2,List.append_nil,enc_api_Mail]
 simp only [List.append_assoc]
 rfl
theorem hkPost_ok:HookOk Prog 55 hkPost:=by
 intro X hX θ hp h args vals q S hr g
 refine ⟨fn55,?_⟩
 unfold hkPost at g
 split at g
 ·rename_i cs
  obtain ⟨V,rest,e,hV,hr2⟩:=hr
  have:rest = []:=hr2
  subst this; subst e
  obtain ⟨vs,rfl,hc⟩:=agg_of hV
  obtain ⟨c,g⟩:=bz_ok hX.gd g
  obtain ⟨g0,g1⟩:=hX.br _ _ g
  obtain ⟨r1,e1,h1⟩:=rc_cst (l:=.cons 1 (.i 3) zA) (by decide) (sC_vac c hc)
  obtain ⟨x,r2,e2,hN,h2⟩:=rc_req h1
  obtain ⟨r3,e3,h3⟩:=rc_cst (l:=zB) (by decide) h2
  have:r3 = []:=h3
  subst this
  have e:vs = enc ({ api_Mail.zero with Kind:=3,Request:=x }:api_Mail):=by rw [mail_enc,e1,e2,e3]
  subst e
  refine (client_post.ok ({ api_Mail.zero with Kind:=3,Request:=x }:api_Mail) (fun s h'=>Res X θ hp q (reg s) h') h (Post_spec rfl (by show reqN x < _; omega) ?_ ?_)).mono ?_
  ·intro h' hx
   exact ⟨θ,hp,.sn,S.grow fun b hb=>⟨Nat.lt_of_lt_of_le hb hx.size,hx.same b hb (by simp)⟩,Go.Vm.Ext.refl _ _,Nat.le_refl _,.inl (.inl (.inl rfl)),g0⟩
  ·intro h' h2 p f hx hf hp2 hh
   subst hp2; subst hh
   have S1:=S.grow (h':=h') fun b hb=>⟨Nat.lt_of_lt_of_le hb hx.size,hx.same b hb (by simp)⟩
   refine newS_new S1 hX (l:=postC) (n:=1) (z:=2) ?_ rfl (by decide) g1
   refine ⟨[_],_,rfl,RW.of (.inl ⟨by decide,rfl⟩) (by intro n e; cases e),[_],_,rfl,RW.of (.inl ⟨f,by omega,rfl⟩) (by intro n e; cases e),rfl⟩
  ·rintro v h' ⟨s,rfl,hs⟩
   exact hs
 ·exact (hX.gd.er _ g).elim
end Go.Proofs.YtmpmildpioebhaaGreatDoor
namespace Go.Vm
open Go Go.Proofs.YtmpmildpioebhaaGreatDoor
noncomputable def cdL (c:Code):Code:=match c with | .seq a _=>a | .block _ a=>a | .loop a=>a | c=>c
noncomputable def cdR (c:Code):Code:=match c with | .seq _ b=>b | c=>c
noncomputable def body3:Code:=Go.Proofs.Tryz.f3.body.getD .skip
noncomputable def tail3:Code:=cdR (cdR (cdR (cdR body3)))
noncomputable def it3:Code:=cdR (cdR (cdL (cdL (cdR (cdR (cdL (cdL (cdR (cdL tail3)))))))))
noncomputable def fin3:Code:=cdR tail3
noncomputable def GW:Cfg:=⟨TB,fun f=>bif Nat.beq f 54 then some hkReq else bif Nat.beq f 55 then some hkPost else hooksT f,pureT⟩
theorem GW_ok (n:Nat):CallOk PR (rn GW n):=rn_sound follows_mixed TB_ok (fun f hk h=>hk_step h hkReq_ok fun h=>hk_step h hkPost_ok fun h=>hk_step h hkPub_ok fun h=>hk_step h hkLeader_ok fun h=>hk_step h hkRound_ok fun h=>hk_step h hkHeight_ok fun h=>hk_step h hkGood_ok fun h=>hk_step h hkAt_ok fun h=>hk_step h hkChunks_ok fun h=>hk_step h hkSorted_ok fun h=>hk_step h hkSha_ok fun h=>by cases h) n
end Go.Vm
namespace Go.Vm
open Go Go.Sh Go.Proofs.YtmpmildpioebhaaGreatDoor
open Go.Sh.Ty (reg)
def lv (v:AV):Ans→Prop
 | .ok x _=>x = v
 | .er _=>False
 | .br a b=>lv v a∧lv v b
def XW (h0:H) (n0:Nat) (v:AV):Cx:=⟨fun b=>b < n0,h0,fun _=>none,none,lv v⟩
theorem XW_ok {h0:H} {n0:Nat} {v:AV} (h1:0 < n0) (h2:AtH h0 ⟨0,0,none⟩ shaTab):CxOk (XW h0 n0 v) where
 gd:=⟨fun n h=>h⟩
 mg:=fun h=>absurd rfl h
 br:=fun a b h=>h
 gl:=⟨h1,h2⟩
theorem SR.chG {h0:H} {n0:Nat} {v v':AV} {θ:Th} {hp:Hp} {h:H} (S:SR (XW h0 n0 v) θ hp h):SR (XW h0 n0 v') θ hp h:=
 ⟨S.rows,S.dist,S.fresh,S.own,S.keepU,S.kept,S.ro,S.blk⟩
noncomputable def okB (a:Ans):Bool:=match a with | .ok _ _=>true | _=>false
noncomputable def chk2 (D:List St) (hp:Hp) (vs:List AV) (k:Ans):Ans:=List.rec (motive:=fun _=>Ans) (.er 303) (fun d _ ih=>bz (okB (d.chk hp vs (.ok .u hpE))) (d.chk hp vs k) ih) D
theorem chk2_ok {G:Ans→Prop} (hG:Gd G) {hp:Hp} {vs:List AV} {k:Ans}:∀ {D:List St},G (chk2 D hp vs k)→∃ d ∈ D,G (d.chk hp vs k)
 | [],g=>(hG.er _ g).elim
 | d :: D,g=>by
  have g:G (bz (okB (d.chk hp vs (.ok .u hpE))) (d.chk hp vs k) (chk2 D hp vs k)):=g
  cases c:okB (d.chk hp vs (.ok .u hpE)) with
  | true=>rw [c] at g; exact ⟨d,List.mem_cons_self ..,g⟩
  | false=>
   rw [c] at g
   obtain ⟨d',h1,h2⟩:=chk2_ok hG (D:=D) g
   exact ⟨d',List.mem_cons_of_mem _ h1,h2⟩
noncomputable def envE:E:=fillN (fillN .er)
noncomputable def rid0:Rid:=⟨.d0,.d0,.d0,.d0⟩
noncomputable def keep (e:E):AV:=.t [(gE 30).f e,(gE 31).f e,(gE 32).f e,(gE 1).f e]
noncomputable def evW (n i L c:Nat) (D:List St) (hp:Hp):Ans:=hnew hp .no fun rs hp=>hnew hp (.c 40 opC) fun ro hp=>
 (sE 1).f envE (.i n) fun e=>(sE 5).f e (.p rid0 0) fun e=>(sE 7).f e (.i i) fun e=>(sE 8).f e (.p ro 0) fun e=>(sE 30).f e (.sr rs 0 L c 40) fun e=>(sE 31).f e (.i L) fun e=>(sE 32).f e (.i i) fun e=>
 (cC TB 81 400 it3).f (rn GW 60) e hp fun ex e h=>match ex with | .n=>chk2 D h [(gE 5).f e] (.ok (keep e) hpE) | _=>.er 400
noncomputable def evFin (n:Nat) (hp:Hp):Ans:=(sE 1).f envE (.i n) fun e=>(sE 5).f e (.p rid0 0) fun e=>
 (cC TB 81 400 fin3).f (rn GW 60) e hp fun ex e h=>match ex with | .r=>.ok ((gE 4).f e) hpE | _=>.er 402
noncomputable def evMd (D:List St) (v:AV) (hp:Hp):Ans:=match v with | .t [.p r o,.a (.cons 1 (.i e) (.cons 1 (.sl r2 o2 m z) .nil))]=>chk2 D hp [.p r o] (.ok .u hpE) | _=>.er 404
noncomputable def evMade (n:Nat) (D:List St):Ans:=(rn GW 60) 6 [.i n,.i n] hpE (evMd D)
noncomputable abbrev okW (C:St) (n i L c:Nat):Ans:=.ok (.t [.sr C.nx 0 L c 40,.i L,.i i,.i n]) hpE
theorem eGet_envE (t:Nat):eGet envE t = .er:=by
 show gN' (lo t) (gN' (hi t) (fillN (fillN AV.er))) = AV.er
 rw [gfill,gfill]
theorem RE.none {θ:Th} {ρ:Env}:RE θ envE ρ:=fun t _ h=>absurd (eGet_envE t) h
theorem RE.reg {θ:Th} {e:E} {ρ:Env} (h:RE θ e ρ) {d:Nat} (hd:d < 256) {v:AV} (hv:RV θ v (ρ d)):RE θ (eSet e d v) ρ:=by
 have h1:=RE.set h hd hv
 have e:up ρ d (ρ d) = ρ:=by
  funext t
  by_cases c:t = d
  ·subst c; simp [up]
  ·have:Nat.beq t d = false:=by
    cases h:Nat.beq t d with
    | false=>rfl
    | true=>exact absurd (beq_ok h) c
   unfold up; rw [this]; rfl
 rwa [e] at h1
theorem cW_ok {C:Ctx} (hP:C.P = PR) (hn:C.n = 81) {X:Cx} (hX:CxOk X) {θ:Th} {hp:Hp} {h:H} {e:E} {ρ:Env} {code:Code} {k:K2} {Q:Exit→Act→World→Prop}
  (S:SR X θ hp h) (he:RE θ e ρ) (g:X.G ((cC TB 81 400 code).f (rn GW 60) e hp k)) (hk:Kx C X θ hp k Q):CW C code Q ρ h:=by
 have hcl:CallOk C.P (rn GW 60):=by rw [hP]; exact GW_ok 60
 have hT:TbOk C.P TB:=by rw [hP]; exact TB_ok
 have hm:C.P.follows .mixedOrders = true:=by rw [hP]; exact follows_mixed
 have hnt:C.n≤256:=by rw [hn]; decide
 refine cC_ok hcl (drawOk hm hcl hT hnt) hX hT hnt 400 code S he ?_ hk
 rw [hn]; exact g
end Go.Vm
namespace Go.Vm
open Go Go.Sh
open Go.Sh.Ty (reg)
theorem SR.addDead {X:Cx} {θ:Th} {hp:Hp} {h:H} (S:SR X θ hp h) (hK:∀ r,X.K r = none) {x:Nat×Nat×Nat} {nx':Rid} (hnx:tor nx' = tor hp.nx + 1) (hx:x.1 < h.size):SR X (thUp θ hp.nx x) ⟨uR hp.rows hp.nx .no,nx',hp.ro⟩ h:=by
 have old:∀ {r y},r ≠ hp.nx→thUp θ hp.nx x r = some y→θ r = some y:=fun hn h=>by rwa [thUp_ne hn] at h
 have gs:∀ r',getH ⟨uR hp.rows hp.nx .no,nx',hp.ro⟩ r' = if r' = hp.nx then .no else getH hp r':=fun r'=>getH_set hp hp.nx .no r'
 have lv':∀ {r},live (getH ⟨uR hp.rows hp.nx .no,nx',hp.ro⟩ r)→r ≠ hp.nx∧live (getH hp r):=by
  intro r l
  rw [gs] at l
  by_cases e:r = hp.nx
  ·rw [if_pos e] at l; exact l.elim
  ·rw [if_neg e] at l; exact ⟨e,l⟩
 refine ⟨fun r' x' h1=>?_,fun r1 r2 x1 x2 h1 h2 l1 l2 hn=>?_,fun r' x' h1=>?_,fun r' x' h1 l1=>?_,S.keepU,fun r' row' h1=>(by rw [hK] at h1; cases h1),S.ro,fun r' x' h1=>?_⟩
 ·rw [gs]
  by_cases e:r' = hp.nx
  ·rw [if_pos e]; trivial
  ·rw [if_neg e]; exact (S.rows r' x' (old e h1)).mono (thUp_ext S.nx_none x)
 ·exact S.dist _ _ _ _ (old (lv' l1).1 h1) (old (lv' l2).1 h2) (lv' l1).2 (lv' l2).2 hn
 ·show tor r' < tor nx'
  by_cases e:r' = hp.nx
  ·rw [e]; omega
  ·have:=S.fresh _ _ (old e h1); omega
 ·exact S.own _ _ (old (lv' l1).1 h1) (lv' l1).2
 ·by_cases e:r' = hp.nx
  ·subst e; rw [thUp_same] at h1; cases h1; exact hx
  ·exact S.blk _ _ (old e h1)
end Go.Vm
namespace Go.Vm
open Go Go.Sh Go.Proofs.YtmpmildpioebhaaGreatDoor
open Go.Sh.Ty (reg)
structure Wf (S:Vm.St):Prop where
 good:S.good = true
 vs:S.vs = [.p rid0 0]
 rt:S.rt = [(rid0,0)]
theorem chk_rv1 {G:Ans→Prop} (hG:Gd G) {S:Vm.St} (hS:Wf S) {hp:Hp} {a:AV} {k:Ans} (g:G (S.chk hp [a] k)):(ptR a).isSome = true:=by
 unfold St.chk at g
 rw [hS.rt] at g
 have g:G (match ptR a with | some r=>put1 rows0 rid0 r fun T=>put1 rows0 r rid0 fun U=>mk1 hp S.par T U fun T U=>bz (an (sVs T S.vs [a]) (sLs T U S.nx hp S.L)) k (.er 302) | none=>.er 300):=g
 cases e:ptR a with
 | none=>rw [e] at g; exact (hG.er _ g).elim
 | some r=>rfl
theorem ptR_rv1 {θ:Th} {a:AV} {V:Value} (h:RV θ a V) (hp:(ptR a).isSome = true):RV1 θ a V:=h.rv1 fun l e=>by subst e; cases hp
theorem ptR_ne {a:AV} (hp:(ptR a).isSome = true):a ≠ .er:=fun e=>by subst e; cases hp
theorem lv_gd (v:AV):Gd (lv v):=⟨fun n h=>h⟩
theorem rv_i {θ:Th} (n:Nat) (hn:n < 2 ^ 62):RV θ (.i n) (reg ((n:Nat):Int)):=.inl (.inl (.inl ⟨by omega,by
 show Value.int .i64 (n:Int) = .int .i64 (IntKind.i64.wrap n)
 congr 1
 simp only [IntKind.wrap_i64]; omega⟩))
theorem rv_i_eq {θ:Th} {n:Nat} {V:Value} (hn:n < 2 ^ 62) (h:RV θ (.i n) V):V = reg ((n:Nat):Int):=by
 obtain ⟨_,e⟩:=h.ra (v:=.i n) trivial
 rw [e]
 show Value.int .i64 (IntKind.i64.wrap n) = .int .i64 (n:Int)
 congr 1
 simp only [IntKind.wrap_i64]; omega
theorem newRow_ok {X:Cx} {θ:Th} {hp:Hp} {h h':H} (S:SR X θ hp h) {l:CL AV} {vs:List Value} {L T:Nat} {nx':Rid} (hnx:tor nx' = tor hp.nx + 1) (hl:RC θ l vs) (hlen:vs.length = L) (hh:h' = newC h T vs):
  SR X (thUp θ hp.nx (h.size,0,L)) ⟨uR hp.rows hp.nx (.c L l),nx',hp.ro⟩ h':=by
 subst hh
 refine S.add (x:=(h.size,0,L)) (row:=.c L l) hnx ?_ ?_ (fun b hbl _=>?_) (fun r y hr _ e=>?_) (fun hU=>?_) ?_
 ·simp [newC]
 ·simp [newC]
 ·simp only [newC]; rw [Array.getElem?_push_lt hbl]; simp [hbl]
 ·have:=S.blk r y hr
  have e:y.1 = h.size:=e
  omega
 ·have:=(S.keepU h.size hU).1; omega
 ·exact ⟨vs.toArray,T,(0,0),vs,by simp [newC],by show 0 + L = vs.toArray.size; simp [hlen],Nat.le_refl _,.inl rfl,RC.mono (thUp_ext S.nx_none _) hl,hlen,by show (vs.drop 0).take L = vs; rw [List.drop_zero]; exact List.take_of_length_le (by omega)⟩
section
variable {C:Ctx} {h0:H} {n0:Nat} {ρ:Env} {Q:Exit→Act→World→Prop}
def Nxt (C:Ctx) (Q:Exit→Act→World→Prop) (h0:H) (n0:Nat) (D:List Vm.St) (n i:Nat) (ops:Sl):Prop:=
 ∀ d ∈ D,∀ (θ':Th) (h':H) (ρ':Env),SR (XW h0 n0 .u) θ' d.hp h'→RV θ' (.p rid0 0) (ρ' 5)→ρ' 30 = reg ops→ρ' 31 = reg ((ops.len:Nat):Int)→ρ' 32 = reg ((i:Nat):Int)→ρ' 1 = reg ((n:Nat):Int)→QN C Q .normal ρ' h'
theorem it_ok (hP:C.P = PR) (hn:C.n = 81) (h1:0 < n0) (h2:AtH h0 ⟨0,0,none⟩ shaTab) {S:Vm.St} {D:List Vm.St} (hD:∀ d ∈ D,Wf d) {n i:Nat} (hn4:n≤4) (hi:i≤20) {ops:Sl} {a:Addr} (ha:ops.a = some a) (has:a.spot = none) (hcap:ops.len≤ops.cap) (hlen:ops.len≤20) {θ:Th} {h h2':H}
  (hab:a.block < h.size) (F:lv (.t [.sr S.nx 0 ops.len ops.cap 40,.i ops.len,.i i,.i n]) (S.run fun hp=>evW n i ops.len ops.cap D hp))
  (SS:SR (XW h0 n0 .u) θ S.hp h) {vs:List Value} (hc:∀ θ,RC θ opC vs) (hvl:vs.length = 40) (hh:h2' = newC h 37 vs)
  (r1:ρ 1 = reg ((n:Nat):Int)) (r5:RV θ (.p rid0 0) (ρ 5)) (r7:ρ 7 = reg ((i:Nat):Int)) (r8:ρ 8 = .pointer (some ⟨h.size,0,none⟩)) (r30:ρ 30 = reg ops) (r31:ρ 31 = reg ((ops.len:Nat):Int)) (r32:ρ 32 = reg ((i:Nat):Int))
  (hk:Nxt C Q h0 n0 D n i ops):CW C it3 Q ρ h2':=by
 rw [St.run_eq] at F
 generalize hv:AV.t [.sr S.nx 0 ops.len ops.cap 40,.i ops.len,.i i,.i n] = v at F
 have S0:SR (XW h0 n0 v) θ S.hp h:=SS.chG
 have hX:CxOk (XW h0 n0 v):=XW_ok h1 h2
 unfold evW at F
 obtain ⟨nx1,e1,F⟩:=hnew_ok S0 hX (row:=.no) F
 have S1:=S0.addDead (fun _=>rfl) (x:=(a.block,a.off,0)) e1 hab
 obtain ⟨nx2,e2,F⟩:=hnew_ok S1 hX (row:=.c 40 opC) F
 have S2:=newRow_ok S1 e2 (hc _) hvl hh
 have x1:=S0.ext_new (a.block,a.off,0)
 have x2:=S1.ext_new (h.size,0,40)
 rw [sE_eq,sE_eq,sE_eq,sE_eq,sE_eq,sE_eq,sE_eq] at F
 refine cW_ok hP hn hX S2 ?_ F ?_
 ·refine RE.reg (RE.reg (RE.reg (RE.reg (RE.reg (RE.reg (RE.reg RE.none (by decide) ?_) (by decide) ?_) (by decide) ?_) (by decide) ?_) (by decide) ?_) (by decide) ?_) (by decide) ?_
  ·rw [r1]; exact rv_i n (by omega)
  ·exact RV.mono x2.1 (RV.mono x1.1 r5)
  ·rw [r7]; exact rv_i i (by omega)
  ·rw [r8]; exact rv_p (o0:=0) (o:=0) (thUp_same _ _ _)
  ·rw [r30]
   refine .inl (.inl (.inl ⟨a.block,a.off,0,x2.1 _ _ (thUp_same _ _ _),by decide,hcap,?_⟩))
   show Value.slice ops.a ops.len ops.cap = _
   rw [ha]
   cases a with
   | mk b o s=>cases has; rfl
  ·rw [r31]; exact rv_i _ (by omega)
  ·rw [r32]; exact rv_i i (by omega)
 ·intro ex θ3 hp3 h3 e3 ρ3 S3 hE hle he g
  cases ex with
  | n=>
   have g:lv v (chk2 D hp3 [(gE 5).f e3] (.ok (keep e3) hpE)):=g
   obtain ⟨d,hd,g⟩:=chk2_ok (lv_gd v) g
   have hwf:=hD d hd
   have hp5:=chk_rv1 (lv_gd v) hwf g
   obtain ⟨θS,S4,hrv,g⟩:=St.chk_ok S3 hX (fun _=>rfl) rfl hwf.good g
   have r5':=ptR_rv1 (he 5 (by decide) (ptR_ne hp5)) hp5
   have hvs:=hrv [ρ3 5] ⟨ρ3 5,[],rfl,r5',rfl⟩
   rw [hwf.vs] at hvs
   obtain ⟨V,r,e,hV,_⟩:=hvs
   injection e with e e'
   subst e
   have g:keep e3 = v:=g
   rw [← hv] at g
   unfold keep at g
   injection g with g
   injection g with g30 g
   injection g with g31 g
   injection g with g32 g
   injection g with g01 g
   have get:∀ t,t < 256→∀ w,(gE t).f e3 = w→w ≠ .er→RV θ3 w (ρ3 t):=fun t ht w hw hne=>by subst hw; exact he t ht hne
   refine hk d hd θS h3 ρ3 S4.chG hV.toRV ?_ ?_ ?_ ?_
   ·obtain ⟨b,o0,t,q1,q2,q3,q4⟩:=(get 30 (by decide) _ g30 (by intro e; cases e)).ra (v:=.sr S.nx 0 ops.len ops.cap 40) trivial
    have:=hE.1 _ _ (x2.1 _ _ (thUp_same θ S.nx (a.block,a.off,0)))
    rw [this] at q1
    cases q1
    rw [q4]
    show _ = Value.slice ops.a ops.len ops.cap
    rw [ha]
    cases a with
    | mk b o s=>cases has; rfl
   ·exact rv_i_eq (by omega) (get 31 (by decide) _ g31 (by intro e; cases e))
   ·exact rv_i_eq (by omega) (get 32 (by decide) _ g32 (by intro e; cases e))
   ·exact rv_i_eq (by omega) (get 1 (by decide) _ g01 (by intro e; cases e))
  | r=>exact (hX.gd.er _ g).elim
  | x id=>exact (hX.gd.er _ g).elim
  | g l=>exact (hX.gd.er _ g).elim
end
end Go.Vm
namespace Go.Vm
open Go
noncomputable abbrev zC (v:AV) (t:CL AV):CL AV:=.cons 1 v t
noncomputable abbrev zD (x:Nat) (t:CL AV):CL AV:=.cons 32 (.bs 32 x) t
noncomputable abbrev q0:Rid:=⟨.d0,.d0,.d0,.d0⟩
noncomputable abbrev q1:Rid:=⟨.d0,.d0,.d0,.d1⟩
noncomputable abbrev q2:Rid:=⟨.d0,.d0,.d0,.d2⟩
noncomputable abbrev q3:Rid:=⟨.d0,.d0,.d0,.d3⟩
noncomputable abbrev q4:Rid:=⟨.d0,.d0,.d0,.d4⟩
noncomputable abbrev q5:Rid:=⟨.d0,.d0,.d0,.d5⟩
noncomputable abbrev q6:Rid:=⟨.d0,.d0,.d0,.d6⟩
noncomputable abbrev q7:Rid:=⟨.d0,.d0,.d0,.d7⟩
noncomputable abbrev q8:Rid:=⟨.d0,.d0,.d0,.d8⟩
noncomputable abbrev q9:Rid:=⟨.d0,.d0,.d0,.d9⟩
noncomputable abbrev q10:Rid:=⟨.d0,.d0,.d0,.d10⟩
noncomputable abbrev q11:Rid:=⟨.d0,.d0,.d0,.d11⟩
noncomputable abbrev q12:Rid:=⟨.d0,.d0,.d0,.d12⟩
noncomputable abbrev q13:Rid:=⟨.d0,.d0,.d0,.d13⟩
noncomputable abbrev q14:Rid:=⟨.d0,.d0,.d0,.d14⟩
noncomputable abbrev q15:Rid:=⟨.d0,.d0,.d0,.d15⟩
noncomputable abbrev q16:Rid:=⟨.d0,.d0,.d1,.d0⟩
noncomputable abbrev q17:Rid:=⟨.d0,.d0,.d1,.d1⟩
noncomputable abbrev q18:Rid:=⟨.d0,.d0,.d1,.d2⟩
noncomputable abbrev q19:Rid:=⟨.d0,.d0,.d1,.d3⟩
noncomputable abbrev q20:Rid:=⟨.d0,.d0,.d1,.d4⟩
noncomputable abbrev q21:Rid:=⟨.d0,.d0,.d1,.d5⟩
noncomputable abbrev q22:Rid:=⟨.d0,.d0,.d1,.d6⟩
noncomputable abbrev q23:Rid:=⟨.d0,.d0,.d1,.d7⟩
noncomputable abbrev q24:Rid:=⟨.d0,.d0,.d1,.d8⟩
noncomputable abbrev q25:Rid:=⟨.d0,.d0,.d1,.d9⟩
noncomputable abbrev q26:Rid:=⟨.d0,.d0,.d1,.d10⟩
noncomputable abbrev q27:Rid:=⟨.d0,.d0,.d1,.d11⟩
noncomputable abbrev q28:Rid:=⟨.d0,.d0,.d1,.d12⟩
noncomputable abbrev q29:Rid:=⟨.d0,.d0,.d1,.d13⟩
noncomputable abbrev q30:Rid:=⟨.d0,.d0,.d1,.d14⟩
noncomputable abbrev q31:Rid:=⟨.d0,.d0,.d1,.d15⟩
noncomputable abbrev q32:Rid:=⟨.d0,.d0,.d2,.d0⟩
noncomputable abbrev q33:Rid:=⟨.d0,.d0,.d2,.d1⟩
noncomputable abbrev q34:Rid:=⟨.d0,.d0,.d2,.d2⟩
noncomputable abbrev q35:Rid:=⟨.d0,.d0,.d2,.d3⟩
noncomputable abbrev q36:Rid:=⟨.d0,.d0,.d2,.d4⟩
noncomputable abbrev q37:Rid:=⟨.d0,.d0,.d2,.d5⟩
noncomputable abbrev q38:Rid:=⟨.d0,.d0,.d2,.d6⟩
noncomputable abbrev q39:Rid:=⟨.d0,.d0,.d2,.d7⟩
noncomputable abbrev q40:Rid:=⟨.d0,.d0,.d2,.d8⟩
noncomputable abbrev q41:Rid:=⟨.d0,.d0,.d2,.d9⟩
noncomputable abbrev q42:Rid:=⟨.d0,.d0,.d2,.d10⟩
noncomputable abbrev q43:Rid:=⟨.d0,.d0,.d2,.d11⟩
noncomputable abbrev q44:Rid:=⟨.d0,.d0,.d2,.d12⟩
noncomputable abbrev q45:Rid:=⟨.d0,.d0,.d2,.d13⟩
noncomputable abbrev q46:Rid:=⟨.d0,.d0,.d2,.d14⟩
noncomputable abbrev q47:Rid:=⟨.d0,.d0,.d2,.d15⟩
noncomputable abbrev q48:Rid:=⟨.d0,.d0,.d3,.d0⟩
noncomputable abbrev q49:Rid:=⟨.d0,.d0,.d3,.d1⟩
noncomputable abbrev q50:Rid:=⟨.d0,.d0,.d3,.d2⟩
noncomputable abbrev q51:Rid:=⟨.d0,.d0,.d3,.d3⟩
noncomputable abbrev q52:Rid:=⟨.d0,.d0,.d3,.d4⟩
noncomputable abbrev q53:Rid:=⟨.d0,.d0,.d3,.d5⟩
noncomputable abbrev q54:Rid:=⟨.d0,.d0,.d3,.d6⟩
noncomputable abbrev q55:Rid:=⟨.d0,.d0,.d3,.d7⟩
noncomputable abbrev q56:Rid:=⟨.d0,.d0,.d3,.d8⟩
noncomputable abbrev q57:Rid:=⟨.d0,.d0,.d3,.d9⟩
noncomputable abbrev q58:Rid:=⟨.d0,.d0,.d3,.d10⟩
noncomputable abbrev q59:Rid:=⟨.d0,.d0,.d3,.d11⟩
noncomputable abbrev q60:Rid:=⟨.d0,.d0,.d3,.d12⟩
noncomputable abbrev q61:Rid:=⟨.d0,.d0,.d3,.d13⟩
noncomputable abbrev q62:Rid:=⟨.d0,.d0,.d3,.d14⟩
noncomputable abbrev q63:Rid:=⟨.d0,.d0,.d3,.d15⟩
noncomputable abbrev q64:Rid:=⟨.d0,.d0,.d4,.d0⟩
noncomputable abbrev q65:Rid:=⟨.d0,.d0,.d4,.d1⟩
noncomputable abbrev q66:Rid:=⟨.d0,.d0,.d4,.d2⟩
noncomputable abbrev q67:Rid:=⟨.d0,.d0,.d4,.d3⟩
noncomputable abbrev q68:Rid:=⟨.d0,.d0,.d4,.d4⟩
noncomputable abbrev q69:Rid:=⟨.d0,.d0,.d4,.d5⟩
noncomputable abbrev q70:Rid:=⟨.d0,.d0,.d4,.d6⟩
noncomputable abbrev q71:Rid:=⟨.d0,.d0,.d4,.d7⟩
noncomputable abbrev q72:Rid:=⟨.d0,.d0,.d4,.d8⟩
noncomputable abbrev q73:Rid:=⟨.d0,.d0,.d4,.d9⟩
noncomputable abbrev q74:Rid:=⟨.d0,.d0,.d4,.d10⟩
noncomputable abbrev q75:Rid:=⟨.d0,.d0,.d4,.d11⟩
noncomputable abbrev q76:Rid:=⟨.d0,.d0,.d4,.d12⟩
noncomputable abbrev q77:Rid:=⟨.d0,.d0,.d4,.d13⟩
noncomputable abbrev q78:Rid:=⟨.d0,.d0,.d4,.d14⟩
noncomputable abbrev q79:Rid:=⟨.d0,.d0,.d4,.d15⟩
noncomputable abbrev q80:Rid:=⟨.d0,.d0,.d5,.d0⟩
noncomputable abbrev q81:Rid:=⟨.d0,.d0,.d5,.d1⟩
noncomputable abbrev q82:Rid:=⟨.d0,.d0,.d5,.d2⟩
noncomputable abbrev q83:Rid:=⟨.d0,.d0,.d5,.d3⟩
noncomputable abbrev q84:Rid:=⟨.d0,.d0,.d5,.d4⟩
noncomputable abbrev q85:Rid:=⟨.d0,.d0,.d5,.d5⟩
noncomputable abbrev q86:Rid:=⟨.d0,.d0,.d5,.d6⟩
noncomputable abbrev q87:Rid:=⟨.d0,.d0,.d5,.d7⟩
noncomputable abbrev q88:Rid:=⟨.d0,.d0,.d5,.d8⟩
noncomputable abbrev q89:Rid:=⟨.d0,.d0,.d5,.d9⟩
noncomputable abbrev q90:Rid:=⟨.d0,.d0,.d5,.d10⟩
noncomputable abbrev q91:Rid:=⟨.d0,.d0,.d5,.d11⟩
noncomputable abbrev q92:Rid:=⟨.d0,.d0,.d5,.d12⟩
noncomputable abbrev q93:Rid:=⟨.d0,.d0,.d5,.d13⟩
noncomputable abbrev q94:Rid:=⟨.d0,.d0,.d5,.d14⟩
noncomputable abbrev q95:Rid:=⟨.d0,.d0,.d5,.d15⟩
noncomputable abbrev q96:Rid:=⟨.d0,.d0,.d6,.d0⟩
noncomputable abbrev q97:Rid:=⟨.d0,.d0,.d6,.d1⟩
noncomputable abbrev q98:Rid:=⟨.d0,.d0,.d6,.d2⟩
noncomputable abbrev q99:Rid:=⟨.d0,.d0,.d6,.d3⟩
noncomputable abbrev q100:Rid:=⟨.d0,.d0,.d6,.d4⟩
noncomputable abbrev q101:Rid:=⟨.d0,.d0,.d6,.d5⟩
noncomputable abbrev q102:Rid:=⟨.d0,.d0,.d6,.d6⟩
noncomputable abbrev q103:Rid:=⟨.d0,.d0,.d6,.d7⟩
noncomputable def zQ:List Rid:=[q0,q1,q2,q3,q4,q5,q6,q7,q8,q9,q10,q11,q12,q13,q14,q15,q16,q17,q18,q19,q20,q21,q22,q23,q24,q25,q26,q27,q28,q29,q30,q31,q32,q33,q34,q35,q36,q37,q38,q39,q40,q41,q42,q43,q44,q45,q46,q47,q48,q49,q50,q51,q52,q53,q54,q55,q56,q57,q58,q59,q60,q61,q62,q63,q64,q65,q66,q67,q68,q69,q70,q71,q72,q73,q74,q75,q76,q77,q78,q79,q80,q81,q82,q83,q84,q85,q86,q87,q88,q89,q90,q91,q92,q93,q94,q95,q96,q97,q98,q99,q100,q101,q102,q103]
noncomputable def zL (l:List Row):List (Rid×Row):=zQ.zip l
noncomputable def zP (l:List (Rid×Nat)):List (Rid×Rid×Nat):=zQ.tail.zip l
end Go.Vm
namespace Go.Vm
open Go Go.Proofs.YtmpmildpioebhaaGreatDoor
def dg2_0:Nat:=110461928530375197168402432747408230471540752442791175964557666175320946225767
def dg2_1:Nat:=68184191343129224377541207437162633548411899088683683335254108739724957139203
def dg2_2:Nat:=452844283051969261784956636391582471011674612991015573043878701896143208448
def dg2_3:Nat:=84666100559357928719093330091507752515948304741005663597300135317947781466696
def dg2_4:Nat:=905157131635235650158280796581769611063510490591174026323009889427053871104
def dg2_5:Nat:=18446744073709551615
def dg2_6:Nat:=531454532226148183326471266005372777034957459003898120782329318698381625858601145501653275023505678648868090180084466307947293368159734294035740464042759096693943773007737427740062220092740898690215802220605116739156514591610203639434834758761087476475371001628913957166198052690801157816766340520165779043065311451131529020807039289877553176526763013098373326608075190163345097495686356359350564083626652412970585446335588869816386671907140537790700948351947631044346468711175568279686727564118043077632443657434226388187987800584237072355049396327377963990280897799644150130556975949918363948554570656914643659179167537212397118104970663973992091302290208389356043681064504665488516275401311626484239873692029659978711054914586610508320962209696321667140324167164196393073411351300581592254934899863213309179601997150200016888558722413250606695767377114649710259511020535914247225441912841295004032618303577072481207058718226900194789152695153808564849356902851462703982982649537367792340145633404450923080900231589749653460906705501868225335596417653180411571705136519239214810872594604132480804395674808111318645691347363614563185824918700369464011561798171404750672236976977831329165633055655618832527628429030485443193405683986
def dg2_7:Nat:=851766771716792007518636040797565576636896521465362735760769573137558212051104962811334481509287640134579355648713115490137512939016908974119751347975919372956348384243271358606815829750674455400045606941255215003971335321683728161684919835083550781035613980065520332979617051040677177875716735168087920250700171901068393365176140004931452615617515381308618967143733435515307647967653335335385534935584890875403922431481616578010471241705218477690509058843183997998510156448482889322592435504349816438540265926947058828004213158462459166511803746154733721483634031904294549730225257620531783460868353333024045907571000864692595091872580643426275202783109353369389499494405661780148614511691073899730706356080520873173904044736084919130304749384763957774118481403154780424413090884592755198472538258429366545481573584608990167544552578926876937848994873552339706713505706076423757799977967224655790735264903753525664969712555262137504495783039706257853718110974543258431154570201394436308377673950533263071886052941956301455128960589307054385354955963403398797804344125959691896493088154593225033447814495855367674437133440582452293503424244034727944145090349443465893871032832330596467544958009317274424229064842257497522365849990837
def dg2_8:Nat:=110680464442257309697
noncomputable def w2_0:Row:=.c 7 (zC (.i 0)<|zC (.sl q1 0 2 34)<|zC (.i 2)<|zC (.m q2)<|zC (.m q3)<|zC .sn<|zC (.o 1)<|.nil)
noncomputable def w2_1:Row:=.c 68 (zC (.i 1)<|zD dg2_0<|zC (.i 4)<|zC (.i 2)<|zD dg2_1<|zC (.i 4)<|.nil)
noncomputable def w2_2:Row:=.m .int 2 [⟨.i 1,.p q4 0,0⟩,⟨.i 2,.p q5 0,1⟩]
noncomputable def w2_3:Row:=.m .int 0 []
noncomputable def w2_4:Row:=.c 4 (zC (.i 1)<|zC (.sl q6 0 1 33)<|zC (.p q7 0)<|zC (.p q8 0)<|.nil)
noncomputable def w2_5:Row:=.c 4 (zC (.i 2)<|zC (.sl q9 0 1 33)<|zC (.p q10 0)<|zC (.p q11 0)<|.nil)
noncomputable def w2_6:Row:=.c 33 (zD dg2_2<|zC (.i 4)<|.nil)
noncomputable def w2_7:Row:=.c 5 (zC (.m q12)<|zC (.b false)<|zC (.i 0)<|zC (.i 0)<|zC (.i 0)<|.nil)
noncomputable def w2_8:Row:=.c 60 (zC (.p q13 0)<|zC (.p q7 0)<|zC (.p q14 0)<|zC (.i 1)<|zC (.i 2)<|zC (.i 0)<|zC (.sl q15 0 2 34)<|zC (.p q16 0)<|zC .sn<|zC .sn<|zC (.i 0)<|zC (.sl q17 0 2 34)<|zC .sn<|zC .sn<|zC (.i 0)<|zC .sn<|zC (.i 0)<|zD dg2_3<|zC .sn<|zC .sn<|zC .sn<|zC .sn<|zC (.m q18)<|zC (.m q19)<|zC .sn<|zC .sn<|zC (.i 0)<|zC (.b false)<|zC .sn<|.nil)
noncomputable def w2_9:Row:=.c 33 (zD dg2_4<|zC (.i 4)<|.nil)
noncomputable def w2_10:Row:=.c 5 (zC (.m q20)<|zC (.b false)<|zC (.i 0)<|zC (.i 0)<|zC (.i 0)<|.nil)
noncomputable def w2_11:Row:=.c 60 (zC (.p q21 0)<|zC (.p q10 0)<|zC (.p q22 0)<|zC (.i 2)<|zC (.i 2)<|zC (.i 0)<|zC (.sl q23 0 2 34)<|zC (.p q24 0)<|zC .sn<|zC .sn<|zC (.i 0)<|zC (.sl q25 0 2 34)<|zC .sn<|zC .sn<|zC (.i 0)<|zC .sn<|zC (.i 0)<|zD dg2_3<|zC .sn<|zC .sn<|zC .sn<|zC .sn<|zC (.m q26)<|zC (.m q27)<|zC .sn<|zC .sn<|zC (.i 0)<|zC (.b false)<|zC .sn<|.nil)
noncomputable def w2_12:Row:=.m .str 0 []
noncomputable def w2_13:Row:=.c 213 (zC (.i 0)<|zC (.sl q28 0 2 34)<|zC (.i 1)<|zC (.i 2)<|zC (.rk 4607182418800017408 0)<|zC (.i 0)<|zC (.i 0)<|zC (.i dg2_5)<|zC (.i 0)<|zC (.i 0)<|.cons 96 (.bs 96 0)<|zC .sn<|zC (.i dg2_5)<|zC (.i 0)<|zC (.i 0)<|.cons 96 (.bs 96 0)<|zC .sn<|zC (.m q29)<|zC (.m q30)<|zC (.p q31 0)<|zC (.b false)<|zC (.b false)<|zC .sn<|.nil)
noncomputable def w2_14:Row:=.c 2 (zC (.p q7 0)<|zC (.s 3 7106407)<|.nil)
noncomputable def w2_15:Row:=.c 1 (zC (.m q32)<|.nil)
noncomputable def w2_16:Row:=.m .dig 0 []
noncomputable def w2_17:Row:=.c 213 (zC (.i 0)<|zC (.sl q33 0 2 34)<|zC (.i 2)<|zC (.i 2)<|zC (.rk 4607182418800017408 0)<|zC (.i 0)<|zC (.i 0)<|zC (.i dg2_5)<|zC (.i 0)<|zC (.i 0)<|.cons 96 (.bs 96 0)<|zC .sn<|zC (.i dg2_5)<|zC (.i 0)<|zC (.i 0)<|.cons 96 (.bs 96 0)<|zC .sn<|zC (.m q34)<|zC (.m q35)<|zC (.p q36 0)<|zC (.b false)<|zC (.b false)<|zC .sn<|.nil)
noncomputable def w2_18:Row:=.c 2 (zC (.p q10 0)<|zC (.s 3 7106407)<|.nil)
noncomputable def w2_19:Row:=.c 1 (zC (.m q37)<|.nil)
noncomputable def w2_20:Row:=.c 1 (zC (.m q38)<|.nil)
noncomputable def w2_21:Row:=.m (.key 0) 1 [⟨.a (zD dg2_0<|zC (.i 4)<|.nil),.p q39 0,0⟩]
noncomputable def w2_22:Row:=.c 1 (zC (.m q40)<|.nil)
noncomputable def w2_23:Row:=.m (.key 0) 1 [⟨.a (zD dg2_1<|zC (.i 4)<|.nil),.p q41 0,0⟩]
noncomputable def w2_24:Row:=.m (.key 1) 0 []
noncomputable def w2_25:Row:=.c 3 (zC (.p q42 0)<|zC (.i 0)<|zC (.m q43)<|.nil)
noncomputable def w2_26:Row:=.c 3 (zC (.p q44 0)<|zC (.i 0)<|zC (.m q45)<|.nil)
noncomputable def w2_27:Row:=.c 34 (zD dg2_2<|zC (.i 4)<|zC (.sl q46 0 16 32)<|.nil)
noncomputable def w2_28:Row:=.c 34 (zD dg2_4<|zC (.i 4)<|zC (.sl q47 0 16 32)<|.nil)
noncomputable def w2_29:Row:=.c 512 (.cons 512 (.bs 512 dg2_6)<|.nil)
noncomputable def w2_30:Row:=.c 512 (.cons 512 (.bs 512 dg2_7)<|.nil)
noncomputable def w2_31:Row:=.m .int 1 [⟨.i 1,.p q6 0,0⟩]
noncomputable def w2_32:Row:=.c 4 (zC (.i 1)<|zC (.sl q7 0 1 33)<|zC (.p q8 0)<|zC (.p q9 0)<|.nil)
noncomputable def w2_33:Row:=.c 4 (zC (.i 2)<|zC (.sl q10 0 1 33)<|zC (.p q11 0)<|zC (.p q12 0)<|.nil)
noncomputable def w2_34:Row:=.c 54 (zC (.i 1)<|zC (.i 0)<|zC (.sl q13 0 2 34)<|zC (.i 0)<|zC (.sl q13 0 2 34)<|zC (.o 1)<|zC (.o 1)<|zC (.o 1)<|zC (.o 0)<|zC (.o 0)<|zC (.o 0)<|zC (.o 1)<|zC (.o 1)<|zC (.o 1)<|zC (.o 3)<|zC (.o 3)<|zC (.o 3)<|zC (.o 3)<|zC (.o 3)<|zC (.o 3)<|zC (.o 3)<|zC (.o 3)<|zC (.o 3)<|zC (.o 3)<|zC (.o 3)<|zC (.o 3)<|zC (.o 3)<|zC (.o 3)<|zC (.o 3)<|zC (.o 3)<|zC (.o 3)<|zC (.o 3)<|zC (.o 3)<|zC (.o 3)<|zC (.o 3)<|zC (.o 3)<|zC (.o 3)<|zC (.o 3)<|zC (.o 3)<|zC (.o 3)<|zC (.o 3)<|zC (.o 3)<|zC (.o 3)<|zC (.o 3)<|zC (.o 3)<|zC (.o 3)<|zC (.o 1)<|zC (.o 2)<|zC (.i 0)<|zC (.m q14)<|zC (.i 0)<|zC (.i 0)<|zC (.i 0)<|zC .sn<|.nil)
noncomputable def w2_35:Row:=.c 5 (zC (.m q15)<|zC (.b false)<|zC (.i 0)<|zC (.i 0)<|zC (.i 0)<|.nil)
noncomputable def w2_36:Row:=.c 60 (zC (.p q16 0)<|zC (.p q8 0)<|zC (.p q17 0)<|zC (.i 1)<|zC (.i 2)<|zC (.i 0)<|zC (.sl q18 0 2 34)<|zC (.p q19 0)<|zC .sn<|zC .sn<|zC (.i 0)<|zC (.sl q20 0 2 34)<|zC .sn<|zC .sn<|zC (.i 0)<|zC .sn<|zC (.i 0)<|zD dg2_3<|zC .sn<|zC .sn<|zC .sn<|zC .sn<|zC (.m q21)<|zC (.m q22)<|zC .sn<|zC .sn<|zC (.i 5)<|zC (.b false)<|zC .sn<|.nil)
noncomputable def w2_37:Row:=.c 5 (zC (.m q23)<|zC (.b false)<|zC (.i 0)<|zC (.i 0)<|zC (.i 0)<|.nil)
noncomputable def w2_38:Row:=.c 60 (zC (.p q24 0)<|zC (.p q11 0)<|zC (.p q25 0)<|zC (.i 2)<|zC (.i 2)<|zC (.i 0)<|zC (.sl q26 0 2 34)<|zC (.p q27 0)<|zC .sn<|zC .sn<|zC (.i 0)<|zC (.sl q28 0 2 34)<|zC .sn<|zC .sn<|zC (.i 0)<|zC .sn<|zC (.i 0)<|zD dg2_3<|zC .sn<|zC .sn<|zC .sn<|zC .sn<|zC (.m q29)<|zC (.m q30)<|zC .sn<|zC .sn<|zC (.i 5)<|zC (.b false)<|zC .sn<|.nil)
noncomputable def w2_39:Row:=.c 213 (zC (.i 0)<|zC (.sl q31 0 2 34)<|zC (.i 1)<|zC (.i 2)<|zC (.rk 4607182418800017408 0)<|zC (.i 0)<|zC (.i 0)<|zC (.i dg2_5)<|zC (.i 0)<|zC (.i 0)<|.cons 96 (.bs 96 0)<|zC .sn<|zC (.i dg2_5)<|zC (.i 0)<|zC (.i 0)<|.cons 96 (.bs 96 0)<|zC .sn<|zC (.m q32)<|zC (.m q33)<|zC (.p q34 0)<|zC (.b false)<|zC (.b false)<|zC .sn<|.nil)
noncomputable def w2_40:Row:=.c 2 (zC (.p q8 0)<|zC (.s 3 7106407)<|.nil)
noncomputable def w2_41:Row:=.c 1 (zC (.m q35)<|.nil)
noncomputable def w2_42:Row:=.c 213 (zC (.i 0)<|zC (.sl q36 0 2 34)<|zC (.i 2)<|zC (.i 2)<|zC (.rk 4607182418800017408 0)<|zC (.i 0)<|zC (.i 0)<|zC (.i dg2_5)<|zC (.i 0)<|zC (.i 0)<|.cons 96 (.bs 96 0)<|zC .sn<|zC (.i dg2_5)<|zC (.i 0)<|zC (.i 0)<|.cons 96 (.bs 96 0)<|zC .sn<|zC (.m q37)<|zC (.m q38)<|zC (.p q39 0)<|zC (.b false)<|zC (.b false)<|zC .sn<|.nil)
noncomputable def w2_43:Row:=.c 2 (zC (.p q11 0)<|zC (.s 3 7106407)<|.nil)
noncomputable def w2_44:Row:=.c 1 (zC (.m q41)<|.nil)
noncomputable def w2_45:Row:=.m (.key 0) 1 [⟨.a (zD dg2_0<|zC (.i 4)<|.nil),.p q42 0,0⟩]
noncomputable def w2_46:Row:=.c 1 (zC (.m q43)<|.nil)
noncomputable def w2_47:Row:=.m (.key 0) 1 [⟨.a (zD dg2_1<|zC (.i 4)<|.nil),.p q44 0,0⟩]
noncomputable def w2_48:Row:=.c 3 (zC (.p q45 0)<|zC (.i 0)<|zC (.m q46)<|.nil)
noncomputable def w2_49:Row:=.c 3 (zC (.p q47 0)<|zC (.i 0)<|zC (.m q48)<|.nil)
noncomputable def w2_50:Row:=.c 34 (zD dg2_2<|zC (.i 4)<|zC (.sl q49 0 16 32)<|.nil)
noncomputable def w2_51:Row:=.c 34 (zD dg2_4<|zC (.i 4)<|zC (.sl q50 0 16 32)<|.nil)
noncomputable def w2_52:Row:=.c 7 (zC (.i 0)<|zC (.sl q1 0 2 34)<|zC (.i 2)<|zC (.m q2)<|zC (.m q3)<|zC (.sl q4 0 0 4)<|zC (.o 1)<|.nil)
noncomputable def w2_53:Row:=.m .int 2 [⟨.i 1,.p q5 0,0⟩,⟨.i 2,.p q6 0,1⟩]
noncomputable def w2_54:Row:=.m .int 1 [⟨.i 1,.p q7 0,0⟩]
noncomputable def w2_55:Row:=.c 0 .nil
noncomputable def w2_56:Row:=.c 4 (zC (.i 1)<|zC (.sl q8 0 1 33)<|zC (.p q9 0)<|zC (.p q10 0)<|.nil)
noncomputable def w2_57:Row:=.c 4 (zC (.i 2)<|zC (.sl q11 0 1 33)<|zC (.p q12 0)<|zC (.p q13 0)<|.nil)
noncomputable def w2_58:Row:=.c 54 (zC (.i 1)<|zC (.i 0)<|zC (.sl q14 0 2 34)<|zC (.i 0)<|zC (.sl q14 0 2 34)<|zC (.o 1)<|zC (.o 1)<|zC (.o 1)<|zC (.o 0)<|zC (.o 0)<|zC (.o 0)<|zC (.o 1)<|zC (.o 1)<|zC (.o 1)<|zC (.o 3)<|zC (.o 3)<|zC (.o 3)<|zC (.o 3)<|zC (.o 3)<|zC (.o 3)<|zC (.o 3)<|zC (.o 3)<|zC (.o 3)<|zC (.o 3)<|zC (.o 3)<|zC (.o 3)<|zC (.o 3)<|zC (.o 3)<|zC (.o 3)<|zC (.o 3)<|zC (.o 3)<|zC (.o 3)<|zC (.o 3)<|zC (.o 3)<|zC (.o 3)<|zC (.o 3)<|zC (.o 3)<|zC (.o 3)<|zC (.o 3)<|zC (.o 3)<|zC (.o 3)<|zC (.o 3)<|zC (.o 3)<|zC (.o 3)<|zC (.o 3)<|zC (.o 3)<|zC (.o 1)<|zC (.o 2)<|zC (.i 0)<|zC (.m q15)<|zC (.i 0)<|zC (.i 0)<|zC (.i 0)<|zC .sn<|.nil)
noncomputable def w2_59:Row:=.c 5 (zC (.m q16)<|zC (.b false)<|zC (.i 0)<|zC (.i 0)<|zC (.i 0)<|.nil)
noncomputable def w2_60:Row:=.c 60 (zC (.p q17 0)<|zC (.p q9 0)<|zC (.p q18 0)<|zC (.i 1)<|zC (.i 2)<|zC (.i 0)<|zC (.sl q19 0 2 34)<|zC (.p q20 0)<|zC .sn<|zC .sn<|zC (.i 0)<|zC (.sl q21 0 2 34)<|zC .sn<|zC .sn<|zC (.i 0)<|zC .sn<|zC (.i 0)<|zD dg2_3<|zC .sn<|zC .sn<|zC .sn<|zC .sn<|zC (.m q22)<|zC (.m q23)<|zC .sn<|zC .sn<|zC (.i 5)<|zC (.b false)<|zC .sn<|.nil)
noncomputable def w2_61:Row:=.c 5 (zC (.m q24)<|zC (.b false)<|zC (.i 0)<|zC (.i 0)<|zC (.i 0)<|.nil)
noncomputable def w2_62:Row:=.c 60 (zC (.p q25 0)<|zC (.p q12 0)<|zC (.p q26 0)<|zC (.i 2)<|zC (.i 2)<|zC (.i 0)<|zC (.sl q27 0 2 34)<|zC (.p q28 0)<|zC .sn<|zC .sn<|zC (.i 0)<|zC (.sl q29 0 2 34)<|zC .sn<|zC .sn<|zC (.i 0)<|zC .sn<|zC (.i 0)<|zD dg2_3<|zC .sn<|zC .sn<|zC .sn<|zC .sn<|zC (.m q30)<|zC (.m q31)<|zC .sn<|zC .sn<|zC (.i 5)<|zC (.b false)<|zC .sn<|.nil)
noncomputable def w2_63:Row:=.c 213 (zC (.i 0)<|zC (.sl q32 0 2 34)<|zC (.i 1)<|zC (.i 2)<|zC (.rk 4607182418800017408 0)<|zC (.i 0)<|zC (.i 0)<|zC (.i dg2_5)<|zC (.i 0)<|zC (.i 0)<|.cons 96 (.bs 96 0)<|zC .sn<|zC (.i dg2_5)<|zC (.i 0)<|zC (.i 0)<|.cons 96 (.bs 96 0)<|zC .sn<|zC (.m q33)<|zC (.m q34)<|zC (.p q35 0)<|zC (.b false)<|zC (.b false)<|zC .sn<|.nil)
noncomputable def w2_64:Row:=.c 2 (zC (.p q9 0)<|zC (.s 3 7106407)<|.nil)
noncomputable def w2_65:Row:=.c 1 (zC (.m q36)<|.nil)
noncomputable def w2_66:Row:=.c 213 (zC (.i 0)<|zC (.sl q37 0 2 34)<|zC (.i 2)<|zC (.i 2)<|zC (.rk 4607182418800017408 0)<|zC (.i 0)<|zC (.i 0)<|zC (.i dg2_5)<|zC (.i 0)<|zC (.i 0)<|.cons 96 (.bs 96 0)<|zC .sn<|zC (.i dg2_5)<|zC (.i 0)<|zC (.i 0)<|.cons 96 (.bs 96 0)<|zC .sn<|zC (.m q38)<|zC (.m q39)<|zC (.p q40 0)<|zC (.b false)<|zC (.b false)<|zC .sn<|.nil)
noncomputable def w2_67:Row:=.c 2 (zC (.p q12 0)<|zC (.s 3 7106407)<|.nil)
noncomputable def w2_68:Row:=.c 1 (zC (.m q42)<|.nil)
noncomputable def w2_69:Row:=.m (.key 0) 1 [⟨.a (zD dg2_0<|zC (.i 4)<|.nil),.p q43 0,0⟩]
noncomputable def w2_70:Row:=.c 1 (zC (.m q44)<|.nil)
noncomputable def w2_71:Row:=.m (.key 0) 1 [⟨.a (zD dg2_1<|zC (.i 4)<|.nil),.p q45 0,0⟩]
noncomputable def w2_72:Row:=.c 3 (zC (.p q46 0)<|zC (.i 0)<|zC (.m q47)<|.nil)
noncomputable def w2_73:Row:=.c 3 (zC (.p q48 0)<|zC (.i 0)<|zC (.m q49)<|.nil)
noncomputable def w2_74:Row:=.c 34 (zD dg2_2<|zC (.i 4)<|zC (.sl q50 0 16 32)<|.nil)
noncomputable def w2_75:Row:=.c 34 (zD dg2_4<|zC (.i 4)<|zC (.sl q51 0 16 32)<|.nil)
noncomputable def w2_76:Row:=.c 7 (zC (.i 0)<|zC (.sl q1 0 2 34)<|zC (.i 2)<|zC (.m q2)<|zC (.m q3)<|zC (.sl q4 0 2 4)<|zC (.o 1)<|.nil)
noncomputable def w2_77:Row:=.m .int 2 [⟨.i 1,.p q7 0,0⟩,⟨.i 2,.p q8 0,1⟩]
noncomputable def w2_78:Row:=.c 8 (zC (.o 1)<|zC (.i 1)<|zC (.i 2)<|zC (.s 16 dg2_8)<|zC (.o 1)<|zC (.i 2)<|zC (.i 1)<|zC (.s 16 dg2_8)<|.nil)
noncomputable def w2_79:Row:=.c 4 (zC (.i 1)<|zC (.sl q9 0 1 33)<|zC (.p q10 0)<|zC (.p q11 0)<|.nil)
noncomputable def w2_80:Row:=.c 4 (zC (.i 2)<|zC (.sl q12 0 1 33)<|zC (.p q13 0)<|zC (.p q14 0)<|.nil)
noncomputable def w2_81:Row:=.c 54 (zC (.i 1)<|zC (.i 0)<|zC (.sl q15 0 2 34)<|zC (.i 0)<|zC (.sl q15 0 2 34)<|zC (.o 1)<|zC (.o 1)<|zC (.o 1)<|zC (.o 0)<|zC (.o 0)<|zC (.o 0)<|zC (.o 1)<|zC (.o 1)<|zC (.o 1)<|zC (.o 3)<|zC (.o 3)<|zC (.o 3)<|zC (.o 3)<|zC (.o 3)<|zC (.o 3)<|zC (.o 3)<|zC (.o 3)<|zC (.o 3)<|zC (.o 3)<|zC (.o 3)<|zC (.o 3)<|zC (.o 3)<|zC (.o 3)<|zC (.o 3)<|zC (.o 3)<|zC (.o 3)<|zC (.o 3)<|zC (.o 3)<|zC (.o 3)<|zC (.o 3)<|zC (.o 3)<|zC (.o 3)<|zC (.o 3)<|zC (.o 3)<|zC (.o 3)<|zC (.o 3)<|zC (.o 3)<|zC (.o 3)<|zC (.o 3)<|zC (.o 3)<|zC (.o 3)<|zC (.o 1)<|zC (.o 2)<|zC (.i 0)<|zC (.m q16)<|zC (.i 0)<|zC (.i 0)<|zC (.i 0)<|zC .sn<|.nil)
noncomputable def w2_82:Row:=.c 54 (zC (.i 2)<|zC (.i 0)<|zC (.sl q17 0 2 34)<|zC (.i 0)<|zC (.sl q17 0 2 34)<|zC (.o 1)<|zC (.o 1)<|zC (.o 1)<|zC (.o 0)<|zC (.o 0)<|zC (.o 0)<|zC (.o 1)<|zC (.o 1)<|zC (.o 1)<|zC (.o 3)<|zC (.o 3)<|zC (.o 3)<|zC (.o 3)<|zC (.o 3)<|zC (.o 3)<|zC (.o 3)<|zC (.o 3)<|zC (.o 3)<|zC (.o 3)<|zC (.o 3)<|zC (.o 3)<|zC (.o 3)<|zC (.o 3)<|zC (.o 3)<|zC (.o 3)<|zC (.o 3)<|zC (.o 3)<|zC (.o 3)<|zC (.o 3)<|zC (.o 3)<|zC (.o 3)<|zC (.o 3)<|zC (.o 3)<|zC (.o 3)<|zC (.o 3)<|zC (.o 3)<|zC (.o 3)<|zC (.o 3)<|zC (.o 3)<|zC (.o 3)<|zC (.o 3)<|zC (.o 1)<|zC (.o 2)<|zC (.i 0)<|zC (.m q18)<|zC (.i 0)<|zC (.i 0)<|zC (.i 0)<|zC .sn<|.nil)
noncomputable def w2_83:Row:=.c 5 (zC (.m q19)<|zC (.b false)<|zC (.i 0)<|zC (.i 0)<|zC (.i 0)<|.nil)
noncomputable def w2_84:Row:=.c 60 (zC (.p q20 0)<|zC (.p q10 0)<|zC (.p q21 0)<|zC (.i 1)<|zC (.i 2)<|zC (.i 0)<|zC (.sl q22 0 2 34)<|zC (.p q23 0)<|zC .sn<|zC .sn<|zC (.i 0)<|zC (.sl q24 0 2 34)<|zC .sn<|zC .sn<|zC (.i 0)<|zC .sn<|zC (.i 0)<|zD dg2_3<|zC .sn<|zC .sn<|zC .sn<|zC .sn<|zC (.m q25)<|zC (.m q26)<|zC .sn<|zC .sn<|zC (.i 0)<|zC (.b false)<|zC .sn<|.nil)
noncomputable def w2_85:Row:=.c 5 (zC (.m q27)<|zC (.b false)<|zC (.i 0)<|zC (.i 0)<|zC (.i 0)<|.nil)
noncomputable def w2_86:Row:=.c 60 (zC (.p q28 0)<|zC (.p q13 0)<|zC (.p q29 0)<|zC (.i 2)<|zC (.i 2)<|zC (.i 0)<|zC (.sl q30 0 2 34)<|zC (.p q31 0)<|zC .sn<|zC .sn<|zC (.i 0)<|zC (.sl q32 0 2 34)<|zC .sn<|zC .sn<|zC (.i 0)<|zC .sn<|zC (.i 0)<|zD dg2_3<|zC .sn<|zC .sn<|zC .sn<|zC .sn<|zC (.m q33)<|zC (.m q34)<|zC .sn<|zC .sn<|zC (.i 0)<|zC (.b false)<|zC .sn<|.nil)
noncomputable def w2_87:Row:=.c 213 (zC (.i 0)<|zC (.sl q35 0 2 34)<|zC (.i 1)<|zC (.i 2)<|zC (.rk 4607182418800017408 0)<|zC (.i 0)<|zC (.i 0)<|zC (.i dg2_5)<|zC (.i 0)<|zC (.i 0)<|.cons 96 (.bs 96 0)<|zC .sn<|zC (.i dg2_5)<|zC (.i 0)<|zC (.i 0)<|.cons 96 (.bs 96 0)<|zC .sn<|zC (.m q36)<|zC (.m q37)<|zC (.p q38 0)<|zC (.b false)<|zC (.b false)<|zC .sn<|.nil)
noncomputable def w2_88:Row:=.c 1 (zC (.m q39)<|.nil)
noncomputable def w2_89:Row:=.c 213 (zC (.i 0)<|zC (.sl q40 0 2 34)<|zC (.i 2)<|zC (.i 2)<|zC (.rk 4607182418800017408 0)<|zC (.i 0)<|zC (.i 0)<|zC (.i dg2_5)<|zC (.i 0)<|zC (.i 0)<|.cons 96 (.bs 96 0)<|zC .sn<|zC (.i dg2_5)<|zC (.i 0)<|zC (.i 0)<|.cons 96 (.bs 96 0)<|zC .sn<|zC (.m q41)<|zC (.m q42)<|zC (.p q43 0)<|zC (.b false)<|zC (.b false)<|zC .sn<|.nil)
noncomputable def w2_90:Row:=.c 2 (zC (.p q13 0)<|zC (.s 3 7106407)<|.nil)
noncomputable def w2_91:Row:=.c 1 (zC (.m q45)<|.nil)
noncomputable def w2_92:Row:=.m (.key 0) 1 [⟨.a (zD dg2_0<|zC (.i 4)<|.nil),.p q46 0,0⟩]
noncomputable def w2_93:Row:=.c 1 (zC (.m q47)<|.nil)
noncomputable def w2_94:Row:=.m (.key 0) 1 [⟨.a (zD dg2_1<|zC (.i 4)<|.nil),.p q48 0,0⟩]
noncomputable def w2_95:Row:=.c 3 (zC (.p q49 0)<|zC (.i 0)<|zC (.m q50)<|.nil)
noncomputable def w2_96:Row:=.c 3 (zC (.p q51 0)<|zC (.i 0)<|zC (.m q52)<|.nil)
noncomputable def w2_97:Row:=.c 34 (zD dg2_2<|zC (.i 4)<|zC (.sl q53 0 16 32)<|.nil)
noncomputable def w2_98:Row:=.c 34 (zD dg2_4<|zC (.i 4)<|zC (.sl q54 0 16 32)<|.nil)
noncomputable def w2_99:Row:=.m .int 3 [⟨.i 1,.p q7 0,0⟩,⟨.i 2,.p q8 0,1⟩,⟨.i 3,.p q9 0,2⟩]
noncomputable def w2_100:Row:=.c 4 (zC (.i 1)<|zC (.sl q10 0 1 33)<|zC (.p q11 0)<|zC (.p q12 0)<|.nil)
noncomputable def w2_101:Row:=.c 4 (zC (.i 2)<|zC (.sl q13 0 1 33)<|zC (.p q14 0)<|zC (.p q15 0)<|.nil)
noncomputable def w2_102:Row:=.c 54 (zC (.i 1)<|zC (.i 0)<|zC (.sl q16 0 2 34)<|zC (.i 0)<|zC (.sl q16 0 2 34)<|zC (.o 1)<|zC (.o 1)<|zC (.o 1)<|zC (.o 0)<|zC (.o 0)<|zC (.o 0)<|zC (.o 1)<|zC (.o 1)<|zC (.o 1)<|zC (.o 3)<|zC (.o 3)<|zC (.o 3)<|zC (.o 3)<|zC (.o 3)<|zC (.o 3)<|zC (.o 3)<|zC (.o 3)<|zC (.o 3)<|zC (.o 3)<|zC (.o 3)<|zC (.o 3)<|zC (.o 3)<|zC (.o 3)<|zC (.o 3)<|zC (.o 3)<|zC (.o 3)<|zC (.o 3)<|zC (.o 3)<|zC (.o 3)<|zC (.o 3)<|zC (.o 3)<|zC (.o 3)<|zC (.o 3)<|zC (.o 3)<|zC (.o 3)<|zC (.o 3)<|zC (.o 3)<|zC (.o 3)<|zC (.o 3)<|zC (.o 3)<|zC (.o 3)<|zC (.o 1)<|zC (.o 2)<|zC (.i 0)<|zC (.m q17)<|zC (.i 0)<|zC (.i 0)<|zC (.i 0)<|zC .sn<|.nil)
noncomputable def w2_103:Row:=.c 54 (zC (.i 2)<|zC (.i 0)<|zC (.sl q18 0 2 34)<|zC (.i 0)<|zC (.sl q18 0 2 34)<|zC (.o 1)<|zC (.o 1)<|zC (.o 1)<|zC (.o 0)<|zC (.o 0)<|zC (.o 0)<|zC (.o 1)<|zC (.o 1)<|zC (.o 1)<|zC (.o 3)<|zC (.o 3)<|zC (.o 3)<|zC (.o 3)<|zC (.o 3)<|zC (.o 3)<|zC (.o 3)<|zC (.o 3)<|zC (.o 3)<|zC (.o 3)<|zC (.o 3)<|zC (.o 3)<|zC (.o 3)<|zC (.o 3)<|zC (.o 3)<|zC (.o 3)<|zC (.o 3)<|zC (.o 3)<|zC (.o 3)<|zC (.o 3)<|zC (.o 3)<|zC (.o 3)<|zC (.o 3)<|zC (.o 3)<|zC (.o 3)<|zC (.o 3)<|zC (.o 3)<|zC (.o 3)<|zC (.o 3)<|zC (.o 3)<|zC (.o 3)<|zC (.o 3)<|zC (.o 1)<|zC (.o 2)<|zC (.i 0)<|zC (.m q19)<|zC (.i 0)<|zC (.i 0)<|zC (.i 0)<|zC .sn<|.nil)
noncomputable def w2_104:Row:=.c 54 (zC (.i 3)<|zC (.i 0)<|zC (.sl q20 0 2 34)<|zC (.i 0)<|zC (.sl q20 0 2 34)<|zC (.o 1)<|zC (.o 1)<|zC (.o 1)<|zC (.o 0)<|zC (.o 0)<|zC (.o 0)<|zC (.o 1)<|zC (.o 1)<|zC (.o 1)<|zC (.o 3)<|zC (.o 3)<|zC (.o 3)<|zC (.o 3)<|zC (.o 3)<|zC (.o 3)<|zC (.o 3)<|zC (.o 3)<|zC (.o 3)<|zC (.o 3)<|zC (.o 3)<|zC (.o 3)<|zC (.o 3)<|zC (.o 3)<|zC (.o 3)<|zC (.o 3)<|zC (.o 3)<|zC (.o 3)<|zC (.o 3)<|zC (.o 3)<|zC (.o 3)<|zC (.o 3)<|zC (.o 3)<|zC (.o 3)<|zC (.o 3)<|zC (.o 3)<|zC (.o 3)<|zC (.o 3)<|zC (.o 3)<|zC (.o 3)<|zC (.o 3)<|zC (.o 3)<|zC (.o 1)<|zC (.o 2)<|zC (.i 0)<|zC (.m q21)<|zC (.i 0)<|zC (.i 0)<|zC (.i 0)<|zC .sn<|.nil)
noncomputable def w2_105:Row:=.c 5 (zC (.m q22)<|zC (.b false)<|zC (.i 0)<|zC (.i 0)<|zC (.i 0)<|.nil)
noncomputable def w2_106:Row:=.c 60 (zC (.p q23 0)<|zC (.p q11 0)<|zC (.p q24 0)<|zC (.i 1)<|zC (.i 2)<|zC (.i 0)<|zC (.sl q25 0 2 34)<|zC (.p q26 0)<|zC .sn<|zC .sn<|zC (.i 0)<|zC (.sl q27 0 2 34)<|zC .sn<|zC .sn<|zC (.i 0)<|zC .sn<|zC (.i 0)<|zD dg2_3<|zC .sn<|zC .sn<|zC .sn<|zC .sn<|zC (.m q28)<|zC (.m q29)<|zC .sn<|zC .sn<|zC (.i 5)<|zC (.b false)<|zC .sn<|.nil)
noncomputable def w2_107:Row:=.c 5 (zC (.m q30)<|zC (.b false)<|zC (.i 0)<|zC (.i 0)<|zC (.i 0)<|.nil)
noncomputable def w2_108:Row:=.c 60 (zC (.p q31 0)<|zC (.p q14 0)<|zC (.p q32 0)<|zC (.i 2)<|zC (.i 2)<|zC (.i 0)<|zC (.sl q33 0 2 34)<|zC (.p q34 0)<|zC .sn<|zC .sn<|zC (.i 0)<|zC (.sl q35 0 2 34)<|zC .sn<|zC .sn<|zC (.i 0)<|zC .sn<|zC (.i 0)<|zD dg2_3<|zC .sn<|zC .sn<|zC .sn<|zC .sn<|zC (.m q36)<|zC (.m q37)<|zC .sn<|zC .sn<|zC (.i 5)<|zC (.b false)<|zC .sn<|.nil)
noncomputable def w2_109:Row:=.c 213 (zC (.i 0)<|zC (.sl q38 0 2 34)<|zC (.i 1)<|zC (.i 2)<|zC (.rk 4607182418800017408 0)<|zC (.i 0)<|zC (.i 0)<|zC (.i dg2_5)<|zC (.i 0)<|zC (.i 0)<|.cons 96 (.bs 96 0)<|zC .sn<|zC (.i dg2_5)<|zC (.i 0)<|zC (.i 0)<|.cons 96 (.bs 96 0)<|zC .sn<|zC (.m q39)<|zC (.m q40)<|zC (.p q41 0)<|zC (.b false)<|zC (.b false)<|zC .sn<|.nil)
noncomputable def w2_110:Row:=.c 213 (zC (.i 0)<|zC (.sl q43 0 2 34)<|zC (.i 2)<|zC (.i 2)<|zC (.rk 4607182418800017408 0)<|zC (.i 0)<|zC (.i 0)<|zC (.i dg2_5)<|zC (.i 0)<|zC (.i 0)<|.cons 96 (.bs 96 0)<|zC .sn<|zC (.i dg2_5)<|zC (.i 0)<|zC (.i 0)<|.cons 96 (.bs 96 0)<|zC .sn<|zC (.m q44)<|zC (.m q45)<|zC (.p q46 0)<|zC (.b false)<|zC (.b false)<|zC .sn<|.nil)
noncomputable def w2_111:Row:=.c 2 (zC (.p q14 0)<|zC (.s 3 7106407)<|.nil)
noncomputable def w2_112:Row:=.c 1 (zC (.m q48)<|.nil)
noncomputable def w2_113:Row:=.m (.key 0) 1 [⟨.a (zD dg2_0<|zC (.i 4)<|.nil),.p q49 0,0⟩]
noncomputable def w2_114:Row:=.c 1 (zC (.m q50)<|.nil)
noncomputable def w2_115:Row:=.m (.key 0) 1 [⟨.a (zD dg2_1<|zC (.i 4)<|.nil),.p q51 0,0⟩]
noncomputable def w2_116:Row:=.c 3 (zC (.p q52 0)<|zC (.i 0)<|zC (.m q53)<|.nil)
noncomputable def w2_117:Row:=.c 3 (zC (.p q54 0)<|zC (.i 0)<|zC (.m q55)<|.nil)
noncomputable def w2_118:Row:=.c 34 (zD dg2_2<|zC (.i 4)<|zC (.sl q56 0 16 32)<|.nil)
noncomputable def w2_119:Row:=.c 34 (zD dg2_4<|zC (.i 4)<|zC (.sl q57 0 16 32)<|.nil)
noncomputable def w2_120:Row:=.c 60 (zC (.p q23 0)<|zC (.p q11 0)<|zC (.p q24 0)<|zC (.i 1)<|zC (.i 2)<|zC (.i 0)<|zC (.sl q25 0 2 34)<|zC (.p q26 0)<|zC .sn<|zC .sn<|zC (.i 0)<|zC (.sl q27 0 2 34)<|zC .sn<|zC .sn<|zC (.i 0)<|zC .sn<|zC (.i 0)<|zD dg2_3<|zC .sn<|zC .sn<|zC .sn<|zC .sn<|zC (.m q28)<|zC (.m q29)<|zC .sn<|zC .sn<|zC (.i 0)<|zC (.b false)<|zC .sn<|.nil)
noncomputable def w2_121:Row:=.c 60 (zC (.p q31 0)<|zC (.p q14 0)<|zC (.p q32 0)<|zC (.i 2)<|zC (.i 2)<|zC (.i 0)<|zC (.sl q33 0 2 34)<|zC (.p q34 0)<|zC .sn<|zC .sn<|zC (.i 0)<|zC (.sl q35 0 2 34)<|zC .sn<|zC .sn<|zC (.i 0)<|zC .sn<|zC (.i 0)<|zD dg2_3<|zC .sn<|zC .sn<|zC .sn<|zC .sn<|zC (.m q36)<|zC (.m q37)<|zC .sn<|zC .sn<|zC (.i 0)<|zC (.b false)<|zC .sn<|.nil)
noncomputable def S2_0:St:=⟨zL [w2_0,w2_1,w2_2,w2_3,w2_4,w2_5,w2_6,w2_7,w2_8,w2_9,w2_10,w2_11,w2_12,w2_13,w2_14,w2_1,w2_15,w2_1,w2_16,w2_3,w2_12,w2_17,w2_18,w2_1,w2_19,w2_1,w2_16,w2_3,w2_1,w2_3,w2_16,w2_20,w2_21,w2_1,w2_3,w2_16,w2_22,w2_23,w2_24,w2_25,w2_24,w2_26,w2_27,w2_3,w2_28,w2_3,w2_29,w2_30],q48,zP [(q0,1),(q0,3),(q0,4),(q2,0),(q2,1),(q4,1),(q4,2),(q4,3),(q5,1),(q5,2),(q5,3),(q7,0),(q8,0),(q8,2),(q8,6),(q8,7),(q8,11),(q8,53),(q8,54),(q10,0),(q11,0),(q11,2),(q11,6),(q11,7),(q11,11),(q11,53),(q11,54),(q13,1),(q13,207),(q13,208),(q13,209),(q16,0),(q21,1),(q21,207),(q21,208),(q21,209),(q24,0),(q31,0),(q32,0),(q36,0),(q37,0),(q39,0),(q39,2),(q41,0),(q41,2),(q42,33),(q44,33)],[.p q0 0],[(q0,0)]⟩
theorem S2_0_good:St.good S2_0 = true:=by kernel_rfl
noncomputable def S2_1:St:=⟨zL [w2_0,w2_1,w2_2,w2_31,w2_32,w2_33,w2_34,w2_6,w2_35,w2_36,w2_9,w2_37,w2_38,w2_1,w2_3,w2_12,w2_39,w2_40,w2_1,w2_41,w2_1,w2_16,w2_3,w2_12,w2_42,w2_43,w2_1,w2_22,w2_1,w2_16,w2_3,w2_1,w2_3,w2_16,w2_44,w2_45,w2_1,w2_3,w2_16,w2_46,w2_47,w2_24,w2_48,w2_24,w2_49,w2_50,w2_3,w2_51,w2_3,w2_29,w2_30],q51,zP [(q0,1),(q0,3),(q0,4),(q2,0),(q2,1),(q3,0),(q4,1),(q4,2),(q4,3),(q5,1),(q5,2),(q5,3),(q6,2),(q6,49),(q8,0),(q9,0),(q9,2),(q9,6),(q9,7),(q9,11),(q9,53),(q9,54),(q11,0),(q12,0),(q12,2),(q12,6),(q12,7),(q12,11),(q12,53),(q12,54),(q16,1),(q16,207),(q16,208),(q16,209),(q19,0),(q24,1),(q24,207),(q24,208),(q24,209),(q27,0),(q34,0),(q35,0),(q39,0),(q40,0),(q42,0),(q42,2),(q44,0),(q44,2),(q45,33),(q47,33)],[.p q0 0],[(q0,0)]⟩
theorem S2_1_good:St.good S2_1 = true:=by kernel_rfl
noncomputable def S2_2:St:=⟨zL [w2_52,w2_1,w2_53,w2_54,w2_55,w2_56,w2_57,w2_58,w2_6,w2_59,w2_60,w2_9,w2_61,w2_62,w2_1,w2_3,w2_12,w2_63,w2_64,w2_1,w2_65,w2_1,w2_16,w2_3,w2_12,w2_66,w2_67,w2_1,w2_44,w2_1,w2_16,w2_3,w2_1,w2_3,w2_16,w2_68,w2_69,w2_1,w2_3,w2_16,w2_70,w2_71,w2_24,w2_72,w2_24,w2_73,w2_74,w2_3,w2_75,w2_3,w2_29,w2_30],q52,zP [(q0,1),(q0,3),(q0,4),(q0,5),(q2,0),(q2,1),(q3,0),(q5,1),(q5,2),(q5,3),(q6,1),(q6,2),(q6,3),(q7,2),(q7,49),(q9,0),(q10,0),(q10,2),(q10,6),(q10,7),(q10,11),(q10,53),(q10,54),(q12,0),(q13,0),(q13,2),(q13,6),(q13,7),(q13,11),(q13,53),(q13,54),(q17,1),(q17,207),(q17,208),(q17,209),(q20,0),(q25,1),(q25,207),(q25,208),(q25,209),(q28,0),(q35,0),(q36,0),(q40,0),(q41,0),(q43,0),(q43,2),(q45,0),(q45,2),(q46,33),(q48,33)],[.p q0 0],[(q0,0)]⟩
theorem S2_2_good:St.good S2_2 = true:=by kernel_rfl
noncomputable def S2_3:St:=⟨zL [w2_76,w2_1,w2_53,w2_77,w2_78,w2_79,w2_80,w2_81,w2_82,w2_6,w2_83,w2_84,w2_9,w2_85,w2_86,w2_1,w2_3,w2_1,w2_3,w2_12,w2_87,w2_18,w2_1,w2_88,w2_1,w2_16,w2_3,w2_12,w2_89,w2_90,w2_1,w2_70,w2_1,w2_16,w2_3,w2_1,w2_3,w2_16,w2_91,w2_92,w2_1,w2_3,w2_16,w2_93,w2_94,w2_24,w2_95,w2_24,w2_96,w2_97,w2_3,w2_98,w2_3,w2_29,w2_30],q55,zP [(q0,1),(q0,3),(q0,4),(q0,5),(q2,0),(q2,1),(q3,0),(q3,1),(q5,1),(q5,2),(q5,3),(q6,1),(q6,2),(q6,3),(q7,2),(q7,49),(q8,2),(q8,49),(q10,0),(q11,0),(q11,2),(q11,6),(q11,7),(q11,11),(q11,53),(q11,54),(q13,0),(q14,0),(q14,2),(q14,6),(q14,7),(q14,11),(q14,53),(q14,54),(q20,1),(q20,207),(q20,208),(q20,209),(q23,0),(q28,1),(q28,207),(q28,208),(q28,209),(q31,0),(q38,0),(q39,0),(q43,0),(q44,0),(q46,0),(q46,2),(q48,0),(q48,2),(q49,33),(q51,33)],[.p q0 0],[(q0,0)]⟩
theorem S2_3_good:St.good S2_3 = true:=by kernel_rfl
noncomputable def S2_4:St:=⟨zL [w2_52,w2_1,w2_53,w2_99,w2_55,w2_100,w2_101,w2_102,w2_103,w2_104,w2_6,w2_105,w2_106,w2_9,w2_107,w2_108,w2_1,w2_3,w2_1,w2_3,w2_1,w2_3,w2_12,w2_109,w2_43,w2_1,w2_68,w2_1,w2_16,w2_3,w2_12,w2_110,w2_111,w2_1,w2_93,w2_1,w2_16,w2_3,w2_1,w2_3,w2_16,w2_112,w2_113,w2_1,w2_3,w2_16,w2_114,w2_115,w2_24,w2_116,w2_24,w2_117,w2_118,w2_3,w2_119,w2_3,w2_29,w2_30],q58,zP [(q0,1),(q0,3),(q0,4),(q0,5),(q2,0),(q2,1),(q3,0),(q3,1),(q3,2),(q5,1),(q5,2),(q5,3),(q6,1),(q6,2),(q6,3),(q7,2),(q7,49),(q8,2),(q8,49),(q9,2),(q9,49),(q11,0),(q12,0),(q12,2),(q12,6),(q12,7),(q12,11),(q12,53),(q12,54),(q14,0),(q15,0),(q15,2),(q15,6),(q15,7),(q15,11),(q15,53),(q15,54),(q23,1),(q23,207),(q23,208),(q23,209),(q26,0),(q31,1),(q31,207),(q31,208),(q31,209),(q34,0),(q41,0),(q42,0),(q46,0),(q47,0),(q49,0),(q49,2),(q51,0),(q51,2),(q52,33),(q54,33)],[.p q0 0],[(q0,0)]⟩
theorem S2_4_good:St.good S2_4 = true:=by kernel_rfl
noncomputable def S2_5:St:=⟨zL [w2_76,w2_1,w2_53,w2_99,w2_78,w2_100,w2_101,w2_102,w2_103,w2_104,w2_6,w2_105,w2_120,w2_9,w2_107,w2_121,w2_1,w2_3,w2_1,w2_3,w2_1,w2_3,w2_12,w2_109,w2_43,w2_1,w2_68,w2_1,w2_16,w2_3,w2_12,w2_110,w2_111,w2_1,w2_93,w2_1,w2_16,w2_3,w2_1,w2_3,w2_16,w2_112,w2_113,w2_1,w2_3,w2_16,w2_114,w2_115,w2_24,w2_116,w2_24,w2_117,w2_118,w2_3,w2_119,w2_3,w2_29,w2_30],q58,zP [(q0,1),(q0,3),(q0,4),(q0,5),(q2,0),(q2,1),(q3,0),(q3,1),(q3,2),(q5,1),(q5,2),(q5,3),(q6,1),(q6,2),(q6,3),(q7,2),(q7,49),(q8,2),(q8,49),(q9,2),(q9,49),(q11,0),(q12,0),(q12,2),(q12,6),(q12,7),(q12,11),(q12,53),(q12,54),(q14,0),(q15,0),(q15,2),(q15,6),(q15,7),(q15,11),(q15,53),(q15,54),(q23,1),(q23,207),(q23,208),(q23,209),(q26,0),(q31,1),(q31,207),(q31,208),(q31,209),(q34,0),(q41,0),(q42,0),(q46,0),(q47,0),(q49,0),(q49,2),(q51,0),(q51,2),(q52,33),(q54,33)],[.p q0 0],[(q0,0)]⟩
theorem S2_5_good:St.good S2_5 = true:=by kernel_rfl
def dg3_0:Nat:=110461928530375197168402432747408230471540752442791175964557666175320946225767
def dg3_1:Nat:=68184191343129224377541207437162633548411899088683683335254108739724957139203
def dg3_2:Nat:=18698618322377431043300892169543482183131399259387245978461456590457666492628
def dg3_3:Nat:=452844283051969261784956636391582471011674612991015573043878701896143208448
def dg3_4:Nat:=30724725867754889935477241172920622883579902079401723531057004244427823459888
def dg3_5:Nat:=905157131635235650158280796581769611063510490591174026323009889427053871104
def dg3_6:Nat:=1357469980218502038531604956771956751115346368191332479602141076957964533760
def dg3_7:Nat:=18446744073709551615
def dg3_8:Nat:=531454532226148183326471266005372777034957459003898120782329318698381625858601145501653275023505678648868090180084466307947293368159734294035740464042759096693943773007737427740062220092740898690215802220605116739156514591610203639434834758761087476475371001628913957166198052690801157816766340520165779043065311451131529020807039289877553176526763013098373326608075190163345097495686356359350564083626652412970585446335588869816386671907140537790700948351947631044346468711175568279686727564118043077632443657434226388187987800584237072355049396327377963990280897799644150130556975949918363948554570656914643659179167537212397118104970663973992091302290208389356043681064504665488516275401311626484239873692029659978711054914586610508320962209696321667140324167164196393073411351300581592254934899863213309179601997150200016888558722413250606695767377114649710259511020535914247225441912841295004032618303577072481207058718226900194789152695153808564849356902851462703982982649537367792340145633404450923080900231589749653460906705501868225335596417653180411571705136519239214810872594604132480804395674808111318645691347363614563185824918700369464011561798171404750672236976977831329165633055655618832527628429030485443193405683986
def dg3_9:Nat:=851766771716792007518636040797565576636896521465362735760769573137558212051104962811334481509287640134579355648713115490137512939016908974119751347975919372956348384243271358606815829750674455400045606941255215003971335321683728161684919835083550781035613980065520332979617051040677177875716735168087920250700171901068393365176140004931452615617515381308618967143733435515307647967653335335385534935584890875403922431481616578010471241705218477690509058843183997998510156448482889322592435504349816438540265926947058828004213158462459166511803746154733721483634031904294549730225257620531783460868353333024045907571000864692595091872580643426275202783109353369389499494405661780148614511691073899730706356080520873173904044736084919130304749384763957774118481403154780424413090884592755198472538258429366545481573584608990167544552578926876937848994873552339706713505706076423757799977967224655790735264903753525664969712555262137504495783039706257853718110974543258431154570201394436308377673950533263071886052941956301455128960589307054385354955963403398797804344125959691896493088154593225033447814495855367674437133440582452293503424244034727944145090349443465893871032832330596467544958009317274424229064842257497522365849990837
def dg3_10:Nat:=568268679711548849157338376254458473349890754851735161329327580928318104079735643199642547401145637330667492115738750314562017684919426210744472232610122726468214765733484751803106402488126233792071755653985574916867950914105166366528117701009526688179225081164514759649203756736869404441227591139919923514460683487331139568212073039023864042859018995444732603918260095118280720789295831853753989025862344128796776891463807136608277398542245545365903840341279312784075510912868686908207278190220665007883128463897339231667754416212156655224474581917404008653394632752747569345263168803257654862319314678549577368629925563391311202638872794137712329207335848035799001580749240941595101630681746791062934875810375956534821435882481180906663171172219250741946517299842804830824096413084553401530776140534630445776738920711374207994650521975643110925755917510431574554744638557667093946249452631677484421438289782074703921923668914957562696029522062296754807478496300216871759478563703238809190388903229210097787799289856908245272539343423781526705953812582585226366857590084685686411764218184876772322480239845752433226527161889191334041933557846986493528377750819639070057124133460195691473213548004080701647571777931088327421610410505
def dg3_11:Nat:=110680464442257309697
noncomputable def w3_0:Row:=.c 7 (zC (.i 0)<|zC (.sl q1 0 3 34)<|zC (.i 2)<|zC (.m q2)<|zC (.m q3)<|zC .sn<|zC (.o 1)<|.nil)
noncomputable def w3_1:Row:=.c 102 (zC (.i 1)<|zD dg3_0<|zC (.i 4)<|zC (.i 2)<|zD dg3_1<|zC (.i 4)<|zC (.i 3)<|zD dg3_2<|zC (.i 4)<|.nil)
noncomputable def w3_2:Row:=.m .int 3 [⟨.i 1,.p q4 0,0⟩,⟨.i 2,.p q5 0,1⟩,⟨.i 3,.p q6 0,2⟩]
noncomputable def w3_3:Row:=.m .int 0 []
noncomputable def w3_4:Row:=.c 4 (zC (.i 1)<|zC (.sl q7 0 1 33)<|zC (.p q8 0)<|zC (.p q9 0)<|.nil)
noncomputable def w3_5:Row:=.c 4 (zC (.i 2)<|zC (.sl q10 0 1 33)<|zC (.p q11 0)<|zC (.p q12 0)<|.nil)
noncomputable def w3_6:Row:=.c 4 (zC (.i 3)<|zC (.sl q13 0 1 33)<|zC (.p q14 0)<|zC (.p q15 0)<|.nil)
noncomputable def w3_7:Row:=.c 33 (zD dg3_3<|zC (.i 4)<|.nil)
noncomputable def w3_8:Row:=.c 5 (zC (.m q16)<|zC (.b false)<|zC (.i 0)<|zC (.i 0)<|zC (.i 0)<|.nil)
noncomputable def w3_9:Row:=.c 60 (zC (.p q17 0)<|zC (.p q8 0)<|zC (.p q18 0)<|zC (.i 1)<|zC (.i 2)<|zC (.i 0)<|zC (.sl q19 0 3 34)<|zC (.p q20 0)<|zC .sn<|zC .sn<|zC (.i 0)<|zC (.sl q21 0 3 34)<|zC .sn<|zC .sn<|zC (.i 0)<|zC .sn<|zC (.i 0)<|zD dg3_4<|zC .sn<|zC .sn<|zC .sn<|zC .sn<|zC (.m q22)<|zC (.m q23)<|zC .sn<|zC .sn<|zC (.i 0)<|zC (.b false)<|zC .sn<|.nil)
noncomputable def w3_10:Row:=.c 33 (zD dg3_5<|zC (.i 4)<|.nil)
noncomputable def w3_11:Row:=.c 5 (zC (.m q24)<|zC (.b false)<|zC (.i 0)<|zC (.i 0)<|zC (.i 0)<|.nil)
noncomputable def w3_12:Row:=.c 60 (zC (.p q25 0)<|zC (.p q11 0)<|zC (.p q26 0)<|zC (.i 2)<|zC (.i 2)<|zC (.i 0)<|zC (.sl q27 0 3 34)<|zC (.p q28 0)<|zC .sn<|zC .sn<|zC (.i 0)<|zC (.sl q29 0 3 34)<|zC .sn<|zC .sn<|zC (.i 0)<|zC .sn<|zC (.i 0)<|zD dg3_4<|zC .sn<|zC .sn<|zC .sn<|zC .sn<|zC (.m q30)<|zC (.m q31)<|zC .sn<|zC .sn<|zC (.i 0)<|zC (.b false)<|zC .sn<|.nil)
noncomputable def w3_13:Row:=.c 33 (zD dg3_6<|zC (.i 4)<|.nil)
noncomputable def w3_14:Row:=.c 5 (zC (.m q32)<|zC (.b false)<|zC (.i 0)<|zC (.i 0)<|zC (.i 0)<|.nil)
noncomputable def w3_15:Row:=.c 60 (zC (.p q33 0)<|zC (.p q14 0)<|zC (.p q34 0)<|zC (.i 3)<|zC (.i 2)<|zC (.i 0)<|zC (.sl q35 0 3 34)<|zC (.p q36 0)<|zC .sn<|zC .sn<|zC (.i 0)<|zC (.sl q37 0 3 34)<|zC .sn<|zC .sn<|zC (.i 0)<|zC .sn<|zC (.i 0)<|zD dg3_4<|zC .sn<|zC .sn<|zC .sn<|zC .sn<|zC (.m q38)<|zC (.m q39)<|zC .sn<|zC .sn<|zC (.i 0)<|zC (.b false)<|zC .sn<|.nil)
noncomputable def w3_16:Row:=.m .str 0 []
noncomputable def w3_17:Row:=.c 213 (zC (.i 0)<|zC (.sl q40 0 3 34)<|zC (.i 1)<|zC (.i 2)<|zC (.rk 4607182418800017408 0)<|zC (.i 0)<|zC (.i 0)<|zC (.i dg3_7)<|zC (.i 0)<|zC (.i 0)<|.cons 96 (.bs 96 0)<|zC .sn<|zC (.i dg3_7)<|zC (.i 0)<|zC (.i 0)<|.cons 96 (.bs 96 0)<|zC .sn<|zC (.m q41)<|zC (.m q42)<|zC (.p q43 0)<|zC (.b false)<|zC (.b false)<|zC .sn<|.nil)
noncomputable def w3_18:Row:=.c 2 (zC (.p q8 0)<|zC (.s 3 7106407)<|.nil)
noncomputable def w3_19:Row:=.c 1 (zC (.m q44)<|.nil)
noncomputable def w3_20:Row:=.m .dig 0 []
noncomputable def w3_21:Row:=.c 213 (zC (.i 0)<|zC (.sl q45 0 3 34)<|zC (.i 2)<|zC (.i 2)<|zC (.rk 4607182418800017408 0)<|zC (.i 0)<|zC (.i 0)<|zC (.i dg3_7)<|zC (.i 0)<|zC (.i 0)<|.cons 96 (.bs 96 0)<|zC .sn<|zC (.i dg3_7)<|zC (.i 0)<|zC (.i 0)<|.cons 96 (.bs 96 0)<|zC .sn<|zC (.m q46)<|zC (.m q47)<|zC (.p q48 0)<|zC (.b false)<|zC (.b false)<|zC .sn<|.nil)
noncomputable def w3_22:Row:=.c 2 (zC (.p q11 0)<|zC (.s 3 7106407)<|.nil)
noncomputable def w3_23:Row:=.c 1 (zC (.m q49)<|.nil)
noncomputable def w3_24:Row:=.c 213 (zC (.i 0)<|zC (.sl q50 0 3 34)<|zC (.i 3)<|zC (.i 2)<|zC (.rk 4607182418800017408 0)<|zC (.i 0)<|zC (.i 0)<|zC (.i dg3_7)<|zC (.i 0)<|zC (.i 0)<|.cons 96 (.bs 96 0)<|zC .sn<|zC (.i dg3_7)<|zC (.i 0)<|zC (.i 0)<|.cons 96 (.bs 96 0)<|zC .sn<|zC (.m q51)<|zC (.m q52)<|zC (.p q53 0)<|zC (.b false)<|zC (.b false)<|zC .sn<|.nil)
noncomputable def w3_25:Row:=.c 2 (zC (.p q14 0)<|zC (.s 3 7106407)<|.nil)
noncomputable def w3_26:Row:=.c 1 (zC (.m q54)<|.nil)
noncomputable def w3_27:Row:=.c 1 (zC (.m q55)<|.nil)
noncomputable def w3_28:Row:=.m (.key 0) 1 [⟨.a (zD dg3_0<|zC (.i 4)<|.nil),.p q56 0,0⟩]
noncomputable def w3_29:Row:=.c 1 (zC (.m q57)<|.nil)
noncomputable def w3_30:Row:=.m (.key 0) 1 [⟨.a (zD dg3_1<|zC (.i 4)<|.nil),.p q58 0,0⟩]
noncomputable def w3_31:Row:=.c 1 (zC (.m q59)<|.nil)
noncomputable def w3_32:Row:=.m (.key 0) 1 [⟨.a (zD dg3_2<|zC (.i 4)<|.nil),.p q60 0,0⟩]
noncomputable def w3_33:Row:=.m (.key 1) 0 []
noncomputable def w3_34:Row:=.c 3 (zC (.p q61 0)<|zC (.i 0)<|zC (.m q62)<|.nil)
noncomputable def w3_35:Row:=.c 3 (zC (.p q63 0)<|zC (.i 0)<|zC (.m q64)<|.nil)
noncomputable def w3_36:Row:=.c 3 (zC (.p q65 0)<|zC (.i 0)<|zC (.m q66)<|.nil)
noncomputable def w3_37:Row:=.c 34 (zD dg3_3<|zC (.i 4)<|zC (.sl q67 0 16 32)<|.nil)
noncomputable def w3_38:Row:=.c 34 (zD dg3_5<|zC (.i 4)<|zC (.sl q68 0 16 32)<|.nil)
noncomputable def w3_39:Row:=.c 34 (zD dg3_6<|zC (.i 4)<|zC (.sl q69 0 16 32)<|.nil)
noncomputable def w3_40:Row:=.c 512 (.cons 512 (.bs 512 dg3_8)<|.nil)
noncomputable def w3_41:Row:=.c 512 (.cons 512 (.bs 512 dg3_9)<|.nil)
noncomputable def w3_42:Row:=.c 512 (.cons 512 (.bs 512 dg3_10)<|.nil)
noncomputable def w3_43:Row:=.m .int 1 [⟨.i 1,.p q7 0,0⟩]
noncomputable def w3_44:Row:=.c 4 (zC (.i 1)<|zC (.sl q8 0 1 33)<|zC (.p q9 0)<|zC (.p q10 0)<|.nil)
noncomputable def w3_45:Row:=.c 4 (zC (.i 2)<|zC (.sl q11 0 1 33)<|zC (.p q12 0)<|zC (.p q13 0)<|.nil)
noncomputable def w3_46:Row:=.c 4 (zC (.i 3)<|zC (.sl q14 0 1 33)<|zC (.p q15 0)<|zC (.p q16 0)<|.nil)
noncomputable def w3_47:Row:=.c 54 (zC (.i 1)<|zC (.i 0)<|zC (.sl q17 0 3 34)<|zC (.i 0)<|zC (.sl q17 0 3 34)<|zC (.o 1)<|zC (.o 1)<|zC (.o 1)<|zC (.o 0)<|zC (.o 0)<|zC (.o 0)<|zC (.o 1)<|zC (.o 1)<|zC (.o 1)<|zC (.o 3)<|zC (.o 3)<|zC (.o 3)<|zC (.o 3)<|zC (.o 3)<|zC (.o 3)<|zC (.o 3)<|zC (.o 3)<|zC (.o 3)<|zC (.o 3)<|zC (.o 3)<|zC (.o 3)<|zC (.o 3)<|zC (.o 3)<|zC (.o 3)<|zC (.o 3)<|zC (.o 3)<|zC (.o 3)<|zC (.o 3)<|zC (.o 3)<|zC (.o 3)<|zC (.o 3)<|zC (.o 3)<|zC (.o 3)<|zC (.o 3)<|zC (.o 3)<|zC (.o 3)<|zC (.o 3)<|zC (.o 3)<|zC (.o 3)<|zC (.o 3)<|zC (.o 3)<|zC (.o 1)<|zC (.o 2)<|zC (.i 0)<|zC (.m q18)<|zC (.i 0)<|zC (.i 0)<|zC (.i 0)<|zC .sn<|.nil)
noncomputable def w3_48:Row:=.c 5 (zC (.m q19)<|zC (.b false)<|zC (.i 0)<|zC (.i 0)<|zC (.i 0)<|.nil)
noncomputable def w3_49:Row:=.c 60 (zC (.p q20 0)<|zC (.p q9 0)<|zC (.p q21 0)<|zC (.i 1)<|zC (.i 2)<|zC (.i 0)<|zC (.sl q22 0 3 34)<|zC (.p q23 0)<|zC .sn<|zC .sn<|zC (.i 0)<|zC (.sl q24 0 3 34)<|zC .sn<|zC .sn<|zC (.i 0)<|zC .sn<|zC (.i 0)<|zD dg3_4<|zC .sn<|zC .sn<|zC .sn<|zC .sn<|zC (.m q25)<|zC (.m q26)<|zC .sn<|zC .sn<|zC (.i 5)<|zC (.b false)<|zC .sn<|.nil)
noncomputable def w3_50:Row:=.c 5 (zC (.m q27)<|zC (.b false)<|zC (.i 0)<|zC (.i 0)<|zC (.i 0)<|.nil)
noncomputable def w3_51:Row:=.c 60 (zC (.p q28 0)<|zC (.p q12 0)<|zC (.p q29 0)<|zC (.i 2)<|zC (.i 2)<|zC (.i 0)<|zC (.sl q30 0 3 34)<|zC (.p q31 0)<|zC .sn<|zC .sn<|zC (.i 0)<|zC (.sl q32 0 3 34)<|zC .sn<|zC .sn<|zC (.i 0)<|zC .sn<|zC (.i 0)<|zD dg3_4<|zC .sn<|zC .sn<|zC .sn<|zC .sn<|zC (.m q33)<|zC (.m q34)<|zC .sn<|zC .sn<|zC (.i 5)<|zC (.b false)<|zC .sn<|.nil)
noncomputable def w3_52:Row:=.c 5 (zC (.m q35)<|zC (.b false)<|zC (.i 0)<|zC (.i 0)<|zC (.i 0)<|.nil)
noncomputable def w3_53:Row:=.c 60 (zC (.p q36 0)<|zC (.p q15 0)<|zC (.p q37 0)<|zC (.i 3)<|zC (.i 2)<|zC (.i 0)<|zC (.sl q38 0 3 34)<|zC (.p q39 0)<|zC .sn<|zC .sn<|zC (.i 0)<|zC (.sl q40 0 3 34)<|zC .sn<|zC .sn<|zC (.i 0)<|zC .sn<|zC (.i 0)<|zD dg3_4<|zC .sn<|zC .sn<|zC .sn<|zC .sn<|zC (.m q41)<|zC (.m q42)<|zC .sn<|zC .sn<|zC (.i 5)<|zC (.b false)<|zC .sn<|.nil)
noncomputable def w3_54:Row:=.c 213 (zC (.i 0)<|zC (.sl q43 0 3 34)<|zC (.i 1)<|zC (.i 2)<|zC (.rk 4607182418800017408 0)<|zC (.i 0)<|zC (.i 0)<|zC (.i dg3_7)<|zC (.i 0)<|zC (.i 0)<|.cons 96 (.bs 96 0)<|zC .sn<|zC (.i dg3_7)<|zC (.i 0)<|zC (.i 0)<|.cons 96 (.bs 96 0)<|zC .sn<|zC (.m q44)<|zC (.m q45)<|zC (.p q46 0)<|zC (.b false)<|zC (.b false)<|zC .sn<|.nil)
noncomputable def w3_55:Row:=.c 2 (zC (.p q9 0)<|zC (.s 3 7106407)<|.nil)
noncomputable def w3_56:Row:=.c 1 (zC (.m q47)<|.nil)
noncomputable def w3_57:Row:=.c 213 (zC (.i 0)<|zC (.sl q48 0 3 34)<|zC (.i 2)<|zC (.i 2)<|zC (.rk 4607182418800017408 0)<|zC (.i 0)<|zC (.i 0)<|zC (.i dg3_7)<|zC (.i 0)<|zC (.i 0)<|.cons 96 (.bs 96 0)<|zC .sn<|zC (.i dg3_7)<|zC (.i 0)<|zC (.i 0)<|.cons 96 (.bs 96 0)<|zC .sn<|zC (.m q49)<|zC (.m q50)<|zC (.p q51 0)<|zC (.b false)<|zC (.b false)<|zC .sn<|.nil)
noncomputable def w3_58:Row:=.c 2 (zC (.p q12 0)<|zC (.s 3 7106407)<|.nil)
noncomputable def w3_59:Row:=.c 1 (zC (.m q52)<|.nil)
noncomputable def w3_60:Row:=.c 213 (zC (.i 0)<|zC (.sl q53 0 3 34)<|zC (.i 3)<|zC (.i 2)<|zC (.rk 4607182418800017408 0)<|zC (.i 0)<|zC (.i 0)<|zC (.i dg3_7)<|zC (.i 0)<|zC (.i 0)<|.cons 96 (.bs 96 0)<|zC .sn<|zC (.i dg3_7)<|zC (.i 0)<|zC (.i 0)<|.cons 96 (.bs 96 0)<|zC .sn<|zC (.m q54)<|zC (.m q55)<|zC (.p q56 0)<|zC (.b false)<|zC (.b false)<|zC .sn<|.nil)
noncomputable def w3_61:Row:=.c 2 (zC (.p q15 0)<|zC (.s 3 7106407)<|.nil)
noncomputable def w3_62:Row:=.c 1 (zC (.m q58)<|.nil)
noncomputable def w3_63:Row:=.m (.key 0) 1 [⟨.a (zD dg3_0<|zC (.i 4)<|.nil),.p q59 0,0⟩]
noncomputable def w3_64:Row:=.c 1 (zC (.m q60)<|.nil)
noncomputable def w3_65:Row:=.m (.key 0) 1 [⟨.a (zD dg3_1<|zC (.i 4)<|.nil),.p q61 0,0⟩]
noncomputable def w3_66:Row:=.c 1 (zC (.m q62)<|.nil)
noncomputable def w3_67:Row:=.m (.key 0) 1 [⟨.a (zD dg3_2<|zC (.i 4)<|.nil),.p q63 0,0⟩]
noncomputable def w3_68:Row:=.c 3 (zC (.p q64 0)<|zC (.i 0)<|zC (.m q65)<|.nil)
noncomputable def w3_69:Row:=.c 3 (zC (.p q66 0)<|zC (.i 0)<|zC (.m q67)<|.nil)
noncomputable def w3_70:Row:=.c 3 (zC (.p q68 0)<|zC (.i 0)<|zC (.m q69)<|.nil)
noncomputable def w3_71:Row:=.c 34 (zD dg3_3<|zC (.i 4)<|zC (.sl q70 0 16 32)<|.nil)
noncomputable def w3_72:Row:=.c 34 (zD dg3_5<|zC (.i 4)<|zC (.sl q71 0 16 32)<|.nil)
noncomputable def w3_73:Row:=.c 34 (zD dg3_6<|zC (.i 4)<|zC (.sl q72 0 16 32)<|.nil)
noncomputable def w3_74:Row:=.c 7 (zC (.i 0)<|zC (.sl q1 0 3 34)<|zC (.i 2)<|zC (.m q2)<|zC (.m q3)<|zC (.sl q4 0 0 4)<|zC (.o 1)<|.nil)
noncomputable def w3_75:Row:=.m .int 3 [⟨.i 1,.p q5 0,0⟩,⟨.i 2,.p q6 0,1⟩,⟨.i 3,.p q7 0,2⟩]
noncomputable def w3_76:Row:=.m .int 1 [⟨.i 1,.p q8 0,0⟩]
noncomputable def w3_77:Row:=.c 0 .nil
noncomputable def w3_78:Row:=.c 4 (zC (.i 1)<|zC (.sl q9 0 1 33)<|zC (.p q10 0)<|zC (.p q11 0)<|.nil)
noncomputable def w3_79:Row:=.c 4 (zC (.i 2)<|zC (.sl q12 0 1 33)<|zC (.p q13 0)<|zC (.p q14 0)<|.nil)
noncomputable def w3_80:Row:=.c 4 (zC (.i 3)<|zC (.sl q15 0 1 33)<|zC (.p q16 0)<|zC (.p q17 0)<|.nil)
noncomputable def w3_81:Row:=.c 54 (zC (.i 1)<|zC (.i 0)<|zC (.sl q18 0 3 34)<|zC (.i 0)<|zC (.sl q18 0 3 34)<|zC (.o 1)<|zC (.o 1)<|zC (.o 1)<|zC (.o 0)<|zC (.o 0)<|zC (.o 0)<|zC (.o 1)<|zC (.o 1)<|zC (.o 1)<|zC (.o 3)<|zC (.o 3)<|zC (.o 3)<|zC (.o 3)<|zC (.o 3)<|zC (.o 3)<|zC (.o 3)<|zC (.o 3)<|zC (.o 3)<|zC (.o 3)<|zC (.o 3)<|zC (.o 3)<|zC (.o 3)<|zC (.o 3)<|zC (.o 3)<|zC (.o 3)<|zC (.o 3)<|zC (.o 3)<|zC (.o 3)<|zC (.o 3)<|zC (.o 3)<|zC (.o 3)<|zC (.o 3)<|zC (.o 3)<|zC (.o 3)<|zC (.o 3)<|zC (.o 3)<|zC (.o 3)<|zC (.o 3)<|zC (.o 3)<|zC (.o 3)<|zC (.o 3)<|zC (.o 1)<|zC (.o 2)<|zC (.i 0)<|zC (.m q19)<|zC (.i 0)<|zC (.i 0)<|zC (.i 0)<|zC .sn<|.nil)
noncomputable def w3_82:Row:=.c 5 (zC (.m q20)<|zC (.b false)<|zC (.i 0)<|zC (.i 0)<|zC (.i 0)<|.nil)
noncomputable def w3_83:Row:=.c 60 (zC (.p q21 0)<|zC (.p q10 0)<|zC (.p q22 0)<|zC (.i 1)<|zC (.i 2)<|zC (.i 0)<|zC (.sl q23 0 3 34)<|zC (.p q24 0)<|zC .sn<|zC .sn<|zC (.i 0)<|zC (.sl q25 0 3 34)<|zC .sn<|zC .sn<|zC (.i 0)<|zC .sn<|zC (.i 0)<|zD dg3_4<|zC .sn<|zC .sn<|zC .sn<|zC .sn<|zC (.m q26)<|zC (.m q27)<|zC .sn<|zC .sn<|zC (.i 5)<|zC (.b false)<|zC .sn<|.nil)
noncomputable def w3_84:Row:=.c 5 (zC (.m q28)<|zC (.b false)<|zC (.i 0)<|zC (.i 0)<|zC (.i 0)<|.nil)
noncomputable def w3_85:Row:=.c 60 (zC (.p q29 0)<|zC (.p q13 0)<|zC (.p q30 0)<|zC (.i 2)<|zC (.i 2)<|zC (.i 0)<|zC (.sl q31 0 3 34)<|zC (.p q32 0)<|zC .sn<|zC .sn<|zC (.i 0)<|zC (.sl q33 0 3 34)<|zC .sn<|zC .sn<|zC (.i 0)<|zC .sn<|zC (.i 0)<|zD dg3_4<|zC .sn<|zC .sn<|zC .sn<|zC .sn<|zC (.m q34)<|zC (.m q35)<|zC .sn<|zC .sn<|zC (.i 5)<|zC (.b false)<|zC .sn<|.nil)
noncomputable def w3_86:Row:=.c 5 (zC (.m q36)<|zC (.b false)<|zC (.i 0)<|zC (.i 0)<|zC (.i 0)<|.nil)
noncomputable def w3_87:Row:=.c 60 (zC (.p q37 0)<|zC (.p q16 0)<|zC (.p q38 0)<|zC (.i 3)<|zC (.i 2)<|zC (.i 0)<|zC (.sl q39 0 3 34)<|zC (.p q40 0)<|zC .sn<|zC .sn<|zC (.i 0)<|zC (.sl q41 0 3 34)<|zC .sn<|zC .sn<|zC (.i 0)<|zC .sn<|zC (.i 0)<|zD dg3_4<|zC .sn<|zC .sn<|zC .sn<|zC .sn<|zC (.m q42)<|zC (.m q43)<|zC .sn<|zC .sn<|zC (.i 5)<|zC (.b false)<|zC .sn<|.nil)
noncomputable def w3_88:Row:=.c 213 (zC (.i 0)<|zC (.sl q44 0 3 34)<|zC (.i 1)<|zC (.i 2)<|zC (.rk 4607182418800017408 0)<|zC (.i 0)<|zC (.i 0)<|zC (.i dg3_7)<|zC (.i 0)<|zC (.i 0)<|.cons 96 (.bs 96 0)<|zC .sn<|zC (.i dg3_7)<|zC (.i 0)<|zC (.i 0)<|.cons 96 (.bs 96 0)<|zC .sn<|zC (.m q45)<|zC (.m q46)<|zC (.p q47 0)<|zC (.b false)<|zC (.b false)<|zC .sn<|.nil)
noncomputable def w3_89:Row:=.c 2 (zC (.p q10 0)<|zC (.s 3 7106407)<|.nil)
noncomputable def w3_90:Row:=.c 1 (zC (.m q48)<|.nil)
noncomputable def w3_91:Row:=.c 213 (zC (.i 0)<|zC (.sl q49 0 3 34)<|zC (.i 2)<|zC (.i 2)<|zC (.rk 4607182418800017408 0)<|zC (.i 0)<|zC (.i 0)<|zC (.i dg3_7)<|zC (.i 0)<|zC (.i 0)<|.cons 96 (.bs 96 0)<|zC .sn<|zC (.i dg3_7)<|zC (.i 0)<|zC (.i 0)<|.cons 96 (.bs 96 0)<|zC .sn<|zC (.m q50)<|zC (.m q51)<|zC (.p q52 0)<|zC (.b false)<|zC (.b false)<|zC .sn<|.nil)
noncomputable def w3_92:Row:=.c 2 (zC (.p q13 0)<|zC (.s 3 7106407)<|.nil)
noncomputable def w3_93:Row:=.c 1 (zC (.m q53)<|.nil)
noncomputable def w3_94:Row:=.c 213 (zC (.i 0)<|zC (.sl q54 0 3 34)<|zC (.i 3)<|zC (.i 2)<|zC (.rk 4607182418800017408 0)<|zC (.i 0)<|zC (.i 0)<|zC (.i dg3_7)<|zC (.i 0)<|zC (.i 0)<|.cons 96 (.bs 96 0)<|zC .sn<|zC (.i dg3_7)<|zC (.i 0)<|zC (.i 0)<|.cons 96 (.bs 96 0)<|zC .sn<|zC (.m q55)<|zC (.m q56)<|zC (.p q57 0)<|zC (.b false)<|zC (.b false)<|zC .sn<|.nil)
noncomputable def w3_95:Row:=.c 2 (zC (.p q16 0)<|zC (.s 3 7106407)<|.nil)
noncomputable def w3_96:Row:=.m (.key 0) 1 [⟨.a (zD dg3_0<|zC (.i 4)<|.nil),.p q60 0,0⟩]
noncomputable def w3_97:Row:=.c 1 (zC (.m q61)<|.nil)
noncomputable def w3_98:Row:=.m (.key 0) 1 [⟨.a (zD dg3_1<|zC (.i 4)<|.nil),.p q62 0,0⟩]
noncomputable def w3_99:Row:=.c 1 (zC (.m q63)<|.nil)
noncomputable def w3_100:Row:=.m (.key 0) 1 [⟨.a (zD dg3_2<|zC (.i 4)<|.nil),.p q64 0,0⟩]
noncomputable def w3_101:Row:=.c 3 (zC (.p q67 0)<|zC (.i 0)<|zC (.m q68)<|.nil)
noncomputable def w3_102:Row:=.c 3 (zC (.p q69 0)<|zC (.i 0)<|zC (.m q70)<|.nil)
noncomputable def w3_103:Row:=.c 34 (zD dg3_3<|zC (.i 4)<|zC (.sl q71 0 16 32)<|.nil)
noncomputable def w3_104:Row:=.c 34 (zD dg3_5<|zC (.i 4)<|zC (.sl q72 0 16 32)<|.nil)
noncomputable def w3_105:Row:=.c 34 (zD dg3_6<|zC (.i 4)<|zC (.sl q73 0 16 32)<|.nil)
noncomputable def w3_106:Row:=.c 7 (zC (.i 0)<|zC (.sl q1 0 3 34)<|zC (.i 2)<|zC (.m q2)<|zC (.m q3)<|zC (.sl q4 0 6 4)<|zC (.o 1)<|.nil)
noncomputable def w3_107:Row:=.m .int 2 [⟨.i 1,.p q8 0,0⟩,⟨.i 2,.p q9 0,1⟩]
noncomputable def w3_108:Row:=.c 24 (zC (.o 1)<|zC (.i 1)<|zC (.i 2)<|zC (.s 16 dg3_11)<|zC (.o 1)<|zC (.i 1)<|zC (.i 3)<|zC (.s 16 dg3_11)<|zC (.o 1)<|zC (.i 2)<|zC (.i 1)<|zC (.s 16 dg3_11)<|zC (.o 1)<|zC (.i 2)<|zC (.i 3)<|zC (.s 16 dg3_11)<|zC (.o 1)<|zC (.i 3)<|zC (.i 1)<|zC (.s 16 dg3_11)<|zC (.o 1)<|zC (.i 3)<|zC (.i 2)<|zC (.s 16 dg3_11)<|.nil)
noncomputable def w3_109:Row:=.c 4 (zC (.i 1)<|zC (.sl q10 0 1 33)<|zC (.p q11 0)<|zC (.p q12 0)<|.nil)
noncomputable def w3_110:Row:=.c 4 (zC (.i 2)<|zC (.sl q13 0 1 33)<|zC (.p q14 0)<|zC (.p q15 0)<|.nil)
noncomputable def w3_111:Row:=.c 4 (zC (.i 3)<|zC (.sl q16 0 1 33)<|zC (.p q17 0)<|zC (.p q18 0)<|.nil)
noncomputable def w3_112:Row:=.c 54 (zC (.i 1)<|zC (.i 0)<|zC (.sl q19 0 3 34)<|zC (.i 0)<|zC (.sl q19 0 3 34)<|zC (.o 1)<|zC (.o 1)<|zC (.o 1)<|zC (.o 0)<|zC (.o 0)<|zC (.o 0)<|zC (.o 1)<|zC (.o 1)<|zC (.o 1)<|zC (.o 3)<|zC (.o 3)<|zC (.o 3)<|zC (.o 3)<|zC (.o 3)<|zC (.o 3)<|zC (.o 3)<|zC (.o 3)<|zC (.o 3)<|zC (.o 3)<|zC (.o 3)<|zC (.o 3)<|zC (.o 3)<|zC (.o 3)<|zC (.o 3)<|zC (.o 3)<|zC (.o 3)<|zC (.o 3)<|zC (.o 3)<|zC (.o 3)<|zC (.o 3)<|zC (.o 3)<|zC (.o 3)<|zC (.o 3)<|zC (.o 3)<|zC (.o 3)<|zC (.o 3)<|zC (.o 3)<|zC (.o 3)<|zC (.o 3)<|zC (.o 3)<|zC (.o 3)<|zC (.o 1)<|zC (.o 2)<|zC (.i 0)<|zC (.m q20)<|zC (.i 0)<|zC (.i 0)<|zC (.i 0)<|zC .sn<|.nil)
noncomputable def w3_113:Row:=.c 54 (zC (.i 2)<|zC (.i 0)<|zC (.sl q21 0 3 34)<|zC (.i 0)<|zC (.sl q21 0 3 34)<|zC (.o 1)<|zC (.o 1)<|zC (.o 1)<|zC (.o 0)<|zC (.o 0)<|zC (.o 0)<|zC (.o 1)<|zC (.o 1)<|zC (.o 1)<|zC (.o 3)<|zC (.o 3)<|zC (.o 3)<|zC (.o 3)<|zC (.o 3)<|zC (.o 3)<|zC (.o 3)<|zC (.o 3)<|zC (.o 3)<|zC (.o 3)<|zC (.o 3)<|zC (.o 3)<|zC (.o 3)<|zC (.o 3)<|zC (.o 3)<|zC (.o 3)<|zC (.o 3)<|zC (.o 3)<|zC (.o 3)<|zC (.o 3)<|zC (.o 3)<|zC (.o 3)<|zC (.o 3)<|zC (.o 3)<|zC (.o 3)<|zC (.o 3)<|zC (.o 3)<|zC (.o 3)<|zC (.o 3)<|zC (.o 3)<|zC (.o 3)<|zC (.o 3)<|zC (.o 1)<|zC (.o 2)<|zC (.i 0)<|zC (.m q22)<|zC (.i 0)<|zC (.i 0)<|zC (.i 0)<|zC .sn<|.nil)
noncomputable def w3_114:Row:=.c 5 (zC (.m q23)<|zC (.b false)<|zC (.i 0)<|zC (.i 0)<|zC (.i 0)<|.nil)
noncomputable def w3_115:Row:=.c 60 (zC (.p q24 0)<|zC (.p q11 0)<|zC (.p q25 0)<|zC (.i 1)<|zC (.i 2)<|zC (.i 0)<|zC (.sl q26 0 3 34)<|zC (.p q27 0)<|zC .sn<|zC .sn<|zC (.i 0)<|zC (.sl q28 0 3 34)<|zC .sn<|zC .sn<|zC (.i 0)<|zC .sn<|zC (.i 0)<|zD dg3_4<|zC .sn<|zC .sn<|zC .sn<|zC .sn<|zC (.m q29)<|zC (.m q30)<|zC .sn<|zC .sn<|zC (.i 0)<|zC (.b false)<|zC .sn<|.nil)
noncomputable def w3_116:Row:=.c 5 (zC (.m q31)<|zC (.b false)<|zC (.i 0)<|zC (.i 0)<|zC (.i 0)<|.nil)
noncomputable def w3_117:Row:=.c 60 (zC (.p q32 0)<|zC (.p q14 0)<|zC (.p q33 0)<|zC (.i 2)<|zC (.i 2)<|zC (.i 0)<|zC (.sl q34 0 3 34)<|zC (.p q35 0)<|zC .sn<|zC .sn<|zC (.i 0)<|zC (.sl q36 0 3 34)<|zC .sn<|zC .sn<|zC (.i 0)<|zC .sn<|zC (.i 0)<|zD dg3_4<|zC .sn<|zC .sn<|zC .sn<|zC .sn<|zC (.m q37)<|zC (.m q38)<|zC .sn<|zC .sn<|zC (.i 0)<|zC (.b false)<|zC .sn<|.nil)
noncomputable def w3_118:Row:=.c 5 (zC (.m q39)<|zC (.b false)<|zC (.i 0)<|zC (.i 0)<|zC (.i 0)<|.nil)
noncomputable def w3_119:Row:=.c 60 (zC (.p q40 0)<|zC (.p q17 0)<|zC (.p q41 0)<|zC (.i 3)<|zC (.i 2)<|zC (.i 0)<|zC (.sl q42 0 3 34)<|zC (.p q43 0)<|zC .sn<|zC .sn<|zC (.i 0)<|zC (.sl q44 0 3 34)<|zC .sn<|zC .sn<|zC (.i 0)<|zC .sn<|zC (.i 0)<|zD dg3_4<|zC .sn<|zC .sn<|zC .sn<|zC .sn<|zC (.m q45)<|zC (.m q46)<|zC .sn<|zC .sn<|zC (.i 0)<|zC (.b false)<|zC .sn<|.nil)
noncomputable def w3_120:Row:=.c 213 (zC (.i 0)<|zC (.sl q47 0 3 34)<|zC (.i 1)<|zC (.i 2)<|zC (.rk 4607182418800017408 0)<|zC (.i 0)<|zC (.i 0)<|zC (.i dg3_7)<|zC (.i 0)<|zC (.i 0)<|.cons 96 (.bs 96 0)<|zC .sn<|zC (.i dg3_7)<|zC (.i 0)<|zC (.i 0)<|.cons 96 (.bs 96 0)<|zC .sn<|zC (.m q48)<|zC (.m q49)<|zC (.p q50 0)<|zC (.b false)<|zC (.b false)<|zC .sn<|.nil)
noncomputable def w3_121:Row:=.c 1 (zC (.m q51)<|.nil)
noncomputable def w3_122:Row:=.c 213 (zC (.i 0)<|zC (.sl q52 0 3 34)<|zC (.i 2)<|zC (.i 2)<|zC (.rk 4607182418800017408 0)<|zC (.i 0)<|zC (.i 0)<|zC (.i dg3_7)<|zC (.i 0)<|zC (.i 0)<|.cons 96 (.bs 96 0)<|zC .sn<|zC (.i dg3_7)<|zC (.i 0)<|zC (.i 0)<|.cons 96 (.bs 96 0)<|zC .sn<|zC (.m q53)<|zC (.m q54)<|zC (.p q55 0)<|zC (.b false)<|zC (.b false)<|zC .sn<|.nil)
noncomputable def w3_123:Row:=.c 1 (zC (.m q56)<|.nil)
noncomputable def w3_124:Row:=.c 213 (zC (.i 0)<|zC (.sl q57 0 3 34)<|zC (.i 3)<|zC (.i 2)<|zC (.rk 4607182418800017408 0)<|zC (.i 0)<|zC (.i 0)<|zC (.i dg3_7)<|zC (.i 0)<|zC (.i 0)<|.cons 96 (.bs 96 0)<|zC .sn<|zC (.i dg3_7)<|zC (.i 0)<|zC (.i 0)<|.cons 96 (.bs 96 0)<|zC .sn<|zC (.m q58)<|zC (.m q59)<|zC (.p q60 0)<|zC (.b false)<|zC (.b false)<|zC .sn<|.nil)
noncomputable def w3_125:Row:=.c 2 (zC (.p q17 0)<|zC (.s 3 7106407)<|.nil)
noncomputable def w3_126:Row:=.m (.key 0) 1 [⟨.a (zD dg3_0<|zC (.i 4)<|.nil),.p q63 0,0⟩]
noncomputable def w3_127:Row:=.c 1 (zC (.m q64)<|.nil)
noncomputable def w3_128:Row:=.m (.key 0) 1 [⟨.a (zD dg3_1<|zC (.i 4)<|.nil),.p q65 0,0⟩]
noncomputable def w3_129:Row:=.c 1 (zC (.m q66)<|.nil)
noncomputable def w3_130:Row:=.m (.key 0) 1 [⟨.a (zD dg3_2<|zC (.i 4)<|.nil),.p q67 0,0⟩]
noncomputable def w3_131:Row:=.c 3 (zC (.p q70 0)<|zC (.i 0)<|zC (.m q71)<|.nil)
noncomputable def w3_132:Row:=.c 3 (zC (.p q72 0)<|zC (.i 0)<|zC (.m q73)<|.nil)
noncomputable def w3_133:Row:=.c 34 (zD dg3_3<|zC (.i 4)<|zC (.sl q74 0 16 32)<|.nil)
noncomputable def w3_134:Row:=.c 34 (zD dg3_5<|zC (.i 4)<|zC (.sl q75 0 16 32)<|.nil)
noncomputable def w3_135:Row:=.c 34 (zD dg3_6<|zC (.i 4)<|zC (.sl q76 0 16 32)<|.nil)
noncomputable def w3_136:Row:=.m .int 3 [⟨.i 1,.p q8 0,0⟩,⟨.i 2,.p q9 0,1⟩,⟨.i 3,.p q10 0,2⟩]
noncomputable def w3_137:Row:=.c 4 (zC (.i 1)<|zC (.sl q11 0 1 33)<|zC (.p q12 0)<|zC (.p q13 0)<|.nil)
noncomputable def w3_138:Row:=.c 4 (zC (.i 2)<|zC (.sl q14 0 1 33)<|zC (.p q15 0)<|zC (.p q16 0)<|.nil)
noncomputable def w3_139:Row:=.c 4 (zC (.i 3)<|zC (.sl q17 0 1 33)<|zC (.p q18 0)<|zC (.p q19 0)<|.nil)
noncomputable def w3_140:Row:=.c 54 (zC (.i 1)<|zC (.i 0)<|zC (.sl q20 0 3 34)<|zC (.i 0)<|zC (.sl q20 0 3 34)<|zC (.o 1)<|zC (.o 1)<|zC (.o 1)<|zC (.o 0)<|zC (.o 0)<|zC (.o 0)<|zC (.o 1)<|zC (.o 1)<|zC (.o 1)<|zC (.o 3)<|zC (.o 3)<|zC (.o 3)<|zC (.o 3)<|zC (.o 3)<|zC (.o 3)<|zC (.o 3)<|zC (.o 3)<|zC (.o 3)<|zC (.o 3)<|zC (.o 3)<|zC (.o 3)<|zC (.o 3)<|zC (.o 3)<|zC (.o 3)<|zC (.o 3)<|zC (.o 3)<|zC (.o 3)<|zC (.o 3)<|zC (.o 3)<|zC (.o 3)<|zC (.o 3)<|zC (.o 3)<|zC (.o 3)<|zC (.o 3)<|zC (.o 3)<|zC (.o 3)<|zC (.o 3)<|zC (.o 3)<|zC (.o 3)<|zC (.o 3)<|zC (.o 3)<|zC (.o 1)<|zC (.o 2)<|zC (.i 0)<|zC (.m q21)<|zC (.i 0)<|zC (.i 0)<|zC (.i 0)<|zC .sn<|.nil)
noncomputable def w3_141:Row:=.c 54 (zC (.i 2)<|zC (.i 0)<|zC (.sl q22 0 3 34)<|zC (.i 0)<|zC (.sl q22 0 3 34)<|zC (.o 1)<|zC (.o 1)<|zC (.o 1)<|zC (.o 0)<|zC (.o 0)<|zC (.o 0)<|zC (.o 1)<|zC (.o 1)<|zC (.o 1)<|zC (.o 3)<|zC (.o 3)<|zC (.o 3)<|zC (.o 3)<|zC (.o 3)<|zC (.o 3)<|zC (.o 3)<|zC (.o 3)<|zC (.o 3)<|zC (.o 3)<|zC (.o 3)<|zC (.o 3)<|zC (.o 3)<|zC (.o 3)<|zC (.o 3)<|zC (.o 3)<|zC (.o 3)<|zC (.o 3)<|zC (.o 3)<|zC (.o 3)<|zC (.o 3)<|zC (.o 3)<|zC (.o 3)<|zC (.o 3)<|zC (.o 3)<|zC (.o 3)<|zC (.o 3)<|zC (.o 3)<|zC (.o 3)<|zC (.o 3)<|zC (.o 3)<|zC (.o 3)<|zC (.o 1)<|zC (.o 2)<|zC (.i 0)<|zC (.m q23)<|zC (.i 0)<|zC (.i 0)<|zC (.i 0)<|zC .sn<|.nil)
noncomputable def w3_142:Row:=.c 54 (zC (.i 3)<|zC (.i 0)<|zC (.sl q24 0 3 34)<|zC (.i 0)<|zC (.sl q24 0 3 34)<|zC (.o 1)<|zC (.o 1)<|zC (.o 1)<|zC (.o 0)<|zC (.o 0)<|zC (.o 0)<|zC (.o 1)<|zC (.o 1)<|zC (.o 1)<|zC (.o 3)<|zC (.o 3)<|zC (.o 3)<|zC (.o 3)<|zC (.o 3)<|zC (.o 3)<|zC (.o 3)<|zC (.o 3)<|zC (.o 3)<|zC (.o 3)<|zC (.o 3)<|zC (.o 3)<|zC (.o 3)<|zC (.o 3)<|zC (.o 3)<|zC (.o 3)<|zC (.o 3)<|zC (.o 3)<|zC (.o 3)<|zC (.o 3)<|zC (.o 3)<|zC (.o 3)<|zC (.o 3)<|zC (.o 3)<|zC (.o 3)<|zC (.o 3)<|zC (.o 3)<|zC (.o 3)<|zC (.o 3)<|zC (.o 3)<|zC (.o 3)<|zC (.o 3)<|zC (.o 1)<|zC (.o 2)<|zC (.i 0)<|zC (.m q25)<|zC (.i 0)<|zC (.i 0)<|zC (.i 0)<|zC .sn<|.nil)
noncomputable def w3_143:Row:=.c 5 (zC (.m q26)<|zC (.b false)<|zC (.i 0)<|zC (.i 0)<|zC (.i 0)<|.nil)
noncomputable def w3_144:Row:=.c 60 (zC (.p q27 0)<|zC (.p q12 0)<|zC (.p q28 0)<|zC (.i 1)<|zC (.i 2)<|zC (.i 0)<|zC (.sl q29 0 3 34)<|zC (.p q30 0)<|zC .sn<|zC .sn<|zC (.i 0)<|zC (.sl q31 0 3 34)<|zC .sn<|zC .sn<|zC (.i 0)<|zC .sn<|zC (.i 0)<|zD dg3_4<|zC .sn<|zC .sn<|zC .sn<|zC .sn<|zC (.m q32)<|zC (.m q33)<|zC .sn<|zC .sn<|zC (.i 5)<|zC (.b false)<|zC .sn<|.nil)
noncomputable def w3_145:Row:=.c 5 (zC (.m q34)<|zC (.b false)<|zC (.i 0)<|zC (.i 0)<|zC (.i 0)<|.nil)
noncomputable def w3_146:Row:=.c 60 (zC (.p q35 0)<|zC (.p q15 0)<|zC (.p q36 0)<|zC (.i 2)<|zC (.i 2)<|zC (.i 0)<|zC (.sl q37 0 3 34)<|zC (.p q38 0)<|zC .sn<|zC .sn<|zC (.i 0)<|zC (.sl q39 0 3 34)<|zC .sn<|zC .sn<|zC (.i 0)<|zC .sn<|zC (.i 0)<|zD dg3_4<|zC .sn<|zC .sn<|zC .sn<|zC .sn<|zC (.m q40)<|zC (.m q41)<|zC .sn<|zC .sn<|zC (.i 5)<|zC (.b false)<|zC .sn<|.nil)
noncomputable def w3_147:Row:=.c 5 (zC (.m q42)<|zC (.b false)<|zC (.i 0)<|zC (.i 0)<|zC (.i 0)<|.nil)
noncomputable def w3_148:Row:=.c 60 (zC (.p q43 0)<|zC (.p q18 0)<|zC (.p q44 0)<|zC (.i 3)<|zC (.i 2)<|zC (.i 0)<|zC (.sl q45 0 3 34)<|zC (.p q46 0)<|zC .sn<|zC .sn<|zC (.i 0)<|zC (.sl q47 0 3 34)<|zC .sn<|zC .sn<|zC (.i 0)<|zC .sn<|zC (.i 0)<|zD dg3_4<|zC .sn<|zC .sn<|zC .sn<|zC .sn<|zC (.m q48)<|zC (.m q49)<|zC .sn<|zC .sn<|zC (.i 5)<|zC (.b false)<|zC .sn<|.nil)
noncomputable def w3_149:Row:=.c 213 (zC (.i 0)<|zC (.sl q50 0 3 34)<|zC (.i 1)<|zC (.i 2)<|zC (.rk 4607182418800017408 0)<|zC (.i 0)<|zC (.i 0)<|zC (.i dg3_7)<|zC (.i 0)<|zC (.i 0)<|.cons 96 (.bs 96 0)<|zC .sn<|zC (.i dg3_7)<|zC (.i 0)<|zC (.i 0)<|.cons 96 (.bs 96 0)<|zC .sn<|zC (.m q51)<|zC (.m q52)<|zC (.p q53 0)<|zC (.b false)<|zC (.b false)<|zC .sn<|.nil)
noncomputable def w3_150:Row:=.c 213 (zC (.i 0)<|zC (.sl q55 0 3 34)<|zC (.i 2)<|zC (.i 2)<|zC (.rk 4607182418800017408 0)<|zC (.i 0)<|zC (.i 0)<|zC (.i dg3_7)<|zC (.i 0)<|zC (.i 0)<|.cons 96 (.bs 96 0)<|zC .sn<|zC (.i dg3_7)<|zC (.i 0)<|zC (.i 0)<|.cons 96 (.bs 96 0)<|zC .sn<|zC (.m q56)<|zC (.m q57)<|zC (.p q58 0)<|zC (.b false)<|zC (.b false)<|zC .sn<|.nil)
noncomputable def w3_151:Row:=.c 213 (zC (.i 0)<|zC (.sl q60 0 3 34)<|zC (.i 3)<|zC (.i 2)<|zC (.rk 4607182418800017408 0)<|zC (.i 0)<|zC (.i 0)<|zC (.i dg3_7)<|zC (.i 0)<|zC (.i 0)<|.cons 96 (.bs 96 0)<|zC .sn<|zC (.i dg3_7)<|zC (.i 0)<|zC (.i 0)<|.cons 96 (.bs 96 0)<|zC .sn<|zC (.m q61)<|zC (.m q62)<|zC (.p q63 0)<|zC (.b false)<|zC (.b false)<|zC .sn<|.nil)
noncomputable def w3_152:Row:=.c 2 (zC (.p q18 0)<|zC (.s 3 7106407)<|.nil)
noncomputable def w3_153:Row:=.c 1 (zC (.m q65)<|.nil)
noncomputable def w3_154:Row:=.m (.key 0) 1 [⟨.a (zD dg3_0<|zC (.i 4)<|.nil),.p q66 0,0⟩]
noncomputable def w3_155:Row:=.c 1 (zC (.m q67)<|.nil)
noncomputable def w3_156:Row:=.m (.key 0) 1 [⟨.a (zD dg3_1<|zC (.i 4)<|.nil),.p q68 0,0⟩]
noncomputable def w3_157:Row:=.c 1 (zC (.m q69)<|.nil)
noncomputable def w3_158:Row:=.m (.key 0) 1 [⟨.a (zD dg3_2<|zC (.i 4)<|.nil),.p q70 0,0⟩]
noncomputable def w3_159:Row:=.c 3 (zC (.p q71 0)<|zC (.i 0)<|zC (.m q72)<|.nil)
noncomputable def w3_160:Row:=.c 3 (zC (.p q73 0)<|zC (.i 0)<|zC (.m q74)<|.nil)
noncomputable def w3_161:Row:=.c 3 (zC (.p q75 0)<|zC (.i 0)<|zC (.m q76)<|.nil)
noncomputable def w3_162:Row:=.c 34 (zD dg3_3<|zC (.i 4)<|zC (.sl q77 0 16 32)<|.nil)
noncomputable def w3_163:Row:=.c 34 (zD dg3_5<|zC (.i 4)<|zC (.sl q78 0 16 32)<|.nil)
noncomputable def w3_164:Row:=.c 34 (zD dg3_6<|zC (.i 4)<|zC (.sl q79 0 16 32)<|.nil)
noncomputable def w3_165:Row:=.c 60 (zC (.p q27 0)<|zC (.p q12 0)<|zC (.p q28 0)<|zC (.i 1)<|zC (.i 2)<|zC (.i 0)<|zC (.sl q29 0 3 34)<|zC (.p q30 0)<|zC .sn<|zC .sn<|zC (.i 0)<|zC (.sl q31 0 3 34)<|zC .sn<|zC .sn<|zC (.i 0)<|zC .sn<|zC (.i 0)<|zD dg3_4<|zC .sn<|zC .sn<|zC .sn<|zC .sn<|zC (.m q32)<|zC (.m q33)<|zC .sn<|zC .sn<|zC (.i 0)<|zC (.b false)<|zC .sn<|.nil)
noncomputable def w3_166:Row:=.c 60 (zC (.p q35 0)<|zC (.p q15 0)<|zC (.p q36 0)<|zC (.i 2)<|zC (.i 2)<|zC (.i 0)<|zC (.sl q37 0 3 34)<|zC (.p q38 0)<|zC .sn<|zC .sn<|zC (.i 0)<|zC (.sl q39 0 3 34)<|zC .sn<|zC .sn<|zC (.i 0)<|zC .sn<|zC (.i 0)<|zD dg3_4<|zC .sn<|zC .sn<|zC .sn<|zC .sn<|zC (.m q40)<|zC (.m q41)<|zC .sn<|zC .sn<|zC (.i 0)<|zC (.b false)<|zC .sn<|.nil)
noncomputable def w3_167:Row:=.c 60 (zC (.p q43 0)<|zC (.p q18 0)<|zC (.p q44 0)<|zC (.i 3)<|zC (.i 2)<|zC (.i 0)<|zC (.sl q45 0 3 34)<|zC (.p q46 0)<|zC .sn<|zC .sn<|zC (.i 0)<|zC (.sl q47 0 3 34)<|zC .sn<|zC .sn<|zC (.i 0)<|zC .sn<|zC (.i 0)<|zD dg3_4<|zC .sn<|zC .sn<|zC .sn<|zC .sn<|zC (.m q48)<|zC (.m q49)<|zC .sn<|zC .sn<|zC (.i 0)<|zC (.b false)<|zC .sn<|.nil)
noncomputable def S3_0:St:=⟨zL [w3_0,w3_1,w3_2,w3_3,w3_4,w3_5,w3_6,w3_7,w3_8,w3_9,w3_10,w3_11,w3_12,w3_13,w3_14,w3_15,w3_16,w3_17,w3_18,w3_1,w3_19,w3_1,w3_20,w3_3,w3_16,w3_21,w3_22,w3_1,w3_23,w3_1,w3_20,w3_3,w3_16,w3_24,w3_25,w3_1,w3_26,w3_1,w3_20,w3_3,w3_1,w3_3,w3_20,w3_27,w3_28,w3_1,w3_3,w3_20,w3_29,w3_30,w3_1,w3_3,w3_20,w3_31,w3_32,w3_33,w3_34,w3_33,w3_35,w3_33,w3_36,w3_37,w3_3,w3_38,w3_3,w3_39,w3_3,w3_40,w3_41,w3_42],q70,zP [(q0,1),(q0,3),(q0,4),(q2,0),(q2,1),(q2,2),(q4,1),(q4,2),(q4,3),(q5,1),(q5,2),(q5,3),(q6,1),(q6,2),(q6,3),(q8,0),(q9,0),(q9,2),(q9,6),(q9,7),(q9,11),(q9,53),(q9,54),(q11,0),(q12,0),(q12,2),(q12,6),(q12,7),(q12,11),(q12,53),(q12,54),(q14,0),(q15,0),(q15,2),(q15,6),(q15,7),(q15,11),(q15,53),(q15,54),(q17,1),(q17,207),(q17,208),(q17,209),(q20,0),(q25,1),(q25,207),(q25,208),(q25,209),(q28,0),(q33,1),(q33,207),(q33,208),(q33,209),(q36,0),(q43,0),(q44,0),(q48,0),(q49,0),(q53,0),(q54,0),(q56,0),(q56,2),(q58,0),(q58,2),(q60,0),(q60,2),(q61,33),(q63,33),(q65,33)],[.p q0 0],[(q0,0)]⟩
theorem S3_0_good:St.good S3_0 = true:=by kernel_rfl
noncomputable def S3_1:St:=⟨zL [w3_0,w3_1,w3_2,w3_43,w3_44,w3_45,w3_46,w3_47,w3_7,w3_48,w3_49,w3_10,w3_50,w3_51,w3_13,w3_52,w3_53,w3_1,w3_3,w3_16,w3_54,w3_55,w3_1,w3_56,w3_1,w3_20,w3_3,w3_16,w3_57,w3_58,w3_1,w3_59,w3_1,w3_20,w3_3,w3_16,w3_60,w3_61,w3_1,w3_29,w3_1,w3_20,w3_3,w3_1,w3_3,w3_20,w3_62,w3_63,w3_1,w3_3,w3_20,w3_64,w3_65,w3_1,w3_3,w3_20,w3_66,w3_67,w3_33,w3_68,w3_33,w3_69,w3_33,w3_70,w3_71,w3_3,w3_72,w3_3,w3_73,w3_3,w3_40,w3_41,w3_42],q73,zP [(q0,1),(q0,3),(q0,4),(q2,0),(q2,1),(q2,2),(q3,0),(q4,1),(q4,2),(q4,3),(q5,1),(q5,2),(q5,3),(q6,1),(q6,2),(q6,3),(q7,2),(q7,49),(q9,0),(q10,0),(q10,2),(q10,6),(q10,7),(q10,11),(q10,53),(q10,54),(q12,0),(q13,0),(q13,2),(q13,6),(q13,7),(q13,11),(q13,53),(q13,54),(q15,0),(q16,0),(q16,2),(q16,6),(q16,7),(q16,11),(q16,53),(q16,54),(q20,1),(q20,207),(q20,208),(q20,209),(q23,0),(q28,1),(q28,207),(q28,208),(q28,209),(q31,0),(q36,1),(q36,207),(q36,208),(q36,209),(q39,0),(q46,0),(q47,0),(q51,0),(q52,0),(q56,0),(q57,0),(q59,0),(q59,2),(q61,0),(q61,2),(q63,0),(q63,2),(q64,33),(q66,33),(q68,33)],[.p q0 0],[(q0,0)]⟩
theorem S3_1_good:St.good S3_1 = true:=by kernel_rfl
noncomputable def S3_2:St:=⟨zL [w3_74,w3_1,w3_75,w3_76,w3_77,w3_78,w3_79,w3_80,w3_81,w3_7,w3_82,w3_83,w3_10,w3_84,w3_85,w3_13,w3_86,w3_87,w3_1,w3_3,w3_16,w3_88,w3_89,w3_1,w3_90,w3_1,w3_20,w3_3,w3_16,w3_91,w3_92,w3_1,w3_93,w3_1,w3_20,w3_3,w3_16,w3_94,w3_95,w3_1,w3_62,w3_1,w3_20,w3_3,w3_1,w3_3,w3_20,w3_31,w3_96,w3_1,w3_3,w3_20,w3_97,w3_98,w3_1,w3_3,w3_20,w3_99,w3_100,w3_33,w3_36,w3_33,w3_101,w3_33,w3_102,w3_103,w3_3,w3_104,w3_3,w3_105,w3_3,w3_40,w3_41,w3_42],q74,zP [(q0,1),(q0,3),(q0,4),(q0,5),(q2,0),(q2,1),(q2,2),(q3,0),(q5,1),(q5,2),(q5,3),(q6,1),(q6,2),(q6,3),(q7,1),(q7,2),(q7,3),(q8,2),(q8,49),(q10,0),(q11,0),(q11,2),(q11,6),(q11,7),(q11,11),(q11,53),(q11,54),(q13,0),(q14,0),(q14,2),(q14,6),(q14,7),(q14,11),(q14,53),(q14,54),(q16,0),(q17,0),(q17,2),(q17,6),(q17,7),(q17,11),(q17,53),(q17,54),(q21,1),(q21,207),(q21,208),(q21,209),(q24,0),(q29,1),(q29,207),(q29,208),(q29,209),(q32,0),(q37,1),(q37,207),(q37,208),(q37,209),(q40,0),(q47,0),(q48,0),(q52,0),(q53,0),(q57,0),(q58,0),(q60,0),(q60,2),(q62,0),(q62,2),(q64,0),(q64,2),(q65,33),(q67,33),(q69,33)],[.p q0 0],[(q0,0)]⟩
theorem S3_2_good:St.good S3_2 = true:=by kernel_rfl
noncomputable def S3_3:St:=⟨zL [w3_106,w3_1,w3_75,w3_107,w3_108,w3_109,w3_110,w3_111,w3_112,w3_113,w3_7,w3_114,w3_115,w3_10,w3_116,w3_117,w3_13,w3_118,w3_119,w3_1,w3_3,w3_1,w3_3,w3_16,w3_120,w3_22,w3_1,w3_121,w3_1,w3_20,w3_3,w3_16,w3_122,w3_25,w3_1,w3_123,w3_1,w3_20,w3_3,w3_16,w3_124,w3_125,w3_1,w3_97,w3_1,w3_20,w3_3,w3_1,w3_3,w3_20,w3_66,w3_126,w3_1,w3_3,w3_20,w3_127,w3_128,w3_1,w3_3,w3_20,w3_129,w3_130,w3_33,w3_70,w3_33,w3_131,w3_33,w3_132,w3_133,w3_3,w3_134,w3_3,w3_135,w3_3,w3_40,w3_41,w3_42],q77,zP [(q0,1),(q0,3),(q0,4),(q0,5),(q2,0),(q2,1),(q2,2),(q3,0),(q3,1),(q5,1),(q5,2),(q5,3),(q6,1),(q6,2),(q6,3),(q7,1),(q7,2),(q7,3),(q8,2),(q8,49),(q9,2),(q9,49),(q11,0),(q12,0),(q12,2),(q12,6),(q12,7),(q12,11),(q12,53),(q12,54),(q14,0),(q15,0),(q15,2),(q15,6),(q15,7),(q15,11),(q15,53),(q15,54),(q17,0),(q18,0),(q18,2),(q18,6),(q18,7),(q18,11),(q18,53),(q18,54),(q24,1),(q24,207),(q24,208),(q24,209),(q27,0),(q32,1),(q32,207),(q32,208),(q32,209),(q35,0),(q40,1),(q40,207),(q40,208),(q40,209),(q43,0),(q50,0),(q51,0),(q55,0),(q56,0),(q60,0),(q61,0),(q63,0),(q63,2),(q65,0),(q65,2),(q67,0),(q67,2),(q68,33),(q70,33),(q72,33)],[.p q0 0],[(q0,0)]⟩
theorem S3_3_good:St.good S3_3 = true:=by kernel_rfl
noncomputable def S3_4:St:=⟨zL [w3_74,w3_1,w3_75,w3_136,w3_77,w3_137,w3_138,w3_139,w3_140,w3_141,w3_142,w3_7,w3_143,w3_144,w3_10,w3_145,w3_146,w3_13,w3_147,w3_148,w3_1,w3_3,w3_1,w3_3,w3_1,w3_3,w3_16,w3_149,w3_58,w3_1,w3_26,w3_1,w3_20,w3_3,w3_16,w3_150,w3_61,w3_1,w3_31,w3_1,w3_20,w3_3,w3_16,w3_151,w3_152,w3_1,w3_127,w3_1,w3_20,w3_3,w3_1,w3_3,w3_20,w3_153,w3_154,w3_1,w3_3,w3_20,w3_155,w3_156,w3_1,w3_3,w3_20,w3_157,w3_158,w3_33,w3_159,w3_33,w3_160,w3_33,w3_161,w3_162,w3_3,w3_163,w3_3,w3_164,w3_3,w3_40,w3_41,w3_42],q80,zP [(q0,1),(q0,3),(q0,4),(q0,5),(q2,0),(q2,1),(q2,2),(q3,0),(q3,1),(q3,2),(q5,1),(q5,2),(q5,3),(q6,1),(q6,2),(q6,3),(q7,1),(q7,2),(q7,3),(q8,2),(q8,49),(q9,2),(q9,49),(q10,2),(q10,49),(q12,0),(q13,0),(q13,2),(q13,6),(q13,7),(q13,11),(q13,53),(q13,54),(q15,0),(q16,0),(q16,2),(q16,6),(q16,7),(q16,11),(q16,53),(q16,54),(q18,0),(q19,0),(q19,2),(q19,6),(q19,7),(q19,11),(q19,53),(q19,54),(q27,1),(q27,207),(q27,208),(q27,209),(q30,0),(q35,1),(q35,207),(q35,208),(q35,209),(q38,0),(q43,1),(q43,207),(q43,208),(q43,209),(q46,0),(q53,0),(q54,0),(q58,0),(q59,0),(q63,0),(q64,0),(q66,0),(q66,2),(q68,0),(q68,2),(q70,0),(q70,2),(q71,33),(q73,33),(q75,33)],[.p q0 0],[(q0,0)]⟩
theorem S3_4_good:St.good S3_4 = true:=by kernel_rfl
noncomputable def S3_5:St:=⟨zL [w3_106,w3_1,w3_75,w3_136,w3_108,w3_137,w3_138,w3_139,w3_140,w3_141,w3_142,w3_7,w3_143,w3_165,w3_10,w3_145,w3_166,w3_13,w3_147,w3_167,w3_1,w3_3,w3_1,w3_3,w3_1,w3_3,w3_16,w3_149,w3_58,w3_1,w3_26,w3_1,w3_20,w3_3,w3_16,w3_150,w3_61,w3_1,w3_31,w3_1,w3_20,w3_3,w3_16,w3_151,w3_152,w3_1,w3_127,w3_1,w3_20,w3_3,w3_1,w3_3,w3_20,w3_153,w3_154,w3_1,w3_3,w3_20,w3_155,w3_156,w3_1,w3_3,w3_20,w3_157,w3_158,w3_33,w3_159,w3_33,w3_160,w3_33,w3_161,w3_162,w3_3,w3_163,w3_3,w3_164,w3_3,w3_40,w3_41,w3_42],q80,zP [(q0,1),(q0,3),(q0,4),(q0,5),(q2,0),(q2,1),(q2,2),(q3,0),(q3,1),(q3,2),(q5,1),(q5,2),(q5,3),(q6,1),(q6,2),(q6,3),(q7,1),(q7,2),(q7,3),(q8,2),(q8,49),(q9,2),(q9,49),(q10,2),(q10,49),(q12,0),(q13,0),(q13,2),(q13,6),(q13,7),(q13,11),(q13,53),(q13,54),(q15,0),(q16,0),(q16,2),(q16,6),(q16,7),(q16,11),(q16,53),(q16,54),(q18,0),(q19,0),(q19,2),(q19,6),(q19,7),(q19,11),(q19,53),(q19,54),(q27,1),(q27,207),(q27,208),(q27,209),(q30,0),(q35,1),(q35,207),(q35,208),(q35,209),(q38,0),(q43,1),(q43,207),(q43,208),(q43,209),(q46,0),(q53,0),(q54,0),(q58,0),(q59,0),(q63,0),(q64,0),(q66,0),(q66,2),(q68,0),(q68,2),(q70,0),(q70,2),(q71,33),(q73,33),(q75,33)],[.p q0 0],[(q0,0)]⟩
theorem S3_5_good:St.good S3_5 = true:=by kernel_rfl
def dg4_0:Nat:=110461928530375197168402432747408230471540752442791175964557666175320946225767
def dg4_1:Nat:=68184191343129224377541207437162633548411899088683683335254108739724957139203
def dg4_2:Nat:=18698618322377431043300892169543482183131399259387245978461456590457666492628
def dg4_3:Nat:=102305801829159876009408615003068514880850317934486891440040984983935064332195
def dg4_4:Nat:=452844283051969261784956636391582471011674612991015573043878701896143208448
def dg4_5:Nat:=61069442209572046131644390633606911018814400594673253232457315277748906381470
def dg4_6:Nat:=905157131635235650158280796581769611063510490591174026323009889427053871104
def dg4_7:Nat:=1357469980218502038531604956771956751115346368191332479602141076957964533760
def dg4_8:Nat:=1809782828801768426904929116962143891167182245791490932881272264488875196416
def dg4_9:Nat:=18446744073709551615
def dg4_10:Nat:=531454532226148183326471266005372777034957459003898120782329318698381625858601145501653275023505678648868090180084466307947293368159734294035740464042759096693943773007737427740062220092740898690215802220605116739156514591610203639434834758761087476475371001628913957166198052690801157816766340520165779043065311451131529020807039289877553176526763013098373326608075190163345097495686356359350564083626652412970585446335588869816386671907140537790700948351947631044346468711175568279686727564118043077632443657434226388187987800584237072355049396327377963990280897799644150130556975949918363948554570656914643659179167537212397118104970663973992091302290208389356043681064504665488516275401311626484239873692029659978711054914586610508320962209696321667140324167164196393073411351300581592254934899863213309179601997150200016888558722413250606695767377114649710259511020535914247225441912841295004032618303577072481207058718226900194789152695153808564849356902851462703982982649537367792340145633404450923080900231589749653460906705501868225335596417653180411571705136519239214810872594604132480804395674808111318645691347363614563185824918700369464011561798171404750672236976977831329165633055655618832527628429030485443193405683986
def dg4_11:Nat:=851766771716792007518636040797565576636896521465362735760769573137558212051104962811334481509287640134579355648713115490137512939016908974119751347975919372956348384243271358606815829750674455400045606941255215003971335321683728161684919835083550781035613980065520332979617051040677177875716735168087920250700171901068393365176140004931452615617515381308618967143733435515307647967653335335385534935584890875403922431481616578010471241705218477690509058843183997998510156448482889322592435504349816438540265926947058828004213158462459166511803746154733721483634031904294549730225257620531783460868353333024045907571000864692595091872580643426275202783109353369389499494405661780148614511691073899730706356080520873173904044736084919130304749384763957774118481403154780424413090884592755198472538258429366545481573584608990167544552578926876937848994873552339706713505706076423757799977967224655790735264903753525664969712555262137504495783039706257853718110974543258431154570201394436308377673950533263071886052941956301455128960589307054385354955963403398797804344125959691896493088154593225033447814495855367674437133440582452293503424244034727944145090349443465893871032832330596467544958009317274424229064842257497522365849990837
def dg4_12:Nat:=568268679711548849157338376254458473349890754851735161329327580928318104079735643199642547401145637330667492115738750314562017684919426210744472232610122726468214765733484751803106402488126233792071755653985574916867950914105166366528117701009526688179225081164514759649203756736869404441227591139919923514460683487331139568212073039023864042859018995444732603918260095118280720789295831853753989025862344128796776891463807136608277398542245545365903840341279312784075510912868686908207278190220665007883128463897339231667754416212156655224474581917404008653394632752747569345263168803257654862319314678549577368629925563391311202638872794137712329207335848035799001580749240941595101630681746791062934875810375956534821435882481180906663171172219250741946517299842804830824096413084553401530776140534630445776738920711374207994650521975643110925755917510431574554744638557667093946249452631677484421438289782074703921923668914957562696029522062296754807478496300216871759478563703238809190388903229210097787799289856908245272539343423781526705953812582585226366857590084685686411764218184876772322480239845752433226527161889191334041933557846986493528377750819639070057124133460195691473213548004080701647571777931088327421610410505
def dg4_13:Nat:=466165740701517056095588131387179141910650695725817265702115721808029892757077763569236482781171316876089517019112952324048834765524913862758011449503066403615738359838061308402371750812160117925793565662566914674794298662642014692233388895396950147736230233142683514825888065132869624952900492281255541622683188488210341912351463335608622925261851387489962978670393762077962579292874775930342047734558878745838620433483123029447637012593383042456786214865406265952247691047866963618912429834976601892517646910985472819290823842521037534099260798571280774949049530399074028048371468684110858146566746664660573764101358497131856902354838408382185193865537169031557186505589242487087469022152117776786735182799333049816761117572768621328393103501571076110557658133370898275267886451373762910415951528723251375475550697982615816228510020365378335649930184014362888956002052652623567391847167356188425171336985480135143156612823262244068785542550273407316025205009093934451364826095136044096442383665794520639980185291192320240440666361399714412438053778360999947927795069540419220896394583597768985313105685448181669648861281117109051322064466584372431130716669689360513024531412700057269741811246749885005599313227438023489529092116650
def dg4_14:Nat:=110680464442257309697
noncomputable def w4_0:Row:=.c 7 (zC (.i 0)<|zC (.sl q1 0 4 34)<|zC (.i 2)<|zC (.m q2)<|zC (.m q3)<|zC .sn<|zC (.o 1)<|.nil)
noncomputable def w4_1:Row:=.c 136 (zC (.i 1)<|zD dg4_0<|zC (.i 4)<|zC (.i 2)<|zD dg4_1<|zC (.i 4)<|zC (.i 3)<|zD dg4_2<|zC (.i 4)<|zC (.i 4)<|zD dg4_3<|zC (.i 4)<|.nil)
noncomputable def w4_2:Row:=.m .int 4 [⟨.i 1,.p q4 0,0⟩,⟨.i 2,.p q5 0,1⟩,⟨.i 3,.p q6 0,2⟩,⟨.i 4,.p q7 0,3⟩]
noncomputable def w4_3:Row:=.m .int 0 []
noncomputable def w4_4:Row:=.c 4 (zC (.i 1)<|zC (.sl q8 0 1 33)<|zC (.p q9 0)<|zC (.p q10 0)<|.nil)
noncomputable def w4_5:Row:=.c 4 (zC (.i 2)<|zC (.sl q11 0 1 33)<|zC (.p q12 0)<|zC (.p q13 0)<|.nil)
noncomputable def w4_6:Row:=.c 4 (zC (.i 3)<|zC (.sl q14 0 1 33)<|zC (.p q15 0)<|zC (.p q16 0)<|.nil)
noncomputable def w4_7:Row:=.c 4 (zC (.i 4)<|zC (.sl q17 0 1 33)<|zC (.p q18 0)<|zC (.p q19 0)<|.nil)
noncomputable def w4_8:Row:=.c 33 (zD dg4_4<|zC (.i 4)<|.nil)
noncomputable def w4_9:Row:=.c 5 (zC (.m q20)<|zC (.b false)<|zC (.i 0)<|zC (.i 0)<|zC (.i 0)<|.nil)
noncomputable def w4_10:Row:=.c 60 (zC (.p q21 0)<|zC (.p q9 0)<|zC (.p q22 0)<|zC (.i 1)<|zC (.i 2)<|zC (.i 0)<|zC (.sl q23 0 4 34)<|zC (.p q24 0)<|zC .sn<|zC .sn<|zC (.i 0)<|zC (.sl q25 0 4 34)<|zC .sn<|zC .sn<|zC (.i 0)<|zC .sn<|zC (.i 0)<|zD dg4_5<|zC .sn<|zC .sn<|zC .sn<|zC .sn<|zC (.m q26)<|zC (.m q27)<|zC .sn<|zC .sn<|zC (.i 0)<|zC (.b false)<|zC .sn<|.nil)
noncomputable def w4_11:Row:=.c 33 (zD dg4_6<|zC (.i 4)<|.nil)
noncomputable def w4_12:Row:=.c 5 (zC (.m q28)<|zC (.b false)<|zC (.i 0)<|zC (.i 0)<|zC (.i 0)<|.nil)
noncomputable def w4_13:Row:=.c 60 (zC (.p q29 0)<|zC (.p q12 0)<|zC (.p q30 0)<|zC (.i 2)<|zC (.i 2)<|zC (.i 0)<|zC (.sl q31 0 4 34)<|zC (.p q32 0)<|zC .sn<|zC .sn<|zC (.i 0)<|zC (.sl q33 0 4 34)<|zC .sn<|zC .sn<|zC (.i 0)<|zC .sn<|zC (.i 0)<|zD dg4_5<|zC .sn<|zC .sn<|zC .sn<|zC .sn<|zC (.m q34)<|zC (.m q35)<|zC .sn<|zC .sn<|zC (.i 0)<|zC (.b false)<|zC .sn<|.nil)
noncomputable def w4_14:Row:=.c 33 (zD dg4_7<|zC (.i 4)<|.nil)
noncomputable def w4_15:Row:=.c 5 (zC (.m q36)<|zC (.b false)<|zC (.i 0)<|zC (.i 0)<|zC (.i 0)<|.nil)
noncomputable def w4_16:Row:=.c 60 (zC (.p q37 0)<|zC (.p q15 0)<|zC (.p q38 0)<|zC (.i 3)<|zC (.i 2)<|zC (.i 0)<|zC (.sl q39 0 4 34)<|zC (.p q40 0)<|zC .sn<|zC .sn<|zC (.i 0)<|zC (.sl q41 0 4 34)<|zC .sn<|zC .sn<|zC (.i 0)<|zC .sn<|zC (.i 0)<|zD dg4_5<|zC .sn<|zC .sn<|zC .sn<|zC .sn<|zC (.m q42)<|zC (.m q43)<|zC .sn<|zC .sn<|zC (.i 0)<|zC (.b false)<|zC .sn<|.nil)
noncomputable def w4_17:Row:=.c 33 (zD dg4_8<|zC (.i 4)<|.nil)
noncomputable def w4_18:Row:=.c 5 (zC (.m q44)<|zC (.b false)<|zC (.i 0)<|zC (.i 0)<|zC (.i 0)<|.nil)
noncomputable def w4_19:Row:=.c 60 (zC (.p q45 0)<|zC (.p q18 0)<|zC (.p q46 0)<|zC (.i 4)<|zC (.i 2)<|zC (.i 0)<|zC (.sl q47 0 4 34)<|zC (.p q48 0)<|zC .sn<|zC .sn<|zC (.i 0)<|zC (.sl q49 0 4 34)<|zC .sn<|zC .sn<|zC (.i 0)<|zC .sn<|zC (.i 0)<|zD dg4_5<|zC .sn<|zC .sn<|zC .sn<|zC .sn<|zC (.m q50)<|zC (.m q51)<|zC .sn<|zC .sn<|zC (.i 0)<|zC (.b false)<|zC .sn<|.nil)
noncomputable def w4_20:Row:=.m .str 0 []
noncomputable def w4_21:Row:=.c 213 (zC (.i 0)<|zC (.sl q52 0 4 34)<|zC (.i 1)<|zC (.i 2)<|zC (.rk 4607182418800017408 0)<|zC (.i 0)<|zC (.i 0)<|zC (.i dg4_9)<|zC (.i 0)<|zC (.i 0)<|.cons 96 (.bs 96 0)<|zC .sn<|zC (.i dg4_9)<|zC (.i 0)<|zC (.i 0)<|.cons 96 (.bs 96 0)<|zC .sn<|zC (.m q53)<|zC (.m q54)<|zC (.p q55 0)<|zC (.b false)<|zC (.b false)<|zC .sn<|.nil)
noncomputable def w4_22:Row:=.c 2 (zC (.p q9 0)<|zC (.s 3 7106407)<|.nil)
noncomputable def w4_23:Row:=.c 1 (zC (.m q56)<|.nil)
noncomputable def w4_24:Row:=.m .dig 0 []
noncomputable def w4_25:Row:=.c 213 (zC (.i 0)<|zC (.sl q57 0 4 34)<|zC (.i 2)<|zC (.i 2)<|zC (.rk 4607182418800017408 0)<|zC (.i 0)<|zC (.i 0)<|zC (.i dg4_9)<|zC (.i 0)<|zC (.i 0)<|.cons 96 (.bs 96 0)<|zC .sn<|zC (.i dg4_9)<|zC (.i 0)<|zC (.i 0)<|.cons 96 (.bs 96 0)<|zC .sn<|zC (.m q58)<|zC (.m q59)<|zC (.p q60 0)<|zC (.b false)<|zC (.b false)<|zC .sn<|.nil)
noncomputable def w4_26:Row:=.c 2 (zC (.p q12 0)<|zC (.s 3 7106407)<|.nil)
noncomputable def w4_27:Row:=.c 1 (zC (.m q61)<|.nil)
noncomputable def w4_28:Row:=.c 213 (zC (.i 0)<|zC (.sl q62 0 4 34)<|zC (.i 3)<|zC (.i 2)<|zC (.rk 4607182418800017408 0)<|zC (.i 0)<|zC (.i 0)<|zC (.i dg4_9)<|zC (.i 0)<|zC (.i 0)<|.cons 96 (.bs 96 0)<|zC .sn<|zC (.i dg4_9)<|zC (.i 0)<|zC (.i 0)<|.cons 96 (.bs 96 0)<|zC .sn<|zC (.m q63)<|zC (.m q64)<|zC (.p q65 0)<|zC (.b false)<|zC (.b false)<|zC .sn<|.nil)
noncomputable def w4_29:Row:=.c 2 (zC (.p q15 0)<|zC (.s 3 7106407)<|.nil)
noncomputable def w4_30:Row:=.c 1 (zC (.m q66)<|.nil)
noncomputable def w4_31:Row:=.c 213 (zC (.i 0)<|zC (.sl q67 0 4 34)<|zC (.i 4)<|zC (.i 2)<|zC (.rk 4607182418800017408 0)<|zC (.i 0)<|zC (.i 0)<|zC (.i dg4_9)<|zC (.i 0)<|zC (.i 0)<|.cons 96 (.bs 96 0)<|zC .sn<|zC (.i dg4_9)<|zC (.i 0)<|zC (.i 0)<|.cons 96 (.bs 96 0)<|zC .sn<|zC (.m q68)<|zC (.m q69)<|zC (.p q70 0)<|zC (.b false)<|zC (.b false)<|zC .sn<|.nil)
noncomputable def w4_32:Row:=.c 2 (zC (.p q18 0)<|zC (.s 3 7106407)<|.nil)
noncomputable def w4_33:Row:=.c 1 (zC (.m q71)<|.nil)
noncomputable def w4_34:Row:=.c 1 (zC (.m q72)<|.nil)
noncomputable def w4_35:Row:=.m (.key 0) 1 [⟨.a (zD dg4_0<|zC (.i 4)<|.nil),.p q73 0,0⟩]
noncomputable def w4_36:Row:=.c 1 (zC (.m q74)<|.nil)
noncomputable def w4_37:Row:=.m (.key 0) 1 [⟨.a (zD dg4_1<|zC (.i 4)<|.nil),.p q75 0,0⟩]
noncomputable def w4_38:Row:=.c 1 (zC (.m q76)<|.nil)
noncomputable def w4_39:Row:=.m (.key 0) 1 [⟨.a (zD dg4_2<|zC (.i 4)<|.nil),.p q77 0,0⟩]
noncomputable def w4_40:Row:=.c 1 (zC (.m q78)<|.nil)
noncomputable def w4_41:Row:=.m (.key 0) 1 [⟨.a (zD dg4_3<|zC (.i 4)<|.nil),.p q79 0,0⟩]
noncomputable def w4_42:Row:=.m (.key 1) 0 []
noncomputable def w4_43:Row:=.c 3 (zC (.p q80 0)<|zC (.i 0)<|zC (.m q81)<|.nil)
noncomputable def w4_44:Row:=.c 3 (zC (.p q82 0)<|zC (.i 0)<|zC (.m q83)<|.nil)
noncomputable def w4_45:Row:=.c 3 (zC (.p q84 0)<|zC (.i 0)<|zC (.m q85)<|.nil)
noncomputable def w4_46:Row:=.c 3 (zC (.p q86 0)<|zC (.i 0)<|zC (.m q87)<|.nil)
noncomputable def w4_47:Row:=.c 34 (zD dg4_4<|zC (.i 4)<|zC (.sl q88 0 16 32)<|.nil)
noncomputable def w4_48:Row:=.c 34 (zD dg4_6<|zC (.i 4)<|zC (.sl q89 0 16 32)<|.nil)
noncomputable def w4_49:Row:=.c 34 (zD dg4_7<|zC (.i 4)<|zC (.sl q90 0 16 32)<|.nil)
noncomputable def w4_50:Row:=.c 34 (zD dg4_8<|zC (.i 4)<|zC (.sl q91 0 16 32)<|.nil)
noncomputable def w4_51:Row:=.c 512 (.cons 512 (.bs 512 dg4_10)<|.nil)
noncomputable def w4_52:Row:=.c 512 (.cons 512 (.bs 512 dg4_11)<|.nil)
noncomputable def w4_53:Row:=.c 512 (.cons 512 (.bs 512 dg4_12)<|.nil)
noncomputable def w4_54:Row:=.c 512 (.cons 512 (.bs 512 dg4_13)<|.nil)
noncomputable def w4_55:Row:=.m .int 1 [⟨.i 1,.p q8 0,0⟩]
noncomputable def w4_56:Row:=.c 4 (zC (.i 1)<|zC (.sl q9 0 1 33)<|zC (.p q10 0)<|zC (.p q11 0)<|.nil)
noncomputable def w4_57:Row:=.c 4 (zC (.i 2)<|zC (.sl q12 0 1 33)<|zC (.p q13 0)<|zC (.p q14 0)<|.nil)
noncomputable def w4_58:Row:=.c 4 (zC (.i 3)<|zC (.sl q15 0 1 33)<|zC (.p q16 0)<|zC (.p q17 0)<|.nil)
noncomputable def w4_59:Row:=.c 4 (zC (.i 4)<|zC (.sl q18 0 1 33)<|zC (.p q19 0)<|zC (.p q20 0)<|.nil)
noncomputable def w4_60:Row:=.c 54 (zC (.i 1)<|zC (.i 0)<|zC (.sl q21 0 4 34)<|zC (.i 0)<|zC (.sl q21 0 4 34)<|zC (.o 1)<|zC (.o 1)<|zC (.o 1)<|zC (.o 0)<|zC (.o 0)<|zC (.o 0)<|zC (.o 1)<|zC (.o 1)<|zC (.o 1)<|zC (.o 3)<|zC (.o 3)<|zC (.o 3)<|zC (.o 3)<|zC (.o 3)<|zC (.o 3)<|zC (.o 3)<|zC (.o 3)<|zC (.o 3)<|zC (.o 3)<|zC (.o 3)<|zC (.o 3)<|zC (.o 3)<|zC (.o 3)<|zC (.o 3)<|zC (.o 3)<|zC (.o 3)<|zC (.o 3)<|zC (.o 3)<|zC (.o 3)<|zC (.o 3)<|zC (.o 3)<|zC (.o 3)<|zC (.o 3)<|zC (.o 3)<|zC (.o 3)<|zC (.o 3)<|zC (.o 3)<|zC (.o 3)<|zC (.o 3)<|zC (.o 3)<|zC (.o 3)<|zC (.o 1)<|zC (.o 2)<|zC (.i 0)<|zC (.m q22)<|zC (.i 0)<|zC (.i 0)<|zC (.i 0)<|zC .sn<|.nil)
noncomputable def w4_61:Row:=.c 5 (zC (.m q23)<|zC (.b false)<|zC (.i 0)<|zC (.i 0)<|zC (.i 0)<|.nil)
noncomputable def w4_62:Row:=.c 60 (zC (.p q24 0)<|zC (.p q10 0)<|zC (.p q25 0)<|zC (.i 1)<|zC (.i 2)<|zC (.i 0)<|zC (.sl q26 0 4 34)<|zC (.p q27 0)<|zC .sn<|zC .sn<|zC (.i 0)<|zC (.sl q28 0 4 34)<|zC .sn<|zC .sn<|zC (.i 0)<|zC .sn<|zC (.i 0)<|zD dg4_5<|zC .sn<|zC .sn<|zC .sn<|zC .sn<|zC (.m q29)<|zC (.m q30)<|zC .sn<|zC .sn<|zC (.i 5)<|zC (.b false)<|zC .sn<|.nil)
noncomputable def w4_63:Row:=.c 5 (zC (.m q31)<|zC (.b false)<|zC (.i 0)<|zC (.i 0)<|zC (.i 0)<|.nil)
noncomputable def w4_64:Row:=.c 60 (zC (.p q32 0)<|zC (.p q13 0)<|zC (.p q33 0)<|zC (.i 2)<|zC (.i 2)<|zC (.i 0)<|zC (.sl q34 0 4 34)<|zC (.p q35 0)<|zC .sn<|zC .sn<|zC (.i 0)<|zC (.sl q36 0 4 34)<|zC .sn<|zC .sn<|zC (.i 0)<|zC .sn<|zC (.i 0)<|zD dg4_5<|zC .sn<|zC .sn<|zC .sn<|zC .sn<|zC (.m q37)<|zC (.m q38)<|zC .sn<|zC .sn<|zC (.i 5)<|zC (.b false)<|zC .sn<|.nil)
noncomputable def w4_65:Row:=.c 5 (zC (.m q39)<|zC (.b false)<|zC (.i 0)<|zC (.i 0)<|zC (.i 0)<|.nil)
noncomputable def w4_66:Row:=.c 60 (zC (.p q40 0)<|zC (.p q16 0)<|zC (.p q41 0)<|zC (.i 3)<|zC (.i 2)<|zC (.i 0)<|zC (.sl q42 0 4 34)<|zC (.p q43 0)<|zC .sn<|zC .sn<|zC (.i 0)<|zC (.sl q44 0 4 34)<|zC .sn<|zC .sn<|zC (.i 0)<|zC .sn<|zC (.i 0)<|zD dg4_5<|zC .sn<|zC .sn<|zC .sn<|zC .sn<|zC (.m q45)<|zC (.m q46)<|zC .sn<|zC .sn<|zC (.i 5)<|zC (.b false)<|zC .sn<|.nil)
noncomputable def w4_67:Row:=.c 5 (zC (.m q47)<|zC (.b false)<|zC (.i 0)<|zC (.i 0)<|zC (.i 0)<|.nil)
noncomputable def w4_68:Row:=.c 60 (zC (.p q48 0)<|zC (.p q19 0)<|zC (.p q49 0)<|zC (.i 4)<|zC (.i 2)<|zC (.i 0)<|zC (.sl q50 0 4 34)<|zC (.p q51 0)<|zC .sn<|zC .sn<|zC (.i 0)<|zC (.sl q52 0 4 34)<|zC .sn<|zC .sn<|zC (.i 0)<|zC .sn<|zC (.i 0)<|zD dg4_5<|zC .sn<|zC .sn<|zC .sn<|zC .sn<|zC (.m q53)<|zC (.m q54)<|zC .sn<|zC .sn<|zC (.i 5)<|zC (.b false)<|zC .sn<|.nil)
noncomputable def w4_69:Row:=.c 213 (zC (.i 0)<|zC (.sl q55 0 4 34)<|zC (.i 1)<|zC (.i 2)<|zC (.rk 4607182418800017408 0)<|zC (.i 0)<|zC (.i 0)<|zC (.i dg4_9)<|zC (.i 0)<|zC (.i 0)<|.cons 96 (.bs 96 0)<|zC .sn<|zC (.i dg4_9)<|zC (.i 0)<|zC (.i 0)<|.cons 96 (.bs 96 0)<|zC .sn<|zC (.m q56)<|zC (.m q57)<|zC (.p q58 0)<|zC (.b false)<|zC (.b false)<|zC .sn<|.nil)
noncomputable def w4_70:Row:=.c 2 (zC (.p q10 0)<|zC (.s 3 7106407)<|.nil)
noncomputable def w4_71:Row:=.c 1 (zC (.m q59)<|.nil)
noncomputable def w4_72:Row:=.c 213 (zC (.i 0)<|zC (.sl q60 0 4 34)<|zC (.i 2)<|zC (.i 2)<|zC (.rk 4607182418800017408 0)<|zC (.i 0)<|zC (.i 0)<|zC (.i dg4_9)<|zC (.i 0)<|zC (.i 0)<|.cons 96 (.bs 96 0)<|zC .sn<|zC (.i dg4_9)<|zC (.i 0)<|zC (.i 0)<|.cons 96 (.bs 96 0)<|zC .sn<|zC (.m q61)<|zC (.m q62)<|zC (.p q63 0)<|zC (.b false)<|zC (.b false)<|zC .sn<|.nil)
noncomputable def w4_73:Row:=.c 2 (zC (.p q13 0)<|zC (.s 3 7106407)<|.nil)
noncomputable def w4_74:Row:=.c 1 (zC (.m q64)<|.nil)
noncomputable def w4_75:Row:=.c 213 (zC (.i 0)<|zC (.sl q65 0 4 34)<|zC (.i 3)<|zC (.i 2)<|zC (.rk 4607182418800017408 0)<|zC (.i 0)<|zC (.i 0)<|zC (.i dg4_9)<|zC (.i 0)<|zC (.i 0)<|.cons 96 (.bs 96 0)<|zC .sn<|zC (.i dg4_9)<|zC (.i 0)<|zC (.i 0)<|.cons 96 (.bs 96 0)<|zC .sn<|zC (.m q66)<|zC (.m q67)<|zC (.p q68 0)<|zC (.b false)<|zC (.b false)<|zC .sn<|.nil)
noncomputable def w4_76:Row:=.c 2 (zC (.p q16 0)<|zC (.s 3 7106407)<|.nil)
noncomputable def w4_77:Row:=.c 1 (zC (.m q69)<|.nil)
noncomputable def w4_78:Row:=.c 213 (zC (.i 0)<|zC (.sl q70 0 4 34)<|zC (.i 4)<|zC (.i 2)<|zC (.rk 4607182418800017408 0)<|zC (.i 0)<|zC (.i 0)<|zC (.i dg4_9)<|zC (.i 0)<|zC (.i 0)<|.cons 96 (.bs 96 0)<|zC .sn<|zC (.i dg4_9)<|zC (.i 0)<|zC (.i 0)<|.cons 96 (.bs 96 0)<|zC .sn<|zC (.m q71)<|zC (.m q72)<|zC (.p q73 0)<|zC (.b false)<|zC (.b false)<|zC .sn<|.nil)
noncomputable def w4_79:Row:=.c 2 (zC (.p q19 0)<|zC (.s 3 7106407)<|.nil)
noncomputable def w4_80:Row:=.c 1 (zC (.m q75)<|.nil)
noncomputable def w4_81:Row:=.m (.key 0) 1 [⟨.a (zD dg4_0<|zC (.i 4)<|.nil),.p q76 0,0⟩]
noncomputable def w4_82:Row:=.c 1 (zC (.m q77)<|.nil)
noncomputable def w4_83:Row:=.m (.key 0) 1 [⟨.a (zD dg4_1<|zC (.i 4)<|.nil),.p q78 0,0⟩]
noncomputable def w4_84:Row:=.c 1 (zC (.m q79)<|.nil)
noncomputable def w4_85:Row:=.m (.key 0) 1 [⟨.a (zD dg4_2<|zC (.i 4)<|.nil),.p q80 0,0⟩]
noncomputable def w4_86:Row:=.c 1 (zC (.m q81)<|.nil)
noncomputable def w4_87:Row:=.m (.key 0) 1 [⟨.a (zD dg4_3<|zC (.i 4)<|.nil),.p q82 0,0⟩]
noncomputable def w4_88:Row:=.c 3 (zC (.p q83 0)<|zC (.i 0)<|zC (.m q84)<|.nil)
noncomputable def w4_89:Row:=.c 3 (zC (.p q85 0)<|zC (.i 0)<|zC (.m q86)<|.nil)
noncomputable def w4_90:Row:=.c 3 (zC (.p q87 0)<|zC (.i 0)<|zC (.m q88)<|.nil)
noncomputable def w4_91:Row:=.c 3 (zC (.p q89 0)<|zC (.i 0)<|zC (.m q90)<|.nil)
noncomputable def w4_92:Row:=.c 34 (zD dg4_4<|zC (.i 4)<|zC (.sl q91 0 16 32)<|.nil)
noncomputable def w4_93:Row:=.c 34 (zD dg4_6<|zC (.i 4)<|zC (.sl q92 0 16 32)<|.nil)
noncomputable def w4_94:Row:=.c 34 (zD dg4_7<|zC (.i 4)<|zC (.sl q93 0 16 32)<|.nil)
noncomputable def w4_95:Row:=.c 34 (zD dg4_8<|zC (.i 4)<|zC (.sl q94 0 16 32)<|.nil)
noncomputable def w4_96:Row:=.c 7 (zC (.i 0)<|zC (.sl q1 0 4 34)<|zC (.i 2)<|zC (.m q2)<|zC (.m q3)<|zC (.sl q4 0 0 4)<|zC (.o 1)<|.nil)
noncomputable def w4_97:Row:=.m .int 4 [⟨.i 1,.p q5 0,0⟩,⟨.i 2,.p q6 0,1⟩,⟨.i 3,.p q7 0,2⟩,⟨.i 4,.p q8 0,3⟩]
noncomputable def w4_98:Row:=.m .int 1 [⟨.i 1,.p q9 0,0⟩]
noncomputable def w4_99:Row:=.c 0 .nil
noncomputable def w4_100:Row:=.c 4 (zC (.i 1)<|zC (.sl q10 0 1 33)<|zC (.p q11 0)<|zC (.p q12 0)<|.nil)
noncomputable def w4_101:Row:=.c 4 (zC (.i 2)<|zC (.sl q13 0 1 33)<|zC (.p q14 0)<|zC (.p q15 0)<|.nil)
noncomputable def w4_102:Row:=.c 4 (zC (.i 3)<|zC (.sl q16 0 1 33)<|zC (.p q17 0)<|zC (.p q18 0)<|.nil)
noncomputable def w4_103:Row:=.c 4 (zC (.i 4)<|zC (.sl q19 0 1 33)<|zC (.p q20 0)<|zC (.p q21 0)<|.nil)
noncomputable def w4_104:Row:=.c 54 (zC (.i 1)<|zC (.i 0)<|zC (.sl q22 0 4 34)<|zC (.i 0)<|zC (.sl q22 0 4 34)<|zC (.o 1)<|zC (.o 1)<|zC (.o 1)<|zC (.o 0)<|zC (.o 0)<|zC (.o 0)<|zC (.o 1)<|zC (.o 1)<|zC (.o 1)<|zC (.o 3)<|zC (.o 3)<|zC (.o 3)<|zC (.o 3)<|zC (.o 3)<|zC (.o 3)<|zC (.o 3)<|zC (.o 3)<|zC (.o 3)<|zC (.o 3)<|zC (.o 3)<|zC (.o 3)<|zC (.o 3)<|zC (.o 3)<|zC (.o 3)<|zC (.o 3)<|zC (.o 3)<|zC (.o 3)<|zC (.o 3)<|zC (.o 3)<|zC (.o 3)<|zC (.o 3)<|zC (.o 3)<|zC (.o 3)<|zC (.o 3)<|zC (.o 3)<|zC (.o 3)<|zC (.o 3)<|zC (.o 3)<|zC (.o 3)<|zC (.o 3)<|zC (.o 3)<|zC (.o 1)<|zC (.o 2)<|zC (.i 0)<|zC (.m q23)<|zC (.i 0)<|zC (.i 0)<|zC (.i 0)<|zC .sn<|.nil)
noncomputable def w4_105:Row:=.c 5 (zC (.m q24)<|zC (.b false)<|zC (.i 0)<|zC (.i 0)<|zC (.i 0)<|.nil)
noncomputable def w4_106:Row:=.c 60 (zC (.p q25 0)<|zC (.p q11 0)<|zC (.p q26 0)<|zC (.i 1)<|zC (.i 2)<|zC (.i 0)<|zC (.sl q27 0 4 34)<|zC (.p q28 0)<|zC .sn<|zC .sn<|zC (.i 0)<|zC (.sl q29 0 4 34)<|zC .sn<|zC .sn<|zC (.i 0)<|zC .sn<|zC (.i 0)<|zD dg4_5<|zC .sn<|zC .sn<|zC .sn<|zC .sn<|zC (.m q30)<|zC (.m q31)<|zC .sn<|zC .sn<|zC (.i 5)<|zC (.b false)<|zC .sn<|.nil)
noncomputable def w4_107:Row:=.c 5 (zC (.m q32)<|zC (.b false)<|zC (.i 0)<|zC (.i 0)<|zC (.i 0)<|.nil)
noncomputable def w4_108:Row:=.c 60 (zC (.p q33 0)<|zC (.p q14 0)<|zC (.p q34 0)<|zC (.i 2)<|zC (.i 2)<|zC (.i 0)<|zC (.sl q35 0 4 34)<|zC (.p q36 0)<|zC .sn<|zC .sn<|zC (.i 0)<|zC (.sl q37 0 4 34)<|zC .sn<|zC .sn<|zC (.i 0)<|zC .sn<|zC (.i 0)<|zD dg4_5<|zC .sn<|zC .sn<|zC .sn<|zC .sn<|zC (.m q38)<|zC (.m q39)<|zC .sn<|zC .sn<|zC (.i 5)<|zC (.b false)<|zC .sn<|.nil)
noncomputable def w4_109:Row:=.c 5 (zC (.m q40)<|zC (.b false)<|zC (.i 0)<|zC (.i 0)<|zC (.i 0)<|.nil)
noncomputable def w4_110:Row:=.c 60 (zC (.p q41 0)<|zC (.p q17 0)<|zC (.p q42 0)<|zC (.i 3)<|zC (.i 2)<|zC (.i 0)<|zC (.sl q43 0 4 34)<|zC (.p q44 0)<|zC .sn<|zC .sn<|zC (.i 0)<|zC (.sl q45 0 4 34)<|zC .sn<|zC .sn<|zC (.i 0)<|zC .sn<|zC (.i 0)<|zD dg4_5<|zC .sn<|zC .sn<|zC .sn<|zC .sn<|zC (.m q46)<|zC (.m q47)<|zC .sn<|zC .sn<|zC (.i 5)<|zC (.b false)<|zC .sn<|.nil)
noncomputable def w4_111:Row:=.c 5 (zC (.m q48)<|zC (.b false)<|zC (.i 0)<|zC (.i 0)<|zC (.i 0)<|.nil)
noncomputable def w4_112:Row:=.c 60 (zC (.p q49 0)<|zC (.p q20 0)<|zC (.p q50 0)<|zC (.i 4)<|zC (.i 2)<|zC (.i 0)<|zC (.sl q51 0 4 34)<|zC (.p q52 0)<|zC .sn<|zC .sn<|zC (.i 0)<|zC (.sl q53 0 4 34)<|zC .sn<|zC .sn<|zC (.i 0)<|zC .sn<|zC (.i 0)<|zD dg4_5<|zC .sn<|zC .sn<|zC .sn<|zC .sn<|zC (.m q54)<|zC (.m q55)<|zC .sn<|zC .sn<|zC (.i 5)<|zC (.b false)<|zC .sn<|.nil)
noncomputable def w4_113:Row:=.c 213 (zC (.i 0)<|zC (.sl q56 0 4 34)<|zC (.i 1)<|zC (.i 2)<|zC (.rk 4607182418800017408 0)<|zC (.i 0)<|zC (.i 0)<|zC (.i dg4_9)<|zC (.i 0)<|zC (.i 0)<|.cons 96 (.bs 96 0)<|zC .sn<|zC (.i dg4_9)<|zC (.i 0)<|zC (.i 0)<|.cons 96 (.bs 96 0)<|zC .sn<|zC (.m q57)<|zC (.m q58)<|zC (.p q59 0)<|zC (.b false)<|zC (.b false)<|zC .sn<|.nil)
noncomputable def w4_114:Row:=.c 2 (zC (.p q11 0)<|zC (.s 3 7106407)<|.nil)
noncomputable def w4_115:Row:=.c 1 (zC (.m q60)<|.nil)
noncomputable def w4_116:Row:=.c 213 (zC (.i 0)<|zC (.sl q61 0 4 34)<|zC (.i 2)<|zC (.i 2)<|zC (.rk 4607182418800017408 0)<|zC (.i 0)<|zC (.i 0)<|zC (.i dg4_9)<|zC (.i 0)<|zC (.i 0)<|.cons 96 (.bs 96 0)<|zC .sn<|zC (.i dg4_9)<|zC (.i 0)<|zC (.i 0)<|.cons 96 (.bs 96 0)<|zC .sn<|zC (.m q62)<|zC (.m q63)<|zC (.p q64 0)<|zC (.b false)<|zC (.b false)<|zC .sn<|.nil)
noncomputable def w4_117:Row:=.c 2 (zC (.p q14 0)<|zC (.s 3 7106407)<|.nil)
noncomputable def w4_118:Row:=.c 1 (zC (.m q65)<|.nil)
noncomputable def w4_119:Row:=.c 213 (zC (.i 0)<|zC (.sl q66 0 4 34)<|zC (.i 3)<|zC (.i 2)<|zC (.rk 4607182418800017408 0)<|zC (.i 0)<|zC (.i 0)<|zC (.i dg4_9)<|zC (.i 0)<|zC (.i 0)<|.cons 96 (.bs 96 0)<|zC .sn<|zC (.i dg4_9)<|zC (.i 0)<|zC (.i 0)<|.cons 96 (.bs 96 0)<|zC .sn<|zC (.m q67)<|zC (.m q68)<|zC (.p q69 0)<|zC (.b false)<|zC (.b false)<|zC .sn<|.nil)
noncomputable def w4_120:Row:=.c 2 (zC (.p q17 0)<|zC (.s 3 7106407)<|.nil)
noncomputable def w4_121:Row:=.c 1 (zC (.m q70)<|.nil)
noncomputable def w4_122:Row:=.c 213 (zC (.i 0)<|zC (.sl q71 0 4 34)<|zC (.i 4)<|zC (.i 2)<|zC (.rk 4607182418800017408 0)<|zC (.i 0)<|zC (.i 0)<|zC (.i dg4_9)<|zC (.i 0)<|zC (.i 0)<|.cons 96 (.bs 96 0)<|zC .sn<|zC (.i dg4_9)<|zC (.i 0)<|zC (.i 0)<|.cons 96 (.bs 96 0)<|zC .sn<|zC (.m q72)<|zC (.m q73)<|zC (.p q74 0)<|zC (.b false)<|zC (.b false)<|zC .sn<|.nil)
noncomputable def w4_123:Row:=.c 2 (zC (.p q20 0)<|zC (.s 3 7106407)<|.nil)
noncomputable def w4_124:Row:=.m (.key 0) 1 [⟨.a (zD dg4_0<|zC (.i 4)<|.nil),.p q77 0,0⟩]
noncomputable def w4_125:Row:=.m (.key 0) 1 [⟨.a (zD dg4_1<|zC (.i 4)<|.nil),.p q79 0,0⟩]
noncomputable def w4_126:Row:=.c 1 (zC (.m q80)<|.nil)
noncomputable def w4_127:Row:=.m (.key 0) 1 [⟨.a (zD dg4_2<|zC (.i 4)<|.nil),.p q81 0,0⟩]
noncomputable def w4_128:Row:=.c 1 (zC (.m q82)<|.nil)
noncomputable def w4_129:Row:=.m (.key 0) 1 [⟨.a (zD dg4_3<|zC (.i 4)<|.nil),.p q83 0,0⟩]
noncomputable def w4_130:Row:=.c 3 (zC (.p q88 0)<|zC (.i 0)<|zC (.m q89)<|.nil)
noncomputable def w4_131:Row:=.c 3 (zC (.p q90 0)<|zC (.i 0)<|zC (.m q91)<|.nil)
noncomputable def w4_132:Row:=.c 34 (zD dg4_4<|zC (.i 4)<|zC (.sl q92 0 16 32)<|.nil)
noncomputable def w4_133:Row:=.c 34 (zD dg4_6<|zC (.i 4)<|zC (.sl q93 0 16 32)<|.nil)
noncomputable def w4_134:Row:=.c 34 (zD dg4_7<|zC (.i 4)<|zC (.sl q94 0 16 32)<|.nil)
noncomputable def w4_135:Row:=.c 34 (zD dg4_8<|zC (.i 4)<|zC (.sl q95 0 16 32)<|.nil)
noncomputable def w4_136:Row:=.c 7 (zC (.i 0)<|zC (.sl q1 0 4 34)<|zC (.i 2)<|zC (.m q2)<|zC (.m q3)<|zC (.sl q4 0 12 4)<|zC (.o 1)<|.nil)
noncomputable def w4_137:Row:=.m .int 2 [⟨.i 1,.p q9 0,0⟩,⟨.i 2,.p q10 0,1⟩]
noncomputable def w4_138:Row:=.c 48 (zC (.o 1)<|zC (.i 1)<|zC (.i 2)<|zC (.s 16 dg4_14)<|zC (.o 1)<|zC (.i 1)<|zC (.i 3)<|zC (.s 16 dg4_14)<|zC (.o 1)<|zC (.i 1)<|zC (.i 4)<|zC (.s 16 dg4_14)<|zC (.o 1)<|zC (.i 2)<|zC (.i 1)<|zC (.s 16 dg4_14)<|zC (.o 1)<|zC (.i 2)<|zC (.i 3)<|zC (.s 16 dg4_14)<|zC (.o 1)<|zC (.i 2)<|zC (.i 4)<|zC (.s 16 dg4_14)<|zC (.o 1)<|zC (.i 3)<|zC (.i 1)<|zC (.s 16 dg4_14)<|zC (.o 1)<|zC (.i 3)<|zC (.i 2)<|zC (.s 16 dg4_14)<|zC (.o 1)<|zC (.i 3)<|zC (.i 4)<|zC (.s 16 dg4_14)<|zC (.o 1)<|zC (.i 4)<|zC (.i 1)<|zC (.s 16 dg4_14)<|zC (.o 1)<|zC (.i 4)<|zC (.i 2)<|zC (.s 16 dg4_14)<|zC (.o 1)<|zC (.i 4)<|zC (.i 3)<|zC (.s 16 dg4_14)<|.nil)
noncomputable def w4_139:Row:=.c 4 (zC (.i 1)<|zC (.sl q11 0 1 33)<|zC (.p q12 0)<|zC (.p q13 0)<|.nil)
noncomputable def w4_140:Row:=.c 4 (zC (.i 2)<|zC (.sl q14 0 1 33)<|zC (.p q15 0)<|zC (.p q16 0)<|.nil)
noncomputable def w4_141:Row:=.c 4 (zC (.i 3)<|zC (.sl q17 0 1 33)<|zC (.p q18 0)<|zC (.p q19 0)<|.nil)
noncomputable def w4_142:Row:=.c 4 (zC (.i 4)<|zC (.sl q20 0 1 33)<|zC (.p q21 0)<|zC (.p q22 0)<|.nil)
noncomputable def w4_143:Row:=.c 54 (zC (.i 1)<|zC (.i 0)<|zC (.sl q23 0 4 34)<|zC (.i 0)<|zC (.sl q23 0 4 34)<|zC (.o 1)<|zC (.o 1)<|zC (.o 1)<|zC (.o 0)<|zC (.o 0)<|zC (.o 0)<|zC (.o 1)<|zC (.o 1)<|zC (.o 1)<|zC (.o 3)<|zC (.o 3)<|zC (.o 3)<|zC (.o 3)<|zC (.o 3)<|zC (.o 3)<|zC (.o 3)<|zC (.o 3)<|zC (.o 3)<|zC (.o 3)<|zC (.o 3)<|zC (.o 3)<|zC (.o 3)<|zC (.o 3)<|zC (.o 3)<|zC (.o 3)<|zC (.o 3)<|zC (.o 3)<|zC (.o 3)<|zC (.o 3)<|zC (.o 3)<|zC (.o 3)<|zC (.o 3)<|zC (.o 3)<|zC (.o 3)<|zC (.o 3)<|zC (.o 3)<|zC (.o 3)<|zC (.o 3)<|zC (.o 3)<|zC (.o 3)<|zC (.o 3)<|zC (.o 1)<|zC (.o 2)<|zC (.i 0)<|zC (.m q24)<|zC (.i 0)<|zC (.i 0)<|zC (.i 0)<|zC .sn<|.nil)
noncomputable def w4_144:Row:=.c 54 (zC (.i 2)<|zC (.i 0)<|zC (.sl q25 0 4 34)<|zC (.i 0)<|zC (.sl q25 0 4 34)<|zC (.o 1)<|zC (.o 1)<|zC (.o 1)<|zC (.o 0)<|zC (.o 0)<|zC (.o 0)<|zC (.o 1)<|zC (.o 1)<|zC (.o 1)<|zC (.o 3)<|zC (.o 3)<|zC (.o 3)<|zC (.o 3)<|zC (.o 3)<|zC (.o 3)<|zC (.o 3)<|zC (.o 3)<|zC (.o 3)<|zC (.o 3)<|zC (.o 3)<|zC (.o 3)<|zC (.o 3)<|zC (.o 3)<|zC (.o 3)<|zC (.o 3)<|zC (.o 3)<|zC (.o 3)<|zC (.o 3)<|zC (.o 3)<|zC (.o 3)<|zC (.o 3)<|zC (.o 3)<|zC (.o 3)<|zC (.o 3)<|zC (.o 3)<|zC (.o 3)<|zC (.o 3)<|zC (.o 3)<|zC (.o 3)<|zC (.o 3)<|zC (.o 3)<|zC (.o 1)<|zC (.o 2)<|zC (.i 0)<|zC (.m q26)<|zC (.i 0)<|zC (.i 0)<|zC (.i 0)<|zC .sn<|.nil)
noncomputable def w4_145:Row:=.c 5 (zC (.m q27)<|zC (.b false)<|zC (.i 0)<|zC (.i 0)<|zC (.i 0)<|.nil)
noncomputable def w4_146:Row:=.c 60 (zC (.p q28 0)<|zC (.p q12 0)<|zC (.p q29 0)<|zC (.i 1)<|zC (.i 2)<|zC (.i 0)<|zC (.sl q30 0 4 34)<|zC (.p q31 0)<|zC .sn<|zC .sn<|zC (.i 0)<|zC (.sl q32 0 4 34)<|zC .sn<|zC .sn<|zC (.i 0)<|zC .sn<|zC (.i 0)<|zD dg4_5<|zC .sn<|zC .sn<|zC .sn<|zC .sn<|zC (.m q33)<|zC (.m q34)<|zC .sn<|zC .sn<|zC (.i 0)<|zC (.b false)<|zC .sn<|.nil)
noncomputable def w4_147:Row:=.c 5 (zC (.m q35)<|zC (.b false)<|zC (.i 0)<|zC (.i 0)<|zC (.i 0)<|.nil)
noncomputable def w4_148:Row:=.c 60 (zC (.p q36 0)<|zC (.p q15 0)<|zC (.p q37 0)<|zC (.i 2)<|zC (.i 2)<|zC (.i 0)<|zC (.sl q38 0 4 34)<|zC (.p q39 0)<|zC .sn<|zC .sn<|zC (.i 0)<|zC (.sl q40 0 4 34)<|zC .sn<|zC .sn<|zC (.i 0)<|zC .sn<|zC (.i 0)<|zD dg4_5<|zC .sn<|zC .sn<|zC .sn<|zC .sn<|zC (.m q41)<|zC (.m q42)<|zC .sn<|zC .sn<|zC (.i 0)<|zC (.b false)<|zC .sn<|.nil)
noncomputable def w4_149:Row:=.c 5 (zC (.m q43)<|zC (.b false)<|zC (.i 0)<|zC (.i 0)<|zC (.i 0)<|.nil)
noncomputable def w4_150:Row:=.c 60 (zC (.p q44 0)<|zC (.p q18 0)<|zC (.p q45 0)<|zC (.i 3)<|zC (.i 2)<|zC (.i 0)<|zC (.sl q46 0 4 34)<|zC (.p q47 0)<|zC .sn<|zC .sn<|zC (.i 0)<|zC (.sl q48 0 4 34)<|zC .sn<|zC .sn<|zC (.i 0)<|zC .sn<|zC (.i 0)<|zD dg4_5<|zC .sn<|zC .sn<|zC .sn<|zC .sn<|zC (.m q49)<|zC (.m q50)<|zC .sn<|zC .sn<|zC (.i 0)<|zC (.b false)<|zC .sn<|.nil)
noncomputable def w4_151:Row:=.c 5 (zC (.m q51)<|zC (.b false)<|zC (.i 0)<|zC (.i 0)<|zC (.i 0)<|.nil)
noncomputable def w4_152:Row:=.c 60 (zC (.p q52 0)<|zC (.p q21 0)<|zC (.p q53 0)<|zC (.i 4)<|zC (.i 2)<|zC (.i 0)<|zC (.sl q54 0 4 34)<|zC (.p q55 0)<|zC .sn<|zC .sn<|zC (.i 0)<|zC (.sl q56 0 4 34)<|zC .sn<|zC .sn<|zC (.i 0)<|zC .sn<|zC (.i 0)<|zD dg4_5<|zC .sn<|zC .sn<|zC .sn<|zC .sn<|zC (.m q57)<|zC (.m q58)<|zC .sn<|zC .sn<|zC (.i 0)<|zC (.b false)<|zC .sn<|.nil)
noncomputable def w4_153:Row:=.c 213 (zC (.i 0)<|zC (.sl q59 0 4 34)<|zC (.i 1)<|zC (.i 2)<|zC (.rk 4607182418800017408 0)<|zC (.i 0)<|zC (.i 0)<|zC (.i dg4_9)<|zC (.i 0)<|zC (.i 0)<|.cons 96 (.bs 96 0)<|zC .sn<|zC (.i dg4_9)<|zC (.i 0)<|zC (.i 0)<|.cons 96 (.bs 96 0)<|zC .sn<|zC (.m q60)<|zC (.m q61)<|zC (.p q62 0)<|zC (.b false)<|zC (.b false)<|zC .sn<|.nil)
noncomputable def w4_154:Row:=.c 1 (zC (.m q63)<|.nil)
noncomputable def w4_155:Row:=.c 213 (zC (.i 0)<|zC (.sl q64 0 4 34)<|zC (.i 2)<|zC (.i 2)<|zC (.rk 4607182418800017408 0)<|zC (.i 0)<|zC (.i 0)<|zC (.i dg4_9)<|zC (.i 0)<|zC (.i 0)<|.cons 96 (.bs 96 0)<|zC .sn<|zC (.i dg4_9)<|zC (.i 0)<|zC (.i 0)<|.cons 96 (.bs 96 0)<|zC .sn<|zC (.m q65)<|zC (.m q66)<|zC (.p q67 0)<|zC (.b false)<|zC (.b false)<|zC .sn<|.nil)
noncomputable def w4_156:Row:=.c 1 (zC (.m q68)<|.nil)
noncomputable def w4_157:Row:=.c 213 (zC (.i 0)<|zC (.sl q69 0 4 34)<|zC (.i 3)<|zC (.i 2)<|zC (.rk 4607182418800017408 0)<|zC (.i 0)<|zC (.i 0)<|zC (.i dg4_9)<|zC (.i 0)<|zC (.i 0)<|.cons 96 (.bs 96 0)<|zC .sn<|zC (.i dg4_9)<|zC (.i 0)<|zC (.i 0)<|.cons 96 (.bs 96 0)<|zC .sn<|zC (.m q70)<|zC (.m q71)<|zC (.p q72 0)<|zC (.b false)<|zC (.b false)<|zC .sn<|.nil)
noncomputable def w4_158:Row:=.c 1 (zC (.m q73)<|.nil)
noncomputable def w4_159:Row:=.c 213 (zC (.i 0)<|zC (.sl q74 0 4 34)<|zC (.i 4)<|zC (.i 2)<|zC (.rk 4607182418800017408 0)<|zC (.i 0)<|zC (.i 0)<|zC (.i dg4_9)<|zC (.i 0)<|zC (.i 0)<|.cons 96 (.bs 96 0)<|zC .sn<|zC (.i dg4_9)<|zC (.i 0)<|zC (.i 0)<|.cons 96 (.bs 96 0)<|zC .sn<|zC (.m q75)<|zC (.m q76)<|zC (.p q77 0)<|zC (.b false)<|zC (.b false)<|zC .sn<|.nil)
noncomputable def w4_160:Row:=.c 2 (zC (.p q21 0)<|zC (.s 3 7106407)<|.nil)
noncomputable def w4_161:Row:=.m (.key 0) 1 [⟨.a (zD dg4_0<|zC (.i 4)<|.nil),.p q80 0,0⟩]
noncomputable def w4_162:Row:=.m (.key 0) 1 [⟨.a (zD dg4_1<|zC (.i 4)<|.nil),.p q82 0,0⟩]
noncomputable def w4_163:Row:=.c 1 (zC (.m q83)<|.nil)
noncomputable def w4_164:Row:=.m (.key 0) 1 [⟨.a (zD dg4_2<|zC (.i 4)<|.nil),.p q84 0,0⟩]
noncomputable def w4_165:Row:=.c 1 (zC (.m q85)<|.nil)
noncomputable def w4_166:Row:=.m (.key 0) 1 [⟨.a (zD dg4_3<|zC (.i 4)<|.nil),.p q86 0,0⟩]
noncomputable def w4_167:Row:=.c 3 (zC (.p q91 0)<|zC (.i 0)<|zC (.m q92)<|.nil)
noncomputable def w4_168:Row:=.c 3 (zC (.p q93 0)<|zC (.i 0)<|zC (.m q94)<|.nil)
noncomputable def w4_169:Row:=.c 34 (zD dg4_4<|zC (.i 4)<|zC (.sl q95 0 16 32)<|.nil)
noncomputable def w4_170:Row:=.c 34 (zD dg4_6<|zC (.i 4)<|zC (.sl q96 0 16 32)<|.nil)
noncomputable def w4_171:Row:=.c 34 (zD dg4_7<|zC (.i 4)<|zC (.sl q97 0 16 32)<|.nil)
noncomputable def w4_172:Row:=.c 34 (zD dg4_8<|zC (.i 4)<|zC (.sl q98 0 16 32)<|.nil)
noncomputable def w4_173:Row:=.m .int 3 [⟨.i 1,.p q9 0,0⟩,⟨.i 2,.p q10 0,1⟩,⟨.i 3,.p q11 0,2⟩]
noncomputable def w4_174:Row:=.c 4 (zC (.i 1)<|zC (.sl q12 0 1 33)<|zC (.p q13 0)<|zC (.p q14 0)<|.nil)
noncomputable def w4_175:Row:=.c 4 (zC (.i 2)<|zC (.sl q15 0 1 33)<|zC (.p q16 0)<|zC (.p q17 0)<|.nil)
noncomputable def w4_176:Row:=.c 4 (zC (.i 3)<|zC (.sl q18 0 1 33)<|zC (.p q19 0)<|zC (.p q20 0)<|.nil)
noncomputable def w4_177:Row:=.c 4 (zC (.i 4)<|zC (.sl q21 0 1 33)<|zC (.p q22 0)<|zC (.p q23 0)<|.nil)
noncomputable def w4_178:Row:=.c 54 (zC (.i 1)<|zC (.i 0)<|zC (.sl q24 0 4 34)<|zC (.i 0)<|zC (.sl q24 0 4 34)<|zC (.o 1)<|zC (.o 1)<|zC (.o 1)<|zC (.o 0)<|zC (.o 0)<|zC (.o 0)<|zC (.o 1)<|zC (.o 1)<|zC (.o 1)<|zC (.o 3)<|zC (.o 3)<|zC (.o 3)<|zC (.o 3)<|zC (.o 3)<|zC (.o 3)<|zC (.o 3)<|zC (.o 3)<|zC (.o 3)<|zC (.o 3)<|zC (.o 3)<|zC (.o 3)<|zC (.o 3)<|zC (.o 3)<|zC (.o 3)<|zC (.o 3)<|zC (.o 3)<|zC (.o 3)<|zC (.o 3)<|zC (.o 3)<|zC (.o 3)<|zC (.o 3)<|zC (.o 3)<|zC (.o 3)<|zC (.o 3)<|zC (.o 3)<|zC (.o 3)<|zC (.o 3)<|zC (.o 3)<|zC (.o 3)<|zC (.o 3)<|zC (.o 3)<|zC (.o 1)<|zC (.o 2)<|zC (.i 0)<|zC (.m q25)<|zC (.i 0)<|zC (.i 0)<|zC (.i 0)<|zC .sn<|.nil)
noncomputable def w4_179:Row:=.c 54 (zC (.i 2)<|zC (.i 0)<|zC (.sl q26 0 4 34)<|zC (.i 0)<|zC (.sl q26 0 4 34)<|zC (.o 1)<|zC (.o 1)<|zC (.o 1)<|zC (.o 0)<|zC (.o 0)<|zC (.o 0)<|zC (.o 1)<|zC (.o 1)<|zC (.o 1)<|zC (.o 3)<|zC (.o 3)<|zC (.o 3)<|zC (.o 3)<|zC (.o 3)<|zC (.o 3)<|zC (.o 3)<|zC (.o 3)<|zC (.o 3)<|zC (.o 3)<|zC (.o 3)<|zC (.o 3)<|zC (.o 3)<|zC (.o 3)<|zC (.o 3)<|zC (.o 3)<|zC (.o 3)<|zC (.o 3)<|zC (.o 3)<|zC (.o 3)<|zC (.o 3)<|zC (.o 3)<|zC (.o 3)<|zC (.o 3)<|zC (.o 3)<|zC (.o 3)<|zC (.o 3)<|zC (.o 3)<|zC (.o 3)<|zC (.o 3)<|zC (.o 3)<|zC (.o 3)<|zC (.o 1)<|zC (.o 2)<|zC (.i 0)<|zC (.m q27)<|zC (.i 0)<|zC (.i 0)<|zC (.i 0)<|zC .sn<|.nil)
noncomputable def w4_180:Row:=.c 54 (zC (.i 3)<|zC (.i 0)<|zC (.sl q28 0 4 34)<|zC (.i 0)<|zC (.sl q28 0 4 34)<|zC (.o 1)<|zC (.o 1)<|zC (.o 1)<|zC (.o 0)<|zC (.o 0)<|zC (.o 0)<|zC (.o 1)<|zC (.o 1)<|zC (.o 1)<|zC (.o 3)<|zC (.o 3)<|zC (.o 3)<|zC (.o 3)<|zC (.o 3)<|zC (.o 3)<|zC (.o 3)<|zC (.o 3)<|zC (.o 3)<|zC (.o 3)<|zC (.o 3)<|zC (.o 3)<|zC (.o 3)<|zC (.o 3)<|zC (.o 3)<|zC (.o 3)<|zC (.o 3)<|zC (.o 3)<|zC (.o 3)<|zC (.o 3)<|zC (.o 3)<|zC (.o 3)<|zC (.o 3)<|zC (.o 3)<|zC (.o 3)<|zC (.o 3)<|zC (.o 3)<|zC (.o 3)<|zC (.o 3)<|zC (.o 3)<|zC (.o 3)<|zC (.o 3)<|zC (.o 1)<|zC (.o 2)<|zC (.i 0)<|zC (.m q29)<|zC (.i 0)<|zC (.i 0)<|zC (.i 0)<|zC .sn<|.nil)
noncomputable def w4_181:Row:=.c 5 (zC (.m q30)<|zC (.b false)<|zC (.i 0)<|zC (.i 0)<|zC (.i 0)<|.nil)
noncomputable def w4_182:Row:=.c 60 (zC (.p q31 0)<|zC (.p q13 0)<|zC (.p q32 0)<|zC (.i 1)<|zC (.i 2)<|zC (.i 0)<|zC (.sl q33 0 4 34)<|zC (.p q34 0)<|zC .sn<|zC .sn<|zC (.i 0)<|zC (.sl q35 0 4 34)<|zC .sn<|zC .sn<|zC (.i 0)<|zC .sn<|zC (.i 0)<|zD dg4_5<|zC .sn<|zC .sn<|zC .sn<|zC .sn<|zC (.m q36)<|zC (.m q37)<|zC .sn<|zC .sn<|zC (.i 5)<|zC (.b false)<|zC .sn<|.nil)
noncomputable def w4_183:Row:=.c 5 (zC (.m q38)<|zC (.b false)<|zC (.i 0)<|zC (.i 0)<|zC (.i 0)<|.nil)
noncomputable def w4_184:Row:=.c 60 (zC (.p q39 0)<|zC (.p q16 0)<|zC (.p q40 0)<|zC (.i 2)<|zC (.i 2)<|zC (.i 0)<|zC (.sl q41 0 4 34)<|zC (.p q42 0)<|zC .sn<|zC .sn<|zC (.i 0)<|zC (.sl q43 0 4 34)<|zC .sn<|zC .sn<|zC (.i 0)<|zC .sn<|zC (.i 0)<|zD dg4_5<|zC .sn<|zC .sn<|zC .sn<|zC .sn<|zC (.m q44)<|zC (.m q45)<|zC .sn<|zC .sn<|zC (.i 5)<|zC (.b false)<|zC .sn<|.nil)
noncomputable def w4_185:Row:=.c 5 (zC (.m q46)<|zC (.b false)<|zC (.i 0)<|zC (.i 0)<|zC (.i 0)<|.nil)
noncomputable def w4_186:Row:=.c 60 (zC (.p q47 0)<|zC (.p q19 0)<|zC (.p q48 0)<|zC (.i 3)<|zC (.i 2)<|zC (.i 0)<|zC (.sl q49 0 4 34)<|zC (.p q50 0)<|zC .sn<|zC .sn<|zC (.i 0)<|zC (.sl q51 0 4 34)<|zC .sn<|zC .sn<|zC (.i 0)<|zC .sn<|zC (.i 0)<|zD dg4_5<|zC .sn<|zC .sn<|zC .sn<|zC .sn<|zC (.m q52)<|zC (.m q53)<|zC .sn<|zC .sn<|zC (.i 5)<|zC (.b false)<|zC .sn<|.nil)
noncomputable def w4_187:Row:=.c 5 (zC (.m q54)<|zC (.b false)<|zC (.i 0)<|zC (.i 0)<|zC (.i 0)<|.nil)
noncomputable def w4_188:Row:=.c 60 (zC (.p q55 0)<|zC (.p q22 0)<|zC (.p q56 0)<|zC (.i 4)<|zC (.i 2)<|zC (.i 0)<|zC (.sl q57 0 4 34)<|zC (.p q58 0)<|zC .sn<|zC .sn<|zC (.i 0)<|zC (.sl q59 0 4 34)<|zC .sn<|zC .sn<|zC (.i 0)<|zC .sn<|zC (.i 0)<|zD dg4_5<|zC .sn<|zC .sn<|zC .sn<|zC .sn<|zC (.m q60)<|zC (.m q61)<|zC .sn<|zC .sn<|zC (.i 5)<|zC (.b false)<|zC .sn<|.nil)
noncomputable def w4_189:Row:=.c 213 (zC (.i 0)<|zC (.sl q62 0 4 34)<|zC (.i 1)<|zC (.i 2)<|zC (.rk 4607182418800017408 0)<|zC (.i 0)<|zC (.i 0)<|zC (.i dg4_9)<|zC (.i 0)<|zC (.i 0)<|.cons 96 (.bs 96 0)<|zC .sn<|zC (.i dg4_9)<|zC (.i 0)<|zC (.i 0)<|.cons 96 (.bs 96 0)<|zC .sn<|zC (.m q63)<|zC (.m q64)<|zC (.p q65 0)<|zC (.b false)<|zC (.b false)<|zC .sn<|.nil)
noncomputable def w4_190:Row:=.c 213 (zC (.i 0)<|zC (.sl q67 0 4 34)<|zC (.i 2)<|zC (.i 2)<|zC (.rk 4607182418800017408 0)<|zC (.i 0)<|zC (.i 0)<|zC (.i dg4_9)<|zC (.i 0)<|zC (.i 0)<|.cons 96 (.bs 96 0)<|zC .sn<|zC (.i dg4_9)<|zC (.i 0)<|zC (.i 0)<|.cons 96 (.bs 96 0)<|zC .sn<|zC (.m q68)<|zC (.m q69)<|zC (.p q70 0)<|zC (.b false)<|zC (.b false)<|zC .sn<|.nil)
noncomputable def w4_191:Row:=.c 213 (zC (.i 0)<|zC (.sl q72 0 4 34)<|zC (.i 3)<|zC (.i 2)<|zC (.rk 4607182418800017408 0)<|zC (.i 0)<|zC (.i 0)<|zC (.i dg4_9)<|zC (.i 0)<|zC (.i 0)<|.cons 96 (.bs 96 0)<|zC .sn<|zC (.i dg4_9)<|zC (.i 0)<|zC (.i 0)<|.cons 96 (.bs 96 0)<|zC .sn<|zC (.m q73)<|zC (.m q74)<|zC (.p q75 0)<|zC (.b false)<|zC (.b false)<|zC .sn<|.nil)
noncomputable def w4_192:Row:=.c 213 (zC (.i 0)<|zC (.sl q77 0 4 34)<|zC (.i 4)<|zC (.i 2)<|zC (.rk 4607182418800017408 0)<|zC (.i 0)<|zC (.i 0)<|zC (.i dg4_9)<|zC (.i 0)<|zC (.i 0)<|.cons 96 (.bs 96 0)<|zC .sn<|zC (.i dg4_9)<|zC (.i 0)<|zC (.i 0)<|.cons 96 (.bs 96 0)<|zC .sn<|zC (.m q78)<|zC (.m q79)<|zC (.p q80 0)<|zC (.b false)<|zC (.b false)<|zC .sn<|.nil)
noncomputable def w4_193:Row:=.c 2 (zC (.p q22 0)<|zC (.s 3 7106407)<|.nil)
noncomputable def w4_194:Row:=.m (.key 0) 1 [⟨.a (zD dg4_0<|zC (.i 4)<|.nil),.p q83 0,0⟩]
noncomputable def w4_195:Row:=.c 1 (zC (.m q84)<|.nil)
noncomputable def w4_196:Row:=.m (.key 0) 1 [⟨.a (zD dg4_1<|zC (.i 4)<|.nil),.p q85 0,0⟩]
noncomputable def w4_197:Row:=.c 1 (zC (.m q86)<|.nil)
noncomputable def w4_198:Row:=.m (.key 0) 1 [⟨.a (zD dg4_2<|zC (.i 4)<|.nil),.p q87 0,0⟩]
noncomputable def w4_199:Row:=.c 1 (zC (.m q88)<|.nil)
noncomputable def w4_200:Row:=.m (.key 0) 1 [⟨.a (zD dg4_3<|zC (.i 4)<|.nil),.p q89 0,0⟩]
noncomputable def w4_201:Row:=.c 3 (zC (.p q92 0)<|zC (.i 0)<|zC (.m q93)<|.nil)
noncomputable def w4_202:Row:=.c 3 (zC (.p q94 0)<|zC (.i 0)<|zC (.m q95)<|.nil)
noncomputable def w4_203:Row:=.c 3 (zC (.p q96 0)<|zC (.i 0)<|zC (.m q97)<|.nil)
noncomputable def w4_204:Row:=.c 34 (zD dg4_4<|zC (.i 4)<|zC (.sl q98 0 16 32)<|.nil)
noncomputable def w4_205:Row:=.c 34 (zD dg4_6<|zC (.i 4)<|zC (.sl q99 0 16 32)<|.nil)
noncomputable def w4_206:Row:=.c 34 (zD dg4_7<|zC (.i 4)<|zC (.sl q100 0 16 32)<|.nil)
noncomputable def w4_207:Row:=.c 34 (zD dg4_8<|zC (.i 4)<|zC (.sl q101 0 16 32)<|.nil)
noncomputable def w4_208:Row:=.c 60 (zC (.p q31 0)<|zC (.p q13 0)<|zC (.p q32 0)<|zC (.i 1)<|zC (.i 2)<|zC (.i 0)<|zC (.sl q33 0 4 34)<|zC (.p q34 0)<|zC .sn<|zC .sn<|zC (.i 0)<|zC (.sl q35 0 4 34)<|zC .sn<|zC .sn<|zC (.i 0)<|zC .sn<|zC (.i 0)<|zD dg4_5<|zC .sn<|zC .sn<|zC .sn<|zC .sn<|zC (.m q36)<|zC (.m q37)<|zC .sn<|zC .sn<|zC (.i 0)<|zC (.b false)<|zC .sn<|.nil)
noncomputable def w4_209:Row:=.c 60 (zC (.p q39 0)<|zC (.p q16 0)<|zC (.p q40 0)<|zC (.i 2)<|zC (.i 2)<|zC (.i 0)<|zC (.sl q41 0 4 34)<|zC (.p q42 0)<|zC .sn<|zC .sn<|zC (.i 0)<|zC (.sl q43 0 4 34)<|zC .sn<|zC .sn<|zC (.i 0)<|zC .sn<|zC (.i 0)<|zD dg4_5<|zC .sn<|zC .sn<|zC .sn<|zC .sn<|zC (.m q44)<|zC (.m q45)<|zC .sn<|zC .sn<|zC (.i 0)<|zC (.b false)<|zC .sn<|.nil)
noncomputable def w4_210:Row:=.c 60 (zC (.p q47 0)<|zC (.p q19 0)<|zC (.p q48 0)<|zC (.i 3)<|zC (.i 2)<|zC (.i 0)<|zC (.sl q49 0 4 34)<|zC (.p q50 0)<|zC .sn<|zC .sn<|zC (.i 0)<|zC (.sl q51 0 4 34)<|zC .sn<|zC .sn<|zC (.i 0)<|zC .sn<|zC (.i 0)<|zD dg4_5<|zC .sn<|zC .sn<|zC .sn<|zC .sn<|zC (.m q52)<|zC (.m q53)<|zC .sn<|zC .sn<|zC (.i 0)<|zC (.b false)<|zC .sn<|.nil)
noncomputable def w4_211:Row:=.c 60 (zC (.p q55 0)<|zC (.p q22 0)<|zC (.p q56 0)<|zC (.i 4)<|zC (.i 2)<|zC (.i 0)<|zC (.sl q57 0 4 34)<|zC (.p q58 0)<|zC .sn<|zC .sn<|zC (.i 0)<|zC (.sl q59 0 4 34)<|zC .sn<|zC .sn<|zC (.i 0)<|zC .sn<|zC (.i 0)<|zD dg4_5<|zC .sn<|zC .sn<|zC .sn<|zC .sn<|zC (.m q60)<|zC (.m q61)<|zC .sn<|zC .sn<|zC (.i 0)<|zC (.b false)<|zC .sn<|.nil)
noncomputable def S4_0:St:=⟨zL [w4_0,w4_1,w4_2,w4_3,w4_4,w4_5,w4_6,w4_7,w4_8,w4_9,w4_10,w4_11,w4_12,w4_13,w4_14,w4_15,w4_16,w4_17,w4_18,w4_19,w4_20,w4_21,w4_22,w4_1,w4_23,w4_1,w4_24,w4_3,w4_20,w4_25,w4_26,w4_1,w4_27,w4_1,w4_24,w4_3,w4_20,w4_28,w4_29,w4_1,w4_30,w4_1,w4_24,w4_3,w4_20,w4_31,w4_32,w4_1,w4_33,w4_1,w4_24,w4_3,w4_1,w4_3,w4_24,w4_34,w4_35,w4_1,w4_3,w4_24,w4_36,w4_37,w4_1,w4_3,w4_24,w4_38,w4_39,w4_1,w4_3,w4_24,w4_40,w4_41,w4_42,w4_43,w4_42,w4_44,w4_42,w4_45,w4_42,w4_46,w4_47,w4_3,w4_48,w4_3,w4_49,w4_3,w4_50,w4_3,w4_51,w4_52,w4_53,w4_54],q92,zP [(q0,1),(q0,3),(q0,4),(q2,0),(q2,1),(q2,2),(q2,3),(q4,1),(q4,2),(q4,3),(q5,1),(q5,2),(q5,3),(q6,1),(q6,2),(q6,3),(q7,1),(q7,2),(q7,3),(q9,0),(q10,0),(q10,2),(q10,6),(q10,7),(q10,11),(q10,53),(q10,54),(q12,0),(q13,0),(q13,2),(q13,6),(q13,7),(q13,11),(q13,53),(q13,54),(q15,0),(q16,0),(q16,2),(q16,6),(q16,7),(q16,11),(q16,53),(q16,54),(q18,0),(q19,0),(q19,2),(q19,6),(q19,7),(q19,11),(q19,53),(q19,54),(q21,1),(q21,207),(q21,208),(q21,209),(q24,0),(q29,1),(q29,207),(q29,208),(q29,209),(q32,0),(q37,1),(q37,207),(q37,208),(q37,209),(q40,0),(q45,1),(q45,207),(q45,208),(q45,209),(q48,0),(q55,0),(q56,0),(q60,0),(q61,0),(q65,0),(q66,0),(q70,0),(q71,0),(q73,0),(q73,2),(q75,0),(q75,2),(q77,0),(q77,2),(q79,0),(q79,2),(q80,33),(q82,33),(q84,33),(q86,33)],[.p q0 0],[(q0,0)]⟩
theorem S4_0_good:St.good S4_0 = true:=by kernel_rfl
noncomputable def S4_1:St:=⟨zL [w4_0,w4_1,w4_2,w4_55,w4_56,w4_57,w4_58,w4_59,w4_60,w4_8,w4_61,w4_62,w4_11,w4_63,w4_64,w4_14,w4_65,w4_66,w4_17,w4_67,w4_68,w4_1,w4_3,w4_20,w4_69,w4_70,w4_1,w4_71,w4_1,w4_24,w4_3,w4_20,w4_72,w4_73,w4_1,w4_74,w4_1,w4_24,w4_3,w4_20,w4_75,w4_76,w4_1,w4_77,w4_1,w4_24,w4_3,w4_20,w4_78,w4_79,w4_1,w4_36,w4_1,w4_24,w4_3,w4_1,w4_3,w4_24,w4_80,w4_81,w4_1,w4_3,w4_24,w4_82,w4_83,w4_1,w4_3,w4_24,w4_84,w4_85,w4_1,w4_3,w4_24,w4_86,w4_87,w4_42,w4_88,w4_42,w4_89,w4_42,w4_90,w4_42,w4_91,w4_92,w4_3,w4_93,w4_3,w4_94,w4_3,w4_95,w4_3,w4_51,w4_52,w4_53,w4_54],q95,zP [(q0,1),(q0,3),(q0,4),(q2,0),(q2,1),(q2,2),(q2,3),(q3,0),(q4,1),(q4,2),(q4,3),(q5,1),(q5,2),(q5,3),(q6,1),(q6,2),(q6,3),(q7,1),(q7,2),(q7,3),(q8,2),(q8,49),(q10,0),(q11,0),(q11,2),(q11,6),(q11,7),(q11,11),(q11,53),(q11,54),(q13,0),(q14,0),(q14,2),(q14,6),(q14,7),(q14,11),(q14,53),(q14,54),(q16,0),(q17,0),(q17,2),(q17,6),(q17,7),(q17,11),(q17,53),(q17,54),(q19,0),(q20,0),(q20,2),(q20,6),(q20,7),(q20,11),(q20,53),(q20,54),(q24,1),(q24,207),(q24,208),(q24,209),(q27,0),(q32,1),(q32,207),(q32,208),(q32,209),(q35,0),(q40,1),(q40,207),(q40,208),(q40,209),(q43,0),(q48,1),(q48,207),(q48,208),(q48,209),(q51,0),(q58,0),(q59,0),(q63,0),(q64,0),(q68,0),(q69,0),(q73,0),(q74,0),(q76,0),(q76,2),(q78,0),(q78,2),(q80,0),(q80,2),(q82,0),(q82,2),(q83,33),(q85,33),(q87,33),(q89,33)],[.p q0 0],[(q0,0)]⟩
theorem S4_1_good:St.good S4_1 = true:=by kernel_rfl
noncomputable def S4_2:St:=⟨zL [w4_96,w4_1,w4_97,w4_98,w4_99,w4_100,w4_101,w4_102,w4_103,w4_104,w4_8,w4_105,w4_106,w4_11,w4_107,w4_108,w4_14,w4_109,w4_110,w4_17,w4_111,w4_112,w4_1,w4_3,w4_20,w4_113,w4_114,w4_1,w4_115,w4_1,w4_24,w4_3,w4_20,w4_116,w4_117,w4_1,w4_118,w4_1,w4_24,w4_3,w4_20,w4_119,w4_120,w4_1,w4_121,w4_1,w4_24,w4_3,w4_20,w4_122,w4_123,w4_1,w4_80,w4_1,w4_24,w4_3,w4_1,w4_3,w4_24,w4_38,w4_124,w4_1,w4_3,w4_24,w4_40,w4_125,w4_1,w4_3,w4_24,w4_126,w4_127,w4_1,w4_3,w4_24,w4_128,w4_129,w4_42,w4_45,w4_42,w4_46,w4_42,w4_130,w4_42,w4_131,w4_132,w4_3,w4_133,w4_3,w4_134,w4_3,w4_135,w4_3,w4_51,w4_52,w4_53,w4_54],q96,zP [(q0,1),(q0,3),(q0,4),(q0,5),(q2,0),(q2,1),(q2,2),(q2,3),(q3,0),(q5,1),(q5,2),(q5,3),(q6,1),(q6,2),(q6,3),(q7,1),(q7,2),(q7,3),(q8,1),(q8,2),(q8,3),(q9,2),(q9,49),(q11,0),(q12,0),(q12,2),(q12,6),(q12,7),(q12,11),(q12,53),(q12,54),(q14,0),(q15,0),(q15,2),(q15,6),(q15,7),(q15,11),(q15,53),(q15,54),(q17,0),(q18,0),(q18,2),(q18,6),(q18,7),(q18,11),(q18,53),(q18,54),(q20,0),(q21,0),(q21,2),(q21,6),(q21,7),(q21,11),(q21,53),(q21,54),(q25,1),(q25,207),(q25,208),(q25,209),(q28,0),(q33,1),(q33,207),(q33,208),(q33,209),(q36,0),(q41,1),(q41,207),(q41,208),(q41,209),(q44,0),(q49,1),(q49,207),(q49,208),(q49,209),(q52,0),(q59,0),(q60,0),(q64,0),(q65,0),(q69,0),(q70,0),(q74,0),(q75,0),(q77,0),(q77,2),(q79,0),(q79,2),(q81,0),(q81,2),(q83,0),(q83,2),(q84,33),(q86,33),(q88,33),(q90,33)],[.p q0 0],[(q0,0)]⟩
theorem S4_2_good:St.good S4_2 = true:=by kernel_rfl
noncomputable def S4_3:St:=⟨zL [w4_136,w4_1,w4_97,w4_137,w4_138,w4_139,w4_140,w4_141,w4_142,w4_143,w4_144,w4_8,w4_145,w4_146,w4_11,w4_147,w4_148,w4_14,w4_149,w4_150,w4_17,w4_151,w4_152,w4_1,w4_3,w4_1,w4_3,w4_20,w4_153,w4_26,w4_1,w4_154,w4_1,w4_24,w4_3,w4_20,w4_155,w4_29,w4_1,w4_156,w4_1,w4_24,w4_3,w4_20,w4_157,w4_32,w4_1,w4_158,w4_1,w4_24,w4_3,w4_20,w4_159,w4_160,w4_1,w4_40,w4_1,w4_24,w4_3,w4_1,w4_3,w4_24,w4_84,w4_161,w4_1,w4_3,w4_24,w4_86,w4_162,w4_1,w4_3,w4_24,w4_163,w4_164,w4_1,w4_3,w4_24,w4_165,w4_166,w4_42,w4_90,w4_42,w4_91,w4_42,w4_167,w4_42,w4_168,w4_169,w4_3,w4_170,w4_3,w4_171,w4_3,w4_172,w4_3,w4_51,w4_52,w4_53,w4_54],q99,zP [(q0,1),(q0,3),(q0,4),(q0,5),(q2,0),(q2,1),(q2,2),(q2,3),(q3,0),(q3,1),(q5,1),(q5,2),(q5,3),(q6,1),(q6,2),(q6,3),(q7,1),(q7,2),(q7,3),(q8,1),(q8,2),(q8,3),(q9,2),(q9,49),(q10,2),(q10,49),(q12,0),(q13,0),(q13,2),(q13,6),(q13,7),(q13,11),(q13,53),(q13,54),(q15,0),(q16,0),(q16,2),(q16,6),(q16,7),(q16,11),(q16,53),(q16,54),(q18,0),(q19,0),(q19,2),(q19,6),(q19,7),(q19,11),(q19,53),(q19,54),(q21,0),(q22,0),(q22,2),(q22,6),(q22,7),(q22,11),(q22,53),(q22,54),(q28,1),(q28,207),(q28,208),(q28,209),(q31,0),(q36,1),(q36,207),(q36,208),(q36,209),(q39,0),(q44,1),(q44,207),(q44,208),(q44,209),(q47,0),(q52,1),(q52,207),(q52,208),(q52,209),(q55,0),(q62,0),(q63,0),(q67,0),(q68,0),(q72,0),(q73,0),(q77,0),(q78,0),(q80,0),(q80,2),(q82,0),(q82,2),(q84,0),(q84,2),(q86,0),(q86,2),(q87,33),(q89,33),(q91,33),(q93,33)],[.p q0 0],[(q0,0)]⟩
theorem S4_3_good:St.good S4_3 = true:=by kernel_rfl
noncomputable def S4_4:St:=⟨zL [w4_96,w4_1,w4_97,w4_173,w4_99,w4_174,w4_175,w4_176,w4_177,w4_178,w4_179,w4_180,w4_8,w4_181,w4_182,w4_11,w4_183,w4_184,w4_14,w4_185,w4_186,w4_17,w4_187,w4_188,w4_1,w4_3,w4_1,w4_3,w4_1,w4_3,w4_20,w4_189,w4_73,w4_1,w4_30,w4_1,w4_24,w4_3,w4_20,w4_190,w4_76,w4_1,w4_33,w4_1,w4_24,w4_3,w4_20,w4_191,w4_79,w4_1,w4_38,w4_1,w4_24,w4_3,w4_20,w4_192,w4_193,w4_1,w4_86,w4_1,w4_24,w4_3,w4_1,w4_3,w4_24,w4_128,w4_194,w4_1,w4_3,w4_24,w4_195,w4_196,w4_1,w4_3,w4_24,w4_197,w4_198,w4_1,w4_3,w4_24,w4_199,w4_200,w4_42,w4_131,w4_42,w4_201,w4_42,w4_202,w4_42,w4_203,w4_204,w4_3,w4_205,w4_3,w4_206,w4_3,w4_207,w4_3,w4_51,w4_52,w4_53,w4_54],q102,zP [(q0,1),(q0,3),(q0,4),(q0,5),(q2,0),(q2,1),(q2,2),(q2,3),(q3,0),(q3,1),(q3,2),(q5,1),(q5,2),(q5,3),(q6,1),(q6,2),(q6,3),(q7,1),(q7,2),(q7,3),(q8,1),(q8,2),(q8,3),(q9,2),(q9,49),(q10,2),(q10,49),(q11,2),(q11,49),(q13,0),(q14,0),(q14,2),(q14,6),(q14,7),(q14,11),(q14,53),(q14,54),(q16,0),(q17,0),(q17,2),(q17,6),(q17,7),(q17,11),(q17,53),(q17,54),(q19,0),(q20,0),(q20,2),(q20,6),(q20,7),(q20,11),(q20,53),(q20,54),(q22,0),(q23,0),(q23,2),(q23,6),(q23,7),(q23,11),(q23,53),(q23,54),(q31,1),(q31,207),(q31,208),(q31,209),(q34,0),(q39,1),(q39,207),(q39,208),(q39,209),(q42,0),(q47,1),(q47,207),(q47,208),(q47,209),(q50,0),(q55,1),(q55,207),(q55,208),(q55,209),(q58,0),(q65,0),(q66,0),(q70,0),(q71,0),(q75,0),(q76,0),(q80,0),(q81,0),(q83,0),(q83,2),(q85,0),(q85,2),(q87,0),(q87,2),(q89,0),(q89,2),(q90,33),(q92,33),(q94,33),(q96,33)],[.p q0 0],[(q0,0)]⟩
theorem S4_4_good:St.good S4_4 = true:=by kernel_rfl
noncomputable def S4_5:St:=⟨zL [w4_136,w4_1,w4_97,w4_173,w4_138,w4_174,w4_175,w4_176,w4_177,w4_178,w4_179,w4_180,w4_8,w4_181,w4_208,w4_11,w4_183,w4_209,w4_14,w4_185,w4_210,w4_17,w4_187,w4_211,w4_1,w4_3,w4_1,w4_3,w4_1,w4_3,w4_20,w4_189,w4_73,w4_1,w4_30,w4_1,w4_24,w4_3,w4_20,w4_190,w4_76,w4_1,w4_33,w4_1,w4_24,w4_3,w4_20,w4_191,w4_79,w4_1,w4_38,w4_1,w4_24,w4_3,w4_20,w4_192,w4_193,w4_1,w4_86,w4_1,w4_24,w4_3,w4_1,w4_3,w4_24,w4_128,w4_194,w4_1,w4_3,w4_24,w4_195,w4_196,w4_1,w4_3,w4_24,w4_197,w4_198,w4_1,w4_3,w4_24,w4_199,w4_200,w4_42,w4_131,w4_42,w4_201,w4_42,w4_202,w4_42,w4_203,w4_204,w4_3,w4_205,w4_3,w4_206,w4_3,w4_207,w4_3,w4_51,w4_52,w4_53,w4_54],q102,zP [(q0,1),(q0,3),(q0,4),(q0,5),(q2,0),(q2,1),(q2,2),(q2,3),(q3,0),(q3,1),(q3,2),(q5,1),(q5,2),(q5,3),(q6,1),(q6,2),(q6,3),(q7,1),(q7,2),(q7,3),(q8,1),(q8,2),(q8,3),(q9,2),(q9,49),(q10,2),(q10,49),(q11,2),(q11,49),(q13,0),(q14,0),(q14,2),(q14,6),(q14,7),(q14,11),(q14,53),(q14,54),(q16,0),(q17,0),(q17,2),(q17,6),(q17,7),(q17,11),(q17,53),(q17,54),(q19,0),(q20,0),(q20,2),(q20,6),(q20,7),(q20,11),(q20,53),(q20,54),(q22,0),(q23,0),(q23,2),(q23,6),(q23,7),(q23,11),(q23,53),(q23,54),(q31,1),(q31,207),(q31,208),(q31,209),(q34,0),(q39,1),(q39,207),(q39,208),(q39,209),(q42,0),(q47,1),(q47,207),(q47,208),(q47,209),(q50,0),(q55,1),(q55,207),(q55,208),(q55,209),(q58,0),(q65,0),(q66,0),(q70,0),(q71,0),(q75,0),(q76,0),(q80,0),(q81,0),(q83,0),(q83,2),(q85,0),(q85,2),(q87,0),(q87,2),(q89,0),(q89,2),(q90,33),(q92,33),(q94,33),(q96,33)],[.p q0 0],[(q0,0)]⟩
theorem S4_5_good:St.good S4_5 = true:=by kernel_rfl
end Go.Vm

/-
  THE CARD OF wapentakelaw19.RoundQuick: for every input that the row lets in, RoundQuick returns true and its arguments read as they did. Part 9 of 14. No condition stands ahead of the statement. Parts of this text were printed by a program of ours.
-/
import Derived.Test.YtimmoekliphobaaDoorQ08
set_option linter.all false
set_option maxRecDepth 100000
set_option maxHeartbeats 4000000
namespace Go.Proofs.YtimmoekliphobaaDoor
open Go Go.Sh
open Go.Sh.Ty (reg)
def m1 : api_Member := { api_Member.zero with Id := 1 }
def plan1 : api_Plan := { api_Plan.zero with Height := 1, Valid := -1, Block := blk1, From := 1 }
def plan1r (r : Sl) : api_Plan := { plan1 with Block := { blk1 with Requests := r } }
def vote1 (kd : Int) : api_Vote := { api_Vote.zero with Kind := kd, Height := 1, Digest := digB blk1 [], From := 1 }
theorem outSV {h0 h : H} {S : List Nat} {L : List En} {c : CS} (hs : Sat h0 S h (core (clrC c) ++ (hand c ++ L))) : SV 135 h c.x.out (c.acts.map (·.1)) := hs.ownSV 8 rfl len_api_Act
theorem voteC_new {c : CS} {v : api_Vote} (h : mfind c.vts (placeOf v) = none) : voteC c v = { c with vts := mins c.vts (placeOf v) v } := if_pos h
set_option maxHeartbeats 1000000 in
theorem alive19_spec {k : Bool → H → Prop} {h : H} (hT : Tb h) (hk : ∀ h', Ext h h' → k true h') : law19_alive.b k h := by
  unfold law19_alive.b
  refine (Sat.init h).mks_ (n := 34) (fun t5 h1 hs1 _ _ => ?_)
  have hp1 : Plc 1 0 := by unfold Plc; omega
  refine New_spec19 { api_Config.zero with Members := t5 } [m1] 1 1 1 (by unfold I64; omega) hs1 (SV.z (hs1.ownSV 0 rfl len_api_Member)) (fun h2 hf _ => ?_) (fun c mm h2 hg hF hs2 => ?_)
  · exact absurd hf (show ¬ (goodC 0 [m1] && decide ((1 : Int) ≤ 1 ∧ (1 : Int) ≤ 1024)) = false by decide)
  have hc : Cok c := hF.ok (show goodC 0 [m1] = true by decide) hp1
  obtain ⟨fx, f1, f2, f3, f4, f5, f6, f7, f8, f9, f10, f11⟩ := hF
  have hmu := mu_ub hc
  refine Start_spec c hT (by simp) hc (by rw [f8]; simp; omega) hs2 (fun hd => by rw [fx] at hd; cases hd) (fun c1 c' h3 hd hst hmv hs3 => ?_)
  have hmem : isMem c = true := by unfold isMem; rw [f9, fx]; rfl
  have hid : ∀ a b, idAt c a b = 1 := by
    intro a b; unfold idAt; rw [f9]
    have : ((a + b) % ([m1] : List api_Member).length).toNat = 0 := by simp [Int.emod_one]
    rw [this]; rfl
  have hme : c.x.me = 1 := by rw [fx]
  obtain ⟨r, o, rfl⟩ : ∃ r o, c1 = enterC c 0 r o := by
    rcases hst with ⟨_, r, o, e⟩ | ⟨hne, _⟩
    · exact ⟨r, o, e⟩
    · exact absurd (show c.x.step = 0 by rw [fx]; rfl) hne
  obtain ⟨a, KA, out, he, ha⟩ := enterC_eq c 0 r o
  have hc1 : Cok (enterC c 0 r o) := (hc.enter (by rw [f8]; decide) (by decide) r o).1
  have hq : c' = enterC c 0 r o := mvs_quiet hmv (by rw [he]; exact Int.le_refl _) (by rw [he]; exact f3) (by rw [he]; exact f4)
  subst hq
  rw [f8, hmem, hid, hme] at ha
  simp only [List.nil_append, beq_self_eq_true, Bool.and_self, if_true] at ha
  rw [he] at hs3 hc1 ⊢
  clear he hmv
  have hsv := outSV hs3
  simp only at hsv
  rw [ha] at hsv
  refine ifb_i (fun hb => ?_) (fun _ => ?_)
  · have := hsv.2.1
    simp only [List.map_cons, List.map_nil, List.length_cons, List.length_nil] at this
    simp only at hb
    rw [this] at hb; simp at hb
  refine sidx_ld len_api_Act hsv (by decide) (j := 0) rfl ?_
  refine ifb_i (fun hb => by simp at hb) (fun _ => ?_)
  refine sidx_ld len_api_Act hsv (by decide) (j := 0) rfl ?_
  have hvr : c.x.valid.round = -1 := by rw [fx]
  unfold law19_alive.j1
  refine ifb_i (fun hb => by simp only [hvr] at hb; simp at hb) (fun _ => ?_)
  -- the plan
  generalize hcc : clrC { rdC c 0 with acts := a, KA := KA, x := { (rdC c 0).x with out := out } } = c2 at hs3
  have hc2 : Cok c2 := by rw [← hcc]; exact hc1.clr
  have g : c2.p = c.p ∧ c2.ms = [m1] ∧ c2.x.me = 1 ∧ c2.ht = 1 ∧ c2.rd = 0 ∧ c2.vts = [] ∧ c2.pl = [] ∧ c2.bl = [] ∧ c2.x.step = 1 ∧ c2.x.decided = false ∧ c2.x.locked.round = -1 ∧ c2.acts = [] := by
    rw [← hcc]; exact ⟨rfl, f9, hme, f1, rfl, f3, f4, f5, rfl, hd, by show c.x.locked.round = -1; rw [fx], rfl⟩
  obtain ⟨g0, g1, g2, g3, g4, g5, g6, g7, g8, g9, g10, g11⟩ := g
  have gmem : ∀ c3 : CS, c3.ms = [m1] → c3.x.me = 1 → isMem c3 = true := by intro c3 e1 e2; unfold isMem; rw [e1, e2]; rfl
  have gquo : ∀ c3 : CS, c3.ms = [m1] → quoN c3.ms.length = 1 := by intro c3 e1; rw [e1]; rfl
  refine hs3.box_ (fun b h4 hs4 _ _ => ?_)
  refine hs4.st_ 0 rfl len_api_Block (fun h5 hs5 _ => ?_)
  refine hs5.ld_ 0 rfl ?_
  have hs6 : Sat h [] h5 (core c2 ++ [cel 75 b (enc blk1)]) := hs5.sel 12 [1, 2, 3, 4, 5, 6, 7, 8, 0] (by decide) (by decide)
  clear hs1 hs2 hs3 hs4 hs5
  have hcp : (some c.p : Pt) = some c2.p := by rw [g0]
  rw [hcp]
  have hmu2 := mu_ub hc2
  refine Plan_spec c2 plan1 [] hT (by simp) hc2 (by decide) (by decide) (by rw [g11]; decide) hs6 ⟨rfl, fun hne => absurd rfl hne⟩ (fun h6 hx _ => ?_) (fun r2 c3 h6 _ _ hmv hs7 => ?_)
  · rcases hx with hx | hx
    · rw [g9] at hx; cases hx
    · rw [g3] at hx; exact absurd rfl hx
  have hnone : mfind c2.pl plan1.Round = none := by rw [g6]; rfl
  have hid2 : idAt c2 c2.ht plan1.Round = plan1.From := by
    unfold idAt; rw [g1]
    have : ((c2.ht + plan1.Round) % ([m1] : List api_Member).length).toNat = 0 := by simp [Int.emod_one]
    rw [this]; rfl
  have hpc : planC c2 plan1 [] r2 = { c2 with K := c2.K ++ [(r2, [])], bl := mins c2.bl (digB blk1 []) ({ blk1 with Requests := r2 }, []), pl := mins c2.pl 0 (plan1r r2, []) } := by
    unfold planC; rw [if_pos ⟨hnone, hid2⟩]; rfl
  have hc4 := hc2.plan plan1 [] r2 (by decide)
  rw [hpc] at hmv hc4
  generalize hc4d : ({ c2 with K := c2.K ++ [(r2, [])], bl := mins c2.bl (digB blk1 []) ({ blk1 with Requests := r2 }, []), pl := mins c2.pl 0 (plan1r r2, []) } : CS) = c4 at hmv hc4
  have q : c4.ms = [m1] ∧ c4.x = c2.x ∧ c4.ht = 1 ∧ c4.rd = 0 ∧ c4.vts = [] ∧ c4.acts = [] ∧ c4.p = c2.p ∧ mfind c4.pl 0 = some (plan1r r2, []) ∧ mfind c4.bl (digB blk1 []) = some ({ blk1 with Requests := r2 }, []) := by
    rw [← hc4d]
    refine ⟨g1, rfl, g3, g4, g5, g11, rfl, ?_, ?_⟩
    · show mfind (mins c2.pl 0 _) 0 = _; rw [mfind_mins, if_pos rfl]
    · show mfind (mins c2.bl (digB blk1 []) _) (digB blk1 []) = _; rw [mfind_mins, if_pos rfl]
  obtain ⟨q1, q2, q3, q4, q5, q6, q7, q8, q9⟩ := q
  have hpf : planF c4 (plan1r r2) [] = ⟨digB blk1 [], true⟩ := planF_free (show (-1 : Int) < 0 by decide) (by rw [q2, g10]; decide)
  obtain ⟨r3, o3, rfl⟩ := mvs_plan hmv (by rw [q4]; decide) q5 (by rw [q2]; exact g8) (by rw [q4]; exact q8) (by rw [hpf])
  rw [hpf] at hs7 ⊢
  have hmem4 : isMem c4 = true := gmem c4 q1 (by rw [q2]; exact g2)
  obtain ⟨a5, KA5, out5, he5, ha5⟩ := votesC_eq c4 1 (digB blk1 []) r3 o3
  have hc5 : Cok (votesC c4 1 (digB blk1 []) r3 o3) := (hc4.votes (by rw [q6]; decide) (by decide) _ r3 o3).1
  rw [q6, hmem4] at ha5
  simp only [List.nil_append, if_true] at ha5
  rw [he5] at hs7 hc5 ⊢
  have hsv5 := outSV hs7
  simp only at hsv5
  rw [ha5] at hsv5
  have hs8 : Sat h [] h6 (core (clrC { stpC c4 1 with acts := a5, KA := KA5, x := { (stpC c4 1).x with out := out5 } }) ++ [cel 75 b (enc blk1)]) := hs7.sel 10 [0, 1, 2, 3, 4, 5, 6, 7] (by decide) (by decide)
  generalize hc6 : clrC { stpC c4 1 with acts := a5, KA := KA5, x := { (stpC c4 1).x with out := out5 } } = c6 at hs8
  have hc6k : Cok c6 := by rw [← hc6]; exact hc5.clr
  have u : c6.ms = [m1] ∧ c6.x.me = 1 ∧ c6.ht = 1 ∧ c6.rd = 0 ∧ c6.vts = [] ∧ c6.x.step = 2 ∧ c6.x.decided = false ∧ c6.acts = [] ∧ c6.p = c2.p ∧ mfind c6.pl 0 = some (plan1r r2, []) ∧ mfind c6.bl (digB blk1 []) = some ({ blk1 with Requests := r2 }, []) := by
    rw [← hc6]; exact ⟨q1, by show c4.x.me = 1; rw [q2]; exact g2, q3, q4, q5, rfl, by show c4.x.decided = false; rw [q2]; exact g9, rfl, q7, q8, q9⟩
  obtain ⟨u1, u2, u3, u4, u5, u6, u7, u8, u9, u10, u11⟩ := u
  refine ifb_i (fun hb => ?_) (fun _ => ?_)
  · have := hsv5.2.1
    simp only [List.map_cons, List.map_nil, List.length_cons, List.length_nil] at this
    simp only at hb
    rw [this] at hb; simp at hb
  refine sidx_ld len_api_Act hsv5 (by decide) (j := 0) rfl ?_
  refine ifb_i (fun hb => by simp at hb) (fun _ => ?_)
  obtain ⟨aa, haa, hat, hlt⟩ := hsv5.elem len_api_Act (j := 0) (by decide) rfl
  refine ⟨_, ⟨⟨aa, haa, rfl⟩, by decide, hlt⟩, ld_old hat ?_⟩
  refine hs8.ld_ 8 rfl ?_
  refine BDig_spec _ [] (hT.fr hs8.fr (by simp)) ⟨rfl, fun hne => absurd rfl hne⟩ (by decide) (fun h7 hx7 => ?_)
  refine ⟨⟨_, hat.ext hx7, rfl⟩, ?_⟩
  have hs9 := hs8.ext hx7
  unfold law19_alive.j2
  refine ifb_i (fun hb => by simp at hb) (fun _ => ?_)
  -- the first vote
  refine hs9.ld_ 8 rfl ?_
  refine BDig_spec _ [] (hT.fr hs9.fr (by simp)) ⟨rfl, fun hne => absurd rfl hne⟩ (by decide) (fun h8 hx8 => ?_)
  have hs10 := hs9.ext hx8
  have hcp2 : (some c2.p : Pt) = some c6.p := by rw [u9]
  rw [hcp2]
  have hmu6 := mu_ub hc6k
  refine Vote_spec c6 (vote1 1) hT (by simp) hc6k (by decide) (by rw [u5]; decide) (by rw [u8]; simp; omega) hs10 (fun h9 hx _ => ?_) (fun c7 h9 _ _ hmv hs11 => ?_)
  · rcases hx with hx | hx
    · rw [u7] at hx; cases hx
    · rw [u3] at hx; exact absurd rfl hx
  have hvc : voteC c6 (vote1 1) = { c6 with vts := [(⟨1, 0, 1⟩, vote1 1)] } := by
    rw [voteC_new (by rw [u5]; rfl), u5]; rfl
  have hc8k := hc6k.vote (v := vote1 1) (by decide) (by rw [u5]; decide)
  rw [hvc] at hmv hc8k
  generalize hc8 : ({ c6 with vts := [(⟨1, 0, 1⟩, vote1 1)] } : CS) = c8 at hmv hc8k
  have w : c8.ms = [m1] ∧ c8.x = c6.x ∧ c8.ht = 1 ∧ c8.rd = 0 ∧ c8.vts = [(⟨1, 0, 1⟩, vote1 1)] ∧ c8.acts = [] ∧ c8.p = c6.p ∧ c8.pl = c6.pl ∧ c8.bl = c6.bl := by rw [← hc8]; exact ⟨u1, rfl, u3, u4, rfl, u8, rfl, rfl, rfl⟩
  obtain ⟨w1, w2, w3, w4, w5, w6, w7, w8, w9⟩ := w
  have hD : digB (plan1r r2).Block [] = digB blk1 [] := rfl
  obtain ⟨r9, o9, rfl⟩ := mvs_lock hmv (by rw [w4]; decide) (by rw [w5]; intro q hq; simp only [List.mem_singleton] at hq; subst hq; rfl) (by rw [w5, w4]; intro q hq; simp only [List.mem_singleton] at hq; subst hq; exact Int.le_refl _) (by rw [w2]; exact u6) (by rw [w4, w8]; exact u10) (by
    rw [hD, w4]
    unfold firstB
    rw [gquo c8 w1]
    have hm := mem_forF (l := c8.vts) (kind := 1) (rd := 0) (d := digB blk1 []) (i := 0) (v := vote1 1) (by decide) (by rw [w5]; rfl) rfl
    have := List.length_pos_of_mem hm
    exact decide_eq_true (by omega))
  rw [hD] at hs11 ⊢
  obtain ⟨a9, KA9, out9, he9, ha9⟩ := votesC_eq (lockC c8 (plan1r r2).Block []) 2 (digB blk1 []) r9 o9
  have hcv8 : Cov c8.K (plan1r r2).Block [] := hc8k.pc (0, (plan1r r2, [])) (mfind_mem (by rw [w8]; exact u10))
  have hc8l : Cok (lockC c8 (plan1r r2).Block []) := { hc8k with lk := hcv8, vl := hcv8 }
  have hc9 := (hc8l.votes (kind := 2) (by show c8.acts.length + 1 < _; rw [w6]; decide) (by decide) (digB blk1 []) r9 o9).1
  have hmem8 : isMem (lockC c8 (plan1r r2).Block []) = true := gmem _ w1 (by show c8.x.me = 1; rw [w2]; exact u2)
  have hac8 : (lockC c8 (plan1r r2).Block []).acts = [] := w6
  rw [hac8, hmem8] at ha9
  simp only [List.nil_append, if_true] at ha9
  rw [he9] at hs11 hc9 ⊢
  have hsv9 := outSV hs11
  simp only at hsv9
  rw [ha9] at hsv9
  have hs12 : Sat h [] h9 (core (clrC { stpC (lockC c8 (plan1r r2).Block []) 2 with acts := a9, KA := KA9, x := { (stpC (lockC c8 (plan1r r2).Block []) 2).x with out := out9 } }) ++ [cel 75 b (enc blk1)]) := hs11.sel 10 [0, 1, 2, 3, 4, 5, 6, 7] (by decide) (by decide)
  generalize hc10 : clrC { stpC (lockC c8 (plan1r r2).Block []) 2 with acts := a9, KA := KA9, x := { (stpC (lockC c8 (plan1r r2).Block []) 2).x with out := out9 } } = c10 at hs12
  have hc10k : Cok c10 := by rw [← hc10]; exact hc9.clr
  have y : c10.ms = [m1] ∧ c10.ht = 1 ∧ c10.vts = [(⟨1, 0, 1⟩, vote1 1)] ∧ c10.x.decided = false ∧ c10.acts = [] ∧ c10.p = c6.p ∧ c10.bl = c6.bl := by
    rw [← hc10]; exact ⟨w1, w3, w5, by show c8.x.decided = false; rw [w2]; exact u7, rfl, w7, w9⟩
  obtain ⟨y1, y2, y3, y4, y5, y6, y7⟩ := y
  refine ifb_i (fun hb => ?_) (fun _ => ?_)
  · have := hsv9.2.1
    simp only [List.map_cons, List.map_nil, List.length_cons, List.length_nil] at this
    simp only at hb
    rw [this] at hb; simp at hb
  refine sidx_ld len_api_Act hsv9 (by decide) (j := 0) rfl ?_
  unfold law19_alive.j3
  refine ifb_i (fun hb => by simp at hb) (fun _ => ?_)
  -- the second vote
  refine hs12.ld_ 8 rfl ?_
  refine BDig_spec _ [] (hT.fr hs12.fr (by simp)) ⟨rfl, fun hne => absurd rfl hne⟩ (by decide) (fun h10 hx10 => ?_)
  have hs13 := hs12.ext hx10
  have hcp3 : (some c6.p : Pt) = some c10.p := by rw [y6]
  rw [hcp3]
  have hmu10 := mu_ub hc10k
  refine Vote_spec c10 (vote1 2) hT (by simp) hc10k (by decide) (by rw [y3]; decide) (by rw [y5]; simp; omega) hs13 (fun h11 hx _ => ?_) (fun c11 h11 _ _ hmv hs14 => ?_)
  · rcases hx with hx | hx
    · rw [y4] at hx; cases hx
    · rw [y2] at hx; exact absurd rfl hx
  have hvc2 : voteC c10 (vote1 2) = { c10 with vts := [(⟨1, 0, 1⟩, vote1 1), (⟨2, 0, 1⟩, vote1 2)] } := by
    rw [voteC_new (by rw [y3]; rfl), y3]; rfl
  rw [hvc2] at hmv
  obtain ⟨r11, rr11, o11, rfl⟩ := mvs_dec hmv (D := digB blk1 []) (r0 := 0) (by
      show quoN c10.ms.length ≤ _
      rw [gquo c10 y1]
      unfold cntF
      have : (⟨2, 0, 1⟩, vote1 2) ∈ ([(⟨1, 0, 1⟩, vote1 1), (⟨2, 0, 1⟩, vote1 2)] : Vts).filter fun q => decide (q.1.kind = 2) && !decide (q.2.Digest = dz) && decide (chq q = ⟨0, digB blk1 []⟩) := by
        rw [List.mem_filter]
        refine ⟨by simp, ?_⟩
        have e1 : decide ((vote1 2).Digest = dz) = false := decide_eq_false dig_ne
        have e2 : decide (chq (⟨2, 0, 1⟩, vote1 2) = ⟨0, digB blk1 []⟩) = true := decide_eq_true rfl
        show (decide ((2 : Int) = 2) && !decide ((vote1 2).Digest = dz) && decide (chq (⟨2, 0, 1⟩, vote1 2) = ⟨0, digB blk1 []⟩)) = true
        rw [e1, e2]; rfl
      exact List.length_pos_of_mem this) (by
      intro q hq _
      simp only [List.mem_cons, List.not_mem_nil, or_false] at hq
      rcases hq with rfl | rfl <;> rfl) (by show mfind c10.bl _ = _; rw [y7]; exact u11)
  have hsv11 := outSV hs14
  have hac : (sayC (decC { c10 with vts := [(⟨1, 0, 1⟩, vote1 1), (⟨2, 0, 1⟩, vote1 2)] }) { api_Act.zero with Act := 3, Round := r11, Digest := digB blk1 [], Block := { blk1 with Requests := r2 } } [] rr11 o11).acts = [({ api_Act.zero with Act := 3, Round := r11, Digest := digB blk1 [], Block := { blk1 with Requests := rr11 } }, [])] := by
    show c10.acts ++ _ = _; rw [y5]; rfl
  rw [hac] at hsv11
  refine ifb_i (fun _ => ?_) (fun hb => ?_)
  · refine sidx_ld len_api_Act hsv11 (by decide) (j := 0) rfl ?_
    unfold law19_alive.j4
    exact hk h11 hs14.fr
  · have := hsv11.2.1
    simp only [List.map_cons, List.map_nil, List.length_cons, List.length_nil] at this
    rw [this] at hb; simp at hb
end Go.Proofs.YtimmoekliphobaaDoor

/-
  THE CARD OF wapentakelaw19.RoundOnce: for every input that the row lets in, RoundOnce returns true and its arguments read as they did. Part 12 of 14. No condition stands ahead of the statement. Parts of this text were printed by a program of ours.
-/
import Derived.Test.YtimmoekliphobaaDoorO11
set_option linter.all false
namespace Go.Proofs.YtimmoekliphobaaDoor
open Go Go.Sh
open Go.Sh.Ty (reg)
set_option linter.unusedVariables false
set_option maxRecDepth 100000
set_option maxHeartbeats 1000000

structure OnceI (c0 : CS) (ht : Int) (c : CS) (saids : List api_Act) (d : Nat) (rl : Int) (i : Nat) : Prop where
  ok : Cok c
  p : c.p = c0.p
  ht : c.ht = ht
  acts : c.acts = []
  q : QQ saids c
  v : ∀ a ∈ saids, a.Act = 2
  d : d ≤ (if c.x.decided = true then 1 else 0)
  rl : 0 ≤ rl ∧ rl ≤ c.rd
  vts : c.vts.length ≤ i
  len : saids.length ≤ i * 2 ^ 20
theorem Mvs.p_eq' {c c' : CS} (h : Mvs c c') : c'.p = c.p := by
  have step : ∀ {c c' : CS} {b : Bool}, MV c c' b → c'.p = c.p := by
    intro c c' b h
    cases h <;> first | rfl | (unfold enterC; split <;> rfl) | (unfold votesC; split <;> rfl)
  induction h with
  | last h => exact step h
  | more h _ ih => exact ih.trans (step h)
theorem Mvs.vts_eq {c c' : CS} (h : Mvs c c') : c'.vts = c.vts ∧ c'.ht = c.ht := by
  have step : ∀ {c c' : CS} {b : Bool}, MV c c' b → c'.vts = c.vts ∧ c'.ht = c.ht := by
    intro c c' b h
    cases h <;> first | exact ⟨rfl, rfl⟩ | (unfold enterC; split <;> exact ⟨rfl, rfl⟩) | (unfold votesC; split <;> exact ⟨rfl, rfl⟩)
  induction h with
  | last h => exact step h
  | more h _ ih => exact ⟨ih.1.trans (step h).1, ih.2.trans (step h).2⟩
theorem enterC_v (c : CS) (rd : Int) (r o : Sl) : (enterC c rd r o).vts = c.vts ∧ (enterC c rd r o).ht = c.ht := by unfold enterC; split <;> exact ⟨rfl, rfl⟩
theorem votesC_v (c : CS) (kd : Int) (d : Dig) (r o : Sl) : (votesC c kd d r o).vts = c.vts ∧ (votesC c kd d r o).ht = c.ht ∧ (votesC c kd d r o).p = c.p := by unfold votesC; split <;> exact ⟨rfl, rfl, rfl⟩
theorem tick_v {c c4 : CS} {n : Int} (h : TickR c n c4) : c4.vts = c.vts ∧ c4.ht = c.ht ∧ c4.p = c.p := by
  obtain ⟨r1, o1, r2, o2, r3, o3, c2, c3, e2, e3, e4⟩ := h
  have h2 : c2.vts = c.vts ∧ c2.ht = c.ht ∧ c2.p = c.p := by rw [e2]; split; exact votesC_v (tickC c n) _ _ _ _; exact ⟨rfl, rfl, rfl⟩
  have h3 : c3.vts = c.vts ∧ c3.ht = c.ht ∧ c3.p = c.p := by
    rw [e3]; split
    · have := votesC_v c2 2 dz r2 o2; exact ⟨this.1.trans h2.1, this.2.1.trans h2.2.1, this.2.2.trans h2.2.2⟩
    · exact h2
  rw [e4]; split
  · have := enterC_v c3 (c3.rd + 1) r3 o3; exact ⟨this.1.trans h3.1, this.2.trans h3.2.1, (enterC_p _ _ _ _).trans h3.2.2⟩
  · exact h3
theorem tick_ok {c c4 : CS} {n : Int} (h : TickR c n c4) (hc : Cok c) (ha : c.acts = []) : Cok c4 ∧ c4.acts.length ≤ 3 := by
  obtain ⟨r1, o1, r2, o2, r3, o3, c2, c3, e2, e3, e4⟩ := h
  have k1 : Cok (tickC c n) := { hc with }
  have k2 : Cok c2 ∧ c2.acts.length ≤ 1 := by
    rw [e2]; split
    · have := k1.votes (kind := 1) (by show c.acts.length + 1 < _; rw [ha]; decide) (by decide) dz r1 o1
      have h2 : (votesC (tickC c n) 1 dz r1 o1).acts.length ≤ c.acts.length + 1 := this.2.1
      rw [ha] at h2
      exact ⟨this.1, h2⟩
    · exact ⟨k1, by show c.acts.length ≤ 1; rw [ha]; decide⟩
  have k3 : Cok c3 ∧ c3.acts.length ≤ 2 := by
    rw [e3]; split
    · have := k2.1.votes (kind := 2) (by have := k2.2; omega) (by decide) dz r2 o2
      exact ⟨this.1, by have := k2.2; omega⟩
    · exact ⟨k2.1, by have := k2.2; omega⟩
  rw [e4]; split
  · have := k3.1.enter (rd := c3.rd + 1) (by have := k3.2; omega) (by have := k3.1.plc.2; omega) r3 o3
    exact ⟨this.1, by have := k3.2; omega⟩
  · exact ⟨k3.1, by have := k3.2; omega⟩
theorem tick_idle {c c4 : CS} {n : Int} (h : TickR c n c4) (hf : c4.x.fresh = false) : c4 = tickC c n := by
  obtain ⟨r1, o1, r2, o2, r3, o3, c2, c3, e2, e3, e4⟩ := h
  have hv : ∀ (c : CS) (kd : Int) (d : Dig) (r o : Sl), (votesC c kd d r o).x.fresh = true := by intro c kd d r o; unfold votesC; split <;> rfl
  have he : ∀ (c : CS) (rd : Int) (r o : Sl), (enterC c rd r o).x.fresh = true := by intro c rd r o; unfold enterC; split <;> rfl
  rw [e4] at hf ⊢
  split at hf
  · rw [he] at hf; cases hf
  · rename_i h4
    rw [if_neg h4, e3]
    rw [e3] at hf
    split at hf
    · rw [hv] at hf; cases hf
    · rename_i h3
      rw [if_neg h3, e2]
      rw [e2] at hf
      split at hf
      · rw [hv] at hf; cases hf
      · rename_i h2
        rw [if_neg h2]
theorem planC_v (c : CS) (pl : api_Plan) (qs : List api_Request) (r : Sl) : (planC c pl qs r).vts = c.vts ∧ (planC c pl qs r).ht = c.ht ∧ (planC c pl qs r).p = c.p ∧ (planC c pl qs r).acts = c.acts ∧ (planC c pl qs r).rd = c.rd ∧ (planC c pl qs r).x = c.x := by unfold planC; split <;> exact ⟨rfl, rfl, rfl, rfl, rfl, rfl⟩
theorem voteC_v (c : CS) (v : api_Vote) : (voteC c v).vts.length ≤ c.vts.length + 1 ∧ (voteC c v).ht = c.ht ∧ (voteC c v).p = c.p ∧ (voteC c v).acts = c.acts ∧ (voteC c v).rd = c.rd ∧ (voteC c v).x = c.x := by
  unfold voteC; split
  · exact ⟨mins_len _ _ _, rfl, rfl, rfl, rfl, rfl⟩
  · exact ⟨Nat.le_succ _, rfl, rfl, rfl, rfl, rfl⟩
theorem RoundOnce_spec (cfg : api_Config) (ms : List api_Member) (me ht base : Int) (s : Sl) (l : List law19_Call) {k : Bool → H → Prop} {h : H} (hT : Tb h) (hht : I64 ht) (hvm : SVz 34 h cfg.Members ms) (hv : SVz 151 h s l) (hd : ∀ x ∈ l, ∃ qs : List api_Request, SVz 42 h x.P.Block.Requests qs)
    (hk : ∀ h', Ext h h' → k true h') : law19_RoundOnce.b cfg me ht base s k h := by
  unfold law19_RoundOnce.b
  refine (Sat.init h).box_ (fun c1 h1 hs1 _ _ => ?_)
  refine law19_alive.ok _ _ (alive19_spec (hT.fr hs1.fr (by simp)) (fun h2 hx2 => ?_))
  have hs2 := hs1.ext hx2
  refine ifb_i (fun e => by cases e) (fun _ => ?_)
  refine hs2.ld_ 0 rfl ?_
  refine Great19_spec cfg s l (fun x qs => SVz 42 h x.P.Block.Requests qs) (hv.ext hs2.fr) (fun x hx => ?_) (fun r h3 hx3 hr => ?_)
  · obtain ⟨qs, hq⟩ := hd x hx; exact ⟨qs, hq, hq.ext hs2.fr⟩
  have hs3 := hs2.ext hx3
  refine ifb_i (fun _ => hk h3 hs3.fr) (fun hb => ?_)
  obtain ⟨h60, hcalls⟩ := hr hb
  clear hr hd
  refine hs3.ld_ 0 rfl ?_
  refine New_spec19 cfg ms me ht base hht hs3 (hvm.ext hs3.fr) (fun h4 _ hs4 => ?_) (fun c0 mm h4 hg hF hs4 => ?_)
  · exact ifb_i (fun _ => hk h4 hs4.fr) (fun e => by cases e)
  have hp0 : Plc ht 0 := by
    rw [Bool.and_eq_true, decide_eq_true_eq] at hg
    exact ⟨hg.2, by omega⟩
  have hc0 : Cok c0 := hF.ok (by rw [Bool.and_eq_true] at hg; exact hg.1) hp0
  refine ifb_i (fun e => by cases e) (fun _ => ?_)
  refine At_spec _ _ ?_
  have hsl : s.len = l.length := hv.1
  rw [hsl]
  have hs5 : Sat h [] h4 (core c0 ++ (own 80 135 Sl.nil ([] : List api_Act) :: [cel 54 c1 (enc cfg)])) := (hs4.nilOwn (T := 80) (n := 135) (α := api_Act)).sel 9 [1, 2, 3, 4, 5, 6, 7, 8, 0] (by decide) (by decide)
  have hI0 : OnceI c0 ht c0 [] 0 0 0 := by
    obtain ⟨fx, f1, f2, f3, f4, f5, f6, f7, f8, f9, f10, f11⟩ := hF
    exact ⟨hc0, rfl, f1, f8, ⟨by unfold acts1; rw [f8]; exact .nil, by unfold acts1; rw [f8]; simp⟩, by simp, by simp, by rw [f2]; decide, by rw [f3]; simp, by simp⟩
  unfold law19_RoundOnce.l1
  refine ⟨fun (t : Sl × Int × Cx × Int) h' => ∃ (i : Nat) (c : CS) (saids : List api_Act) (d : Nat) (rl : Int), t.2.2.2 = i ∧ i ≤ l.length ∧ t.2.1 = (d : Int) ∧ t.2.2.1 = cxI ht rl ∧ OnceI c0 ht c saids d rl i ∧ Sat h [] h' (core c ++ (own 80 135 t.1 saids :: [cel 54 c1 (enc cfg)])), fun t _ => (l.length - t.2.2.2).toNat, ⟨0, c0, [], 0, 0, rfl, Nat.zero_le _, rfl, rfl, hI0, hs5⟩, ?_⟩
  clear hs1 hs2 hs3 hs4 hs5 hI0 hF
  rintro ⟨said, dd, ll, t⟩ h5 ⟨i, c, saids, d, rl, ht1, hi, hd1, hl1, hI, hs⟩
  simp only at ht1 hd1 hl1 hs
  subst ht1; subst hd1; subst hl1
  refine ifb_i (fun hc1 => ?_) (fun _ => hk h5 hs.fr)
  have hi' : i < l.length := by have : (i : Int) < (l.length : Int) := by simpa using hc1
                                omega
  have hgi : l[i]? = some l[i] := List.getElem?_eq_getElem hi'
  obtain ⟨hok, qs, hqs, hqn⟩ := hcalls _ (List.getElem_mem hi')
  refine sidx_ldz len_law19_Call (hv.ext hs.fr) (Int.natCast_nonneg _) (by rw [Int.toNat_natCast]; exact hgi) ?_
  generalize l[i] = x at *
  obtain ⟨k1, k2, k3, k4, k5, k6, k7, k8, k9, k10⟩ := hI
  refine hs.box_ (fun s1 h6 hs6 _ _ => ?_)
  refine hs6.st_ 0 rfl len_law19_Call (fun h7 hs7 _ => ?_)
  have hs8 : Sat h [] h7 (core c ++ (own 80 135 said saids :: cel 88 s1 (enc x) :: [cel 54 c1 (enc cfg)])) := hs7.sel 10 [1, 2, 3, 4, 5, 6, 7, 8, 9, 0] (by decide) (by decide)
  clear hs hs6 hs7
  have hcp : (some c0.p : Pt) = some c.p := by rw [k2]
  rw [hcp]
  -- what was done is looked at
  have fin : ∀ c2 out (acts : List api_Act) h', Cok c2 → c2.p = c.p → c2.ht = ht → c2.acts = [] → c.rd ≤ c2.rd → (saids ++ acts).Pairwise Ord → (∀ a ∈ saids ++ acts, Bel c2.rd c2.x.step a) → d + cnt3 acts ≤ (if c2.x.decided = true then 1 else 0) → acts.length < 2 ^ 20 → c2.vts.length ≤ i + 1 →
      Sat h [] h' (core c2 ++ (rdo 135 out acts :: own 80 135 said saids :: cel 88 s1 (enc x) :: [cel 54 c1 (enc cfg)])) → law19_RoundOnce.j3 (law19_RoundOnce.j2 (fun s' h' => (∃ (i : Nat) (c : CS) (saids : List api_Act) (d : Nat) (rl : Int), s'.2.2.2 = i ∧ i ≤ l.length ∧ s'.2.1 = (d : Int) ∧ s'.2.2.1 = cxI ht rl ∧ OnceI c0 ht c saids d rl i ∧ Sat h [] h' (core c ++ (own 80 135 s'.1 saids :: [cel 54 c1 (enc cfg)]))) ∧ (l.length - s'.2.2.2).toNat < ((l.length : Int) - (i : Int)).toNat)) k (some c.p) said (d : Int) (cxI ht rl) out s (l.length : Int) (i : Int) h' := by
    intro c2 out acts h' a1 a2 a3 a4 a5 a6 a7 a8 a9 a10 hs9
    rw [← a2, ← a3]
    have h1d : d + cnt3 acts ≤ 1 := by split at a8 <;> omega
    have hsz : saids.length < 2 ^ 27 := by have : i * 2 ^ 20 ≤ 60 * 2 ^ 20 := Nat.mul_le_mul_right _ (by omega)
                                           omega
    refine once_j3 c2 said saids d rl out acts s (l.length : Int) (i : Int) a1 hs9 a6 k6 h1d ⟨k8.1, Int.le_trans k8.2 a5⟩ hsz a9 (fun said' h'' hs10 => ?_)
    have ei : iadd (i : Int) 1 = ((i + 1 : Nat) : Int) := by rw [iadd_eq (by omega) (by omega)]; omega
    have hfl : (acts.filter isV).length ≤ acts.length := (List.filter_sublist).length_le
    refine ⟨⟨i + 1, c2, saids ++ acts.filter isV, d + cnt3 acts, c2.rd, ei, hi', rfl, rfl, ⟨a1, a2.trans k2, rfl, a4, ⟨?_, ?_⟩, ?_, a8, ⟨a1.plc.2.1, Int.le_refl _⟩, a10, ?_⟩, ?_⟩, ?_⟩
    · unfold acts1; rw [a4, List.map_nil, List.append_nil]
      exact a6.sublist ((List.Sublist.refl _).append List.filter_sublist)
    · unfold acts1; rw [a4, List.map_nil, List.append_nil]
      intro a ha
      refine a7 a ?_
      rcases List.mem_append.1 ha with ha | ha
      · exact List.mem_append_left _ ha
      · exact List.mem_append_right _ (List.mem_filter.1 ha).1
    · intro a ha
      rcases List.mem_append.1 ha with ha | ha
      · exact k6 a ha
      · have := (List.mem_filter.1 ha).2; unfold isV at this; simpa using this
    · rw [List.length_append, Nat.add_mul]; omega
    · exact hs10.sel 11 [0, 1, 2, 3, 4, 5, 6, 7, 8, 10] (by decide) (by decide)
    · show ((l.length : Int) - iadd (i : Int) 1).toNat < _; rw [ei]; omega
  have idle : ∀ h', Sat h [] h' (core c ++ (own 80 135 said saids :: cel 88 s1 (enc x) :: [cel 54 c1 (enc cfg)])) → law19_RoundOnce.j3 (law19_RoundOnce.j2 (fun s' h' => (∃ (i : Nat) (c : CS) (saids : List api_Act) (d : Nat) (rl : Int), s'.2.2.2 = i ∧ i ≤ l.length ∧ s'.2.1 = (d : Int) ∧ s'.2.2.1 = cxI ht rl ∧ OnceI c0 ht c saids d rl i ∧ Sat h [] h' (core c ++ (own 80 135 s'.1 saids :: [cel 54 c1 (enc cfg)]))) ∧ (l.length - s'.2.2.2).toNat < ((l.length : Int) - (i : Int)).toNat)) k (some c.p) said (d : Int) (cxI ht rl) Sl.nil s (l.length : Int) (i : Int) h' := by
    intro h' hs9
    have hs10 := (hs9.add0 (e := rdo 135 Sl.nil ([] : List api_Act)) SV.nil (rdo_loc _ _ _) rfl).sel 11 [1, 2, 3, 4, 5, 6, 7, 8, 0, 9, 10] (by decide) (by decide)
    have hq := k5
    refine fin c Sl.nil [] h' k1 rfl k3 k4 (Int.le_refl _) ?_ ?_ (by simpa [cnt3] using k7) (by decide) (by omega) hs10
    · have := hq.asc; unfold acts1 at this; rw [k4] at this; exact this
    · have := hq.bel; unfold acts1 at this; rw [k4] at this; exact this
  -- a call that did something
  have did : ∀ c3 c' h', Cok c3 → c3.p = c.p → c3.ht = ht → c3.x.decided = false → c.x.decided = false → QQ saids c3 → c.rd ≤ c3.rd → cnt3 (acts1 c3) = 0 → c3.acts.length ≤ 10 → c3.vts.length ≤ i + 1 → Mvs c3 c' →
      Sat h [] h' (core (clrC c') ++ (hand c' ++ (own 80 135 said saids :: cel 88 s1 (enc x) :: [cel 54 c1 (enc cfg)]))) → law19_RoundOnce.j3 (law19_RoundOnce.j2 (fun s' h' => (∃ (i : Nat) (c : CS) (saids : List api_Act) (d : Nat) (rl : Int), s'.2.2.2 = i ∧ i ≤ l.length ∧ s'.2.1 = (d : Int) ∧ s'.2.2.1 = cxI ht rl ∧ OnceI c0 ht c saids d rl i ∧ Sat h [] h' (core c ++ (own 80 135 s'.1 saids :: [cel 54 c1 (enc cfg)]))) ∧ (l.length - s'.2.2.2).toNat < ((l.length : Int) - (i : Int)).toNat)) k (some c.p) said (d : Int) (cxI ht rl) c'.x.out s (l.length : Int) (i : Int) h' := by
    intro c3 c' h' b1 b2 b3 b4 b5 b6 b7 b8 b9 b10 hmv hs9
    have hmu := mu_ub b1
    have hn : c3.acts.length + mu c3 + 2 < 2 ^ 19 := by omega
    have hok' := hmv.ok b1 b4 hn
    obtain ⟨q1, q2, q3⟩ := QQ.mvs hmv b6 b1 b4 hn
    have hvv := hmv.vts_eq
    have hd0 : d = 0 := by rw [b5] at k7; simpa using k7
    have hs10 : Sat h [] h' (core (clrC c') ++ (rdo 135 c'.x.out (acts1 c') :: own 80 135 said saids :: cel 88 s1 (enc x) :: [cel 54 c1 (enc cfg)])) := (own_rdo 8 hs9 rfl len_api_Act).sel 12 [0, 1, 2, 3, 4, 5, 6, 7, 8, 10, 11] (by decide) (by decide)
    refine fin (clrC c') c'.x.out (acts1 c') h' hok'.clr (hmv.p_eq'.trans b2) (hvv.2.trans b3) rfl (Int.le_trans b7 q2) q1.asc q1.bel ?_ ?_ (by show c'.vts.length ≤ _; rw [hvv.1]; exact b10) hs10
    · show d + cnt3 (acts1 c') ≤ (if c'.x.decided = true then 1 else 0)
      rcases q3 with ⟨e1, e2⟩ | ⟨e1, e2⟩
      · rw [e1, e2, b8, hd0]; decide
      · rw [e1, e2, b8, hd0]; decide
    · have := hok'.na
      unfold acts1; rw [List.length_map]; omega
  have hac1 : acts1 c = [] := by unfold acts1; rw [k4]; rfl
  have hmu := mu_ub k1
  refine hs8.ld_ 9 rfl ?_
  refine ifb_i (fun _ => ?_) (fun _ => ?_)
  · -- a start
    refine Start_spec c hT (by simp) k1 (by rw [k4]; simp; omega) hs8 (fun _ => idle h7 hs8) (fun c3 c' h8 hd9 hst hmv hs9 => ?_)
    rcases hst with ⟨h0, r, o, rfl⟩ | ⟨h0, rfl⟩
    · obtain ⟨a1, a2, a3⟩ := k1.enter (rd := 0) (by rw [k4]; decide) (by decide) r o
      have hrd := k1.s0 h0
      obtain ⟨q1, q2, q3⟩ := k5.enter 0 r o (.inr ⟨hrd, by omega⟩)
      have hv' := enterC_v c 0 r o
      exact did _ c' h8 a1 (enterC_p _ _ _ _) (hv'.2.trans k3) (by rw [enterC_dec]; exact hd9) hd9 q1 (by rw [q3]; omega) (by rw [q2, hac1]; rfl) (by rw [k4] at a2; simp at a2; omega) (by rw [hv'.1]; omega) hmv hs9
    · exact did c3 c' h8 k1 rfl k3 hd9 hd9 k5 (Int.le_refl _) (by rw [hac1]; rfl) (by rw [k4]; simp) (by omega) hmv hs9
  · refine ifb_i (fun _ => ?_) (fun _ => ?_)
    · -- a plan
      refine hs8.ld_ 9 rfl ?_
      refine Plan_spec c x.P qs hT (by simp) k1 hok.2 hqn (by rw [k4]; decide) hs8 (hqs.ext hs8.fr) (fun h8 _ hs9 => idle h8 hs9) (fun r c' h8 hd9 _ hmv hs9 => ?_)
      obtain ⟨p1, p2, p3, p4, p5, p6⟩ := planC_v c x.P qs r
      have hq := k5.same (c' := planC c x.P qs r) p4 p5 (by rw [p6])
      exact did _ c' h8 (k1.plan x.P qs r hqn) p3 (p2.trans k3) (by rw [p6]; exact hd9) hd9 hq (by rw [p5]; exact Int.le_refl _) (by unfold acts1; rw [p4, k4]; rfl) (by rw [p4, k4]; simp) (by rw [p1]; omega) hmv hs9
    · refine ifb_i (fun _ => ?_) (fun _ => ?_)
      · -- a vote
        refine hs8.ld_ 9 rfl ?_
        refine Vote_spec c x.V hT (by simp) k1 hok.1 (by omega) (by rw [k4]; simp; omega) hs8 (fun h8 _ hs9 => idle h8 hs9) (fun c' h8 hd9 _ hmv hs9 => ?_)
        obtain ⟨p1, p2, p3, p4, p5, p6⟩ := voteC_v c x.V
        have hq := k5.same (c' := voteC c x.V) p4 p5 (by rw [p6])
        exact did _ c' h8 (k1.vote hok.1 (by omega)) p3 (p2.trans k3) (by rw [p6]; exact hd9) hd9 hq (by rw [p5]; exact Int.le_refl _) (by unfold acts1; rw [p4, k4]; rfl) (by rw [p4, k4]; simp) (by omega) hmv hs9
      · refine ifb_i (fun _ => ?_) (fun _ => idle h7 hs8)
        -- time
        refine hs8.ld_ 9 rfl ?_
        refine Tick_spec c x.N hT (by simp) k1 (by rw [k4]; decide) hs8 (fun _ => idle h7 hs8) (fun c4 h8 hd9 _ _ hR hfr hs9 => ?_) (fun c4 c' h8 hd9 _ _ hR _ hmv hs9 => ?_)
        · have e4 := tick_idle hR hfr
          subst e4
          have hc4 : Cok (tickC c x.N) := { k1 with }
          have hs10 := (hs9.add0 (e := rdo 135 Sl.nil ([] : List api_Act)) SV.nil (rdo_loc _ _ _) rfl).sel 11 [1, 2, 3, 4, 5, 6, 7, 8, 0, 9, 10] (by decide) (by decide)
          refine fin (tickC c x.N) Sl.nil [] h8 hc4 rfl k3 k4 (Int.le_refl _) ?_ ?_ (by show d + cnt3 [] ≤ (if c.x.decided = true then 1 else 0); simpa [cnt3] using k7) (by decide) (by show c.vts.length ≤ _; omega) hs10
          · have := k5.asc; unfold acts1 at this; rw [k4] at this; exact this
          · have := k5.bel; unfold acts1 at this; rw [k4] at this; exact this
        · obtain ⟨q1, q2, q3, q4⟩ := k5.tick hR
          obtain ⟨o1, o2⟩ := tick_ok hR k1 k4
          obtain ⟨v1, v2, v3⟩ := tick_v hR
          exact did c4 c' h8 o1 v3 (v2.trans k3) (q3.trans hd9) hd9 q1 q2 (by rw [q4, hac1]; rfl) (by omega) (by rw [v1]; omega) hmv hs9
end Go.Proofs.YtimmoekliphobaaDoor

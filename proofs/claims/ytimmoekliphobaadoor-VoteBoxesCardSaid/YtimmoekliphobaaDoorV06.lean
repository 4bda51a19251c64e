/-
  THE CARD OF wapentakelaw13.VoteBoxes: for every input that the row lets in, VoteBoxes returns true and its arguments read as they did. Part 6 of 6. No condition stands ahead of the statement. Parts of this text were printed by a program of ours.
-/
import Derived.Test.YtimmoekliphobaaDoorV05
set_option linter.all false
namespace Go.Proofs.YtimmoekliphobaaDoor
open Go Go.Sh
open Go.Sh.Ty (reg)
set_option linter.unusedVariables false

theorem Lv_mem {vs : List api_Vote} {q : vote_place × api_Vote} : q ∈ Lv vs ↔ ∃ v ∈ vs, q = (placeOf v, v) := by
  simp only [Lv, List.mem_map]
  exact ⟨fun ⟨v, h, e⟩ => ⟨v, h, e.symm⟩, fun ⟨v, h, e⟩ => ⟨v, h, e.symm⟩⟩
/-- lists without doubles that hold the same are of one length -/
theorem nodup_len {a b : List Int} (ha : a.Nodup) (hb : b.Nodup) (h : ∀ x, x ∈ a ↔ x ∈ b) : a.length = b.length := ((List.perm_ext_iff_of_nodup ha hb).2 h).length_eq
theorem voters_list (vs : List api_Vote) (round : Int) : ((((List.range 63).filter fun i : Nat => votesOf vs round ((i + 1 : Nat) : Int)).map fun i : Nat => ((i + 1 : Nat) : Int)).Nodup) := by
  have h1 : ((List.range 63).filter fun i : Nat => votesOf vs round ((i + 1 : Nat) : Int)).Nodup := List.filter_sublist.nodup List.nodup_range
  rw [List.Nodup, List.pairwise_map]
  exact h1.imp fun h e => h (by omega)
theorem voters_mem (vs : List api_Vote) (hv : OkV vs) (round x : Int) : x ∈ (((List.range 63).filter fun i : Nat => votesOf vs round ((i + 1 : Nat) : Int)).map fun i : Nat => ((i + 1 : Nat) : Int)) ↔ ∃ v ∈ vs, round ≤ v.Round ∧ v.From = x := by
  simp only [List.mem_map, List.mem_filter, List.mem_range, votesOf, List.any_eq_true, Bool.and_eq_true, beq_iff_eq, decide_eq_true_eq]
  constructor
  · rintro ⟨i, ⟨_, v, hm, h1, h2⟩, rfl⟩
    exact ⟨v, hm, h2, h1⟩
  · rintro ⟨v, hm, h1, rfl⟩
    have := hv.from_ v hm
    exact ⟨(v.From - 1).toNat, ⟨by omega, v, hm, by omega, h1⟩, by omega⟩
theorem voters_eq (vs : List api_Vote) (hv : OkV vs) (round : Int) (ks : List Int) (hn : ks.Nodup) (hk : ∀ x, x ∈ ks ↔ ∃ q ∈ Lv vs, round ≤ q.1.round ∧ q.1.from_ = x) : ks.length = votersR vs round 63 := by
  have := nodup_len hn (voters_list vs round) (fun x => by
    rw [hk, voters_mem vs hv]
    constructor
    · rintro ⟨q, hq, h1, h2⟩
      obtain ⟨v, hv', rfl⟩ := Lv_mem.1 hq
      exact ⟨v, hv', h1, h2⟩
    · rintro ⟨v, hv', h1, h2⟩
      exact ⟨_, Lv_mem.2 ⟨v, hv', rfl⟩, h1, h2⟩)
  rw [this]; simp [votersR]
/-- of a rising list: what lies at or above its place -/
theorem asc_count (r : Int) : ∀ (R : List Int), R.Pairwise (· ≤ ·) → ∀ (i : Nat) (hi : i < R.length), (r ≤ R[i] → R.length - i ≤ R.countP fun x => decide (r ≤ x)) ∧ (R[i] < r → R.countP (fun x => decide (r ≤ x)) ≤ R.length - (i + 1))
  | [], _, i, hi => by simp at hi
  | a :: R, h, 0, hi => by
    rw [List.pairwise_cons] at h
    simp only [List.getElem_cons_zero, List.length_cons, List.countP_cons, Nat.sub_zero]
    constructor
    · intro hr
      have : R.countP (fun x => decide (r ≤ x)) = R.length := by
        rw [List.countP_eq_length]
        intro x hx
        have := h.1 x hx
        simp; omega
      rw [this]; simp [hr]
    · intro hr
      have h1 : ¬ r ≤ a := by omega
      have := List.countP_le_length (l := R) (p := fun x => decide (r ≤ x))
      simp [h1]; exact this
  | a :: R, h, i + 1, hi => by
    rw [List.pairwise_cons] at h
    simp only [List.length_cons] at hi
    obtain ⟨h1, h2⟩ := asc_count r R h.2 i (by omega)
    simp only [List.getElem_cons_succ, List.length_cons, List.countP_cons]
    constructor
    · intro hr
      have := h1 hr
      omega
    · intro hr
      have := h2 hr
      have h3 : a ≤ R[i]'(by omega) := h.1 _ (List.getElem_mem _)
      have h4 : ¬ r ≤ a := by omega
      simp only [decide_eq_true_eq, h4, if_false]
      omega
theorem last_voters (vs : List api_Vote) (hv : OkV vs) (ks : List (Int × Int)) (hL : LastOf ks (Lv vs)) (r : Int) : votersR vs r 63 = (ks.map (·.2)).countP fun x => decide (r ≤ x) := by
  have hn : ((ks.filter fun p => decide (r ≤ p.2)).map (·.1)).Nodup := (List.filter_sublist.map _).nodup hL.nodup
  have := nodup_len (voters_list vs r) hn (fun x => by
    rw [voters_mem vs hv]
    simp only [List.mem_map, List.mem_filter, decide_eq_true_eq]
    constructor
    · rintro ⟨v, hm, h1, rfl⟩
      cases hf : mfind ks v.From with
      | none => exact absurd rfl ((hL.no _).1 hf _ (Lv_mem.2 ⟨v, hm, rfl⟩))
      | some y =>
        have h2 := (hL.yes _ _ hf).2 _ (Lv_mem.2 ⟨v, hm, rfl⟩) rfl
        have h3 : v.Round ≤ y := h2
        exact ⟨(v.From, y), ⟨mfind_mem hf, by simp only; omega⟩, rfl⟩
    · rintro ⟨⟨x, y⟩, ⟨hm, h1⟩, rfl⟩
      have hf := mfind_of_mem hL.nodup hm
      obtain ⟨⟨q, hq, h2, h3⟩, _⟩ := hL.yes _ _ hf
      obtain ⟨v, hv', rfl⟩ := Lv_mem.1 hq
      exact ⟨v, hv', by simp only at h1; rw [← h3] at h1; exact h1, h2⟩)
  simp only [List.length_map] at this
  rw [List.countP_map, List.countP_eq_length_filter]
  exact this
theorem reached_eq (vs : List api_Vote) (hv : OkV vs) (ks : List (Int × Int)) (hL : LastOf ks (Lv vs)) (n : Int) : reachedF ks n = reachR vs n := by
  have hs : ∀ b v, reachStep vs n b v = if (decide ((1 : Int) ≤ n) && decide (n ≤ (votersR vs v.Round 63 : Int))) = true ∧ b < v.Round then v.Round else b := by
    intro b v
    unfold reachStep
    by_cases h1 : 1 ≤ n <;> by_cases h2 : b < v.Round <;> by_cases h3 : n ≤ (votersR vs v.Round 63 : Int) <;> simp [h1, h2, h3]
  obtain ⟨m1, m2, m3⟩ := fold_max _ _ _ hs vs (-1)
  have hR : reachR vs n = vs.foldl (reachStep vs n) (-1) := rfl
  rw [← hR] at m1 m2 m3
  unfold reachedF
  by_cases hc : n < 1 ∨ (ks.length : Int) < n
  · rw [if_pos hc]
    rcases m2 with m2 | ⟨v, hm, hp, _⟩
    · exact m2.symm
    · exfalso
      simp only [Bool.and_eq_true, decide_eq_true_eq] at hp
      rw [last_voters vs hv ks hL] at hp
      have := List.countP_le_length (l := ks.map (·.2)) (p := fun x => decide (v.Round ≤ x))
      simp only [List.length_map] at this
      omega
  · rw [if_neg hc]
    have hperm := List.mergeSort_perm (ks.map (·.2)) (fun x y => decide (x ≤ y))
    have hsort : ((ks.map (·.2)).mergeSort fun x y => decide (x ≤ y)).Pairwise (· ≤ ·) := by
      have := List.pairwise_mergeSort (le := fun x y : Int => decide (x ≤ y)) (fun a b c h1 h2 => by simp only [decide_eq_true_eq] at h1 h2 ⊢; omega) (fun a b => by simp only [Bool.or_eq_true, decide_eq_true_eq]; omega) (ks.map (·.2))
      exact this.imp fun h => by simpa using h
    have hlen : ((ks.map (·.2)).mergeSort fun x y => decide (x ≤ y)).length = ks.length := by simp
    have hcnt : ∀ r : Int, (((ks.map (·.2)).mergeSort fun x y => decide (x ≤ y)).countP fun x => decide (r ≤ x)) = votersR vs r 63 := fun r => by rw [last_voters vs hv ks hL]; exact hperm.countP_eq _
    generalize hRR : ((ks.map (·.2)).mergeSort fun x y => decide (x ≤ y)) = R at *
    have hi : (ks.length - n).toNat < R.length := by omega
    have hg : R.getD (ks.length - n).toNat 0 = R[(ks.length - n).toNat] := by simp [hi]
    rw [hg]
    have hmem : R[(ks.length - n).toNat] ∈ ks.map (·.2) := hperm.mem_iff.1 (List.getElem_mem hi)
    simp only [List.mem_map] at hmem
    obtain ⟨⟨x, y⟩, hxy, hy⟩ := hmem
    simp only at hy
    obtain ⟨⟨q, hq, h2, h3⟩, _⟩ := hL.yes _ _ (mfind_of_mem hL.nodup hxy)
    obtain ⟨v, hv', rfl⟩ := Lv_mem.1 hq
    have h3' : v.Round = y := h3
    have h0 := hv.round v hv'
    apply Int.le_antisymm
    · rw [← hy, ← h3']
      refine m3 v hv' ?_
      simp only [Bool.and_eq_true, decide_eq_true_eq]
      refine ⟨by omega, ?_⟩
      rw [← hcnt]
      have := (asc_count v.Round R hsort _ hi).1 (by rw [← hy, h3']; exact Int.le_refl _)
      omega
    · rcases m2 with m2 | ⟨u, hu, hp, hr⟩
      · rw [m2, ← hy, ← h3']; omega
      · rw [← hr]
        simp only [Bool.and_eq_true, decide_eq_true_eq] at hp
        apply Int.not_lt.1
        intro hlt
        have := (asc_count u.Round R hsort _ hi).2 hlt
        rw [hcnt] at this
        omega
theorem dz_ne {d : Dig} : (!decide (d = dz)) = true ↔ d ≠ dz := by simp
theorem win_eq (vs : List api_Vote) (hv : OkV vs) (kind quorum : Int) (hq : 1 ≤ quorum) (cs : List (vote_choice × Int)) (hC : CountOf cs (Lv vs) kind) (best : Dig) (at_ : Int) (found : Bool) (hW : WinOf cs quorum best at_ found) :
    found = decide (0 ≤ winR vs kind quorum) ∧ (found = true → at_ = winR vs kind quorum ∧ best ≠ dz ∧ quorum ≤ ((refFor vs kind at_ best 63).length : Int) ∧ ∀ d : Dig, d ≠ dz → cmpL (digL d) (digL best) < 0 → ¬ quorum ≤ ((refFor vs kind at_ d 63).length : Int)) ∧ (found = false → at_ = 0 ∧ best = dz) := by
  have hs : ∀ b v, winStep vs kind quorum b v = if ((v.Kind == kind) && (!decide (v.Digest = dz)) && decide (quorum ≤ ((refFor vs kind v.Round v.Digest 63).length : Int))) = true ∧ b < v.Round then v.Round else b := by
    intro b v
    unfold winStep
    by_cases h1 : v.Kind = kind <;> by_cases h2 : b < v.Round <;> by_cases h3 : quorum ≤ ((refFor vs kind v.Round v.Digest 63).length : Int) <;> by_cases h4 : v.Digest = dz <;> simp [h1, h2, h3, h4]
  obtain ⟨m1, m2, m3⟩ := fold_max _ _ _ hs vs (-1)
  have hR : winR vs kind quorum = vs.foldl (winStep vs kind quorum) (-1) := rfl
  rw [← hR] at m1 m2 m3
  have mem : ∀ (r : Int) (d : Dig), d ≠ dz → quorum ≤ ((refFor vs kind r d 63).length : Int) → ((⟨r, d⟩ : vote_choice), ((refFor vs kind r d 63).length : Int)) ∈ cs := by
    intro r d hd hqq
    have h1 := hC.cnt ⟨r, d⟩
    rw [cnt_eq vs kind r d hd, ← refFor_count vs hv, if_neg (by omega)] at h1
    exact mfind_mem h1
  have back : ∀ (r : Int) (d : Dig) (n : Int), ((⟨r, d⟩ : vote_choice), n) ∈ cs → quorum ≤ n → d ≠ dz ∧ n = ((refFor vs kind r d 63).length : Int) ∧ ∃ v ∈ vs, v.Kind = kind ∧ v.Round = r ∧ v.Digest = d := by
    intro r d n hm hn
    have h1 := mfind_of_mem hC.nodup hm
    rw [hC.cnt] at h1
    by_cases h0 : cntF (Lv vs) kind ⟨r, d⟩ = 0
    · rw [if_pos h0] at h1; cases h1
    · rw [if_neg h0] at h1
      have h2 := Option.some.inj h1
      have h3 : ∃ q, q ∈ (Lv vs).filter fun q => decide (q.1.kind = kind) && !decide (q.2.Digest = dz) && decide (chq q = ⟨r, d⟩) := by
        unfold cntF at h0
        exact List.exists_mem_of_length_pos (by omega)
      obtain ⟨q, hq'⟩ := h3
      rw [List.mem_filter] at hq'
      obtain ⟨hq1, hq2⟩ := hq'
      obtain ⟨v, hv', rfl⟩ := Lv_mem.1 hq1
      simp only [Bool.and_eq_true, decide_eq_true_eq, Bool.not_eq_true', decide_eq_false_iff_not, chq, placeOf, vote_choice.mk.injEq] at hq2
      obtain ⟨⟨a1, a2⟩, a3, a4⟩ := hq2
      subst a4
      refine ⟨a2, ?_, v, hv', of_decide_eq_true a1, a3, rfl⟩
      rw [refFor_count vs hv, ← cnt_eq vs kind r v.Digest a2]; exact h2.symm
  rcases hW with ⟨w1, w2, w3, w4⟩ | ⟨w1, n, w2, w3, w4⟩
  · have hno : winR vs kind quorum = -1 := by
      rcases m2 with m2 | ⟨v, hm, hp, _⟩
      · exact m2
      · exfalso
        simp only [Bool.and_eq_true, decide_eq_true_eq, dz_ne] at hp
        exact w4 _ (mem v.Round v.Digest hp.1.2 hp.2) hp.2
    refine ⟨by rw [w1, hno]; rfl, fun h => (by rw [w1] at h; cases h), fun _ => ⟨w2, w3⟩⟩
  · obtain ⟨b1, b2, v, hv', b3, b4, b5⟩ := back at_ best n w2 w3
    subst b2
    have hat : at_ = winR vs kind quorum := by
      apply Int.le_antisymm
      · rw [← b4]
        refine m3 v hv' ?_
        simp only [Bool.and_eq_true, beq_iff_eq, decide_eq_true_eq, dz_ne]
        exact ⟨⟨b3, by rw [b5]; exact b1⟩, by rw [b4, b5]; exact w3⟩
      · rcases m2 with m2 | ⟨u, hu, hp, hr⟩
        · have := hv.round v hv'; omega
        · rw [← hr]
          simp only [Bool.and_eq_true, decide_eq_true_eq, dz_ne] at hp
          have := w4 _ (mem u.Round u.Digest hp.1.2 hp.2) hp.2
          simp only at this
          omega
    have h0 := hv.round v hv'
    refine ⟨by rw [w1]; symm; simp; omega, fun _ => ⟨hat, b1, w3, fun d hd hlt hqq => ?_⟩, fun h => (by rw [w1] at h; cases h)⟩
    rcases w4 _ (mem at_ d hd hqq) hqq with h1 | ⟨_, h2⟩
    · simp only at h1; omega
    · simp only at h2; omega
end Go.Proofs.YtimmoekliphobaaDoor
namespace Go.Proofs.YtimmoekliphobaaDoor
open Go Go.Sh
open Go.Sh.Ty (reg)
set_option linter.unusedVariables false
set_option maxRecDepth 100000
set_option maxHeartbeats 4000000
theorem law13_VoteBoxes.ok (list : Sl) (kind : Int) (round : Int) (d : Arr 32 UInt8) (quorum : Int) (k : Bool → H → Prop) (h : H) (hh : law13_VoteBoxes.b list kind round d quorum k h) : CallsH Prog 3 [reg list, reg kind, reg round, reg d, reg quorum].toArray h fun v h' => ∃ r : Bool, v = reg r ∧ k r h' := by
  unfold law13_VoteBoxes.b at hh
  refine CallsH.of 266 Tryd.func3 rfl Tryd.ntmps3 rfl (fun w0 => ?_)
  refine CW.seq ?_
  refine CW.region ?_
  refine box_elim hh (fun d_1 hd_1 hh => ?_)
  refine .e (e_boxP hd_1 rfl rfl rfl ?_)
  refine .val (v_assign (v := reg (false : Bool)) rfl) rfl ?_
  refine .nil ?_
  refine QN.then_ ?_
  refine CW.seq ?_
  refine CW.seq ?_
  refine CW.region ?_
  refine .e (e_callP fn_8 rfl rfl hh ?_)
  intro h t28 hh
  refine .val (v_not rfl) rfl ?_
  refine .nil ?_
  refine QN.then_ ?_
  refine CW.cond (!t28) rfl (fun hb => ?_) (fun hb => ?_)
  · have hh := hh.1 hb
    refine CW.seq ?_
    refine CW.region ?_
    refine .val (v_assign (v := reg (false : Bool)) rfl) rfl ?_
    refine .nil ?_
    refine QN.then_ ?_
    refine CW.ret ?_
    refine QN.thenRet ?_
    exact ret1 rfl rfl ⟨(false : Bool), rfl, hh⟩
  · have hh := hh.2 hb
    refine CW.skip ?_
    refine QN.then_ ?_
    refine CW.seq ?_
    refine CW.seq ?_
    refine CW.region ?_
    refine .val (v_move (v := reg (list : Sl)) rfl) rfl ?_
    refine .val (v_len_sl (sl_22).1 rfl) rfl ?_
    refine .val (v_igtr rfl rfl) rfl ?_
    refine .val (v_move (v := reg ((decide ((60 : Int) < (list.len : Int))) : Bool)) rfl) rfl ?_
    refine .fv 33 rfl rfl rfl (fun hb => v_move (v := reg (quorum : Int)) rfl) rfl ?_
    refine .fv 33 rfl rfl rfl (fun hb => v_ilss (gf hb) rfl) rfl ?_
    refine .val (v_pick_or rfl rfl (fun hb => gf hb)) rfl ?_
    refine .nil ?_
    refine QN.then_ ?_
    refine CW.cond ((decide ((60 : Int) < (list.len : Int))) || (decide (quorum < (1 : Int)))) rfl (fun hb_1 => ?_) (fun hb_1 => ?_)
    · have hh := hh.1 hb_1
      refine CW.seq ?_
      refine CW.region ?_
      refine .val (v_assign (v := reg (true : Bool)) rfl) rfl ?_
      refine .nil ?_
      refine QN.then_ ?_
      refine CW.ret ?_
      refine QN.thenRet ?_
      exact ret1 rfl rfl ⟨(true : Bool), rfl, hh⟩
    · have hh := hh.2 hb_1
      refine CW.skip ?_
      refine QN.then_ ?_
      refine CW.seq ?_
      refine CW.region ?_
      refine .e (e_callP fn_9 rfl rfl hh ?_)
      intro h t37 hh
      refine .val (v_buildT ref13_Box.zero zo_30 pl_30 rfl (rfl) rfl) rfl ?_
      refine box_elim hh (fun t39 ht39 hh => ?_)
      refine .e (e_boxP ht39 rfl rfl rfl ?_)
      refine .val (v_assign (v := reg (t37 : Pt)) rfl) rfl ?_
      refine .val (v_assign (v := .pointer (some t39)) rfl) rfl ?_
      refine .nil ?_
      refine QN.then_ ?_
      refine CW.join (fun ρ h => ∃ (ρ' : Env), ρ = setl ρ' [(0, reg (list : Sl)), (1, reg (kind : Int)), (2, reg (round : Int)), (4, reg (quorum : Int)), (8, .pointer (some d_1)), (11, reg (t37 : Pt)), (12, .pointer (some t39))] ∧ (law13_VoteBoxes.j1 k) list kind round quorum d_1 t37 t39 h) ?_ ?_
      · refine CW.seq ?_
        refine CW.region ?_
        refine .val (v_move (v := reg (list : Sl)) rfl) rfl ?_
        refine .val (v_len_sl (sl_22).1 rfl) rfl ?_
        refine .val (v_move (v := reg ((0 : Int) : Int)) rfl) rfl ?_
        refine .nil ?_
        refine QN.then_ ?_
        refine CW.block ?_
        unfold law13_VoteBoxes.l1 at hh
        refine CW.loop (fun (σ0 : Int) ρ => match σ0 with | t42 => ∃ ρ' : Env, ρ = setl ρ' [(0, reg (list : Sl)), (1, reg (kind : Int)), (2, reg (round : Int)), (4, reg (quorum : Int)), (8, .pointer (some d_1)), (11, reg (t37 : Pt)), (12, .pointer (some t39)), (40, reg (list : Sl)), (41, reg ((list.len : Int) : Int)), (42, reg (t42 : Int))]) hh ⟨_, setl_eq ⟨rfl, ⟨rfl, ⟨rfl, ⟨rfl, ⟨rfl, ⟨rfl, ⟨rfl, ⟨rfl, ⟨rfl, ⟨rfl, trivial⟩⟩⟩⟩⟩⟩⟩⟩⟩⟩⟩ ?_
        clear hh
        rintro s1 t42 ρ h ⟨ρ', rfl⟩ hh
        refine CW.seq ?_
        refine CW.region ?_
        refine .val (v_ilss rfl rfl) rfl ?_
        refine .nil ?_
        refine QN.then_ ?_
        refine CW.seq ?_
        refine CW.cond (decide (t42 < (list.len : Int))) rfl (fun hb_2 => ?_) (fun hb_2 => ?_)
        · have hh := hh.1 hb_2
          refine CW.skip ?_
          refine QN.then_ ?_
          refine CW.seq ?_
          refine CW.block ?_
          refine CW.seq ?_
          refine CW.region ?_
          obtain ⟨t44, ht44, hh⟩ := hh
          refine .val (v_idx_slP sl_22 rfl rfl ht44.1 ht44.2.1 ht44.2.2) rfl ?_
          obtain ⟨t45, ⟨xt45, hxt45, hgt45⟩, hh⟩ := hh
          refine .val (v_ldA (p := t44) 0 ag_37 rfl hxt45 hgt45 get_37_all (fun _ => (len_api_Vote _)) (fun _ => rfl)) rfl ?_
          refine box_elim hh (fun v hv hh => ?_)
          refine .e (e_allocP hv zo_37 rfl ?_)
          obtain ⟨xw, hxw, hwxw, hh⟩ := hh
          refine .e (e_storeN (p := v) (nv := enc (t45 : api_Vote)) 0 rfl rfl rfl sz_37 (one_api_Vote _) hxw hwxw (len_api_Vote _) (len_api_Vote _) rfl (set_37_all xw (t45 : api_Vote)) ?_)
          refine .nil ?_
          refine QN.then_ ?_
          refine CW.seq ?_
          refine CW.join (fun ρ h => ∃ (ρ' : Env) (t53 : Bool), ρ = setl ρ' [(0, reg (list : Sl)), (1, reg (kind : Int)), (2, reg (round : Int)), (4, reg (quorum : Int)), (8, .pointer (some d_1)), (11, reg (t37 : Pt)), (12, .pointer (some t39)), (14, .pointer (some v)), (40, reg (list : Sl)), (41, reg ((list.len : Int) : Int)), (42, reg (t42 : Int)), (53, reg (t53 : Bool))] ∧ (law13_VoteBoxes.j2 k s1) list kind round quorum d_1 t37 t39 v list (list.len : Int) t42 t53 h) ?_ ?_
          · refine CW.region ?_
            obtain ⟨t46, ⟨xt46, hxt46, hgt46⟩, hh⟩ := hh
            refine .val (v_ldA (p := v) 0 ag_37 rfl hxt46 hgt46 get_37_all (fun _ => (len_api_Vote _)) (fun _ => rfl)) rfl ?_
            refine .e (e_callP fn_10 rfl rfl hh ?_)
            intro h t47 hh
            refine .val (v_not rfl) rfl ?_
            refine .val (v_move (v := reg ((!t47) : Bool)) rfl) rfl ?_
            refine ifb_cases hh (fun hb_3 hh => ?_) (fun hb_3 hh => ?_)
            · refine .no 49 rfl (congrArg Value.bool hb_3) rfl rfl ?_
              refine .no 49 rfl (congrArg Value.bool hb_3) rfl rfl ?_
              refine .no 49 rfl (congrArg Value.bool hb_3) rfl rfl ?_
              refine .val (v_pickT (v := reg (true : Bool)) rfl hb_3 rfl) rfl ?_
              refine .nil ?_
              exact QN.thenJ ⟨_, true, setl_eq ⟨rfl, ⟨rfl, ⟨rfl, ⟨rfl, ⟨rfl, ⟨rfl, ⟨rfl, ⟨rfl, ⟨rfl, ⟨rfl, ⟨rfl, ⟨rfl, trivial⟩⟩⟩⟩⟩⟩⟩⟩⟩⟩⟩⟩, hh⟩
            · refine .yv 49 rfl (congrArg Value.bool hb_3) rfl (v_fieldAddr fl_37_6 rfl) rfl ?_
              obtain ⟨t51, ⟨xt51, hxt51, hgt51⟩, hh⟩ := hh
              refine .yv 49 rfl (congrArg Value.bool hb_3) rfl (v_ldA (p := v) 37 ag_35 rfl hxt51 hgt51 get_37_Sig (fun _ => (len_api_Sig _)) (fun _ => rfl)) rfl ?_
              refine .ye 49 rfl (congrArg Value.bool hb_3) rfl (e_callP fn_11 rfl rfl hh ?_)
              intro h t52 hh
              refine .val (v_pickF (v := reg (t52 : Bool)) rfl hb_3 rfl) rfl ?_
              refine .nil ?_
              exact QN.thenJ ⟨_, t52, setl_eq ⟨rfl, ⟨rfl, ⟨rfl, ⟨rfl, ⟨rfl, ⟨rfl, ⟨rfl, ⟨rfl, ⟨rfl, ⟨rfl, ⟨rfl, ⟨rfl, trivial⟩⟩⟩⟩⟩⟩⟩⟩⟩⟩⟩⟩, hh⟩
          · rintro ρ h ⟨ρ', t53, rfl, hh⟩
            unfold law13_VoteBoxes.j2 at hh
            refine CW.cond t53 rfl (fun hb_4 => ?_) (fun hb_4 => ?_)
            · have hh := hh.1 hb_4
              refine CW.seq ?_
              refine CW.region ?_
              refine .val (v_assign (v := reg (true : Bool)) rfl) rfl ?_
              refine .nil ?_
              refine QN.then_ ?_
              refine CW.ret ?_
              refine QN.thenRet ?_
              refine QN.blockRet ?_
              refine QN.thenRet ?_
              refine QN.thenRet ?_
              refine QN.blockRet ?_
              refine QN.thenRet ?_
              exact ret1 rfl rfl ⟨(true : Bool), rfl, hh⟩
            · have hh := hh.2 hb_4
              refine CW.skip ?_
              refine QN.then_ ?_
              refine CW.seq ?_
              refine CW.drawN 7 rfl follows_mixed [0, 1, 3, 4, 6] ?_
              refine .p 0 rfl (by kernel_rfl) (NoPanic.then_ (NoPanic.block (NoPanic.then_ (NoPanic.then_ (NoPanic.block (NoPanic.then_ (NoPanic.body))))))) (fun _ => v_move (v := reg (t37 : Pt)) rfl) ?_
              obtain ⟨t55, ⟨xt55, hxt55, hgt55⟩, hh⟩ := hh
              refine .r 1 (fun h' => ∃ x : api_Vote, AtH h' v (enc x) ∧ ((fun (x : api_Vote) => x) : api_Vote → api_Vote) x = t55) rfl (by kernel_rfl) (NoPanic.then_ (NoPanic.block (NoPanic.then_ (NoPanic.then_ (NoPanic.block (NoPanic.then_ (NoPanic.body))))))) ⟨xt55, hxt55, hgt55⟩ (fun h' hS => hS.elim fun _ hS => v_ldA (p := v) 0 ag_37 rfl hS.1 hS.2 get_37_all (fun _ => (len_api_Vote _)) (fun _ => rfl)) ?_
              refine .p 3 rfl (by kernel_rfl) (NoPanic.then_ (NoPanic.block (NoPanic.then_ (NoPanic.then_ (NoPanic.block (NoPanic.then_ (NoPanic.body))))))) (fun _ => v_move (v := .pointer (some t39)) rfl) ?_
              obtain ⟨t58, ⟨xt58, hxt58, hgt58⟩, hh⟩ := hh
              refine .r 4 (fun h' => ∃ x : api_Vote, AtH h' v (enc x) ∧ ((fun (x : api_Vote) => x) : api_Vote → api_Vote) x = t58) rfl (by kernel_rfl) (NoPanic.then_ (NoPanic.block (NoPanic.then_ (NoPanic.then_ (NoPanic.block (NoPanic.then_ (NoPanic.body))))))) ⟨xt58, hxt58, hgt58⟩ (fun h' hS => hS.elim fun _ hS => v_ldA (p := v) 0 ag_37 rfl hS.1 hS.2 get_37_all (fun _ => (len_api_Vote _)) (fun _ => rfl)) ?_
              refine .w 2 (by kernel_rfl) rfl (by kernel_rfl) (.e (e_callP fn_12 rfl rfl hh ?_))
              intro h t56 hh
              obtain ⟨hc, hh⟩ := hh
              refine ⟨⟨⟨trivial, .inl (by kernel_rfl)⟩, .inr hc⟩, ?_⟩
              refine .w 5 (by kernel_rfl) rfl (by kernel_rfl) (.e (e_callP fn_13 rfl rfl hh ?_))
              intro h t59 hh
              refine ⟨⟨⟨trivial, .inl (by kernel_rfl)⟩, .inl (by kernel_rfl)⟩, ?_⟩
              refine .p 6 rfl (by kernel_rfl) (NoPanic.then_ (NoPanic.block (NoPanic.then_ (NoPanic.then_ (NoPanic.block (NoPanic.then_ (NoPanic.body))))))) (fun _ => v_bne un_4 rfl rfl) ?_
              refine .done (by kernel_rfl) ?_
              refine QN.then_ ?_
              refine CW.cond (t56 != t59) rfl (fun hb_5 => ?_) (fun hb_5 => ?_)
              · have hh := hh.1 hb_5
                refine CW.seq ?_
                refine CW.region ?_
                refine .val (v_assign (v := reg (false : Bool)) rfl) rfl ?_
                refine .nil ?_
                refine QN.then_ ?_
                refine CW.ret ?_
                refine QN.blockRet ?_
                refine QN.thenRet ?_
                refine QN.thenRet ?_
                refine QN.blockRet ?_
                refine QN.thenRet ?_
                exact ret1 rfl rfl ⟨(false : Bool), rfl, hh⟩
              · have hh := hh.2 hb_5
                refine CW.skip ?_
                refine QN.blockN ?_
                refine QN.then_ ?_
                refine CW.region ?_
                refine .val (v_iadd rfl rfl) rfl ?_
                refine .val (v_move (v := reg ((iadd t42 (1 : Int)) : Int)) rfl) rfl ?_
                refine .nil ?_
                exact QN.thenJ ⟨(iadd t42 (1 : Int)), ⟨_, setl_eq ⟨rfl, ⟨rfl, ⟨rfl, ⟨rfl, ⟨rfl, ⟨rfl, ⟨rfl, ⟨rfl, ⟨rfl, ⟨rfl, trivial⟩⟩⟩⟩⟩⟩⟩⟩⟩⟩⟩, hh⟩
        · have hh := hh.2 hb_2
          refine CW.exit ?_
          refine QN.thenExit ?_
          refine QN.thenExit ?_
          refine QN.blockExit ?_
          exact QN.thenJ ⟨_, setl_eq ⟨rfl, ⟨rfl, ⟨rfl, ⟨rfl, ⟨rfl, ⟨rfl, ⟨rfl, trivial⟩⟩⟩⟩⟩⟩⟩, hh⟩
      · rintro ρ h ⟨ρ', rfl, hh⟩
        unfold law13_VoteBoxes.j1 at hh
        refine CW.seq ?_
        refine CW.drawN 12 rfl follows_mixed [0, 1, 2, 3, 5, 6, 7, 8, 10, 11] ?_
        refine .p 0 rfl (by kernel_rfl) (NoPanic.then_ (NoPanic.body)) (fun _ => v_move (v := reg (t37 : Pt)) rfl) ?_
        refine .p 1 rfl (by kernel_rfl) (NoPanic.then_ (NoPanic.body)) (fun _ => v_move (v := reg (kind : Int)) rfl) ?_
        refine .p 2 rfl (by kernel_rfl) (NoPanic.then_ (NoPanic.body)) (fun _ => v_move (v := reg (round : Int)) rfl) ?_
        obtain ⟨t65, ⟨xt65, hxt65, hgt65⟩, hh⟩ := hh
        refine .r 3 (fun h' => ∃ x : Arr 32 UInt8, AtH h' d_1 (enc x) ∧ ((fun (x : Arr 32 UInt8) => x) : Arr 32 UInt8 → Arr 32 UInt8) x = t65) rfl (by kernel_rfl) (NoPanic.then_ (NoPanic.body)) ⟨xt65, hxt65, hgt65⟩ (fun h' hS => hS.elim fun _ hS => v_ldA (p := d_1) 0 ag_24 rfl hS.1 hS.2 get_24_all (fun _ => (arr_len (n := 32) _)) (fun _ => rfl)) ?_
        refine .p 5 rfl (by kernel_rfl) (NoPanic.then_ (NoPanic.body)) (fun _ => v_move (v := .pointer (some t39)) rfl) ?_
        refine .p 6 rfl (by kernel_rfl) (NoPanic.then_ (NoPanic.body)) (fun _ => v_move (v := reg (kind : Int)) rfl) ?_
        refine .p 7 rfl (by kernel_rfl) (NoPanic.then_ (NoPanic.body)) (fun _ => v_move (v := reg (round : Int)) rfl) ?_
        obtain ⟨t70, ⟨xt70, hxt70, hgt70⟩, hh⟩ := hh
        refine .r 8 (fun h' => ∃ x : Arr 32 UInt8, AtH h' d_1 (enc x) ∧ ((fun (x : Arr 32 UInt8) => x) : Arr 32 UInt8 → Arr 32 UInt8) x = t70) rfl (by kernel_rfl) (NoPanic.then_ (NoPanic.body)) ⟨xt70, hxt70, hgt70⟩ (fun h' hS => hS.elim fun _ hS => v_ldA (p := d_1) 0 ag_24 rfl hS.1 hS.2 get_24_all (fun _ => (arr_len (n := 32) _)) (fun _ => rfl)) ?_
        refine .w 4 (by kernel_rfl) rfl (by kernel_rfl) (.e (e_callP fn_14 rfl rfl hh ?_))
        intro h t66 hh
        obtain ⟨hc_1, hh⟩ := hh
        refine ⟨⟨⟨trivial, .inl (by kernel_rfl)⟩, .inr hc_1⟩, ?_⟩
        refine .w 9 (by kernel_rfl) rfl (by kernel_rfl) (.e (e_callP fn_15 rfl rfl hh ?_))
        intro h t71 hh
        refine ⟨⟨⟨trivial, .inl (by kernel_rfl)⟩, .inl (by kernel_rfl)⟩, ?_⟩
        refine .p 10 rfl (by kernel_rfl) (NoPanic.then_ (NoPanic.body)) (fun _ => v_assign (v := reg (t66 : Sl)) rfl) ?_
        refine .p 11 rfl (by kernel_rfl) (NoPanic.then_ (NoPanic.body)) (fun _ => v_assign (v := reg (t71 : Sl)) rfl) ?_
        refine .done (by kernel_rfl) ?_
        refine QN.then_ ?_
        refine CW.seq ?_
        refine CW.join (fun ρ h => ∃ (ρ' : Env) (t109 : Bool), ρ = setl ρ' [(0, reg (list : Sl)), (1, reg (kind : Int)), (2, reg (round : Int)), (4, reg (quorum : Int)), (8, .pointer (some d_1)), (11, reg (t37 : Pt)), (12, .pointer (some t39)), (15, reg (t66 : Sl)), (16, reg (t71 : Sl)), (109, reg (t109 : Bool))] ∧ (law13_VoteBoxes.j3 k) list kind round quorum d_1 t37 t39 t66 t71 t109 h) ?_ ?_
        · refine CW.region ?_
          refine .val (v_move (v := reg (t66 : Sl)) rfl) rfl ?_
          refine .val (v_len_sl (sl_22).1 rfl) rfl ?_
          refine .val (v_move (v := reg (t71 : Sl)) rfl) rfl ?_
          refine .val (v_len_sl (sl_22).1 rfl) rfl ?_
          refine .val (v_ineq rfl rfl) rfl ?_
          refine .val (v_move (v := reg (((t66.len : Int) != (t71.len : Int)) : Bool)) rfl) rfl ?_
          refine ifb_cases hh (fun hb_6 hh => ?_) (fun hb_6 hh => ?_)
          · refine .no 77 rfl (congrArg Value.bool hb_6) rfl rfl ?_
            refine .no 77 rfl (congrArg Value.bool hb_6) rfl rfl ?_
            refine .no 77 rfl (congrArg Value.bool hb_6) rfl rfl ?_
            refine .no 77 rfl (congrArg Value.bool hb_6) rfl rfl ?_
            refine .no 77 rfl (congrArg Value.bool hb_6) rfl rfl ?_
            refine .no 77 rfl (congrArg Value.bool hb_6) rfl rfl ?_
            refine .no 77 rfl (congrArg Value.bool hb_6) rfl rfl ?_
            refine .no 77 rfl (congrArg Value.bool hb_6) rfl rfl ?_
            refine .val (v_pickT (v := reg (true : Bool)) rfl hb_6 rfl) rfl ?_
            refine .val (v_move (v := reg (true : Bool)) rfl) rfl ?_
            refine .no 87 rfl rfl rfl rfl ?_
            refine .no 87 rfl rfl rfl rfl ?_
            refine .no 87 rfl rfl rfl rfl ?_
            refine .no 87 rfl rfl rfl rfl ?_
            refine .no 87 rfl rfl rfl rfl ?_
            refine .no 87 rfl rfl rfl rfl ?_
            refine .no 87 rfl rfl rfl rfl ?_
            refine .val (v_pickT (v := reg (true : Bool)) rfl rfl rfl) rfl ?_
            refine .val (v_move (v := reg (true : Bool)) rfl) rfl ?_
            refine .no 96 rfl rfl rfl rfl ?_
            refine .no 96 rfl rfl rfl rfl ?_
            refine .no 96 rfl rfl rfl rfl ?_
            refine .no 96 rfl rfl rfl rfl ?_
            refine .no 96 rfl rfl rfl rfl ?_
            refine .no 96 rfl rfl rfl rfl ?_
            refine .no 96 rfl rfl rfl rfl ?_
            refine .val (v_pickT (v := reg (true : Bool)) rfl rfl rfl) rfl ?_
            refine .val (v_move (v := reg (true : Bool)) rfl) rfl ?_
            refine .no 105 rfl rfl rfl rfl ?_
            refine .no 105 rfl rfl rfl rfl ?_
            refine .no 105 rfl rfl rfl rfl ?_
            refine .val (v_pickT (v := reg (true : Bool)) rfl rfl rfl) rfl ?_
            refine .nil ?_
            exact QN.thenJ ⟨_, true, setl_eq ⟨rfl, ⟨rfl, ⟨rfl, ⟨rfl, ⟨rfl, ⟨rfl, ⟨rfl, ⟨rfl, ⟨rfl, ⟨rfl, trivial⟩⟩⟩⟩⟩⟩⟩⟩⟩⟩, hh⟩
          · refine .yv 77 rfl (congrArg Value.bool hb_6) rfl (v_move (v := reg (t37 : Pt)) rfl) rfl ?_
            refine .yv 77 rfl (congrArg Value.bool hb_6) rfl (v_move (v := reg (kind : Int)) rfl) rfl ?_
            refine .yv 77 rfl (congrArg Value.bool hb_6) rfl (v_move (v := reg (round : Int)) rfl) rfl ?_
            obtain ⟨t81, ⟨xt81, hxt81, hgt81⟩, hh⟩ := hh
            refine .yv 77 rfl (congrArg Value.bool hb_6) rfl (v_ldA (p := d_1) 0 ag_24 rfl hxt81 hgt81 get_24_all (fun _ => (arr_len (n := 32) _)) (fun _ => rfl)) rfl ?_
            refine .ye 77 rfl (congrArg Value.bool hb_6) rfl (e_callP fn_16 rfl rfl hh ?_)
            intro h t82 hh
            refine .yv 77 rfl (congrArg Value.bool hb_6) rfl (v_move (v := reg (t71 : Sl)) rfl) rfl ?_
            refine .yv 77 rfl (congrArg Value.bool hb_6) rfl (v_len_sl (sl_22).1 rfl) rfl ?_
            refine .yv 77 rfl (congrArg Value.bool hb_6) rfl (v_ineq rfl rfl) rfl ?_
            refine .val (v_pickF (v := reg ((t82 != (t71.len : Int)) : Bool)) rfl hb_6 rfl) rfl ?_
            refine .val (v_move (v := reg ((t82 != (t71.len : Int)) : Bool)) rfl) rfl ?_
            refine ifb_cases hh (fun hb_7 hh => ?_) (fun hb_7 hh => ?_)
            · refine .no 87 rfl (congrArg Value.bool hb_7) rfl rfl ?_
              refine .no 87 rfl (congrArg Value.bool hb_7) rfl rfl ?_
              refine .no 87 rfl (congrArg Value.bool hb_7) rfl rfl ?_
              refine .no 87 rfl (congrArg Value.bool hb_7) rfl rfl ?_
              refine .no 87 rfl (congrArg Value.bool hb_7) rfl rfl ?_
              refine .no 87 rfl (congrArg Value.bool hb_7) rfl rfl ?_
              refine .no 87 rfl (congrArg Value.bool hb_7) rfl rfl ?_
              refine .val (v_pickT (v := reg (true : Bool)) rfl hb_7 rfl) rfl ?_
              refine .val (v_move (v := reg (true : Bool)) rfl) rfl ?_
              refine .no 96 rfl rfl rfl rfl ?_
              refine .no 96 rfl rfl rfl rfl ?_
              refine .no 96 rfl rfl rfl rfl ?_
              refine .no 96 rfl rfl rfl rfl ?_
              refine .no 96 rfl rfl rfl rfl ?_
              refine .no 96 rfl rfl rfl rfl ?_
              refine .no 96 rfl rfl rfl rfl ?_
              refine .val (v_pickT (v := reg (true : Bool)) rfl rfl rfl) rfl ?_
              refine .val (v_move (v := reg (true : Bool)) rfl) rfl ?_
              refine .no 105 rfl rfl rfl rfl ?_
              refine .no 105 rfl rfl rfl rfl ?_
              refine .no 105 rfl rfl rfl rfl ?_
              refine .val (v_pickT (v := reg (true : Bool)) rfl rfl rfl) rfl ?_
              refine .nil ?_
              exact QN.thenJ ⟨_, true, setl_eq ⟨rfl, ⟨rfl, ⟨rfl, ⟨rfl, ⟨rfl, ⟨rfl, ⟨rfl, ⟨rfl, ⟨rfl, ⟨rfl, trivial⟩⟩⟩⟩⟩⟩⟩⟩⟩⟩, hh⟩
            · refine .yv 87 rfl (congrArg Value.bool hb_7) rfl (v_move (v := reg (t37 : Pt)) rfl) rfl ?_
              refine .yv 87 rfl (congrArg Value.bool hb_7) rfl (v_move (v := reg (round : Int)) rfl) rfl ?_
              refine .ye 87 rfl (congrArg Value.bool hb_7) rfl (e_callP fn_17 rfl rfl hh ?_)
              intro h t90 hh
              refine .yv 87 rfl (congrArg Value.bool hb_7) rfl (v_move (v := .pointer (some t39)) rfl) rfl ?_
              refine .yv 87 rfl (congrArg Value.bool hb_7) rfl (v_move (v := reg (round : Int)) rfl) rfl ?_
              refine .ye 87 rfl (congrArg Value.bool hb_7) rfl (e_callP fn_18 rfl rfl hh ?_)
              intro h t93 hh
              refine .yv 87 rfl (congrArg Value.bool hb_7) rfl (v_ineq rfl rfl) rfl ?_
              refine .val (v_pickF (v := reg ((t90 != t93) : Bool)) rfl hb_7 rfl) rfl ?_
              refine .val (v_move (v := reg ((t90 != t93) : Bool)) rfl) rfl ?_
              refine ifb_cases hh (fun hb_8 hh => ?_) (fun hb_8 hh => ?_)
              · refine .no 96 rfl (congrArg Value.bool hb_8) rfl rfl ?_
                refine .no 96 rfl (congrArg Value.bool hb_8) rfl rfl ?_
                refine .no 96 rfl (congrArg Value.bool hb_8) rfl rfl ?_
                refine .no 96 rfl (congrArg Value.bool hb_8) rfl rfl ?_
                refine .no 96 rfl (congrArg Value.bool hb_8) rfl rfl ?_
                refine .no 96 rfl (congrArg Value.bool hb_8) rfl rfl ?_
                refine .no 96 rfl (congrArg Value.bool hb_8) rfl rfl ?_
                refine .val (v_pickT (v := reg (true : Bool)) rfl hb_8 rfl) rfl ?_
                refine .val (v_move (v := reg (true : Bool)) rfl) rfl ?_
                refine .no 105 rfl rfl rfl rfl ?_
                refine .no 105 rfl rfl rfl rfl ?_
                refine .no 105 rfl rfl rfl rfl ?_
                refine .val (v_pickT (v := reg (true : Bool)) rfl rfl rfl) rfl ?_
                refine .nil ?_
                exact QN.thenJ ⟨_, true, setl_eq ⟨rfl, ⟨rfl, ⟨rfl, ⟨rfl, ⟨rfl, ⟨rfl, ⟨rfl, ⟨rfl, ⟨rfl, ⟨rfl, trivial⟩⟩⟩⟩⟩⟩⟩⟩⟩⟩, hh⟩
              · refine .yv 96 rfl (congrArg Value.bool hb_8) rfl (v_move (v := reg (t37 : Pt)) rfl) rfl ?_
                refine .yv 96 rfl (congrArg Value.bool hb_8) rfl (v_move (v := reg (quorum : Int)) rfl) rfl ?_
                refine .ye 96 rfl (congrArg Value.bool hb_8) rfl (e_callP fn_19 rfl rfl hh ?_)
                intro h t99 hh
                refine .yv 96 rfl (congrArg Value.bool hb_8) rfl (v_move (v := .pointer (some t39)) rfl) rfl ?_
                refine .yv 96 rfl (congrArg Value.bool hb_8) rfl (v_move (v := reg (quorum : Int)) rfl) rfl ?_
                refine .ye 96 rfl (congrArg Value.bool hb_8) rfl (e_callP fn_20 rfl rfl hh ?_)
                intro h t102 hh
                refine .yv 96 rfl (congrArg Value.bool hb_8) rfl (v_ineq rfl rfl) rfl ?_
                refine .val (v_pickF (v := reg ((t99 != t102) : Bool)) rfl hb_8 rfl) rfl ?_
                refine .val (v_move (v := reg ((t99 != t102) : Bool)) rfl) rfl ?_
                refine ifb_cases hh (fun hb_9 hh => ?_) (fun hb_9 hh => ?_)
                · refine .no 105 rfl (congrArg Value.bool hb_9) rfl rfl ?_
                  refine .no 105 rfl (congrArg Value.bool hb_9) rfl rfl ?_
                  refine .no 105 rfl (congrArg Value.bool hb_9) rfl rfl ?_
                  refine .val (v_pickT (v := reg (true : Bool)) rfl hb_9 rfl) rfl ?_
                  refine .nil ?_
                  exact QN.thenJ ⟨_, true, setl_eq ⟨rfl, ⟨rfl, ⟨rfl, ⟨rfl, ⟨rfl, ⟨rfl, ⟨rfl, ⟨rfl, ⟨rfl, ⟨rfl, trivial⟩⟩⟩⟩⟩⟩⟩⟩⟩⟩, hh⟩
                · refine .yv 105 rfl (congrArg Value.bool hb_9) rfl (v_move (v := reg (t37 : Pt)) rfl) rfl ?_
                  refine .ye 105 rfl (congrArg Value.bool hb_9) rfl (e_callP fn_19 rfl rfl hh ?_)
                  intro h t107 hh
                  refine .yv 105 rfl (congrArg Value.bool hb_9) rfl (v_ineq rfl rfl) rfl ?_
                  refine .val (v_pickF (v := reg ((t107 != (-1 : Int)) : Bool)) rfl hb_9 rfl) rfl ?_
                  refine .nil ?_
                  exact QN.thenJ ⟨_, (t107 != (-1 : Int)), setl_eq ⟨rfl, ⟨rfl, ⟨rfl, ⟨rfl, ⟨rfl, ⟨rfl, ⟨rfl, ⟨rfl, ⟨rfl, ⟨rfl, trivial⟩⟩⟩⟩⟩⟩⟩⟩⟩⟩, hh⟩
        · rintro ρ h ⟨ρ', t109, rfl, hh⟩
          unfold law13_VoteBoxes.j3 at hh
          refine CW.cond t109 rfl (fun hb_10 => ?_) (fun hb_10 => ?_)
          · have hh := hh.1 hb_10
            refine CW.seq ?_
            refine CW.region ?_
            refine .val (v_assign (v := reg (false : Bool)) rfl) rfl ?_
            refine .nil ?_
            refine QN.then_ ?_
            refine CW.ret ?_
            refine QN.thenRet ?_
            exact ret1 rfl rfl ⟨(false : Bool), rfl, hh⟩
          · have hh := hh.2 hb_10
            refine CW.skip ?_
            refine QN.then_ ?_
            refine CW.join (fun ρ h => ∃ (ρ' : Env), ρ = setl ρ' [(0, reg (list : Sl)), (1, reg (kind : Int)), (2, reg (round : Int)), (4, reg (quorum : Int)), (8, .pointer (some d_1)), (11, reg (t37 : Pt)), (12, .pointer (some t39))] ∧ (law13_VoteBoxes.j4 k) list kind round quorum d_1 t37 t39 h) ?_ ?_
            · refine CW.seq ?_
              refine CW.region ?_
              refine .val (v_move (v := reg (t66 : Sl)) rfl) rfl ?_
              refine .val (v_len_sl (sl_22).1 rfl) rfl ?_
              refine .val (v_move (v := reg ((0 : Int) : Int)) rfl) rfl ?_
              refine .nil ?_
              refine QN.then_ ?_
              refine CW.block ?_
              unfold law13_VoteBoxes.l2 at hh
              refine CW.loop (fun (σ0 : Int) ρ => match σ0 with | t112 => ∃ ρ' : Env, ρ = setl ρ' [(0, reg (list : Sl)), (1, reg (kind : Int)), (2, reg (round : Int)), (4, reg (quorum : Int)), (8, .pointer (some d_1)), (11, reg (t37 : Pt)), (12, .pointer (some t39)), (15, reg (t66 : Sl)), (16, reg (t71 : Sl)), (111, reg ((t66.len : Int) : Int)), (112, reg (t112 : Int))]) hh ⟨_, setl_eq ⟨rfl, ⟨rfl, ⟨rfl, ⟨rfl, ⟨rfl, ⟨rfl, ⟨rfl, ⟨rfl, ⟨rfl, ⟨rfl, ⟨rfl, trivial⟩⟩⟩⟩⟩⟩⟩⟩⟩⟩⟩⟩ ?_
              clear hh
              rintro s2 t112 ρ h ⟨ρ', rfl⟩ hh
              refine CW.seq ?_
              refine CW.region ?_
              refine .val (v_ilss rfl rfl) rfl ?_
              refine .nil ?_
              refine QN.then_ ?_
              refine CW.seq ?_
              refine CW.cond (decide (t112 < (t66.len : Int))) rfl (fun hb_11 => ?_) (fun hb_11 => ?_)
              · have hh := hh.1 hb_11
                refine CW.skip ?_
                refine QN.then_ ?_
                refine CW.seq ?_
                refine CW.block ?_
                refine CW.seq ?_
                refine CW.region ?_
                refine .val (v_move (v := reg (t112 : Int)) rfl) rfl ?_
                refine .val (v_assign (v := reg (t112 : Int)) rfl) rfl ?_
                refine .nil ?_
                refine QN.then_ ?_
                refine CW.seq ?_
                refine CW.drawN 10 rfl follows_mixed [0, 1, 2, 3, 4, 5, 6, 7, 9] ?_
                refine .p 0 rfl (by kernel_rfl) (NoPanic.then_ (NoPanic.block (NoPanic.then_ (NoPanic.then_ (NoPanic.block (NoPanic.then_ (NoPanic.body))))))) (fun _ => v_move (v := reg (t66 : Sl)) rfl) ?_
                refine .p 1 rfl (by kernel_rfl) (NoPanic.then_ (NoPanic.block (NoPanic.then_ (NoPanic.then_ (NoPanic.block (NoPanic.then_ (NoPanic.body))))))) (fun _ => v_move (v := reg (t112 : Int)) rfl) ?_
                obtain ⟨t117, ht117, hh⟩ := hh
                refine .p 2 rfl (by kernel_rfl) (NoPanic.then_ (NoPanic.block (NoPanic.then_ (NoPanic.then_ (NoPanic.block (NoPanic.then_ (NoPanic.body))))))) (fun _ => v_idx_slP sl_22 rfl rfl ht117.1 ht117.2.1 ht117.2.2) ?_
                obtain ⟨t118, ⟨xt118, hxt118, hgt118⟩, hh⟩ := hh
                refine .r 3 (fun h' => ∃ t66 : api_Vote, AtH h' t117 (enc t66) ∧ ((fun (t66 : api_Vote) => t66) : api_Vote → api_Vote) t66 = t118) rfl (by kernel_rfl) (NoPanic.then_ (NoPanic.block (NoPanic.then_ (NoPanic.then_ (NoPanic.block (NoPanic.then_ (NoPanic.body))))))) ⟨xt118, hxt118, hgt118⟩ (fun h' hS => hS.elim fun _ hS => v_ldA (p := t117) 0 ag_37 rfl hS.1 hS.2 get_37_all (fun _ => (len_api_Vote _)) (fun _ => rfl)) ?_
                refine .p 4 rfl (by kernel_rfl) (NoPanic.then_ (NoPanic.block (NoPanic.then_ (NoPanic.then_ (NoPanic.block (NoPanic.then_ (NoPanic.body))))))) (fun _ => v_move (v := reg (t71 : Sl)) rfl) ?_
                refine .p 5 rfl (by kernel_rfl) (NoPanic.then_ (NoPanic.block (NoPanic.then_ (NoPanic.then_ (NoPanic.block (NoPanic.then_ (NoPanic.body))))))) (fun _ => v_move (v := reg (t112 : Int)) rfl) ?_
                obtain ⟨t121, ht121, hh⟩ := hh
                refine .p 6 rfl (by kernel_rfl) (NoPanic.then_ (NoPanic.block (NoPanic.then_ (NoPanic.then_ (NoPanic.block (NoPanic.then_ (NoPanic.body))))))) (fun _ => v_idx_slP sl_22 rfl rfl ht121.1 ht121.2.1 ht121.2.2) ?_
                obtain ⟨t122, ⟨xt122, hxt122, hgt122⟩, hh⟩ := hh
                refine .r 7 (fun h' => ∃ t66 : api_Vote, AtH h' t121 (enc t66) ∧ ((fun (t66 : api_Vote) => t66) : api_Vote → api_Vote) t66 = t122) rfl (by kernel_rfl) (NoPanic.then_ (NoPanic.block (NoPanic.then_ (NoPanic.then_ (NoPanic.block (NoPanic.then_ (NoPanic.body))))))) ⟨xt122, hxt122, hgt122⟩ (fun h' hS => hS.elim fun _ hS => v_ldA (p := t121) 0 ag_37 rfl hS.1 hS.2 get_37_all (fun _ => (len_api_Vote _)) (fun _ => rfl)) ?_
                refine .w 8 (by kernel_rfl) rfl (by kernel_rfl) (.e (e_callP fn_21 rfl rfl hh ?_))
                intro h t123 hh
                refine ⟨⟨⟨trivial, .inl (by kernel_rfl)⟩, .inl (by kernel_rfl)⟩, ?_⟩
                refine .p 9 rfl (by kernel_rfl) (NoPanic.then_ (NoPanic.block (NoPanic.then_ (NoPanic.then_ (NoPanic.block (NoPanic.then_ (NoPanic.body))))))) (fun _ => v_not rfl) ?_
                refine .done (by kernel_rfl) ?_
                refine QN.then_ ?_
                refine CW.cond (!t123) rfl (fun hb_12 => ?_) (fun hb_12 => ?_)
                · have hh := hh.1 hb_12
                  refine CW.seq ?_
                  refine CW.region ?_
                  refine .val (v_assign (v := reg (false : Bool)) rfl) rfl ?_
                  refine .nil ?_
                  refine QN.then_ ?_
                  refine CW.ret ?_
                  refine QN.blockRet ?_
                  refine QN.thenRet ?_
                  refine QN.thenRet ?_
                  refine QN.blockRet ?_
                  refine QN.thenRet ?_
                  exact ret1 rfl rfl ⟨(false : Bool), rfl, hh⟩
                · have hh := hh.2 hb_12
                  refine CW.skip ?_
                  refine QN.blockN ?_
                  refine QN.then_ ?_
                  refine CW.region ?_
                  refine .val (v_iadd rfl rfl) rfl ?_
                  refine .val (v_move (v := reg ((iadd t112 (1 : Int)) : Int)) rfl) rfl ?_
                  refine .nil ?_
                  exact QN.thenJ ⟨(iadd t112 (1 : Int)), ⟨_, setl_eq ⟨rfl, ⟨rfl, ⟨rfl, ⟨rfl, ⟨rfl, ⟨rfl, ⟨rfl, ⟨rfl, ⟨rfl, ⟨rfl, ⟨rfl, trivial⟩⟩⟩⟩⟩⟩⟩⟩⟩⟩⟩⟩, hh⟩
              · have hh := hh.2 hb_11
                refine CW.exit ?_
                refine QN.thenExit ?_
                refine QN.thenExit ?_
                refine QN.blockExit ?_
                exact QN.thenJ ⟨_, setl_eq ⟨rfl, ⟨rfl, ⟨rfl, ⟨rfl, ⟨rfl, ⟨rfl, ⟨rfl, trivial⟩⟩⟩⟩⟩⟩⟩, hh⟩
            · rintro ρ h ⟨ρ', rfl, hh⟩
              unfold law13_VoteBoxes.j4 at hh
              refine CW.seq ?_
              refine CW.region ?_
              refine .val (v_move (v := reg (t37 : Pt)) rfl) rfl ?_
              refine .val (v_move (v := reg (kind : Int)) rfl) rfl ?_
              refine .val (v_move (v := reg (quorum : Int)) rfl) rfl ?_
              refine .e (e_callP fn_22 rfl rfl hh ?_)
              intro h t130 hh
              refine .val (v_move (v := reg (t130 : T3 (Arr 32 UInt8) Int Bool)) rfl) rfl ?_
              refine .val (v_extract (v := reg (t130.a : Arr 32 UInt8)) rfl rfl) rfl ?_
              refine .val (v_extract (v := reg (t130.b : Int)) rfl rfl) rfl ?_
              refine .val (v_extract (v := reg (t130.c : Bool)) rfl rfl) rfl ?_
              refine box_elim hh (fun e he hh => ?_)
              refine .e (e_allocP he zo_24 rfl ?_)
              obtain ⟨xw_1, hxw_1, hwxw_1, hh⟩ := hh
              refine .e (e_storeN (p := e) (nv := enc (t130.a : Arr 32 UInt8)) 0 rfl rfl rfl sz_24 (one_arr (n := 32) (fun _ => rfl) _) hxw_1 hwxw_1 (arr_len (n := 32) _) (arr_len (n := 32) _) rfl (set_24_all xw_1 (t130.a : Arr 32 UInt8)) ?_)
              refine .val (v_assign (v := reg (t130.b : Int)) rfl) rfl ?_
              refine .val (v_assign (v := reg (t130.c : Bool)) rfl) rfl ?_
              refine .nil ?_
              refine QN.then_ ?_
              refine CW.seq ?_
              refine CW.region ?_
              refine .val (v_move (v := .pointer (some t39)) rfl) rfl ?_
              refine .val (v_move (v := reg (kind : Int)) rfl) rfl ?_
              refine .val (v_move (v := reg (quorum : Int)) rfl) rfl ?_
              refine .e (e_callP fn_23 rfl rfl hh ?_)
              intro h t137 hh
              refine .val (v_assign (v := reg (t137 : Int)) rfl) rfl ?_
              refine .nil ?_
              refine QN.then_ ?_
              refine CW.seq ?_
              refine CW.join (fun ρ h => ∃ (ρ' : Env) (t177 : Bool), ρ = setl ρ' [(0, reg (list : Sl)), (1, reg (kind : Int)), (2, reg (round : Int)), (4, reg (quorum : Int)), (8, .pointer (some d_1)), (12, .pointer (some t39)), (18, .pointer (some e)), (19, reg (t130.b : Int)), (20, reg (t130.c : Bool)), (177, reg (t177 : Bool))] ∧ (law13_VoteBoxes.j5 k) list kind round quorum d_1 t39 e t130.b t130.c t177 h) ?_ ?_
              · refine CW.region ?_
                refine .val (v_move (v := reg (t130.c : Bool)) rfl) rfl ?_
                refine .val (v_move (v := reg (t137 : Int)) rfl) rfl ?_
                refine .val (v_igeq rfl rfl) rfl ?_
                refine .val (v_bne un_4 rfl rfl) rfl ?_
                refine .val (v_move (v := reg ((t130.c != (decide ((0 : Int) ≤ t137))) : Bool)) rfl) rfl ?_
                refine ifb_cases hh (fun hb_13 hh => ?_) (fun hb_13 hh => ?_)
                · refine .no 142 rfl (congrArg Value.bool hb_13) rfl rfl ?_
                  refine .no 142 rfl (congrArg Value.bool hb_13) rfl rfl ?_
                  refine .nu 144 rfl rfl rfl rfl ?_
                  refine .nu 144 rfl rfl rfl rfl ?_
                  refine .nu 144 rfl rfl rfl rfl ?_
                  refine .nu 144 rfl rfl rfl rfl ?_
                  refine .nu 148 rfl rfl rfl rfl ?_
                  refine .nu 148 rfl rfl rfl rfl ?_
                  refine .nu 148 rfl rfl rfl rfl ?_
                  refine .nu 144 rfl rfl rfl rfl ?_
                  refine .nu 144 rfl rfl rfl rfl ?_
                  refine .nu 153 rfl rfl rfl rfl ?_
                  refine .nu 153 rfl rfl rfl rfl ?_
                  refine .nu 153 rfl rfl rfl rfl ?_
                  refine .nu 153 rfl rfl rfl rfl ?_
                  refine .nu 153 rfl rfl rfl rfl ?_
                  refine .nu 153 rfl rfl rfl rfl ?_
                  refine .nu 153 rfl rfl rfl rfl ?_
                  refine .nu 153 rfl rfl rfl rfl ?_
                  refine .nu 144 rfl rfl rfl rfl ?_
                  refine .no 142 rfl (congrArg Value.bool hb_13) rfl rfl ?_
                  refine .val (v_pickT (v := reg (true : Bool)) rfl hb_13 rfl) rfl ?_
                  refine .val (v_move (v := reg (true : Bool)) rfl) rfl ?_
                  refine .no 165 rfl rfl rfl rfl ?_
                  refine .no 165 rfl rfl rfl rfl ?_
                  refine .no 165 rfl rfl rfl rfl ?_
                  refine .nu 168 rfl rfl rfl rfl ?_
                  refine .nu 168 rfl rfl rfl rfl ?_
                  refine .nu 168 rfl rfl rfl rfl ?_
                  refine .nu 171 rfl rfl rfl rfl ?_
                  refine .nu 171 rfl rfl rfl rfl ?_
                  refine .nu 171 rfl rfl rfl rfl ?_
                  refine .nu 168 rfl rfl rfl rfl ?_
                  refine .no 165 rfl rfl rfl rfl ?_
                  refine .val (v_pickT (v := reg (true : Bool)) rfl rfl rfl) rfl ?_
                  refine .nil ?_
                  exact QN.thenJ ⟨_, true, setl_eq ⟨rfl, ⟨rfl, ⟨rfl, ⟨rfl, ⟨rfl, ⟨rfl, ⟨rfl, ⟨rfl, ⟨rfl, ⟨rfl, trivial⟩⟩⟩⟩⟩⟩⟩⟩⟩⟩, hh⟩
                · refine .yv 142 rfl (congrArg Value.bool hb_13) rfl (v_move (v := reg (t130.c : Bool)) rfl) rfl ?_
                  refine .yv 142 rfl (congrArg Value.bool hb_13) rfl (v_move (v := reg (t130.c : Bool)) rfl) rfl ?_
                  refine ifb_cases hh (fun hb_14 hh => ?_) (fun hb_14 hh => ?_)
                  · refine .yv 144 rfl (congrArg Value.bool hb_14) rfl (v_move (v := reg (t130.b : Int)) rfl) rfl ?_
                    refine .yv 144 rfl (congrArg Value.bool hb_14) rfl (v_move (v := reg (t137 : Int)) rfl) rfl ?_
                    refine .yv 144 rfl (congrArg Value.bool hb_14) rfl (v_ineq rfl rfl) rfl ?_
                    refine .yv 144 rfl (congrArg Value.bool hb_14) rfl (v_move (v := reg ((t130.b != t137) : Bool)) rfl) rfl ?_
                    refine ifb_cases hh (fun hb_15 hh => ?_) (fun hb_15 hh => ?_)
                    · refine .no 148 rfl (congrArg Value.bool hb_15) rfl rfl ?_
                      refine .no 148 rfl (congrArg Value.bool hb_15) rfl rfl ?_
                      refine .no 148 rfl (congrArg Value.bool hb_15) rfl rfl ?_
                      refine .yv 144 rfl (congrArg Value.bool hb_14) rfl (v_pickT (v := reg (true : Bool)) rfl hb_15 rfl) rfl ?_
                      refine .yv 144 rfl (congrArg Value.bool hb_14) rfl (v_move (v := reg (true : Bool)) rfl) rfl ?_
                      refine .no 153 rfl rfl rfl rfl ?_
                      refine .no 153 rfl rfl rfl rfl ?_
                      refine .no 153 rfl rfl rfl rfl ?_
                      refine .no 153 rfl rfl rfl rfl ?_
                      refine .no 153 rfl rfl rfl rfl ?_
                      refine .no 153 rfl rfl rfl rfl ?_
                      refine .no 153 rfl rfl rfl rfl ?_
                      refine .no 153 rfl rfl rfl rfl ?_
                      refine .yv 144 rfl (congrArg Value.bool hb_14) rfl (v_pickT (v := reg (true : Bool)) rfl rfl rfl) rfl ?_
                      refine .yv 142 rfl (congrArg Value.bool hb_13) rfl (v_pickT (v := reg (true : Bool)) rfl hb_14 rfl) rfl ?_
                      refine .val (v_pickF (v := reg (true : Bool)) rfl hb_13 rfl) rfl ?_
                      refine .val (v_move (v := reg (true : Bool)) rfl) rfl ?_
                      refine .no 165 rfl rfl rfl rfl ?_
                      refine .no 165 rfl rfl rfl rfl ?_
                      refine .no 165 rfl rfl rfl rfl ?_
                      refine .nu 168 rfl rfl rfl rfl ?_
                      refine .nu 168 rfl rfl rfl rfl ?_
                      refine .nu 168 rfl rfl rfl rfl ?_
                      refine .nu 171 rfl rfl rfl rfl ?_
                      refine .nu 171 rfl rfl rfl rfl ?_
                      refine .nu 171 rfl rfl rfl rfl ?_
                      refine .nu 168 rfl rfl rfl rfl ?_
                      refine .no 165 rfl rfl rfl rfl ?_
                      refine .val (v_pickT (v := reg (true : Bool)) rfl rfl rfl) rfl ?_
                      refine .nil ?_
                      exact QN.thenJ ⟨_, true, setl_eq ⟨rfl, ⟨rfl, ⟨rfl, ⟨rfl, ⟨rfl, ⟨rfl, ⟨rfl, ⟨rfl, ⟨rfl, ⟨rfl, trivial⟩⟩⟩⟩⟩⟩⟩⟩⟩⟩, hh⟩
                    · obtain ⟨t149, ⟨xt149, hxt149, hgt149⟩, hh⟩ := hh
                      refine .yv 148 rfl (congrArg Value.bool hb_15) rfl (v_ldA (p := e) 0 ag_24 rfl hxt149 hgt149 get_24_all (fun _ => (arr_len (n := 32) _)) (fun _ => rfl)) rfl ?_
                      refine .yv 148 rfl (congrArg Value.bool hb_15) rfl (v_buildAT (arrOf [0, 0, 0, 0, 0, 0, 0, 0, 0, 0, 0, 0, 0, 0, 0, 0, 0, 0, 0, 0, 0, 0, 0, 0, 0, 0, 0, 0, 0, 0, 0, 0] : Arr 32 UInt8) zo_24 ar_24 rfl rfl rfl) rfl ?_
                      refine .yv 148 rfl (congrArg Value.bool hb_15) rfl (v_eq_arr8 bt_24 rfl rfl) rfl ?_
                      refine .yv 144 rfl (congrArg Value.bool hb_14) rfl (v_pickF (v := reg ((decide (t149 = (arrOf [0, 0, 0, 0, 0, 0, 0, 0, 0, 0, 0, 0, 0, 0, 0, 0, 0, 0, 0, 0, 0, 0, 0, 0, 0, 0, 0, 0, 0, 0, 0, 0] : Arr 32 UInt8))) : Bool)) rfl hb_15 rfl) rfl ?_
                      refine .yv 144 rfl (congrArg Value.bool hb_14) rfl (v_move (v := reg ((decide (t149 = (arrOf [0, 0, 0, 0, 0, 0, 0, 0, 0, 0, 0, 0, 0, 0, 0, 0, 0, 0, 0, 0, 0, 0, 0, 0, 0, 0, 0, 0, 0, 0, 0, 0] : Arr 32 UInt8))) : Bool)) rfl) rfl ?_
                      refine ifb_cases hh (fun hb_16 hh => ?_) (fun hb_16 hh => ?_)
                      · refine .no 153 rfl (congrArg Value.bool hb_16) rfl rfl ?_
                        refine .no 153 rfl (congrArg Value.bool hb_16) rfl rfl ?_
                        refine .no 153 rfl (congrArg Value.bool hb_16) rfl rfl ?_
                        refine .no 153 rfl (congrArg Value.bool hb_16) rfl rfl ?_
                        refine .no 153 rfl (congrArg Value.bool hb_16) rfl rfl ?_
                        refine .no 153 rfl (congrArg Value.bool hb_16) rfl rfl ?_
                        refine .no 153 rfl (congrArg Value.bool hb_16) rfl rfl ?_
                        refine .no 153 rfl (congrArg Value.bool hb_16) rfl rfl ?_
                        refine .yv 144 rfl (congrArg Value.bool hb_14) rfl (v_pickT (v := reg (true : Bool)) rfl hb_16 rfl) rfl ?_
                        refine .yv 142 rfl (congrArg Value.bool hb_13) rfl (v_pickT (v := reg (true : Bool)) rfl hb_14 rfl) rfl ?_
                        refine .val (v_pickF (v := reg (true : Bool)) rfl hb_13 rfl) rfl ?_
                        refine .val (v_move (v := reg (true : Bool)) rfl) rfl ?_
                        refine .no 165 rfl rfl rfl rfl ?_
                        refine .no 165 rfl rfl rfl rfl ?_
                        refine .no 165 rfl rfl rfl rfl ?_
                        refine .nu 168 rfl rfl rfl rfl ?_
                        refine .nu 168 rfl rfl rfl rfl ?_
                        refine .nu 168 rfl rfl rfl rfl ?_
                        refine .nu 171 rfl rfl rfl rfl ?_
                        refine .nu 171 rfl rfl rfl rfl ?_
                        refine .nu 171 rfl rfl rfl rfl ?_
                        refine .nu 168 rfl rfl rfl rfl ?_
                        refine .no 165 rfl rfl rfl rfl ?_
                        refine .val (v_pickT (v := reg (true : Bool)) rfl rfl rfl) rfl ?_
                        refine .nil ?_
                        exact QN.thenJ ⟨_, true, setl_eq ⟨rfl, ⟨rfl, ⟨rfl, ⟨rfl, ⟨rfl, ⟨rfl, ⟨rfl, ⟨rfl, ⟨rfl, ⟨rfl, trivial⟩⟩⟩⟩⟩⟩⟩⟩⟩⟩, hh⟩
                      · refine .yv 153 rfl (congrArg Value.bool hb_16) rfl (v_move (v := .pointer (some t39)) rfl) rfl ?_
                        refine .yv 153 rfl (congrArg Value.bool hb_16) rfl (v_move (v := reg (kind : Int)) rfl) rfl ?_
                        refine .yv 153 rfl (congrArg Value.bool hb_16) rfl (v_move (v := reg (t130.b : Int)) rfl) rfl ?_
                        obtain ⟨t157, ⟨xt157, hxt157, hgt157⟩, hh⟩ := hh
                        refine .yv 153 rfl (congrArg Value.bool hb_16) rfl (v_ldA (p := e) 0 ag_24 rfl hxt157 hgt157 get_24_all (fun _ => (arr_len (n := 32) _)) (fun _ => rfl)) rfl ?_
                        refine .ye 153 rfl (congrArg Value.bool hb_16) rfl (e_callP fn_15 rfl rfl hh ?_)
                        intro h t158 hh
                        refine .yv 153 rfl (congrArg Value.bool hb_16) rfl (v_len_sl (sl_22).1 rfl) rfl ?_
                        refine .yv 153 rfl (congrArg Value.bool hb_16) rfl (v_move (v := reg (quorum : Int)) rfl) rfl ?_
                        refine .yv 153 rfl (congrArg Value.bool hb_16) rfl (v_ilss rfl rfl) rfl ?_
                        refine .yv 144 rfl (congrArg Value.bool hb_14) rfl (v_pickF (v := reg ((decide ((t158.len : Int) < quorum)) : Bool)) rfl hb_16 rfl) rfl ?_
                        refine .yv 142 rfl (congrArg Value.bool hb_13) rfl (v_pickT (v := reg ((decide ((t158.len : Int) < quorum)) : Bool)) rfl hb_14 rfl) rfl ?_
                        refine .val (v_pickF (v := reg ((decide ((t158.len : Int) < quorum)) : Bool)) rfl hb_13 rfl) rfl ?_
                        refine .val (v_move (v := reg ((decide ((t158.len : Int) < quorum)) : Bool)) rfl) rfl ?_
                        refine ifb_cases hh (fun hb_17 hh => ?_) (fun hb_17 hh => ?_)
                        · refine .no 165 rfl (congrArg Value.bool hb_17) rfl rfl ?_
                          refine .no 165 rfl (congrArg Value.bool hb_17) rfl rfl ?_
                          refine .no 165 rfl (congrArg Value.bool hb_17) rfl rfl ?_
                          refine .nu 168 rfl rfl rfl rfl ?_
                          refine .nu 168 rfl rfl rfl rfl ?_
                          refine .nu 168 rfl rfl rfl rfl ?_
                          refine .nu 171 rfl rfl rfl rfl ?_
                          refine .nu 171 rfl rfl rfl rfl ?_
                          refine .nu 171 rfl rfl rfl rfl ?_
                          refine .nu 168 rfl rfl rfl rfl ?_
                          refine .no 165 rfl (congrArg Value.bool hb_17) rfl rfl ?_
                          refine .val (v_pickT (v := reg (true : Bool)) rfl hb_17 rfl) rfl ?_
                          refine .nil ?_
                          exact QN.thenJ ⟨_, true, setl_eq ⟨rfl, ⟨rfl, ⟨rfl, ⟨rfl, ⟨rfl, ⟨rfl, ⟨rfl, ⟨rfl, ⟨rfl, ⟨rfl, trivial⟩⟩⟩⟩⟩⟩⟩⟩⟩⟩, hh⟩
                        · refine .yv 165 rfl (congrArg Value.bool hb_17) rfl (v_move (v := reg (t130.c : Bool)) rfl) rfl ?_
                          refine .yv 165 rfl (congrArg Value.bool hb_17) rfl (v_not rfl) rfl ?_
                          refine .yv 165 rfl (congrArg Value.bool hb_17) rfl (v_move (v := reg ((!t130.c) : Bool)) rfl) rfl ?_
                          refine ifb_cases hh (fun hb_18 hh => ?_) (fun hb_18 hh => ?_)
                          · refine .yv 168 rfl (congrArg Value.bool hb_18) rfl (v_move (v := reg (t130.b : Int)) rfl) rfl ?_
                            refine .yv 168 rfl (congrArg Value.bool hb_18) rfl (v_ineq rfl rfl) rfl ?_
                            refine .yv 168 rfl (congrArg Value.bool hb_18) rfl (v_move (v := reg ((t130.b != (0 : Int)) : Bool)) rfl) rfl ?_
                            refine ifb_cases hh (fun hb_19 hh => ?_) (fun hb_19 hh => ?_)
                            · refine .no 171 rfl (congrArg Value.bool hb_19) rfl rfl ?_
                              refine .no 171 rfl (congrArg Value.bool hb_19) rfl rfl ?_
                              refine .no 171 rfl (congrArg Value.bool hb_19) rfl rfl ?_
                              refine .yv 168 rfl (congrArg Value.bool hb_18) rfl (v_pickT (v := reg (true : Bool)) rfl hb_19 rfl) rfl ?_
                              refine .yv 165 rfl (congrArg Value.bool hb_17) rfl (v_pickT (v := reg (true : Bool)) rfl hb_18 rfl) rfl ?_
                              refine .val (v_pickF (v := reg (true : Bool)) rfl hb_17 rfl) rfl ?_
                              refine .nil ?_
                              exact QN.thenJ ⟨_, true, setl_eq ⟨rfl, ⟨rfl, ⟨rfl, ⟨rfl, ⟨rfl, ⟨rfl, ⟨rfl, ⟨rfl, ⟨rfl, ⟨rfl, trivial⟩⟩⟩⟩⟩⟩⟩⟩⟩⟩, hh⟩
                            · obtain ⟨t172, ⟨xt172, hxt172, hgt172⟩, hh⟩ := hh
                              refine .yv 171 rfl (congrArg Value.bool hb_19) rfl (v_ldA (p := e) 0 ag_24 rfl hxt172 hgt172 get_24_all (fun _ => (arr_len (n := 32) _)) (fun _ => rfl)) rfl ?_
                              refine .yv 171 rfl (congrArg Value.bool hb_19) rfl (v_buildAT (arrOf [0, 0, 0, 0, 0, 0, 0, 0, 0, 0, 0, 0, 0, 0, 0, 0, 0, 0, 0, 0, 0, 0, 0, 0, 0, 0, 0, 0, 0, 0, 0, 0] : Arr 32 UInt8) zo_24 ar_24 rfl rfl rfl) rfl ?_
                              refine .yv 171 rfl (congrArg Value.bool hb_19) rfl (v_ne_arr8 bt_24 rfl rfl) rfl ?_
                              refine .yv 168 rfl (congrArg Value.bool hb_18) rfl (v_pickF (v := reg ((!decide (t172 = (arrOf [0, 0, 0, 0, 0, 0, 0, 0, 0, 0, 0, 0, 0, 0, 0, 0, 0, 0, 0, 0, 0, 0, 0, 0, 0, 0, 0, 0, 0, 0, 0, 0] : Arr 32 UInt8))) : Bool)) rfl hb_19 rfl) rfl ?_
                              refine .yv 165 rfl (congrArg Value.bool hb_17) rfl (v_pickT (v := reg ((!decide (t172 = (arrOf [0, 0, 0, 0, 0, 0, 0, 0, 0, 0, 0, 0, 0, 0, 0, 0, 0, 0, 0, 0, 0, 0, 0, 0, 0, 0, 0, 0, 0, 0, 0, 0] : Arr 32 UInt8))) : Bool)) rfl hb_18 rfl) rfl ?_
                              refine .val (v_pickF (v := reg ((!decide (t172 = (arrOf [0, 0, 0, 0, 0, 0, 0, 0, 0, 0, 0, 0, 0, 0, 0, 0, 0, 0, 0, 0, 0, 0, 0, 0, 0, 0, 0, 0, 0, 0, 0, 0] : Arr 32 UInt8))) : Bool)) rfl hb_17 rfl) rfl ?_
                              refine .nil ?_
                              exact QN.thenJ ⟨_, (!decide (t172 = (arrOf [0, 0, 0, 0, 0, 0, 0, 0, 0, 0, 0, 0, 0, 0, 0, 0, 0, 0, 0, 0, 0, 0, 0, 0, 0, 0, 0, 0, 0, 0, 0, 0] : Arr 32 UInt8))), setl_eq ⟨rfl, ⟨rfl, ⟨rfl, ⟨rfl, ⟨rfl, ⟨rfl, ⟨rfl, ⟨rfl, ⟨rfl, ⟨rfl, trivial⟩⟩⟩⟩⟩⟩⟩⟩⟩⟩, hh⟩
                          · refine .no 168 rfl (congrArg Value.bool hb_18) rfl rfl ?_
                            refine .no 168 rfl (congrArg Value.bool hb_18) rfl rfl ?_
                            refine .no 168 rfl (congrArg Value.bool hb_18) rfl rfl ?_
                            refine .nu 171 rfl rfl rfl rfl ?_
                            refine .nu 171 rfl rfl rfl rfl ?_
                            refine .nu 171 rfl rfl rfl rfl ?_
                            refine .no 168 rfl (congrArg Value.bool hb_18) rfl rfl ?_
                            refine .yv 165 rfl (congrArg Value.bool hb_17) rfl (v_pickF (v := reg (false : Bool)) rfl hb_18 rfl) rfl ?_
                            refine .val (v_pickF (v := reg (false : Bool)) rfl hb_17 rfl) rfl ?_
                            refine .nil ?_
                            exact QN.thenJ ⟨_, false, setl_eq ⟨rfl, ⟨rfl, ⟨rfl, ⟨rfl, ⟨rfl, ⟨rfl, ⟨rfl, ⟨rfl, ⟨rfl, ⟨rfl, trivial⟩⟩⟩⟩⟩⟩⟩⟩⟩⟩, hh⟩
                  · refine .no 144 rfl (congrArg Value.bool hb_14) rfl rfl ?_
                    refine .no 144 rfl (congrArg Value.bool hb_14) rfl rfl ?_
                    refine .no 144 rfl (congrArg Value.bool hb_14) rfl rfl ?_
                    refine .no 144 rfl (congrArg Value.bool hb_14) rfl rfl ?_
                    refine .nu 148 rfl rfl rfl rfl ?_
                    refine .nu 148 rfl rfl rfl rfl ?_
                    refine .nu 148 rfl rfl rfl rfl ?_
                    refine .no 144 rfl (congrArg Value.bool hb_14) rfl rfl ?_
                    refine .no 144 rfl (congrArg Value.bool hb_14) rfl rfl ?_
                    refine .nu 153 rfl rfl rfl rfl ?_
                    refine .nu 153 rfl rfl rfl rfl ?_
                    refine .nu 153 rfl rfl rfl rfl ?_
                    refine .nu 153 rfl rfl rfl rfl ?_
                    refine .nu 153 rfl rfl rfl rfl ?_
                    refine .nu 153 rfl rfl rfl rfl ?_
                    refine .nu 153 rfl rfl rfl rfl ?_
                    refine .nu 153 rfl rfl rfl rfl ?_
                    refine .no 144 rfl (congrArg Value.bool hb_14) rfl rfl ?_
                    refine .yv 142 rfl (congrArg Value.bool hb_13) rfl (v_pickF (v := reg (false : Bool)) rfl hb_14 rfl) rfl ?_
                    refine .val (v_pickF (v := reg (false : Bool)) rfl hb_13 rfl) rfl ?_
                    refine .val (v_move (v := reg (false : Bool)) rfl) rfl ?_
                    refine .yv 165 rfl rfl rfl (v_move (v := reg (t130.c : Bool)) rfl) rfl ?_
                    refine .yv 165 rfl rfl rfl (v_not rfl) rfl ?_
                    refine .yv 165 rfl rfl rfl (v_move (v := reg ((!t130.c) : Bool)) rfl) rfl ?_
                    refine ifb_cases hh (fun hb_20 hh => ?_) (fun hb_20 hh => ?_)
                    · refine .yv 168 rfl (congrArg Value.bool hb_20) rfl (v_move (v := reg (t130.b : Int)) rfl) rfl ?_
                      refine .yv 168 rfl (congrArg Value.bool hb_20) rfl (v_ineq rfl rfl) rfl ?_
                      refine .yv 168 rfl (congrArg Value.bool hb_20) rfl (v_move (v := reg ((t130.b != (0 : Int)) : Bool)) rfl) rfl ?_
                      refine ifb_cases hh (fun hb_21 hh => ?_) (fun hb_21 hh => ?_)
                      · refine .no 171 rfl (congrArg Value.bool hb_21) rfl rfl ?_
                        refine .no 171 rfl (congrArg Value.bool hb_21) rfl rfl ?_
                        refine .no 171 rfl (congrArg Value.bool hb_21) rfl rfl ?_
                        refine .yv 168 rfl (congrArg Value.bool hb_20) rfl (v_pickT (v := reg (true : Bool)) rfl hb_21 rfl) rfl ?_
                        refine .yv 165 rfl rfl rfl (v_pickT (v := reg (true : Bool)) rfl hb_20 rfl) rfl ?_
                        refine .val (v_pickF (v := reg (true : Bool)) rfl rfl rfl) rfl ?_
                        refine .nil ?_
                        exact QN.thenJ ⟨_, true, setl_eq ⟨rfl, ⟨rfl, ⟨rfl, ⟨rfl, ⟨rfl, ⟨rfl, ⟨rfl, ⟨rfl, ⟨rfl, ⟨rfl, trivial⟩⟩⟩⟩⟩⟩⟩⟩⟩⟩, hh⟩
                      · obtain ⟨t172_1, ⟨xt172_1, hxt172_1, hgt172_1⟩, hh⟩ := hh
                        refine .yv 171 rfl (congrArg Value.bool hb_21) rfl (v_ldA (p := e) 0 ag_24 rfl hxt172_1 hgt172_1 get_24_all (fun _ => (arr_len (n := 32) _)) (fun _ => rfl)) rfl ?_
                        refine .yv 171 rfl (congrArg Value.bool hb_21) rfl (v_buildAT (arrOf [0, 0, 0, 0, 0, 0, 0, 0, 0, 0, 0, 0, 0, 0, 0, 0, 0, 0, 0, 0, 0, 0, 0, 0, 0, 0, 0, 0, 0, 0, 0, 0] : Arr 32 UInt8) zo_24 ar_24 rfl rfl rfl) rfl ?_
                        refine .yv 171 rfl (congrArg Value.bool hb_21) rfl (v_ne_arr8 bt_24 rfl rfl) rfl ?_
                        refine .yv 168 rfl (congrArg Value.bool hb_20) rfl (v_pickF (v := reg ((!decide (t172_1 = (arrOf [0, 0, 0, 0, 0, 0, 0, 0, 0, 0, 0, 0, 0, 0, 0, 0, 0, 0, 0, 0, 0, 0, 0, 0, 0, 0, 0, 0, 0, 0, 0, 0] : Arr 32 UInt8))) : Bool)) rfl hb_21 rfl) rfl ?_
                        refine .yv 165 rfl rfl rfl (v_pickT (v := reg ((!decide (t172_1 = (arrOf [0, 0, 0, 0, 0, 0, 0, 0, 0, 0, 0, 0, 0, 0, 0, 0, 0, 0, 0, 0, 0, 0, 0, 0, 0, 0, 0, 0, 0, 0, 0, 0] : Arr 32 UInt8))) : Bool)) rfl hb_20 rfl) rfl ?_
                        refine .val (v_pickF (v := reg ((!decide (t172_1 = (arrOf [0, 0, 0, 0, 0, 0, 0, 0, 0, 0, 0, 0, 0, 0, 0, 0, 0, 0, 0, 0, 0, 0, 0, 0, 0, 0, 0, 0, 0, 0, 0, 0] : Arr 32 UInt8))) : Bool)) rfl rfl rfl) rfl ?_
                        refine .nil ?_
                        exact QN.thenJ ⟨_, (!decide (t172_1 = (arrOf [0, 0, 0, 0, 0, 0, 0, 0, 0, 0, 0, 0, 0, 0, 0, 0, 0, 0, 0, 0, 0, 0, 0, 0, 0, 0, 0, 0, 0, 0, 0, 0] : Arr 32 UInt8))), setl_eq ⟨rfl, ⟨rfl, ⟨rfl, ⟨rfl, ⟨rfl, ⟨rfl, ⟨rfl, ⟨rfl, ⟨rfl, ⟨rfl, trivial⟩⟩⟩⟩⟩⟩⟩⟩⟩⟩, hh⟩
                    · refine .no 168 rfl (congrArg Value.bool hb_20) rfl rfl ?_
                      refine .no 168 rfl (congrArg Value.bool hb_20) rfl rfl ?_
                      refine .no 168 rfl (congrArg Value.bool hb_20) rfl rfl ?_
                      refine .nu 171 rfl rfl rfl rfl ?_
                      refine .nu 171 rfl rfl rfl rfl ?_
                      refine .nu 171 rfl rfl rfl rfl ?_
                      refine .no 168 rfl (congrArg Value.bool hb_20) rfl rfl ?_
                      refine .yv 165 rfl rfl rfl (v_pickF (v := reg (false : Bool)) rfl hb_20 rfl) rfl ?_
                      refine .val (v_pickF (v := reg (false : Bool)) rfl rfl rfl) rfl ?_
                      refine .nil ?_
                      exact QN.thenJ ⟨_, false, setl_eq ⟨rfl, ⟨rfl, ⟨rfl, ⟨rfl, ⟨rfl, ⟨rfl, ⟨rfl, ⟨rfl, ⟨rfl, ⟨rfl, trivial⟩⟩⟩⟩⟩⟩⟩⟩⟩⟩, hh⟩
              · rintro ρ h ⟨ρ', t177, rfl, hh⟩
                unfold law13_VoteBoxes.j5 at hh
                refine CW.cond t177 rfl (fun hb_22 => ?_) (fun hb_22 => ?_)
                · have hh := hh.1 hb_22
                  refine CW.seq ?_
                  refine CW.region ?_
                  refine .val (v_assign (v := reg (false : Bool)) rfl) rfl ?_
                  refine .nil ?_
                  refine QN.then_ ?_
                  refine CW.ret ?_
                  refine QN.thenRet ?_
                  exact ret1 rfl rfl ⟨(false : Bool), rfl, hh⟩
                · have hh := hh.2 hb_22
                  refine CW.skip ?_
                  refine QN.then_ ?_
                  refine CW.join (fun ρ h => ∃ (ρ' : Env), ρ = setl ρ' [(1, reg (kind : Int)), (2, reg (round : Int)), (4, reg (quorum : Int)), (8, .pointer (some d_1))] ∧ (law13_VoteBoxes.j6 k) kind round quorum d_1 h) ?_ ?_
                  · refine CW.seq ?_
                    refine CW.region ?_
                    refine .val (v_move (v := reg (list : Sl)) rfl) rfl ?_
                    refine .val (v_len_sl (sl_22).1 rfl) rfl ?_
                    refine .val (v_move (v := reg ((0 : Int) : Int)) rfl) rfl ?_
                    refine .nil ?_
                    refine QN.then_ ?_
                    refine CW.block ?_
                    unfold law13_VoteBoxes.l3 at hh
                    refine CW.loop (fun (σ0 : Int) ρ => match σ0 with | t180 => ∃ ρ' : Env, ρ = setl ρ' [(1, reg (kind : Int)), (2, reg (round : Int)), (4, reg (quorum : Int)), (8, .pointer (some d_1)), (12, .pointer (some t39)), (18, .pointer (some e)), (19, reg (t130.b : Int)), (20, reg (t130.c : Bool)), (178, reg (list : Sl)), (179, reg ((list.len : Int) : Int)), (180, reg (t180 : Int))]) hh ⟨_, setl_eq ⟨rfl, ⟨rfl, ⟨rfl, ⟨rfl, ⟨rfl, ⟨rfl, ⟨rfl, ⟨rfl, ⟨rfl, ⟨rfl, ⟨rfl, trivial⟩⟩⟩⟩⟩⟩⟩⟩⟩⟩⟩⟩ ?_
                    clear hh
                    rintro s3 t180 ρ h ⟨ρ', rfl⟩ hh
                    refine CW.seq ?_
                    refine CW.region ?_
                    refine .val (v_ilss rfl rfl) rfl ?_
                    refine .nil ?_
                    refine QN.then_ ?_
                    refine CW.seq ?_
                    refine CW.cond (decide (t180 < (list.len : Int))) rfl (fun hb_23 => ?_) (fun hb_23 => ?_)
                    · have hh := hh.1 hb_23
                      refine CW.skip ?_
                      refine QN.then_ ?_
                      refine CW.seq ?_
                      refine CW.block ?_
                      refine CW.seq ?_
                      refine CW.region ?_
                      obtain ⟨t182, ht182, hh⟩ := hh
                      refine .val (v_idx_slP sl_22 rfl rfl ht182.1 ht182.2.1 ht182.2.2) rfl ?_
                      obtain ⟨t183, ⟨xt183, hxt183, hgt183⟩, hh⟩ := hh
                      refine .val (v_ldA (p := t182) 0 ag_37 rfl hxt183 hgt183 get_37_all (fun _ => (len_api_Vote _)) (fun _ => rfl)) rfl ?_
                      refine box_elim hh (fun v_2 hv_2 hh => ?_)
                      refine .e (e_allocP hv_2 zo_37 rfl ?_)
                      obtain ⟨xw_2, hxw_2, hwxw_2, hh⟩ := hh
                      refine .e (e_storeN (p := v_2) (nv := enc (t183 : api_Vote)) 0 rfl rfl rfl sz_37 (one_api_Vote _) hxw_2 hwxw_2 (len_api_Vote _) (len_api_Vote _) rfl (set_37_all xw_2 (t183 : api_Vote)) ?_)
                      refine .nil ?_
                      refine QN.then_ ?_
                      refine CW.join (fun ρ h => ∃ (ρ' : Env) (t219 : Bool), ρ = setl ρ' [(1, reg (kind : Int)), (2, reg (round : Int)), (4, reg (quorum : Int)), (8, .pointer (some d_1)), (12, .pointer (some t39)), (18, .pointer (some e)), (19, reg (t130.b : Int)), (20, reg (t130.c : Bool)), (178, reg (list : Sl)), (179, reg ((list.len : Int) : Int)), (180, reg (t180 : Int)), (219, reg (t219 : Bool))] ∧ (law13_VoteBoxes.j7 k s3) kind round quorum d_1 t39 e t130.b t130.c list (list.len : Int) t180 t219 h) ?_ ?_
                      · refine CW.region ?_
                        refine .val (v_move (v := reg (t130.c : Bool)) rfl) rfl ?_
                        refine .val (v_move (v := reg (t130.c : Bool)) rfl) rfl ?_
                        refine .tv 185 rfl rfl rfl (fun hb => v_fieldAddr fl_37_3 rfl) rfl ?_
                        obtain ⟨t187, ⟨xt187, hxt187, hgt187⟩, hh⟩ := hh
                        refine .tv 185 rfl rfl rfl (fun hb => v_ld1 (p := v_2) 3 na_3 (gt hb) hxt187 hgt187 get_37_Round) rfl ?_
                        refine .tv 185 rfl rfl rfl (fun hb => v_move (v := reg (t130.b : Int)) rfl) rfl ?_
                        refine .tv 185 rfl rfl rfl (fun hb => v_ieql (gt hb) (gt hb)) rfl ?_
                        refine .val (v_pick_and rfl (fun hb => gt hb) rfl) rfl ?_
                        refine .val (v_move (v := reg ((t130.c && (t187 == t130.b)) : Bool)) rfl) rfl ?_
                        refine .tv 191 rfl rfl rfl (fun hb => v_fieldAddr fl_37_0 rfl) rfl ?_
                        obtain ⟨t193, ⟨xt193, hxt193, hgt193⟩, hh⟩ := hh
                        refine .tv 191 rfl rfl rfl (fun hb => v_ld1 (p := v_2) 0 na_3 (gt hb) hxt193 hgt193 get_37_Kind) rfl ?_
                        refine .tv 191 rfl rfl rfl (fun hb => v_move (v := reg (kind : Int)) rfl) rfl ?_
                        refine .tv 191 rfl rfl rfl (fun hb => v_ieql (gt hb) (gt hb)) rfl ?_
                        refine .val (v_pick_and rfl (fun hb => gt hb) rfl) rfl ?_
                        refine .val (v_move (v := reg (((t130.c && (t187 == t130.b)) && (t193 == kind)) : Bool)) rfl) rfl ?_
                        refine ifb_cases hh (fun hb_24 hh => ?_) (fun hb_24 hh => ?_)
                        · refine .yv 197 rfl (congrArg Value.bool hb_24) rfl (v_fieldAddr fl_37_4 rfl) rfl ?_
                          obtain ⟨t199, ⟨xt199, hxt199, hgt199⟩, hh⟩ := hh
                          refine .yv 197 rfl (congrArg Value.bool hb_24) rfl (v_ldA (p := v_2) 4 ag_24 rfl hxt199 hgt199 get_37_Digest (fun _ => (arr_len (n := 32) _)) (fun _ => rfl)) rfl ?_
                          refine .yv 197 rfl (congrArg Value.bool hb_24) rfl (v_buildAT (arrOf [0, 0, 0, 0, 0, 0, 0, 0, 0, 0, 0, 0, 0, 0, 0, 0, 0, 0, 0, 0, 0, 0, 0, 0, 0, 0, 0, 0, 0, 0, 0, 0] : Arr 32 UInt8) zo_24 ar_24 rfl rfl rfl) rfl ?_
                          refine .yv 197 rfl (congrArg Value.bool hb_24) rfl (v_ne_arr8 bt_24 rfl rfl) rfl ?_
                          refine .val (v_pickT (v := reg ((!decide (t199 = (arrOf [0, 0, 0, 0, 0, 0, 0, 0, 0, 0, 0, 0, 0, 0, 0, 0, 0, 0, 0, 0, 0, 0, 0, 0, 0, 0, 0, 0, 0, 0, 0, 0] : Arr 32 UInt8))) : Bool)) rfl hb_24 rfl) rfl ?_
                          refine .val (v_move (v := reg ((!decide (t199 = (arrOf [0, 0, 0, 0, 0, 0, 0, 0, 0, 0, 0, 0, 0, 0, 0, 0, 0, 0, 0, 0, 0, 0, 0, 0, 0, 0, 0, 0, 0, 0, 0, 0] : Arr 32 UInt8))) : Bool)) rfl) rfl ?_
                          refine ifb_cases hh (fun hb_25 hh => ?_) (fun hb_25 hh => ?_)
                          · refine .yv 203 rfl (congrArg Value.bool hb_25) rfl (v_fieldAddr fl_37_4 rfl) rfl ?_
                            obtain ⟨t205, ⟨xt205, hxt205, hgt205⟩, hh⟩ := hh
                            refine .yv 203 rfl (congrArg Value.bool hb_25) rfl (v_ldA (p := v_2) 4 ag_24 rfl hxt205 hgt205 get_37_Digest (fun _ => (arr_len (n := 32) _)) (fun _ => rfl)) rfl ?_
                            obtain ⟨t206, ⟨xt206, hxt206, hgt206⟩, hh⟩ := hh
                            refine .yv 203 rfl (congrArg Value.bool hb_25) rfl (v_ldA (p := e) 0 ag_24 rfl hxt206 hgt206 get_24_all (fun _ => (arr_len (n := 32) _)) (fun _ => rfl)) rfl ?_
                            refine .ye 203 rfl (congrArg Value.bool hb_25) rfl (e_callP fn_24 rfl rfl hh ?_)
                            intro h t207 hh
                            refine .val (v_pickT (v := reg (t207 : Bool)) rfl hb_25 rfl) rfl ?_
                            refine .val (v_move (v := reg (t207 : Bool)) rfl) rfl ?_
                            refine ifb_cases hh (fun hb_26 hh => ?_) (fun hb_26 hh => ?_)
                            · refine .yv 209 rfl (congrArg Value.bool hb_26) rfl (v_move (v := .pointer (some t39)) rfl) rfl ?_
                              refine .yv 209 rfl (congrArg Value.bool hb_26) rfl (v_move (v := reg (kind : Int)) rfl) rfl ?_
                              refine .yv 209 rfl (congrArg Value.bool hb_26) rfl (v_move (v := reg (t130.b : Int)) rfl) rfl ?_
                              refine .yv 209 rfl (congrArg Value.bool hb_26) rfl (v_fieldAddr fl_37_4 rfl) rfl ?_
                              obtain ⟨t214, ⟨xt214, hxt214, hgt214⟩, hh⟩ := hh
                              refine .yv 209 rfl (congrArg Value.bool hb_26) rfl (v_ldA (p := v_2) 4 ag_24 rfl hxt214 hgt214 get_37_Digest (fun _ => (arr_len (n := 32) _)) (fun _ => rfl)) rfl ?_
                              refine .ye 209 rfl (congrArg Value.bool hb_26) rfl (e_callP fn_15 rfl rfl hh ?_)
                              intro h t215 hh
                              refine .yv 209 rfl (congrArg Value.bool hb_26) rfl (v_len_sl (sl_22).1 rfl) rfl ?_
                              refine .yv 209 rfl (congrArg Value.bool hb_26) rfl (v_move (v := reg (quorum : Int)) rfl) rfl ?_
                              refine .yv 209 rfl (congrArg Value.bool hb_26) rfl (v_igeq rfl rfl) rfl ?_
                              refine .val (v_pickT (v := reg ((decide (quorum ≤ (t215.len : Int))) : Bool)) rfl hb_26 rfl) rfl ?_
                              refine .nil ?_
                              exact QN.thenJ ⟨_, (decide (quorum ≤ (t215.len : Int))), setl_eq ⟨rfl, ⟨rfl, ⟨rfl, ⟨rfl, ⟨rfl, ⟨rfl, ⟨rfl, ⟨rfl, ⟨rfl, ⟨rfl, ⟨rfl, ⟨rfl, trivial⟩⟩⟩⟩⟩⟩⟩⟩⟩⟩⟩⟩, hh⟩
                            · refine .no 209 rfl (congrArg Value.bool hb_26) rfl rfl ?_
                              refine .no 209 rfl (congrArg Value.bool hb_26) rfl rfl ?_
                              refine .no 209 rfl (congrArg Value.bool hb_26) rfl rfl ?_
                              refine .no 209 rfl (congrArg Value.bool hb_26) rfl rfl ?_
                              refine .no 209 rfl (congrArg Value.bool hb_26) rfl rfl ?_
                              refine .no 209 rfl (congrArg Value.bool hb_26) rfl rfl ?_
                              refine .no 209 rfl (congrArg Value.bool hb_26) rfl rfl ?_
                              refine .no 209 rfl (congrArg Value.bool hb_26) rfl rfl ?_
                              refine .no 209 rfl (congrArg Value.bool hb_26) rfl rfl ?_
                              refine .val (v_pickF (v := reg (false : Bool)) rfl hb_26 rfl) rfl ?_
                              refine .nil ?_
                              exact QN.thenJ ⟨_, false, setl_eq ⟨rfl, ⟨rfl, ⟨rfl, ⟨rfl, ⟨rfl, ⟨rfl, ⟨rfl, ⟨rfl, ⟨rfl, ⟨rfl, ⟨rfl, ⟨rfl, trivial⟩⟩⟩⟩⟩⟩⟩⟩⟩⟩⟩⟩, hh⟩
                          · refine .no 203 rfl (congrArg Value.bool hb_25) rfl rfl ?_
                            refine .no 203 rfl (congrArg Value.bool hb_25) rfl rfl ?_
                            refine .no 203 rfl (congrArg Value.bool hb_25) rfl rfl ?_
                            refine .no 203 rfl (congrArg Value.bool hb_25) rfl rfl ?_
                            refine .val (v_pickF (v := reg (false : Bool)) rfl hb_25 rfl) rfl ?_
                            refine .val (v_move (v := reg (false : Bool)) rfl) rfl ?_
                            refine .no 209 rfl rfl rfl rfl ?_
                            refine .no 209 rfl rfl rfl rfl ?_
                            refine .no 209 rfl rfl rfl rfl ?_
                            refine .no 209 rfl rfl rfl rfl ?_
                            refine .no 209 rfl rfl rfl rfl ?_
                            refine .no 209 rfl rfl rfl rfl ?_
                            refine .no 209 rfl rfl rfl rfl ?_
                            refine .no 209 rfl rfl rfl rfl ?_
                            refine .no 209 rfl rfl rfl rfl ?_
                            refine .val (v_pickF (v := reg (false : Bool)) rfl rfl rfl) rfl ?_
                            refine .nil ?_
                            exact QN.thenJ ⟨_, false, setl_eq ⟨rfl, ⟨rfl, ⟨rfl, ⟨rfl, ⟨rfl, ⟨rfl, ⟨rfl, ⟨rfl, ⟨rfl, ⟨rfl, ⟨rfl, ⟨rfl, trivial⟩⟩⟩⟩⟩⟩⟩⟩⟩⟩⟩⟩, hh⟩
                        · refine .no 197 rfl (congrArg Value.bool hb_24) rfl rfl ?_
                          refine .no 197 rfl (congrArg Value.bool hb_24) rfl rfl ?_
                          refine .no 197 rfl (congrArg Value.bool hb_24) rfl rfl ?_
                          refine .no 197 rfl (congrArg Value.bool hb_24) rfl rfl ?_
                          refine .val (v_pickF (v := reg (false : Bool)) rfl hb_24 rfl) rfl ?_
                          refine .val (v_move (v := reg (false : Bool)) rfl) rfl ?_
                          refine .no 203 rfl rfl rfl rfl ?_
                          refine .no 203 rfl rfl rfl rfl ?_
                          refine .no 203 rfl rfl rfl rfl ?_
                          refine .no 203 rfl rfl rfl rfl ?_
                          refine .val (v_pickF (v := reg (false : Bool)) rfl rfl rfl) rfl ?_
                          refine .val (v_move (v := reg (false : Bool)) rfl) rfl ?_
                          refine .no 209 rfl rfl rfl rfl ?_
                          refine .no 209 rfl rfl rfl rfl ?_
                          refine .no 209 rfl rfl rfl rfl ?_
                          refine .no 209 rfl rfl rfl rfl ?_
                          refine .no 209 rfl rfl rfl rfl ?_
                          refine .no 209 rfl rfl rfl rfl ?_
                          refine .no 209 rfl rfl rfl rfl ?_
                          refine .no 209 rfl rfl rfl rfl ?_
                          refine .no 209 rfl rfl rfl rfl ?_
                          refine .val (v_pickF (v := reg (false : Bool)) rfl rfl rfl) rfl ?_
                          refine .nil ?_
                          exact QN.thenJ ⟨_, false, setl_eq ⟨rfl, ⟨rfl, ⟨rfl, ⟨rfl, ⟨rfl, ⟨rfl, ⟨rfl, ⟨rfl, ⟨rfl, ⟨rfl, ⟨rfl, ⟨rfl, trivial⟩⟩⟩⟩⟩⟩⟩⟩⟩⟩⟩⟩, hh⟩
                      · rintro ρ h ⟨ρ', t219, rfl, hh⟩
                        unfold law13_VoteBoxes.j7 at hh
                        refine CW.cond t219 rfl (fun hb_27 => ?_) (fun hb_27 => ?_)
                        · have hh := hh.1 hb_27
                          refine CW.seq ?_
                          refine CW.region ?_
                          refine .val (v_assign (v := reg (false : Bool)) rfl) rfl ?_
                          refine .nil ?_
                          refine QN.then_ ?_
                          refine CW.ret ?_
                          refine QN.blockRet ?_
                          refine QN.thenRet ?_
                          refine QN.thenRet ?_
                          refine QN.blockRet ?_
                          refine QN.thenRet ?_
                          exact ret1 rfl rfl ⟨(false : Bool), rfl, hh⟩
                        · have hh := hh.2 hb_27
                          refine CW.skip ?_
                          refine QN.blockN ?_
                          refine QN.then_ ?_
                          refine CW.region ?_
                          refine .val (v_iadd rfl rfl) rfl ?_
                          refine .val (v_move (v := reg ((iadd t180 (1 : Int)) : Int)) rfl) rfl ?_
                          refine .nil ?_
                          exact QN.thenJ ⟨(iadd t180 (1 : Int)), ⟨_, setl_eq ⟨rfl, ⟨rfl, ⟨rfl, ⟨rfl, ⟨rfl, ⟨rfl, ⟨rfl, ⟨rfl, ⟨rfl, ⟨rfl, ⟨rfl, trivial⟩⟩⟩⟩⟩⟩⟩⟩⟩⟩⟩⟩, hh⟩
                    · have hh := hh.2 hb_23
                      refine CW.exit ?_
                      refine QN.thenExit ?_
                      refine QN.thenExit ?_
                      refine QN.blockExit ?_
                      exact QN.thenJ ⟨_, setl_eq ⟨rfl, ⟨rfl, ⟨rfl, ⟨rfl, trivial⟩⟩⟩⟩, hh⟩
                  · rintro ρ h ⟨ρ', rfl, hh⟩
                    unfold law13_VoteBoxes.j6 at hh
                    refine CW.seq ?_
                    refine CW.region ?_
                    refine .val (v_assign (v := reg ((none : Pt) : Pt)) rfl) rfl ?_
                    refine .nil ?_
                    refine QN.then_ ?_
                    refine CW.seq ?_
                    refine CW.region ?_
                    refine .val (v_move (v := reg ((none : Pt) : Pt)) rfl) rfl ?_
                    refine .val (v_move (v := reg (kind : Int)) rfl) rfl ?_
                    refine .val (v_move (v := reg (quorum : Int)) rfl) rfl ?_
                    refine .e (e_callP fn_22 rfl rfl hh ?_)
                    intro h t225 hh
                    refine .val (v_move (v := reg (t225 : T3 (Arr 32 UInt8) Int Bool)) rfl) rfl ?_
                    refine .val (v_extract (v := reg (t225.a : Arr 32 UInt8)) rfl rfl) rfl ?_
                    refine .val (v_extract (v := reg (t225.b : Int)) rfl rfl) rfl ?_
                    refine .val (v_extract (v := reg (t225.c : Bool)) rfl rfl) rfl ?_
                    refine box_elim hh (fun t25 ht25 hh => ?_)
                    refine .e (e_allocP ht25 zo_24 rfl ?_)
                    obtain ⟨xw_3, hxw_3, hwxw_3, hh⟩ := hh
                    refine .e (e_storeN (p := t25) (nv := enc (t225.a : Arr 32 UInt8)) 0 rfl rfl rfl sz_24 (one_arr (n := 32) (fun _ => rfl) _) hxw_3 hwxw_3 (arr_len (n := 32) _) (arr_len (n := 32) _) rfl (set_24_all xw_3 (t225.a : Arr 32 UInt8)) ?_)
                    refine .val (v_assign (v := reg (t225.b : Int)) rfl) rfl ?_
                    refine .val (v_assign (v := reg (t225.c : Bool)) rfl) rfl ?_
                    refine .nil ?_
                    refine QN.then_ ?_
                    refine CW.join (fun ρ h => ∃ (ρ' : Env) (t10 : Bool), ρ = setl ρ' [(10, reg (t10 : Bool))] ∧ (law13_VoteBoxes.j8 k) t10 h) ?_ ?_
                    · refine CW.region ?_
                      refine .val (v_move (v := reg (t225.c : Bool)) rfl) rfl ?_
                      refine .val (v_not rfl) rfl ?_
                      refine .val (v_move (v := reg ((!t225.c) : Bool)) rfl) rfl ?_
                      refine ifb_cases hh (fun hb_28 hh => ?_) (fun hb_28 hh => ?_)
                      · refine .yv 231 rfl (congrArg Value.bool hb_28) rfl (v_move (v := reg ((none : Pt) : Pt)) rfl) rfl ?_
                        refine .yv 231 rfl (congrArg Value.bool hb_28) rfl (v_buildT api_Vote.zero zo_37 pl_37 rfl (rfl) rfl) rfl ?_
                        refine .ye 231 rfl (congrArg Value.bool hb_28) rfl (e_callP fn_12 rfl rfl hh ?_)
                        intro h t234 hh
                        refine .yv 231 rfl (congrArg Value.bool hb_28) rfl (v_not rfl) rfl ?_
                        refine .val (v_pickT (v := reg ((!t234) : Bool)) rfl hb_28 rfl) rfl ?_
                        refine .val (v_move (v := reg ((!t234) : Bool)) rfl) rfl ?_
                        refine ifb_cases hh (fun hb_29 hh => ?_) (fun hb_29 hh => ?_)
                        · refine .yv 237 rfl (congrArg Value.bool hb_29) rfl (v_move (v := reg ((none : Pt) : Pt)) rfl) rfl ?_
                          refine .yv 237 rfl (congrArg Value.bool hb_29) rfl (v_move (v := reg (kind : Int)) rfl) rfl ?_
                          refine .yv 237 rfl (congrArg Value.bool hb_29) rfl (v_move (v := reg (round : Int)) rfl) rfl ?_
                          obtain ⟨t241, ⟨xt241, hxt241, hgt241⟩, hh⟩ := hh
                          refine .yv 237 rfl (congrArg Value.bool hb_29) rfl (v_ldA (p := d_1) 0 ag_24 rfl hxt241 hgt241 get_24_all (fun _ => (arr_len (n := 32) _)) (fun _ => rfl)) rfl ?_
                          refine .ye 237 rfl (congrArg Value.bool hb_29) rfl (e_callP fn_16 rfl rfl hh ?_)
                          intro h t242 hh
                          refine .yv 237 rfl (congrArg Value.bool hb_29) rfl (v_ieql rfl rfl) rfl ?_
                          refine .val (v_pickT (v := reg ((t242 == (0 : Int)) : Bool)) rfl hb_29 rfl) rfl ?_
                          refine .val (v_move (v := reg ((t242 == (0 : Int)) : Bool)) rfl) rfl ?_
                          refine ifb_cases hh (fun hb_30 hh => ?_) (fun hb_30 hh => ?_)
                          · refine .yv 245 rfl (congrArg Value.bool hb_30) rfl (v_move (v := reg ((none : Pt) : Pt)) rfl) rfl ?_
                            refine .yv 245 rfl (congrArg Value.bool hb_30) rfl (v_move (v := reg (round : Int)) rfl) rfl ?_
                            refine .ye 245 rfl (congrArg Value.bool hb_30) rfl (e_callP fn_17 rfl rfl hh ?_)
                            intro h t248 hh
                            refine .yv 245 rfl (congrArg Value.bool hb_30) rfl (v_ieql rfl rfl) rfl ?_
                            refine .val (v_pickT (v := reg ((t248 == (0 : Int)) : Bool)) rfl hb_30 rfl) rfl ?_
                            refine .val (v_move (v := reg ((t248 == (0 : Int)) : Bool)) rfl) rfl ?_
                            refine ifb_cases hh (fun hb_31 hh => ?_) (fun hb_31 hh => ?_)
                            · refine .yv 251 rfl (congrArg Value.bool hb_31) rfl (v_move (v := reg ((none : Pt) : Pt)) rfl) rfl ?_
                              refine .yv 251 rfl (congrArg Value.bool hb_31) rfl (v_move (v := reg (quorum : Int)) rfl) rfl ?_
                              refine .ye 251 rfl (congrArg Value.bool hb_31) rfl (e_callP fn_19 rfl rfl hh ?_)
                              intro h t254 hh
                              refine .yv 251 rfl (congrArg Value.bool hb_31) rfl (v_ieql rfl rfl) rfl ?_
                              refine .val (v_pickT (v := reg ((t254 == (-1 : Int)) : Bool)) rfl hb_31 rfl) rfl ?_
                              refine .val (v_move (v := reg ((t254 == (-1 : Int)) : Bool)) rfl) rfl ?_
                              refine ifb_cases hh (fun hb_32 hh => ?_) (fun hb_32 hh => ?_)
                              · refine .yv 257 rfl (congrArg Value.bool hb_32) rfl (v_move (v := reg ((none : Pt) : Pt)) rfl) rfl ?_
                                refine .yv 257 rfl (congrArg Value.bool hb_32) rfl (v_move (v := reg (kind : Int)) rfl) rfl ?_
                                refine .yv 257 rfl (congrArg Value.bool hb_32) rfl (v_move (v := reg (round : Int)) rfl) rfl ?_
                                obtain ⟨t261, ⟨xt261, hxt261, hgt261⟩, hh⟩ := hh
                                refine .yv 257 rfl (congrArg Value.bool hb_32) rfl (v_ldA (p := d_1) 0 ag_24 rfl hxt261 hgt261 get_24_all (fun _ => (arr_len (n := 32) _)) (fun _ => rfl)) rfl ?_
                                refine .ye 257 rfl (congrArg Value.bool hb_32) rfl (e_callP fn_14 rfl rfl hh ?_)
                                intro h t262 hh
                                refine .yv 257 rfl (congrArg Value.bool hb_32) rfl (v_len_sl (sl_22).1 rfl) rfl ?_
                                refine .yv 257 rfl (congrArg Value.bool hb_32) rfl (v_ieql rfl rfl) rfl ?_
                                refine .val (v_pickT (v := reg (((t262.len : Int) == (0 : Int)) : Bool)) rfl hb_32 rfl) rfl ?_
                                refine .val (v_assign (v := reg (((t262.len : Int) == (0 : Int)) : Bool)) rfl) rfl ?_
                                refine .nil ?_
                                exact QN.thenJ ⟨_, ((t262.len : Int) == (0 : Int)), setl_eq ⟨rfl, trivial⟩, hh⟩
                              · refine .no 257 rfl (congrArg Value.bool hb_32) rfl rfl ?_
                                refine .no 257 rfl (congrArg Value.bool hb_32) rfl rfl ?_
                                refine .no 257 rfl (congrArg Value.bool hb_32) rfl rfl ?_
                                refine .no 257 rfl (congrArg Value.bool hb_32) rfl rfl ?_
                                refine .no 257 rfl (congrArg Value.bool hb_32) rfl rfl ?_
                                refine .no 257 rfl (congrArg Value.bool hb_32) rfl rfl ?_
                                refine .no 257 rfl (congrArg Value.bool hb_32) rfl rfl ?_
                                refine .val (v_pickF (v := reg (false : Bool)) rfl hb_32 rfl) rfl ?_
                                refine .val (v_assign (v := reg (false : Bool)) rfl) rfl ?_
                                refine .nil ?_
                                exact QN.thenJ ⟨_, false, setl_eq ⟨rfl, trivial⟩, hh⟩
                            · refine .no 251 rfl (congrArg Value.bool hb_31) rfl rfl ?_
                              refine .no 251 rfl (congrArg Value.bool hb_31) rfl rfl ?_
                              refine .no 251 rfl (congrArg Value.bool hb_31) rfl rfl ?_
                              refine .no 251 rfl (congrArg Value.bool hb_31) rfl rfl ?_
                              refine .val (v_pickF (v := reg (false : Bool)) rfl hb_31 rfl) rfl ?_
                              refine .val (v_move (v := reg (false : Bool)) rfl) rfl ?_
                              refine .no 257 rfl rfl rfl rfl ?_
                              refine .no 257 rfl rfl rfl rfl ?_
                              refine .no 257 rfl rfl rfl rfl ?_
                              refine .no 257 rfl rfl rfl rfl ?_
                              refine .no 257 rfl rfl rfl rfl ?_
                              refine .no 257 rfl rfl rfl rfl ?_
                              refine .no 257 rfl rfl rfl rfl ?_
                              refine .val (v_pickF (v := reg (false : Bool)) rfl rfl rfl) rfl ?_
                              refine .val (v_assign (v := reg (false : Bool)) rfl) rfl ?_
                              refine .nil ?_
                              exact QN.thenJ ⟨_, false, setl_eq ⟨rfl, trivial⟩, hh⟩
                          · refine .no 245 rfl (congrArg Value.bool hb_30) rfl rfl ?_
                            refine .no 245 rfl (congrArg Value.bool hb_30) rfl rfl ?_
                            refine .no 245 rfl (congrArg Value.bool hb_30) rfl rfl ?_
                            refine .no 245 rfl (congrArg Value.bool hb_30) rfl rfl ?_
                            refine .val (v_pickF (v := reg (false : Bool)) rfl hb_30 rfl) rfl ?_
                            refine .val (v_move (v := reg (false : Bool)) rfl) rfl ?_
                            refine .no 251 rfl rfl rfl rfl ?_
                            refine .no 251 rfl rfl rfl rfl ?_
                            refine .no 251 rfl rfl rfl rfl ?_
                            refine .no 251 rfl rfl rfl rfl ?_
                            refine .val (v_pickF (v := reg (false : Bool)) rfl rfl rfl) rfl ?_
                            refine .val (v_move (v := reg (false : Bool)) rfl) rfl ?_
                            refine .no 257 rfl rfl rfl rfl ?_
                            refine .no 257 rfl rfl rfl rfl ?_
                            refine .no 257 rfl rfl rfl rfl ?_
                            refine .no 257 rfl rfl rfl rfl ?_
                            refine .no 257 rfl rfl rfl rfl ?_
                            refine .no 257 rfl rfl rfl rfl ?_
                            refine .no 257 rfl rfl rfl rfl ?_
                            refine .val (v_pickF (v := reg (false : Bool)) rfl rfl rfl) rfl ?_
                            refine .val (v_assign (v := reg (false : Bool)) rfl) rfl ?_
                            refine .nil ?_
                            exact QN.thenJ ⟨_, false, setl_eq ⟨rfl, trivial⟩, hh⟩
                        · refine .no 237 rfl (congrArg Value.bool hb_29) rfl rfl ?_
                          refine .no 237 rfl (congrArg Value.bool hb_29) rfl rfl ?_
                          refine .no 237 rfl (congrArg Value.bool hb_29) rfl rfl ?_
                          refine .no 237 rfl (congrArg Value.bool hb_29) rfl rfl ?_
                          refine .no 237 rfl (congrArg Value.bool hb_29) rfl rfl ?_
                          refine .no 237 rfl (congrArg Value.bool hb_29) rfl rfl ?_
                          refine .val (v_pickF (v := reg (false : Bool)) rfl hb_29 rfl) rfl ?_
                          refine .val (v_move (v := reg (false : Bool)) rfl) rfl ?_
                          refine .no 245 rfl rfl rfl rfl ?_
                          refine .no 245 rfl rfl rfl rfl ?_
                          refine .no 245 rfl rfl rfl rfl ?_
                          refine .no 245 rfl rfl rfl rfl ?_
                          refine .val (v_pickF (v := reg (false : Bool)) rfl rfl rfl) rfl ?_
                          refine .val (v_move (v := reg (false : Bool)) rfl) rfl ?_
                          refine .no 251 rfl rfl rfl rfl ?_
                          refine .no 251 rfl rfl rfl rfl ?_
                          refine .no 251 rfl rfl rfl rfl ?_
                          refine .no 251 rfl rfl rfl rfl ?_
                          refine .val (v_pickF (v := reg (false : Bool)) rfl rfl rfl) rfl ?_
                          refine .val (v_move (v := reg (false : Bool)) rfl) rfl ?_
                          refine .no 257 rfl rfl rfl rfl ?_
                          refine .no 257 rfl rfl rfl rfl ?_
                          refine .no 257 rfl rfl rfl rfl ?_
                          refine .no 257 rfl rfl rfl rfl ?_
                          refine .no 257 rfl rfl rfl rfl ?_
                          refine .no 257 rfl rfl rfl rfl ?_
                          refine .no 257 rfl rfl rfl rfl ?_
                          refine .val (v_pickF (v := reg (false : Bool)) rfl rfl rfl) rfl ?_
                          refine .val (v_assign (v := reg (false : Bool)) rfl) rfl ?_
                          refine .nil ?_
                          exact QN.thenJ ⟨_, false, setl_eq ⟨rfl, trivial⟩, hh⟩
                      · refine .no 231 rfl (congrArg Value.bool hb_28) rfl rfl ?_
                        refine .no 231 rfl (congrArg Value.bool hb_28) rfl rfl ?_
                        refine .no 231 rfl (congrArg Value.bool hb_28) rfl rfl ?_
                        refine .no 231 rfl (congrArg Value.bool hb_28) rfl rfl ?_
                        refine .val (v_pickF (v := reg (false : Bool)) rfl hb_28 rfl) rfl ?_
                        refine .val (v_move (v := reg (false : Bool)) rfl) rfl ?_
                        refine .no 237 rfl rfl rfl rfl ?_
                        refine .no 237 rfl rfl rfl rfl ?_
                        refine .no 237 rfl rfl rfl rfl ?_
                        refine .no 237 rfl rfl rfl rfl ?_
                        refine .no 237 rfl rfl rfl rfl ?_
                        refine .no 237 rfl rfl rfl rfl ?_
                        refine .val (v_pickF (v := reg (false : Bool)) rfl rfl rfl) rfl ?_
                        refine .val (v_move (v := reg (false : Bool)) rfl) rfl ?_
                        refine .no 245 rfl rfl rfl rfl ?_
                        refine .no 245 rfl rfl rfl rfl ?_
                        refine .no 245 rfl rfl rfl rfl ?_
                        refine .no 245 rfl rfl rfl rfl ?_
                        refine .val (v_pickF (v := reg (false : Bool)) rfl rfl rfl) rfl ?_
                        refine .val (v_move (v := reg (false : Bool)) rfl) rfl ?_
                        refine .no 251 rfl rfl rfl rfl ?_
                        refine .no 251 rfl rfl rfl rfl ?_
                        refine .no 251 rfl rfl rfl rfl ?_
                        refine .no 251 rfl rfl rfl rfl ?_
                        refine .val (v_pickF (v := reg (false : Bool)) rfl rfl rfl) rfl ?_
                        refine .val (v_move (v := reg (false : Bool)) rfl) rfl ?_
                        refine .no 257 rfl rfl rfl rfl ?_
                        refine .no 257 rfl rfl rfl rfl ?_
                        refine .no 257 rfl rfl rfl rfl ?_
                        refine .no 257 rfl rfl rfl rfl ?_
                        refine .no 257 rfl rfl rfl rfl ?_
                        refine .no 257 rfl rfl rfl rfl ?_
                        refine .no 257 rfl rfl rfl rfl ?_
                        refine .val (v_pickF (v := reg (false : Bool)) rfl rfl rfl) rfl ?_
                        refine .val (v_assign (v := reg (false : Bool)) rfl) rfl ?_
                        refine .nil ?_
                        exact QN.thenJ ⟨_, false, setl_eq ⟨rfl, trivial⟩, hh⟩
                    · rintro ρ h ⟨ρ', t10, rfl, hh⟩
                      unfold law13_VoteBoxes.j8 at hh
                      refine CW.ret ?_
                      exact ret1 rfl rfl ⟨(t10 : Bool), rfl, hh⟩
end Go.Proofs.YtimmoekliphobaaDoor
namespace Go.Proofs.YtimmoekliphobaaDoor
open Go Go.Sh
open Go.Sh.Ty (reg)
set_option linter.unusedVariables false
set_option maxRecDepth 100000

theorem goodR_from {v : api_Vote} (h : goodR v = true) : (1 ≤ v.From ∧ v.From ≤ 63) ∧ 0 ≤ v.Round := by
  unfold goodR at h
  split at h
  · cases h
  · simp only [Bool.and_eq_true, decide_eq_true_eq] at h
    exact ⟨⟨h.1.2, h.2⟩, h.1.1.1⟩
section
variable {h0 h : H} {S : List Nat} {L : List En}
theorem _root_.Go.Sh.Sat.bxAdd {p : Addr} {r : Nat} {l : Vts} {v : api_Vote} {k : Bool → H → Prop} (i : Nat) (hs : Sat h0 S h L) (hi : L[i]? = some (bxE p r l))
    (hk1 : ∀ h', mfind l (placeOf v) ≠ none → Sat h0 S h' L → Ext h h' → k false h') (hk2 : ∀ h', mfind l (placeOf v) = none → Sat h0 S h' (L.set i (bxE p r (mins l (placeOf v) v))) → k true h') : call (β := Bool) Prog 12 [reg ((some p : Pt) : Pt), reg (v : api_Vote)] k h := by
  refine vote_Box_Add.ok _ _ _ _ (Add_spec p r l v (hs.at_ hi) (fun u h' hm hx => hk1 h' (by rw [hm]; simp) (hs.ext hx) hx) (fun h' hm hf hB => hk2 h' hm (hs.upd hi hf hB (bxE_loc _ _ _) ?_)))
  intro b hb
  refine ⟨?_, .inl hb⟩
  simp only [bxE, List.mem_cons, List.not_mem_nil, or_false] at hb
  rcases hb with rfl | rfl
  · exact hB.1.lt
  · exact mpE_lt hB.2.1
theorem _root_.Go.Sh.Sat.rfAdd {p : Addr} {s : Sl} {vs : List api_Vote} {v : api_Vote} {k : Bool → H → Prop} (i : Nat) (hs : Sat h0 S h L) (hi : L[i]? = some (rfE p s vs)) (hl : vs.length < 2 ^ 20)
    (hk1 : ∀ h', (vs.any fun x => samePlace x v) = true → Sat h0 S h' L → k false h') (hk2 : ∀ s' h', (vs.any fun x => samePlace x v) = false → Sat h0 S h' (L.set i (rfE p s' (vs ++ [v]))) → k true h') : call (β := Bool) Prog 13 [reg ((some p : Pt) : Pt), reg (v : api_Vote)] k h := by
  refine ref13_Box_Add.ok _ _ _ _ (RAdd_spec p s vs v (hs.at_ hi) hl (fun h' hm hx => hk1 h' hm (hs.ext hx)) (fun s' h' hm hf hB hb' => hk2 s' h' hm (hs.upd hi (hf.mono (by simp [rfE])) hB (rfE_loc _ _ _) ?_)))
  intro b hb
  simp only [rfE, List.mem_cons] at hb ⊢
  rcases hb with rfl | hb
  · exact ⟨hB.1.lt, .inl (.inl rfl)⟩
  · exact ⟨(hb' b hb).2, .inr (hb' b hb).1⟩
end

theorem VoteBoxes_spec (list : Sl) (kind round : Int) (d : Dig) (quorum : Int) (vs0 : List api_Vote) {k : Bool → H → Prop} {h : H} (hT : Tb h) (hv : SVz 41 h list vs0) (hsig : ∀ v ∈ vs0, SigR h v.Sig) (hk : ∀ h', Ext h h' → k true h') : law13_VoteBoxes.b list kind round d quorum k h := by
  unfold law13_VoteBoxes.b
  have hlen : list.len = vs0.length := hv.1
  refine (Sat.init h).box_ (fun d1 h1 hs1 _ _ => ?_)
  refine law13_alive.ok _ _ (alive13_spec (hT.fr hs1.fr (by simp)) (fun h2 hx2 => ?_))
  have hs2 := hs1.ext hx2
  refine ifb_i (fun hc => by cases hc) (fun _ => ?_)
  refine ifb_i (fun _ => hk _ hs2.fr) (fun hc => ?_)
  have h60 : vs0.length ≤ 60 ∧ 1 ≤ quorum := by
    simp only [Bool.or_eq_false_iff, decide_eq_false_iff_not] at hc
    omega
  refine vote_NewBox.ok _ _ (NewBox_spec (fun p r h3 hx3 hB3 hb3 => ?_))
  have hs3 := hs2.add (e := bxE p r []) hx3 hB3 (bxE_loc _ _ _) hb3
  refine hs3.box_ (fun m h4 hs4 _ _ => ?_)
  have hR4 : RefA m Sl.nil [] h4 := ⟨hs4.at_ (i := 0) rfl, .inl ⟨rfl, rfl, rfl, rfl⟩, by simp [blk, Sl.nil]⟩
  have hs5 : Sat h [] h4 [rfE m Sl.nil [], bxE p r [], cel 24 d1 (enc d)] :=
    hs4.upd (i := 0) (e := cel 30 m (enc ref13_Box.zero)) rfl (Fr.refl _ _) hR4 (rfE_loc _ _ _) (by intro b hb; simp only [rfE, blk, Sl.nil, List.mem_singleton] at hb; subst hb; exact ⟨hR4.1.lt, .inl (by simp [cel])⟩)
  unfold law13_VoteBoxes.l1
  refine ⟨fun (t : Int) h' => ∃ (i : Nat) (s : Sl) (vs : List api_Vote), t = i ∧ i ≤ vs0.length ∧ Sat h [] h' [rfE m s vs, bxE p r (Lv vs), cel 24 d1 (enc d)] ∧ OkV vs ∧ vs.length ≤ i ∧ (∀ v ∈ vs, v ∈ vs0 ∧ greatF v.Sig = false), fun t _ => (vs0.length - t).toNat,
    ⟨0, Sl.nil, [], rfl, Nat.zero_le _, hs5, ⟨by simp, by simp, by simp⟩, by simp, by simp⟩, ?_⟩
  clear hs1 hs2 hs3 hs4 hs5 hx2 hx3 hB3 hb3 hR4
  rintro t h5 ⟨i, s, vs, rfl, hi, hs5, hok, hvl, hvs⟩
  refine ifb_i (fun hc1 => ?_) (fun hc1 => ?_)
  · have hi' : i < vs0.length := by have : (i : Int) < list.len := by simpa using hc1
                                    omega
    refine sidx_ldz len_api_Vote (hv.ext hs5.fr) (Int.natCast_nonneg _) (by rw [Int.toNat_natCast]; exact List.getElem?_eq_getElem hi') ?_
    have hmem : vs0[i] ∈ vs0 := List.getElem_mem hi'
    generalize vs0[i] = v at *
    refine hs5.box_ (fun vp h6 hs6 _ _ => ?_)
    refine hs6.st_ 0 rfl len_api_Vote (fun h7 hs7 _ => ?_)
    refine hs7.ld_ 0 rfl ?_
    refine ref13_Good.ok _ _ _ (RGood_spec _ (fun h8 hx8 => ?_))
    have hs8 := hs7.ext hx8
    refine ifb_i (fun _ => ?_) (fun hg => ?_)
    · unfold law13_VoteBoxes.j2
      exact ifb_i (fun _ => hk _ hs8.fr) (fun hc => by cases hc)
    · have hgood : goodR v = true := by simpa using hg
      obtain ⟨hfr, hrd⟩ := goodR_from hgood
      refine hs8.ld_ 0 rfl ?_
      refine law13_great.ok _ _ _ (Great_spec _ (fun h9 hx9 => ?_))
      have hs9 := hs8.ext hx9
      unfold law13_VoteBoxes.j2
      refine ifb_i (fun _ => hk _ hs9.fr) (fun hgr => ?_)
      have hgreat : greatF v.Sig = false := hgr
      refine hs9.ld_ 0 rfl (hs9.ld_ 0 rfl ?_)
      have e1 : iadd (i : Int) 1 = ((i + 1 : Nat) : Int) := by rw [iadd_eq (by omega) (by omega)]; omega
      refine hs9.bxAdd 2 rfl (fun h10 hm hs10 _ => ?_) (fun h10 hm hs10 => ?_)
      · refine hs10.chk_ 0 rfl rfl ?_
        refine hs10.rfAdd 1 rfl (by omega) (fun h11 _ hs11 => ?_) (fun s' h11 hno hs11 => ?_)
        · refine ifb_i (fun hc => by cases hc) (fun _ => ?_)
          rw [e1]
          exact ⟨⟨i + 1, s, vs, rfl, hi', hs11.drop (List.sublist_cons_self _ _), hok, by omega, hvs⟩, by dsimp only; omega⟩
        · rw [any_same] at hno
          exact absurd (by simpa using hno) hm
      · refine hs10.chk_ 0 rfl rfl ?_
        refine hs10.rfAdd 1 rfl (by omega) (fun h11 hyes hs11 => ?_) (fun s' h11 hno hs11 => ?_)
        · rw [any_same, hm] at hyes; cases hyes
        · refine ifb_i (fun hc => by cases hc) (fun _ => ?_)
          rw [e1]
          have hs12 := hs11.drop (List.sublist_cons_self _ _)
          rw [Lv_snoc vs v hm] at hs12
          refine ⟨⟨i + 1, s', vs ++ [v], rfl, hi', hs12, hok.snoc v hm hfr hrd, by simp; omega, fun x hx => ?_⟩, by dsimp only; omega⟩
          simp only [List.mem_append, List.mem_singleton] at hx
          rcases hx with hx | rfl
          · exact hvs x hx
          · exact ⟨hmem, hgreat⟩
  · have hvl20 : vs.length < 2 ^ 20 := by omega
    have hLl : (Lv vs).length < 2 ^ 20 := by simpa [Lv] using hvl20
    clear hc1
    unfold law13_VoteBoxes.j1
    refine hs5.ld_ 2 rfl (hs5.ld_ 2 rfl ?_)
    refine vote_Box_For.ok _ _ _ _ _ _ (For_spec p r _ kind round d (hs5.at_ (i := 1) rfl) (fun x h6 hx6 ho6 hb6 => ?_))
    have hs6 := hs5.add (e := own 37 41 x _) hx6 ho6 (own_loc _ _ _ _) hb6
    rw [for_eq vs hok] at hs6
    refine hs6.chk_ 3 rfl rfl ?_
    refine ref13_Box_For.ok _ _ _ _ _ _ (RFor_spec m s vs kind round d (hs6.at_ (i := 1) rfl) hvl20 (fun y h7 hx7 ho7 hb7 => ?_))
    have hs7 := hs6.add (e := own 37 41 y _) hx7 ho7 (own_loc _ _ _ _) hb7
    have hxv := hs7.ownSV 1 rfl len_api_Vote
    have hyv := hs7.ownSV 0 rfl len_api_Vote
    have hxl : x.len = (refFor vs kind round d 63).length := hxv.2.1
    have hyl : y.len = (refFor vs kind round d 63).length := hyv.2.1
    refine ifb_i (fun hc => by rw [hxl, hyl] at hc; simp at hc) (fun _ => ?_)
    refine hs7.ld_ 4 rfl ?_
    refine vote_Box_Count.ok _ _ _ _ _ _ (Count_spec p r _ kind round d (hs7.at_ (i := 3) rfl) (fun h8 hx8 => ?_))
    have hs8 := hs7.ext hx8
    refine ifb_i (fun hc => by rw [hyl, for_eq vs hok] at hc; simp at hc) (fun _ => ?_)
    refine vote_Box_Voters.ok _ _ _ _ (Voters_spec p r _ round (hs8.at_ (i := 3) rfl) (fun ks h9 hx9 hks1 hks2 => ?_))
    have hs9 := hs8.ext hx9
    refine ref13_Box_Voters.ok _ _ _ _ (RVoters_spec m s vs round (hs9.at_ (i := 2) rfl) hvl20 (fun h10 hx10 => ?_))
    have hs10 := hs9.ext hx10
    refine ifb_i (fun hc => by rw [voters_eq vs hok round ks hks1 hks2] at hc; simp at hc) (fun _ => ?_)
    refine vote_Box_Reached.ok _ _ _ _ (Reached_spec p r _ quorum (hs10.at_ (i := 3) rfl) hLl (fun ls h11 hx11 hls => ?_))
    have hs11 := hs10.ext hx11
    refine ref13_Box_Reached.ok _ _ _ _ (RReached_spec m s vs quorum (hs11.at_ (i := 2) rfl) hvl20 (fun h12 hx12 => ?_))
    have hs12 := hs11.ext hx12
    refine ifb_i (fun hc => by rw [reached_eq vs hok ls hls] at hc; simp at hc) (fun _ => ?_)
    refine vote_Box_Reached.ok _ _ _ _ (Reached_spec p r _ 0 (hs12.at_ (i := 3) rfl) hLl (fun ls2 h13 hx13 hls2 => ?_))
    have hs13 := hs12.ext hx13
    have er : reachedF ls2 0 = -1 := by unfold reachedF; rw [if_pos (.inl (by decide))]
    rw [er]
    unfold law13_VoteBoxes.j3
    refine ifb_i (fun hc => by cases hc) (fun _ => ?_)
    unfold law13_VoteBoxes.l2
    have hfl : ∀ v ∈ refFor vs kind round d 63, v ∈ vs := by
      intro v hv'
      simp only [refFor, List.mem_flatMap, refPick, List.mem_filter] at hv'
      obtain ⟨_, _, h1, _⟩ := hv'
      exact h1
    have hrl := refFor_len vs kind round d 63
    refine ⟨fun (t : Int) h' => ∃ j : Nat, t = j ∧ j ≤ (refFor vs kind round d 63).length ∧ Sat h [] h' [own 37 41 y (refFor vs kind round d 63), own 37 41 x (refFor vs kind round d 63), rfE m s vs, bxE p r (Lv vs), cel 24 d1 (enc d)], fun t _ => ((refFor vs kind round d 63).length - t).toNat, ⟨0, rfl, Nat.zero_le _, hs13⟩, ?_⟩
    clear hs5 hs6 hs7 hs8 hs9 hs10 hs11 hs12 hs13 hxv hyv
    rintro t h14 ⟨j, rfl, hj, hs14⟩
    refine ifb_i (fun hc1 => ?_) (fun hc1 => ?_)
    · have hj' : j < (refFor vs kind round d 63).length := by have : (j : Int) < x.len := by simpa using hc1
                                                              omega
      refine sidx_ld len_api_Vote (hs14.ownSV 1 rfl len_api_Vote) (Int.natCast_nonneg _) (by rw [Int.toNat_natCast]; exact List.getElem?_eq_getElem hj') ?_
      refine sidx_ld len_api_Vote (hs14.ownSV 0 rfl len_api_Vote) (Int.natCast_nonneg _) (by rw [Int.toNat_natCast]; exact List.getElem?_eq_getElem hj') ?_
      have hmem := hfl _ (List.getElem_mem hj')
      refine ref13_Same.ok _ _ _ _ (Same_spec _ ((hsig _ (hvs _ hmem).1).ext hs14.fr) (hvs _ hmem).2 (fun h15 hx15 => ?_))
      have hs15 := hs14.ext hx15
      refine ifb_i (fun hc => by cases hc) (fun _ => ?_)
      have e1 : iadd (j : Int) 1 = ((j + 1 : Nat) : Int) := by rw [iadd_eq (by omega) (by omega)]; omega
      rw [e1]
      exact ⟨⟨j + 1, rfl, hj', hs15⟩, by dsimp only; omega⟩
    · unfold law13_VoteBoxes.j4
      refine vote_Box_Winner.ok _ _ _ _ _ (Winner_spec p r _ kind quorum (hs14.at_ (i := 3) rfl) hLl (fun cs best at_ found h15 hx15 hC hW => ?_))
      have hs15 := hs14.ext hx15
      obtain ⟨w1, w2, w3⟩ := win_eq vs hok kind quorum h60.2 cs hC best at_ found hW
      refine hs15.box_ (fun e h16 hs16 _ _ => ?_)
      refine hs16.st_ 0 rfl arr_len (fun h17 hs17 _ => ?_)
      refine ref13_Box_Winner.ok _ _ _ _ _ (RWinner_spec m s vs kind quorum (hs17.at_ (i := 3) rfl) hvl20 (fun h18 hx18 => ?_))
      have hs18 := hs17.ext hx18
      rw [zero32]
      -- the rest: no better digest; the nil box
      have rest : ∀ h', Sat h [] h' [cel 24 e (enc best), own 37 41 y (refFor vs kind round d 63), own 37 41 x (refFor vs kind round d 63), rfE m s vs, bxE p r (Lv vs), cel 24 d1 (enc d)] → law13_VoteBoxes.j5 k list kind round quorum d1 m e at_ found false h' := by
        intro h19 hs19
        unfold law13_VoteBoxes.j5
        refine ifb_i (fun hc => by cases hc) (fun _ => ?_)
        unfold law13_VoteBoxes.l3
        refine ⟨fun (t : Int) h' => ∃ j : Nat, t = j ∧ j ≤ vs0.length ∧ Sat h [] h' [cel 24 e (enc best), own 37 41 y (refFor vs kind round d 63), own 37 41 x (refFor vs kind round d 63), rfE m s vs, bxE p r (Lv vs), cel 24 d1 (enc d)], fun t _ => (vs0.length - t).toNat, ⟨0, rfl, Nat.zero_le _, hs19⟩, ?_⟩
        clear hs19
        rintro t h20 ⟨q, rfl, hq, hs20⟩
        refine ifb_i (fun hc1 => ?_) (fun hc1 => ?_)
        · have hq' : q < vs0.length := by have : (q : Int) < list.len := by simpa using hc1
                                          omega
          refine sidx_ldz len_api_Vote (hv.ext hs20.fr) (Int.natCast_nonneg _) (by rw [Int.toNat_natCast]; exact List.getElem?_eq_getElem hq') ?_
          generalize vs0[q] = v at *
          have e1 : iadd (q : Int) 1 = ((q + 1 : Nat) : Int) := by rw [iadd_eq (by omega) (by omega)]; omega
          refine hs20.box_ (fun vp h21 hs21 _ _ => ?_)
          refine hs21.st_ 0 rfl len_api_Vote (fun h22 hs22 _ => ?_)
          refine hs22.ld_ 0 rfl (hs22.ld_ 0 rfl ?_)
          unfold law13_VoteBoxes.j7
          have on : ∀ h' , Sat h [] h' [cel 37 vp (enc v), cel 24 e (enc best), own 37 41 y (refFor vs kind round d 63), own 37 41 x (refFor vs kind round d 63), rfE m s vs, bxE p r (Lv vs), cel 24 d1 (enc d)] → (∃ j : Nat, iadd (q : Int) 1 = (j : Int) ∧ j ≤ vs0.length ∧ Sat h [] h' [cel 24 e (enc best), own 37 41 y (refFor vs kind round d 63), own 37 41 x (refFor vs kind round d 63), rfE m s vs, bxE p r (Lv vs), cel 24 d1 (enc d)]) ∧ (vs0.length - iadd (q : Int) 1).toNat < (vs0.length - (q : Int)).toNat := by
            intro h' hs'
            rw [e1]
            exact ⟨⟨q + 1, rfl, hq', hs'.drop (List.sublist_cons_self _ _)⟩, by omega⟩
          rw [zero32]
          refine ifb_i (fun hcA => ?_) (fun _ => ifb_i (fun hc => by cases hc) (fun _ => on _ hs22))
          refine hs22.ld_ 0 rfl ?_
          refine ifb_i (fun hcB => ?_) (fun _ => ifb_i (fun hc => by cases hc) (fun _ => on _ hs22))
          refine hs22.ld_ 0 rfl (hs22.ld_ 1 rfl ?_)
          refine ref06_Before.ok _ _ _ _ (Before_spec _ _ (fun h23 hx23 => ?_))
          have hs23 := hs22.ext hx23
          refine ifb_i (fun hcC => ?_) (fun _ => ifb_i (fun hc => by cases hc) (fun _ => on _ hs23))
          refine hs23.ld_ 0 rfl ?_
          refine ref13_Box_For.ok _ _ _ _ _ _ (RFor_spec m s vs kind at_ v.Digest (hs23.at_ (i := 4) rfl) hvl20 (fun z h24 hx24 ho24 _ => ?_))
          have hs24 := hs23.ext hx24
          have hzl : z.len = (refFor vs kind at_ v.Digest 63).length := (ho24.sv len_api_Vote).2.1
          refine ifb_i (fun hcD => ?_) (fun _ => on _ hs24)
          exfalso
          simp only [Bool.and_eq_true] at hcA
          have hf : found = true := hcA.1.1
          have hd : v.Digest ≠ dz := by
            have h9 : ¬ v.Digest = fun _ => 0 := by simpa using hcB
            exact h9
          refine (w2 hf).2.2.2 v.Digest hd (by simpa using hcC) ?_
          rw [hzl] at hcD
          simpa using hcD
        · -- the nil box
          unfold law13_VoteBoxes.j6
          refine vote_Box_Winner.ok _ _ _ _ _ (Winner_nil_spec kind quorum (fun h21 hx21 => ?_))
          have hs21 := hs20.ext hx21
          refine hs21.box_ (fun e2 h22 hs22 _ _ => ?_)
          refine hs22.st_ 0 rfl arr_len (fun h23 hs23 _ => ?_)
          refine ifb_i (fun _ => ?_) (fun hc => by cases hc)
          refine vote_Box_Add.ok _ _ _ _ (Add_nil_spec _ (fun h24 hx24 => ?_))
          have hs24 := hs23.ext hx24
          refine ifb_i (fun _ => ?_) (fun hc => by cases hc)
          refine hs24.ld_ 6 rfl ?_
          refine vote_Box_Count.ok _ _ _ _ _ _ (Count_nil_spec kind round _ (fun h25 hx25 => ?_))
          have hs25 := hs24.ext hx25
          refine ifb_i (fun _ => ?_) (fun hc => by cases hc)
          refine vote_Box_Voters.ok _ _ _ _ (Voters_nil_spec round (fun h26 hx26 => ?_))
          have hs26 := hs25.ext hx26
          refine ifb_i (fun _ => ?_) (fun hc => by cases hc)
          refine vote_Box_Reached.ok _ _ _ _ (Reached_nil_spec quorum (fun h27 hx27 => ?_))
          have hs27 := hs26.ext hx27
          refine ifb_i (fun _ => ?_) (fun hc => by cases hc)
          refine hs27.ld_ 6 rfl ?_
          refine vote_Box_For.ok _ _ _ _ _ _ (For_nil_spec kind round _ (fun h28 hx28 => ?_))
          have hs28 := hs27.ext hx28
          exact hk _ hs28.fr
      refine ifb_i (fun hc => by simp only at hc; rw [w1] at hc; simp at hc) (fun _ => ?_)
      refine ifb_i (fun hcF => ?_) (fun hcF => ?_)
      · obtain ⟨v1, v2, v3, v4⟩ := w2 hcF
        refine ifb_i (fun hc => by rw [v1] at hc; simp at hc) (fun _ => ?_)
        refine hs18.ld_ 0 rfl ?_
        refine ifb_i (fun hc => ?_) (fun _ => ?_)
        · have h9 : best = fun _ => 0 := by simpa using hc
          exact absurd h9 v2
        · refine hs18.ld_ 0 rfl ?_
          refine ref13_Box_For.ok _ _ _ _ _ _ (RFor_spec m s vs kind at_ best (hs18.at_ (i := 3) rfl) hvl20 (fun z h24 hx24 ho24 _ => ?_))
          have hs24 := hs18.ext hx24
          have hzl : z.len = (refFor vs kind at_ best 63).length := (ho24.sv len_api_Vote).2.1
          refine ifb_i (fun hc => ?_) (fun _ => ?_)
          · rw [hzl] at hc; simp at hc; omega
          · refine ifb_i (fun hc => ?_) (fun _ => rest _ hs24)
            have hcF' : found = true := hcF
            rw [hcF'] at hc; cases hc
      · obtain ⟨v1, v2⟩ := w3 hcF
        refine ifb_i (fun _ => ?_) (fun hc => ?_)
        · refine ifb_i (fun hc => by rw [v1] at hc; simp at hc) (fun _ => ?_)
          refine hs18.ld_ 0 rfl ?_
          have e2 : (!decide (best = (fun _ => 0 : Arr 32 UInt8))) = false := by
            have : best = (fun _ => 0 : Arr 32 UInt8) := v2
            simp [this]
          show law13_VoteBoxes.j5 k list kind round quorum d1 m e at_ found (!decide (best = (fun _ => 0 : Arr 32 UInt8))) h18
          rw [e2]
          exact rest _ hs18
        · have hcF' : found = false := hcF
          rw [hcF'] at hc; cases hc
end Go.Proofs.YtimmoekliphobaaDoor
namespace Go.Proofs.YtimmoekliphobaaDoor
open Go Go.Sh Go.ChangeShapes Go.WideShapes Go.ChangeAt Go.RowKit
open Go.Sh.Ty (reg)
set_option linter.unusedVariables false
set_option maxRecDepth 100000

theorem contract13 (HT : Type) (en : TypeId × Value → HT) (W : World) (base : Nat) (args : Array Value) (ds gs : List (DataW HT)) (before : List MemPlace)
    (hval : ∀ (j : Nat) t v, Tryd.f3.params[j]? = some t → args[j]? = some v → Value.okWide Tryd.prog W .any base t v)
    (hW : DataW.Whole en Tryd.prog Tryd.f3.params.toList Rows.voteBoxesSpec.vars false W args.toList ds gs before) (hL : laidMetH Tryd.prog Rows.voteBoxesRow.laid W) :
    Calls Tryd.prog 3 args W fun e W' => ∃ v, e = .returned v ∧ Rows.voteBoxesSpec.post en Tryd.prog Tryd.f3 false true false false W args v W' := by
  have hW' := hW
  obtain ⟨p, q, hA0, hV, rfl, hfz, hnd⟩ := hW
  have hA : DataW.TrodAll en Tryd.prog W 0 (fun _ => true) true Tryd.f3.params.toList args.toList ds p := hA0
  rw [Tryd.params3] at hA hval
  obtain ⟨v0, vs0, d0, ds0, p0, q0, hargs, rfl, rfl, h0, r0⟩ := trodAll_cons hA
  obtain ⟨v1, vs1, d1, ds1, p1, q1, rfl, rfl, rfl, h1, r1⟩ := trodAll_cons r0
  obtain ⟨v2, vs2, d2, ds2, p2, q2, rfl, rfl, rfl, h2, r2⟩ := trodAll_cons r1
  obtain ⟨v3, vs3, d3, ds3, p3, q3, rfl, rfl, rfl, h3, r3⟩ := trodAll_cons r2
  obtain ⟨v4, vs4, d4, ds4, p4, q4, rfl, rfl, rfl, h4, r4⟩ := trodAll_cons r3
  obtain ⟨rfl, rfl, rfl⟩ := trodAll_nil r4
  obtain rfl : args = #[v0, v1, v2, v3, v4] := by cases args; simp_all
  obtain ⟨rfl, _⟩ := trodVars_none hV
  obtain ⟨s, rfl, l, hl, hls⟩ := arg_slice Tryd.underlying22 (dec_votes Tryd.underlying22 rfl (by kernel_rfl)) (hval 0 22 v0 rfl rfl) h0
  obtain ⟨n1, rfl, _⟩ := arg_int Tryd.underlying3 (hval 1 3 v1 rfl rfl) h1
  obtain ⟨n2, rfl, _⟩ := arg_int Tryd.underlying3 (hval 2 3 v2 rfl rfl) h2
  obtain ⟨x3, rfl⟩ := arg_dig (hval 3 24 v3 rfl rfl) h3
  obtain ⟨n4, rfl, _⟩ := arg_int Tryd.underlying3 (hval 4 3 v4 rfl rfl) h4
  refine (law13_VoteBoxes.ok s n1 n2 x3 n4 (fun r h' => r = true ∧ Ext W.heap h') W.heap (VoteBoxes_spec s n1 n2 x3 n4 l (tb_of_laid hL) hl (fun v hv => (hls v hv).sigR) (fun h' hx => ⟨rfl, hx⟩)) W rfl).mono ?_
  rintro e W' ⟨v, rfl, _, ho, hu, r, rfl, rfl, hx⟩
  exact ⟨_, rfl, post_ext rfl rfl (by decide +kernel) hW' rfl rfl rfl hx ho hu⟩

/-- a world for the witness: the settled one, sha's table holding what its initialiser lays -/
noncomputable def laidWorld (os : Os) : World :=
  { World.holding Tryd.prog os ⟨#[], #[], []⟩ with heap := (World.holding Tryd.prog os ⟨#[], #[], []⟩).heap.modify 0 fun
      | .cells _ t frozen => .cells (tabZ.map (Value.int .u32)).toArray t frozen
      | o => o }
noncomputable def wit13 : Array Value := #[.slice none 0 0, .int .i64 0, .int .i64 0, .agg (Array.replicate 32 (.int .u8 0)), .int .i64 0]
theorem laid_met13 (os : Os) : laidMet Tryd.prog Rows.voteBoxesRow.laid ((laidWorld os).forCall (fun _ _ => 0) ⟨#[], wit13, []⟩).memory :=
  laidMet_of_run' 8 (by kernel_rfl) (by kernel_rfl)
theorem reads13 (os : Os) {HT : Type} (en : TypeId × Value → HT) : ∃ places, DataW.whole en Tryd.prog ((laidWorld os).forCall (fun _ _ => 0) ⟨#[], wit13, []⟩).memory Tryd.f3.params.toList Rows.voteBoxesSpec.vars false wit13.toList 8 = some ([.nil, .lit (.int .i64 0), .lit (.int .i64 0), .agg (List.replicate 32 (.lit (.int .u8 0))), .lit (.int .i64 0)], [], places) :=
  ⟨[], by kernel_rfl⟩
theorem lifted13 (os : Os) (started : os.Started) (HT : Type) (en : TypeId × Value → HT) (F : Stop.Interp) :
    ReturnsInHanded {} Tryd.checked os 3 .any ((OpenSpec.ofChange Rows.voteBoxesSpec).preRow en Tryd.prog Tryd.f3 Rows.voteBoxesRow.domain false Rows.voteBoxesRow.laid) (((OpenSpec.ofChange Rows.voteBoxesSpec).at F).post en Tryd.prog Tryd.f3 false true false false) := by
  obtain ⟨places, hx⟩ := reads13 os en
  refine returnsInHanded_of_row (C := Tryd.checked) (s := OpenSpec.ofChange Rows.voteBoxesSpec) ownKnob0 started (by kernel_rfl) Tryd.func3
    (witness_row_at (enc := en) (C := Tryd.checked) false (laidWorld os) wit13 rfl (by kernel_rfl) (by kernel_rfl) (by kernel_rfl)
      (OpenSpec.preRow_of_cond 8 hx (by kernel_rfl) (fun k hk => by cases hk) (by kernel_rfl) (laid_met13 os))) ?_
  intro W base args ds gs before hval hW _ _ _ hL _ _
  exact contract13 HT en W base args ds gs before hval hW hL
theorem said13 : Rows.VoteBoxesSaid :=
  OpenClaim.holds_of_cond 3 Tryd.f3 rfl rfl rfl rfl rfl rfl rfl ⟨rfl, rfl, rfl, rfl, rfl⟩ rfl rfl rfl rfl rfl (by kernel_rfl) Tryd.func3 (by kernel_rfl)
    (of_decide_eq_true (by kernel_rfl)) (by unfold Func.isWrapper; first | (rw [if_pos (by decide +kernel)]; kernel_rfl) | (rw [if_neg (by decide +kernel)]; exact ⟨rfl, rfl⟩))
    (fun os started H enc _ F => by rw [OpenClaim.pre_eq_preRow]; exact lifted13 os started H enc F)
theorem plain13 (f : FuncId) (fn : Func) (hf : Tryd.pinned.checked.prog.funcNamed "wapentake/wapentakelaw13.VoteBoxes" = some f) (hfn : Tryd.pinned.checked.prog.funcs[f]? = some fn) :
    false = Tryd.pinned.checked.prog.looks [] ∧ ∀ (j : Nat) t, fn.params[j]? = some t → Tryd.pinned.checked.prog.wantsStandIn t = false := by
  obtain rfl : f = 3 := Option.some.inj ((show Tryd.prog.funcNamed "wapentake/wapentakelaw13.VoteBoxes" = some 3 by kernel_rfl).symm.trans hf) |>.symm
  obtain rfl : fn = Tryd.f3 := (Option.some.inj (Tryd.func3.symm.trans hfn)).symm
  refine ⟨by kernel_rfl, fun j t ht => ?_⟩
  rw [Tryd.params3] at ht
  have hm := Array.mem_of_getElem? ht
  simp only [List.mem_toArray, List.mem_cons, List.not_mem_nil, or_false] at hm
  rcases hm with rfl | rfl | rfl | rfl | rfl
  · exact (show Tryd.prog.wantsStandIn 22 = false by kernel_rfl)
  · exact (show Tryd.prog.wantsStandIn 3 = false by kernel_rfl)
  · exact (show Tryd.prog.wantsStandIn 3 = false by kernel_rfl)
  · exact (show Tryd.prog.wantsStandIn 24 = false by kernel_rfl)
  · exact (show Tryd.prog.wantsStandIn 3 = false by kernel_rfl)
theorem voteBoxes_card : Rows.VoteBoxesCardSaid :=
  Claim7.holds_tied_plain_at .later [] _ _ _ _ said13 (fun _ h => by cases h) (by kernel_rfl) (fun _ h => by cases h) voteBoxes_row_tie rfl ⟨rfl, rfl⟩ (by kernel_rfl) rfl plain13 (by kernel_rfl)
end Go.Proofs.YtimmoekliphobaaDoor

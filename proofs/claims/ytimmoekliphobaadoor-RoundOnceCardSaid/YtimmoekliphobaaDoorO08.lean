/-
  THE CARD OF wapentakelaw19.RoundOnce: for every input that the row lets in, RoundOnce returns true and its arguments read as they did. Part 8 of 14. No condition stands ahead of the statement. Parts of this text were printed by a program of ours.
-/
import Derived.Test.YtimmoekliphobaaDoorO07
set_option linter.all false
namespace Go.Proofs.YtimmoekliphobaaDoor
open Go Go.Sh
open Go.Sh.Ty (reg)
set_option linter.unusedVariables false
set_option maxRecDepth 100000
set_option maxHeartbeats 1000000

theorem patF_le (base b : Int) : 1 ≤ patF base b ∧ patF base b ≤ 1073741824 := by
  unfold patF ishl
  have h1 : 1 ≤ imin (imax base 1) 1048576 ∧ imin (imax base 1) 1048576 ≤ 1048576 := by
    unfold imin imax; split <;> split <;> omega
  have h2 : (imin b 10).toNat ≤ 10 := by unfold imin; split <;> omega
  generalize imin (imax base 1) 1048576 = a at *
  generalize (imin b 10).toNat = m at *
  have e : min m 64 = m := by omega
  rw [e]
  have h3 : 1 ≤ 2 ^ m ∧ 2 ^ m ≤ 2 ^ 10 := ⟨Nat.one_le_two_pow, Nat.pow_le_pow_right (by decide) h2⟩
  have h4 : ((2 : Int) ^ m) = ((2 ^ m : Nat) : Int) := by simp
  rw [h4]
  generalize 2 ^ m = q at *
  have h5 : 1 ≤ a * (q : Int) ∧ a * (q : Int) ≤ 1048576 * 1024 := by
    constructor
    · calc (1 : Int) = 1 * 1 := rfl
        _ ≤ a * (q : Int) := Int.mul_le_mul h1.1 (by omega) (by omega) (by omega)
    · exact Int.mul_le_mul h1.2 (by omega) (by omega) (by omega)
  rw [wrap_eq (by omega) (by omega)]
  omega
def tickC (c : CS) (n : Int) : CS := { c with x := { c.x with ticks := imin (iadd c.x.ticks (imin n 1099511627776)) 1099511627776 } }
/-- what time does -/
def TickR (c : CS) (n : Int) (c4 : CS) : Prop := ∃ r1 o1 r2 o2 r3 o3 c2 c3,
  c2 = (if (tickC c n).x.step = 1 ∧ patF c.x.base c.rd ≤ (tickC c n).x.ticks then votesC (tickC c n) 1 dz r1 o1 else tickC c n) ∧
  c3 = (if c2.x.step = 2 ∧ 2 * patF c.x.base c.rd ≤ c2.x.ticks then votesC c2 2 dz r2 o2 else c2) ∧
  c4 = (if c3.x.step = 3 ∧ 3 * patF c.x.base c.rd ≤ c3.x.ticks ∧ c3.rd < 1024 then enterC c3 (c3.rd + 1) r3 o3 else c3)
theorem votesC_f (c : CS) (kd : Int) (d : Dig) (r o : Sl) : (votesC c kd d r o).p = c.p ∧ (votesC c kd d r o).rd = c.rd ∧ (votesC c kd d r o).x.base = c.x.base ∧ (votesC c kd d r o).x.ticks = c.x.ticks := by unfold votesC; split <;> exact ⟨rfl, rfl, rfl, rfl⟩
theorem enterC_p (c : CS) (rd : Int) (r o : Sl) : (enterC c rd r o).p = c.p := by unfold enterC; split <;> rfl
theorem mu_ub {c : CS} (hc : Cok c) : mu c ≤ 16400 := by
  unfold mu
  have := hc.plc.2; have := hc.st
  split <;> omega
section
variable {h0 h : H} {S : List Nat} {L : List En}
theorem Tick_spec (c : CS) (n : Int) {k : Sl → H → Prop} (hT : Tb h0) (hS : 0 ∉ S) (hc : Cok c) (hn : c.acts.length < 2 ^ 18) (hs : Sat h0 S h (core c ++ L))
    (hk0 : c.x.decided = true ∨ c.x.step = 0 ∨ n < 1 → k Sl.nil h)
    (hk1 : ∀ c4 h', c.x.decided = false → c.x.step ≠ 0 → 1 ≤ n → TickR c n c4 → c4.x.fresh = false → Sat h0 S h' (core c4 ++ L) → k Sl.nil h')
    (hk : ∀ c4 c' h', c.x.decided = false → c.x.step ≠ 0 → 1 ≤ n → TickR c n c4 → c4.x.fresh = true → Mvs c4 c' → Sat h0 S h' (core (clrC c') ++ (hand c' ++ L)) → k c'.x.out h') :
    call (β := Sl) Prog 35 [reg ((some c.p : Pt) : Pt), reg (n : Int)] k h := by
  refine round_Core_Tick.ok _ _ _ _ ?_
  unfold round_Core_Tick.b
  refine ifb_i (fun e => by cases e) (fun _ => ?_)
  refine nn_i (hs.ld_ 0 rfl ?_)
  unfold round_Core_Tick.j1
  refine ifb_i (fun hd => ?_) (fun hd => ?_)
  · exact ifb_i (fun _ => hk0 (.inl hd)) (fun e => by cases e)
  refine hs.ld_ 0 rfl ?_
  refine ifb_i (fun h1 => ?_) (fun h1 => ?_)
  · refine hk0 (.inr ?_)
    simpa using h1
  have h1' : c.x.step ≠ 0 ∧ 1 ≤ n := by
    simp only [Bool.or_eq_false_iff, beq_eq_false_iff_ne, decide_eq_false_iff_not] at h1
    exact ⟨h1.1, by omega⟩
  refine nn_i (hs.ld_ 0 rfl ?_)
  refine hs.st_ 0 rfl len_round_Core (fun h2 hs1 _ => ?_)
  have hs2 : Sat h0 S h2 (core (tickC c n) ++ L) := hs1
  have hc2 : Cok (tickC c n) := { hc with }
  clear hs hs1
  refine hs2.ld_ 0 rfl (hs2.ld_ 0 rfl ?_)
  rw [show (tickC c n).x.at_ = cxI c.ht c.rd from hc.at_]
  refine Patience_spec hc.plc ?_
  rw [show (tickC c n).x.base = c.x.base from rfl]
  obtain ⟨q1, q2⟩ := patF_le c.x.base c.rd
  have e2 : imul 2 (patF c.x.base c.rd) = 2 * patF c.x.base c.rd := imul_eq (by omega) (by omega)
  have e3 : imul 3 (patF c.x.base c.rd) = 3 * patF c.x.base c.rd := imul_eq (by omega) (by omega)
  -- the end
  have j6 : ∀ c4 h', c4.p = c.p → TickR c n c4 → Cok c4 → c4.x.decided = false → c4.acts.length ≤ c.acts.length + 3 → Sat h0 S h' (core c4 ++ L) → round_Core_Tick.j6 k (some c.p) h' := by
    intro c4 h' hp hR hc4 hd4 ha hs4
    unfold round_Core_Tick.j6
    rw [← hp]
    refine nn_i (hs4.ld_ 0 rfl ?_)
    refine ifb_i (fun hf => ?_) (fun hf => ?_)
    · exact hk1 c4 h' hd h1'.1 h1'.2 hR (by simpa using hf) hs4
    · have := mu_ub hc4
      refine acts_spec c4 hT hS hc4 hd4 (by omega) hs4 (fun c' h3 hm3 hs3 => ?_)
      exact hk c4 c' h3 hd h1'.1 h1'.2 hR (by simpa using hf) hm3 hs3
  have j4 : ∀ c2 c3 h' r1 o1 r2 o2, c2 = (if (tickC c n).x.step = 1 ∧ patF c.x.base c.rd ≤ (tickC c n).x.ticks then votesC (tickC c n) 1 dz r1 o1 else tickC c n) → c3 = (if c2.x.step = 2 ∧ 2 * patF c.x.base c.rd ≤ c2.x.ticks then votesC c2 2 dz r2 o2 else c2) → c3.p = c.p → c3.rd = c.rd → c3.ht = c.ht → Cok c3 → c3.x.decided = false → c3.acts.length ≤ c.acts.length + 2 → Sat h0 S h' (core c3 ++ L) → round_Core_Tick.j4 k (some c.p) (patF c.x.base c.rd) h' := by
    intro c2 c3 h' r1 o1 r2 o2 hd2 hd3 hp hr hht hc3 hdd ha hs3
    unfold round_Core_Tick.j4
    have hnot : ¬ (c3.x.step = 3 ∧ 3 * patF c.x.base c.rd ≤ c3.x.ticks ∧ c3.rd < 1024) → round_Core_Tick.j7 (round_Core_Tick.j6 k) (some c.p) c3.rd false h' := by
      intro hno
      unfold round_Core_Tick.j7
      refine ifb_i (fun e => by cases e) (fun _ => ?_)
      exact j6 c3 h' hp ⟨r1, o1, r2, o2, Sl.nil, Sl.nil, c2, c3, hd2, hd3, by rw [if_neg hno]⟩ hc3 hdd (by omega) hs3
    rw [← hp] at hnot ⊢
    refine nn_i (hs3.ld_ 0 rfl ?_)
    rw [hc3.at_]
    refine Round_spec hc3.plc (hs3.ld_ 0 rfl ?_)
    refine ifb_i (fun h5 => ?_) (fun h5 => ?_)
    · have h5' : c3.x.step = 3 := by simpa using h5
      refine hs3.ld_ 0 rfl ?_
      rw [e3]
      by_cases h6 : 3 * patF c.x.base c.rd ≤ c3.x.ticks ∧ c3.rd < 1024
      · have e : (decide (3 * patF c.x.base c.rd ≤ c3.x.ticks) && decide (c3.rd < 1024)) = true := by simp [h6]
        rw [e]
        unfold round_Core_Tick.j7
        refine ifb_i (fun _ => ?_) (fun e => by cases e)
        have hrd := hc3.plc.2
        have e5 : iadd c3.rd 1 = c3.rd + 1 := iadd_eq (by omega) (by omega)
        rw [e5]
        refine enter_spec c3 (c3.rd + 1) (by omega) hc3 hs3 (fun r o h7 hs7 => ?_)
        obtain ⟨a1, a2, a3⟩ := hc3.enter (by omega) (show 0 ≤ c3.rd + 1 ∧ c3.rd + 1 ≤ 1024 by omega) r o
        rw [hp]
        exact j6 _ h7 ((enterC_p _ _ _ _).trans hp) ⟨r1, o1, r2, o2, r, o, c2, c3, hd2, hd3, by rw [if_pos ⟨h5', h6⟩]⟩ a1 (by rw [enterC_dec]; exact hdd) (by omega) hs7
      · have e : (decide (3 * patF c.x.base c.rd ≤ c3.x.ticks) && decide (c3.rd < 1024)) = false := by
          rw [Bool.eq_false_iff]; simp only [ne_eq, Bool.and_eq_true, decide_eq_true_eq]; exact h6
        rw [e]
        exact hnot (fun hx => h6 hx.2)
    · exact hnot (fun hx => by rw [hx.1] at h5; simp at h5)
  have j2 : ∀ c2 h' r1 o1, c2 = (if (tickC c n).x.step = 1 ∧ patF c.x.base c.rd ≤ (tickC c n).x.ticks then votesC (tickC c n) 1 dz r1 o1 else tickC c n) → c2.p = c.p → c2.rd = c.rd → c2.ht = c.ht → Cok c2 → c2.x.decided = false → c2.acts.length ≤ c.acts.length + 1 → Sat h0 S h' (core c2 ++ L) → round_Core_Tick.j2 k (some c.p) (patF c.x.base c.rd) h' := by
    intro c2 h' r1 o1 hd2 hp hr hht hc3 hdd ha hs3
    unfold round_Core_Tick.j2
    have hnot : ¬ (c2.x.step = 2 ∧ 2 * patF c.x.base c.rd ≤ c2.x.ticks) → round_Core_Tick.j5 (round_Core_Tick.j4 k) (some c.p) (patF c.x.base c.rd) false h' := by
      intro hno
      unfold round_Core_Tick.j5
      refine ifb_i (fun e => by cases e) (fun _ => ?_)
      exact j4 c2 c2 h' r1 o1 Sl.nil Sl.nil hd2 (by rw [if_neg hno]) hp hr hht hc3 hdd (by omega) hs3
    rw [← hp] at hnot ⊢
    refine nn_i (hs3.ld_ 0 rfl ?_)
    refine ifb_i (fun h5 => ?_) (fun h5 => ?_)
    · have h5' : c2.x.step = 2 := by simpa using h5
      refine hs3.ld_ 0 rfl ?_
      rw [e2]
      by_cases h6 : 2 * patF c.x.base c.rd ≤ c2.x.ticks
      · rw [decide_eq_true h6]
        unfold round_Core_Tick.j5
        refine ifb_i (fun _ => ?_) (fun e => by cases e)
        refine none_spec' (fun h8 hx8 => ?_)
        refine votes_spec c2 2 _ (by decide) hc3 (hs3.ext hx8) (fun r o h7 hs7 => ?_)
        obtain ⟨a1, a2, a3⟩ := hc3.votes (by omega) (show (0 : Int) ≤ 2 ∧ (2 : Int) ≤ 2 by decide) dz r o
        have hf := votesC_f c2 2 dz r o
        have hht2 : (votesC c2 2 dz r o).ht = c2.ht := by unfold votesC; split <;> rfl
        rw [hp]
        exact j4 c2 _ h7 r1 o1 r o hd2 (by rw [if_pos ⟨h5', h6⟩]) (hf.1.trans hp) (hf.2.1.trans hr) (hht2.trans hht) a1 (by rw [votesC_dec]; exact hdd) (by omega) hs7
      · rw [decide_eq_false h6]
        exact hnot (fun hx => h6 hx.2)
    · exact hnot (fun hx => by rw [hx.1] at h5; simp at h5)
  have hnot : ¬ ((tickC c n).x.step = 1 ∧ patF c.x.base c.rd ≤ (tickC c n).x.ticks) → round_Core_Tick.j3 (round_Core_Tick.j2 k) (some c.p) (patF c.x.base c.rd) false h2 := by
    intro hno
    unfold round_Core_Tick.j3
    refine ifb_i (fun e => by cases e) (fun _ => ?_)
    exact j2 (tickC c n) h2 Sl.nil Sl.nil (by rw [if_neg hno]) rfl rfl rfl hc2 hd (Nat.le_succ _) hs2
  refine hs2.ld_ 0 rfl ?_
  refine ifb_i (fun h5 => ?_) (fun h5 => ?_)
  · have h5' : (tickC c n).x.step = 1 := by simpa using h5
    refine hs2.ld_ 0 rfl ?_
    by_cases h6 : patF c.x.base c.rd ≤ (tickC c n).x.ticks
    · rw [decide_eq_true h6]
      unfold round_Core_Tick.j3
      refine ifb_i (fun _ => ?_) (fun e => by cases e)
      refine none_spec' (fun h8 hx8 => ?_)
      refine votes_spec (tickC c n) 1 _ (by decide) hc2 (hs2.ext hx8) (fun r o h7 hs7 => ?_)
      obtain ⟨a1, a2, a3⟩ := hc2.votes (show (tickC c n).acts.length + 1 < 2 ^ 19 from by show c.acts.length + 1 < 2 ^ 19; omega) (show (0 : Int) ≤ 1 ∧ (1 : Int) ≤ 2 by decide) dz r o
      have hf := votesC_f (tickC c n) 1 dz r o
      have hht2 : (votesC (tickC c n) 1 dz r o).ht = c.ht := by unfold votesC; split <;> rfl
      exact j2 _ h7 r o (by rw [if_pos ⟨h5', h6⟩]) hf.1 hf.2.1 hht2 a1 (by rw [votesC_dec]; exact hd) a2 hs7
    · rw [decide_eq_false h6]
      exact hnot (fun hx => h6 hx.2)
  · exact hnot (fun hx => by rw [hx.1] at h5; simp at h5)
/-- a plan is known -/
def planC (c : CS) (pl : api_Plan) (qs : List api_Request) (r : Sl) : CS :=
  if mfind c.pl pl.Round = none ∧ idAt c c.ht pl.Round = pl.From then { c with K := c.K ++ [(r, qs)], bl := mins c.bl (digB pl.Block qs) ({ pl.Block with Requests := r }, qs), pl := mins c.pl pl.Round ({ pl with Block := { pl.Block with Requests := r } }, qs) }
  else { c with K := c.K ++ [(r, qs)], bl := mins c.bl (digB pl.Block qs) ({ pl.Block with Requests := r }, qs) }
theorem Cok.blk {c : CS} (hc : Cok c) (b : api_Block) (qs : List api_Request) (d : Dig) (r : Sl) (hq : reqsN qs < 2 ^ 30) : Cok { c with K := c.K ++ [(r, qs)], bl := mins c.bl d ({ b with Requests := r }, qs) } := by
  have hK : ∀ q ∈ c.K, q ∈ c.K ++ [(r, qs)] := fun q hq => by simp [hq]
  refine { hc with lk := hc.lk.mono hK, vl := hc.vl.mono hK, pc := fun e he => (hc.pc e he).mono hK, bc := fun e he => ?_ }
  rcases mins_in he with h | h
  · exact (hc.bc e h).mono hK
  · subst h; exact ⟨hq, .inl (by simp)⟩
theorem Cok.plan {c : CS} (hc : Cok c) (pl : api_Plan) (qs : List api_Request) (r : Sl) (hq : reqsN qs < 2 ^ 30) : Cok (planC c pl qs r) := by
  have h1 := hc.blk pl.Block qs (digB pl.Block qs) r hq
  unfold planC
  split
  · refine { h1 with pc := fun e he => ?_ }
    rcases mins_in he with h | h
    · exact h1.pc e h
    · subst h; exact ⟨hq, .inl (by simp)⟩
  · exact h1
theorem Plan_spec (c : CS) (pl : api_Plan) (qs : List api_Request) {k : Sl → H → Prop} (hT : Tb h0) (hS : 0 ∉ S) (hc : Cok c) (hr : 0 ≤ pl.Round ∧ pl.Round ≤ 1024) (hq : reqsN qs < 2 ^ 30) (hn : c.acts.length < 2 ^ 18) (hs : Sat h0 S h (core c ++ L)) (hv : SVz 42 h pl.Block.Requests qs)
    (hk0 : ∀ h', c.x.decided = true ∨ pl.Height ≠ c.ht → Sat h0 S h' (core c ++ L) → k Sl.nil h') (hk : ∀ r c' h', c.x.decided = false → pl.Height = c.ht → Mvs (planC c pl qs r) c' → Sat h0 S h' (core (clrC c') ++ (hand c' ++ L)) → k c'.x.out h') :
    call (β := Sl) Prog 38 [reg ((some c.p : Pt) : Pt), reg (pl : api_Plan)] k h := by
  refine round_Core_Plan.ok _ _ _ _ ?_
  unfold round_Core_Plan.b
  refine hs.box_ (fun p1 h1 hs1 _ hx1 => ?_)
  have fin : ∀ {h' : H} {a : En}, Sat h0 S h' (a :: (core c ++ L)) → Sat h0 S h' (core c ++ L) := fun hs => hs.drop (List.sublist_cons_self _ _)
  unfold round_Core_Plan.j1
  refine ifb_i (fun e => by cases e) (fun _ => ?_)
  refine nn_i (hs1.ld_ 1 rfl ?_)
  refine ifb_i (fun hd => ?_) (fun hd => ?_)
  · exact ifb_i (fun _ => hk0 h1 (.inl hd) (fin hs1)) (fun e => by cases e)
  refine hs1.ld_ 0 rfl (hs1.ld_ 1 rfl ?_)
  rw [hc.at_]
  refine Height_spec hc.plc (hs1.chk_ 0 rfl rfl ?_)
  refine ifb_i (fun hh => ?_) (fun hh => ?_)
  · exact hk0 h1 (.inr (by simpa using hh)) (fin hs1)
  have hh' : pl.Height = c.ht := by simpa using hh
  refine hs1.ld_ 0 rfl ?_
  refine copied_spec _ qs (hv.ext hx1) (reqs_len hq) (fun r h2 hx2 ho2 hb2 => ?_)
  have hs2 := hs1.add (e := own 182 42 r qs) hx2 ho2 (own_loc _ _ _ _) hb2
  refine hs2.st_ 1 rfl len_api_Plan (fun h3 hs3 _ => ?_)
  generalize hpl2 : ({ pl with Block := { pl.Block with Requests := r } } : api_Plan) = pl2 at hs3
  have hpb : pl2.Block = { pl.Block with Requests := r } := by rw [← hpl2]
  have hpr : pl2.Round = pl.Round := by rw [← hpl2]
  have hph : pl2.Height = pl.Height := by rw [← hpl2]
  have hpf : pl2.From = pl.From := by rw [← hpl2]
  have hs4 : Sat h0 S h3 (own 182 42 r qs :: kE c.K :: cel 77 p1 (enc pl2) :: cel 140 c.p (enc c.x) :: bxE c.q c.vm c.vts :: mpE c.pm (rawP c.pl) :: mpE c.bm (rawB c.bl) :: own 80 135 c.x.out (c.acts.map (·.1)) :: rdo 34 c.x.config.Members c.ms :: kE c.KA :: L) :=
    hs3.sel 10 [0, 8, 1, 2, 3, 4, 5, 6, 7, 9] (by decide) (by decide)
  have hs5 := kE_add hs4
  have hs6 : Sat h0 S h3 (core { c with K := c.K ++ [(r, qs)] } ++ (cel 77 p1 (enc pl2) :: L)) := hs5.sel 9 [2, 3, 4, 5, 6, 7, 0, 8, 1] (by decide) (by decide)
  clear hs1 hs2 hs3 hs4 hs5
  refine nn_i (hs6.ld_ 0 rfl (hs6.ld_ 8 rfl (hs6.ld_ 8 rfl ?_)))
  rw [hpb]
  have hcv : SVz 42 h3 ({ pl.Block with Requests := r } : api_Block).Requests qs := by
    have hK : (kE (c.K ++ [(r, qs)])).A h3 := hs6.at_ (i := 6) rfl
    exact SV.z (hK (r, qs) (by simp))
  refine BDig_spec _ qs (hT.fr hs6.fr hS) hcv (by omega) (fun h4 hx4 => ?_)
  have hs7 := hs6.ext hx4
  have ed : digB ({ pl.Block with Requests := r } : api_Block) qs = digB pl.Block qs := rfl
  rw [ed]
  refine hs7.chk_ 0 rfl rfl (hs7.chk_ 8 rfl hpb ?_)
  rw [hc.hb]
  refine hs7.mput_ 3 rfl (fun h5 hs8 => ?_)
  have hs9 : Sat h0 S h5 (core { c with K := c.K ++ [(r, qs)], bl := mins c.bl (digB pl.Block qs) ({ pl.Block with Requests := r }, qs) } ++ (cel 77 p1 (enc pl2) :: L)) := by
    have e := mins_rawB c.bl (digB pl.Block qs) ({ pl.Block with Requests := r }, qs)
    unfold core
    rw [← e]
    exact hs8
  have hc2 := hc.blk pl.Block qs (digB pl.Block qs) r hq
  generalize hcc : ({ c with K := c.K ++ [(r, qs)], bl := mins c.bl (digB pl.Block qs) ({ pl.Block with Requests := r }, qs) } : CS) = c2 at hs9 hc2
  have hf : c2.p = c.p ∧ c2.x = c.x ∧ c2.pl = c.pl ∧ c2.ht = c.ht ∧ c2.acts = c.acts ∧ c2.pm = c.pm ∧ (∀ a b, idAt c2 a b = idAt c a b) := by rw [← hcc]; exact ⟨rfl, rfl, rfl, rfl, rfl, rfl, fun _ _ => rfl⟩
  obtain ⟨f1, f2, f3, f4, f5, f6, f7⟩ := hf
  obtain ⟨pv, pk, hlp, hps, hpn⟩ := lookP c pl.Round
  have hlp2 : mlook api_Plan.zero (rawP c2.pl) pl.Round = ⟨pv, pk⟩ := by rw [f3]; exact hlp
  rw [← f1]
  refine hs9.ld_ 0 rfl (hs9.ld_ 8 rfl ?_)
  rw [hc2.hp, hpr]
  refine hs9.mgetE 2 rfl hlp2 ?_
  refine hs9.box_ (fun t5 h6 hs10 _ _ => ?_)
  refine hs10.chk_ 1 rfl hc2.hp (hs10.chk_ 9 rfl hpr (hs10.mchk_ 3 rfl hlp2 ?_))
  refine hs10.st_ 0 rfl len_api_Plan (fun h7 hs11 _ => ?_)
  have hs12 : Sat h0 S h7 (core c2 ++ (cel 77 p1 (enc pl2) :: cel 77 t5 (enc pv) :: L)) := hs11.sel 10 [1, 2, 3, 4, 5, 6, 7, 8, 9, 0] (by decide) (by decide)
  clear hs7 hs8 hs9 hs10 hs11
  have fin2 : ∀ {h' : H} {c' : CS} {a b : En}, Sat h0 S h' (core c' ++ (a :: b :: L)) → Sat h0 S h' (core c' ++ L) := fun hs => by
    have := hs.sel 10 [0, 1, 2, 3, 4, 5, 6, 7] (by decide) (by decide)
    exact this
  -- the end
  have hend : ∀ h', Sat h0 S h' (core (planC c pl qs r) ++ L) → round_Core_Plan.j2 k (some c2.p) h' := by
    intro h' hs'
    unfold round_Core_Plan.j2
    have hcp := hc.plan pl qs r hq
    have e : (planC c pl qs r).p = c2.p ∧ (planC c pl qs r).x = c.x ∧ (planC c pl qs r).acts = c.acts := by rw [f1]; unfold planC; split <;> exact ⟨rfl, rfl, rfl⟩
    rw [← e.1]
    have := mu_ub hcp
    refine acts_spec _ hT hS hcp (by rw [e.2.1]; exact hd) (by rw [e.2.2]; omega) hs' (fun c' h3 hm3 hs3 => ?_)
    exact hk r c' h3 hd hh' hm3 hs3
  have hno : ∀ h', ¬ (mfind c.pl pl.Round = none ∧ idAt c c.ht pl.Round = pl.From) → Sat h0 S h' (core c2 ++ (cel 77 p1 (enc pl2) :: cel 77 t5 (enc pv) :: L)) → round_Core_Plan.j3 (round_Core_Plan.j2 k) (some c2.p) p1 false h' := by
    intro h' hx hs'
    unfold round_Core_Plan.j3
    refine ifb_i (fun e => by cases e) (fun _ => ?_)
    refine hend h' ?_
    unfold planC
    rw [if_neg hx, hcc]
    exact fin2 hs'
  refine ifb_i (fun h8 => ?_) (fun h8 => ?_)
  · have hnone : mfind c.pl pl.Round = none := hpn (by simpa using h8)
    refine hs12.ld_ 8 rfl (hs12.ld_ 8 rfl (hs12.ld_ 8 rfl ?_))
    refine At_spec _ _ (hs12.chk_ 8 rfl rfl ?_)
    rw [hpr, hph, hh', hpf]
    refine leader_spec c2 (a := c.ht) (b := pl.Round) ⟨hc.plc.1, hr⟩ hc2 hs12 (fun h9 hs13 => ?_)
    refine hs13.chk_ 8 rfl hpf ?_
    rw [f7]
    by_cases hl : idAt c c.ht pl.Round = pl.From
    · rw [show (idAt c c.ht pl.Round == pl.From) = true by simpa using hl]
      unfold round_Core_Plan.j3
      refine ifb_i (fun _ => ?_) (fun e => by cases e)
      refine nn_i (hs13.ld_ 0 rfl (hs13.ld_ 8 rfl (hs13.ld_ 8 rfl ?_)))
      rw [hc2.hp, hpr]
      refine hs13.mput_ 2 rfl (fun h10 hs14 => ?_)
      refine hend h10 ?_
      unfold planC
      rw [if_pos ⟨hnone, hl⟩]
      have e := mins_rawP c2.pl pl.Round (pl2, qs)
      have e4 : Sat h0 S h10 (core { c2 with pl := mins c2.pl pl.Round (pl2, qs) } ++ (cel 77 p1 (enc pl2) :: cel 77 t5 (enc pv) :: L)) := by
        unfold core
        rw [← e]
        exact hs14
      have e5 := fin2 e4
      rw [f3, ← hcc, ← hpl2] at e5
      exact e5
    · rw [show (idAt c c.ht pl.Round == pl.From) = false by simpa using hl]
      exact hno h9 (fun hx => hl hx.2) hs13
  · exact hno h7 (fun hx => by
      cases hpk : pk with
      | false => rw [hpk] at h8; simp at h8
      | true => obtain ⟨qs', hm⟩ := hps hpk; rw [hx.1] at hm; cases hm) hs12
end
end Go.Proofs.YtimmoekliphobaaDoor
namespace Go.Proofs.YtimmoekliphobaaDoor
open Go Go.Sh
open Go.Sh.Ty (reg)
set_option linter.unusedVariables false
set_option maxRecDepth 100000

theorem quo_pos (n : Nat) : 1 ≤ quoN n := by unfold quoN; omega
theorem win_cnt {c : CS} {d : Dig} {r : Int} (h : Win c d r true) : quoN c.ms.length ≤ cntF c.vts 2 ⟨r, d⟩ := by
  obtain ⟨cs, hC, hW⟩ := h
  rcases hW with ⟨h1, _⟩ | ⟨_, n, hm, hq, _⟩
  · cases h1
  · have h2 := mfind_of_mem hC.nodup hm
    rw [hC.cnt] at h2
    split at h2
    · cases h2
    · have := Option.some.inj h2
      omega
theorem cnt_pos {l : Vts} {k : Int} {ch : vote_choice} (h : 1 ≤ cntF l k ch) : ∃ q ∈ l, q.1.kind = k ∧ q.2.Digest ≠ dz ∧ chq q = ch := by
  unfold cntF at h
  obtain ⟨q, hq⟩ := List.exists_mem_of_length_pos (Nat.lt_of_lt_of_le Nat.zero_lt_one h)
  rw [List.mem_filter] at hq
  simp only [Bool.and_eq_true, decide_eq_true_eq, Bool.not_eq_true', decide_eq_false_iff_not] at hq
  exact ⟨q, hq.1, hq.2.1.1, hq.2.1.2, hq.2.2⟩
/-- whatever a quorum voted second for, something is decided -/
theorem win_tt {c : CS} {d0 : Dig} {r0 : Int} (h0 : quoN c.ms.length ≤ cntF c.vts 2 ⟨r0, d0⟩) {d : Dig} {r : Int} {is : Bool} (h : Win c d r is) : is = true := by
  obtain ⟨cs, hC, hW⟩ := h
  rcases hW with ⟨_, _, _, hno⟩ | ⟨h1, _⟩
  · exfalso
    have h1 := hC.cnt ⟨r0, d0⟩
    have := quo_pos c.ms.length
    rw [if_neg (by omega)] at h1
    exact hno _ (mfind_mem h1) (by show (quoN c.ms.length : Int) ≤ _; omega)
  · exact h1
theorem later_no {c : CS} {ks : List (Int × Int)} (hL : LastOf ks c.vts) (hrd : 0 ≤ c.rd) (h : ∀ q ∈ c.vts, q.1.round ≤ c.rd) (hs : c.x.step ≠ 0) : laterV c ks < 0 := by
  unfold laterV
  have hn : nowL c = c.rd := by unfold nowL; rw [if_neg (by simpa using hs)]
  rw [hn]
  split
  · rename_i hlt
    rcases reached_le hL (n := (((c.ms.length - 1) / 3 + 1 : Nat) : Int)) (by omega) with h1 | ⟨q, hq, h1⟩
    · rw [h1] at hlt; omega
    · rw [← h1] at hlt; have := h q hq; omega
  · omega
theorem later_nil {c : CS} {ks : List (Int × Int)} (hL : LastOf ks c.vts) (h : c.vts = []) (hrd : 0 ≤ c.rd) : laterV c ks < 0 := by
  unfold laterV
  rcases reached_le hL (n := (((c.ms.length - 1) / 3 + 1 : Nat) : Int)) (by omega) with h1 | ⟨q, hq, h1⟩
  · rw [h1]
    split
    · rename_i hlt; unfold nowL at hlt; split at hlt <;> omega
    · omega
  · rw [h] at hq; cases hq
theorem first_nil {c : CS} (h : c.vts = []) (rd : Int) (d : Dig) : firstB c rd d = false := by
  unfold firstB
  have : forF c.vts 1 rd d 63 = [] := by
    rw [h]; unfold forF pick1
    rw [List.flatMap_eq_nil_iff]
    intro i _; rfl
  rw [this]
  have := quo_pos c.ms.length
  exact decide_eq_false (by simp; omega)
theorem win_nil {c : CS} (h : c.vts = []) {d : Dig} {r : Int} (hw : Win c d r true) : False := by
  have h1 := win_cnt hw
  have h2 := quo_pos c.ms.length
  obtain ⟨q, hq, _⟩ := cnt_pos (Nat.le_trans h2 h1)
  rw [h] at hq; cases hq
theorem enterC_eq (c : CS) (rd : Int) (r o : Sl) : ∃ a KA out, enterC c rd r o = { rdC c rd with acts := a, KA := KA, x := { (rdC c rd).x with out := out } } ∧
    a = c.acts ++ (if isMem c && (idAt c c.ht rd == c.x.me) then [({ api_Act.zero with Act := 1, Round := rd, Valid := c.x.valid.round, Block := { c.x.valid.block with Requests := r } }, c.vq)] else []) := by
  unfold enterC
  by_cases h : (isMem c && (idAt c c.ht rd == c.x.me)) = true
  · rw [if_pos h, if_pos h]; exact ⟨_, _, _, rfl, rfl⟩
  · rw [if_neg h, if_neg h, List.append_nil]; exact ⟨c.acts, c.KA, c.x.out, rfl, rfl⟩
theorem votesC_eq (c : CS) (kd : Int) (d : Dig) (r o : Sl) : ∃ a KA out, votesC c kd d r o = { stpC c kd with acts := a, KA := KA, x := { (stpC c kd).x with out := out } } ∧
    a = c.acts ++ (if isMem c then [({ api_Act.zero with Act := 2, Round := c.rd, Kind := kd, Digest := d, Block := { api_Block.zero with Requests := r } }, [])] else []) := by
  unfold votesC
  by_cases h : isMem c = true
  · rw [if_pos h, if_pos h]; exact ⟨_, _, _, rfl, rfl⟩
  · rw [if_neg h, if_neg h, List.append_nil]; exact ⟨c.acts, c.KA, c.x.out, rfl, rfl⟩
theorem planF_free {c : CS} {pl : api_Plan} {qs : List api_Request} (h1 : pl.Valid < 0) (h2 : c.x.locked.round < 0) : planF c pl qs = ⟨digB pl.Block qs, true⟩ := by
  unfold planF
  rw [if_neg (by omega), decide_eq_true h2]; rfl
/-- where nothing was heard nothing is done -/
theorem mv_quiet {c c' : CS} {b : Bool} (hm : MV c c' b) (hrd : 0 ≤ c.rd) (hv : c.vts = []) (hp : c.pl = []) : c' = c ∧ b = false := by
  have hnf : ∀ rd e, mfind c.pl rd = some e → False := by intro rd e he; rw [hp] at he; cases he
  cases hm with
  | dec d r bb qs rr o hw hf => exact (win_nil hv hw).elim
  | next ks rr o h1 h2 h3 => have := later_nil h2 hv hrd; omega
  | start rr o h1 h2 h3 h4 =>
    rcases h4 with h4 | ⟨q, hq, _⟩
    · exact absurd hp h4
    · rw [hv] at hq; cases hq
  | wait p qs _ _ _ h _ => exact (hnf _ _ h).elim
  | first p qs rr o h1 h2 h3 h4 h5 => exact (hnf _ _ h4).elim
  | lock p qs rr o h1 h2 h3 h4 h5 => exact (hnf _ _ h4).elim
  | nil rr o h1 h2 h3 h4 h5 => rw [first_nil hv] at h5; cases h5
  | val p qs h1 h2 h3 h4 h5 h6 => exact (hnf _ _ h4).elim
  | stop _ _ _ => exact ⟨rfl, rfl⟩
theorem mvs_quiet {c c' : CS} (hm : Mvs c c') (hrd : 0 ≤ c.rd) (hv : c.vts = []) (hp : c.pl = []) : c' = c := by
  cases hm with
  | last h => exact (mv_quiet h hrd hv hp).1
  | more h _ => have := (mv_quiet h hrd hv hp).2; cases this
theorem mv_novote {c c' : CS} {b : Bool} (hm : MV c c' b) (hrd : 0 ≤ c.rd) (hv : c.vts = []) (hs : 2 ≤ c.x.step) : c' = c ∧ b = false := by
  cases hm with
  | dec d r bb qs rr o hw hf => exact (win_nil hv hw).elim
  | next ks rr o h1 h2 h3 => have := later_nil h2 hv hrd; omega
  | start rr o h1 h2 h3 h4 => omega
  | wait p qs _ _ h _ _ => omega
  | first p qs rr o h1 h2 h3 h4 h5 => omega
  | lock p qs rr o h1 h2 h3 h4 h5 => rw [first_nil hv] at h5; cases h5
  | nil rr o h1 h2 h3 h4 h5 => rw [first_nil hv] at h5; cases h5
  | val p qs h1 h2 h3 h4 h5 h6 => rw [first_nil hv] at h6; cases h6
  | stop _ _ _ => exact ⟨rfl, rfl⟩
theorem mvs_novote {c c' : CS} (hm : Mvs c c') (hrd : 0 ≤ c.rd) (hv : c.vts = []) (hs : 2 ≤ c.x.step) : c' = c := by
  cases hm with
  | last h => exact (mv_novote h hrd hv hs).1
  | more h _ => have := (mv_novote h hrd hv hs).2; cases this
/-- a plan of the round, heard ahead of all votes -/
theorem mvs_plan {c c' : CS} (hm : Mvs c c') (hrd : 0 ≤ c.rd) (hv : c.vts = []) (hs : c.x.step = 1) {p : api_Plan} {qs : List api_Request} (hp : mfind c.pl c.rd = some (p, qs)) (hf : (planF c p qs).b = true) :
    ∃ r o, c' = votesC c 1 (planF c p qs).a r o := by
  have step : ∀ {c1 : CS} {b : Bool}, MV c c1 b → b = true ∧ ∃ r o, c1 = votesC c 1 (planF c p qs).a r o := by
    intro c1 b hm
    cases hm with
    | dec d r bb qs rr o hw hf => exact (win_nil hv hw).elim
    | next ks rr o h1 h2 h3 => have := later_nil h2 hv hrd; omega
    | start rr o h1 h2 h3 h4 => omega
    | wait p' qs' _ _ h h2 h3 =>
      rw [hp] at h2
      obtain ⟨rfl, rfl⟩ := Prod.mk.inj (Option.some.inj h2)
      rw [hf] at h3; cases h3
    | first p' qs' rr o h1 h2 h3 h4 h5 =>
      rw [hp] at h4
      obtain ⟨rfl, rfl⟩ := Prod.mk.inj (Option.some.inj h4)
      exact ⟨rfl, rr, o, rfl⟩
    | lock p qs rr o h1 h2 h3 h4 h5 => omega
    | nil rr o h1 h2 h3 h4 h5 => omega
    | val p qs h1 h2 h3 h4 h5 h6 => omega
    | stop _ _ h => have := h.2.1 hs; rw [hp] at this; cases this
  cases hm with
  | last h => have := (step h).1; cases this
  | more h h2 =>
    obtain ⟨_, r, o, rfl⟩ := step h
    refine ⟨r, o, ?_⟩
    obtain ⟨a, KA, out, he, _⟩ := votesC_eq c 1 (planF c p qs).a r o
    exact mvs_novote h2 (by rw [he]; exact hrd) (by rw [he]; exact hv) (by rw [he]; show (2 : Int) ≤ 1 + 1; decide)
theorem mem_forF {l : Vts} {kind rd : Int} {d : Dig} {i : Nat} {v : api_Vote} (hi : i < 63) (hm : mfind l ⟨kind, rd, ((i + 1 : Nat) : Int)⟩ = some v) (hd : v.Digest = d) : v ∈ forF l kind rd d 63 := by
  unfold forF
  rw [List.mem_flatMap]
  refine ⟨i, by simpa using hi, ?_⟩
  unfold pick1
  rw [hm]; simp [hd]
theorem no_win {c : CS} (h : ∀ q ∈ c.vts, q.1.kind = 1) {d : Dig} {r : Int} (hw : Win c d r true) : False := by
  obtain ⟨q, hq, hk, _⟩ := cnt_pos (Nat.le_trans (quo_pos _) (win_cnt hw))
  rw [h q hq] at hk; cases hk
/-- a quorum's first votes for the plan of the round -/
theorem mvs_lock {c c' : CS} (hm : Mvs c c') (hrd : 0 ≤ c.rd) (hk : ∀ q ∈ c.vts, q.1.kind = 1) (hr : ∀ q ∈ c.vts, q.1.round ≤ c.rd) (hs : c.x.step = 2) {p : api_Plan} {qs : List api_Request} (hp : mfind c.pl c.rd = some (p, qs)) (hf : firstB c c.rd (digB p.Block qs) = true) :
    ∃ r o, c' = votesC (lockC c p.Block qs) 2 (digB p.Block qs) r o := by
  have step : ∀ {c1 : CS} {b : Bool}, MV c c1 b → b = true ∧ ∃ r o, c1 = votesC (lockC c p.Block qs) 2 (digB p.Block qs) r o := by
    intro c1 b hm
    cases hm with
    | dec d r bb qs rr o hw hf => exact (no_win hk hw).elim
    | next ks rr o h1 h2 h3 => have := later_no h2 hrd hr (by omega); omega
    | start rr o h1 h2 h3 h4 => omega
    | wait p' qs' _ _ h h2 h3 => omega
    | first p' qs' rr o h1 h2 h3 h4 h5 => omega
    | lock p' qs' rr o h1 h2 h3 h4 h5 =>
      rw [hp] at h4
      obtain ⟨rfl, rfl⟩ := Prod.mk.inj (Option.some.inj h4)
      exact ⟨rfl, rr, o, rfl⟩
    | nil rr o h1 h2 h3 h4 h5 => have := h4 _ _ hp; rw [hf] at this; cases this
    | val p qs h1 h2 h3 h4 h5 h6 => omega
    | stop _ _ h => have := (h.2.2.1 hs).1 _ _ hp; rw [hf] at this; cases this
  cases hm with
  | last h => have := (step h).1; cases this
  | more h h2 =>
    obtain ⟨_, r, o, rfl⟩ := step h
    refine ⟨r, o, ?_⟩
    obtain ⟨a, KA, out, he, _⟩ := votesC_eq (lockC c p.Block qs) 2 (digB p.Block qs) r o
    rw [he] at h2 ⊢
    have stop : ∀ {c1 : CS} {b : Bool}, MV { stpC (lockC c p.Block qs) 2 with acts := a, KA := KA, x := { (stpC (lockC c p.Block qs) 2).x with out := out } } c1 b → b = false ∧ c1 = { stpC (lockC c p.Block qs) 2 with acts := a, KA := KA, x := { (stpC (lockC c p.Block qs) 2).x with out := out } } := by
      intro c1 b hm
      have e3 : ({ stpC (lockC c p.Block qs) 2 with acts := a, KA := KA, x := { (stpC (lockC c p.Block qs) 2).x with out := out } } : CS).x.step = 3 := rfl
      cases hm with
      | dec d r bb qs rr o hw hf => exact (no_win (c := { stpC (lockC c p.Block _) 2 with acts := a, KA := KA, x := { (stpC (lockC c p.Block _) 2).x with out := out } }) hk hw).elim
      | next ks rr o h1 h2 h3 => have := later_no h2 hrd hr (by rw [e3]; decide); omega
      | start rr o h1 h2 h3 h4 => rw [e3] at h3; omega
      | wait p' qs' _ _ h h2 h3 => rw [e3] at h; omega
      | first p' qs' rr o h1 h2 h3 h4 h5 => rw [e3] at h3; omega
      | lock p' qs' rr o h1 h2 h3 h4 h5 => rw [e3] at h3; omega
      | nil rr o h1 h2 h3 h4 h5 => rw [e3] at h3; omega
      | val p qs h1 h2 h3 h4 h5 h6 => exact absurd h5 (Int.lt_irrefl _)
      | stop _ _ h => exact ⟨rfl, rfl⟩
    cases h2 with
    | last h => exact (stop h).2
    | more h _ => have := (stop h).1; cases this
/-- a quorum's second votes for a block that is known -/
theorem mvs_dec {c c' : CS} (hm : Mvs c c') {D : Dig} {r0 : Int} (hq : quoN c.ms.length ≤ cntF c.vts 2 ⟨r0, D⟩) (hk : ∀ q ∈ c.vts, q.1.kind = 2 → q.2.Digest = D) {b : api_Block} {qs : List api_Request} (hb : mfind c.bl D = some (b, qs)) :
    ∃ r rr o, c' = sayC (decC c) { api_Act.zero with Act := 3, Round := r, Digest := D, Block := b } qs rr o := by
  have hd : ∀ {d : Dig} {r : Int}, Win c d r true → d = D := by
    intro d r hw
    obtain ⟨q, hq, h1, _, h2⟩ := cnt_pos (Nat.le_trans (quo_pos _) (win_cnt hw))
    have h3 := hk q hq h1
    have h4 := congrArg vote_choice.digest h2
    exact h4.symm.trans h3
  have hnw : ¬ NW c := by
    rintro ⟨d, r, is, hw, hn⟩
    have hi := win_tt hq hw
    subst hi
    have := hd hw
    subst this
    rw [hn rfl] at hb; cases hb
  have step : ∀ {c1 : CS} {bb : Bool}, MV c c1 bb → bb = false ∧ ∃ r rr o, c1 = sayC (decC c) { api_Act.zero with Act := 3, Round := r, Digest := D, Block := b } qs rr o := by
    intro c1 bb hm
    cases hm with
    | dec d r b' qs' rr o hw hf =>
      have := hd hw
      subst this
      rw [hb] at hf
      obtain ⟨rfl, rfl⟩ := Prod.mk.inj (Option.some.inj hf)
      exact ⟨rfl, r, rr, o, rfl⟩
    | next ks rr o h1 h2 h3 => exact absurd h1 hnw
    | start rr o h1 h2 h3 h4 => exact absurd h1 hnw
    | wait p' qs' h1 _ h h2 h3 => exact absurd h1 hnw
    | first p' qs' rr o h1 h2 h3 h4 h5 => exact absurd h1 hnw
    | lock p' qs' rr o h1 h2 h3 h4 h5 => exact absurd h1 hnw
    | nil rr o h1 h2 h3 h4 h5 => exact absurd h1 hnw
    | val p qs h1 h2 h3 h4 h5 h6 => exact absurd h1 hnw
    | stop h1 _ h => exact absurd h1 hnw
  cases hm with
  | last h => exact (step h).2
  | more h _ => have := (step h).1; cases this
end Go.Proofs.YtimmoekliphobaaDoor
namespace Go.Proofs.YtimmoekliphobaaDoor
open Go Go.Sh
open Go.Sh.Ty (reg)
set_option linter.unusedVariables false
set_option maxRecDepth 100000

/-! what a core says: each vote stands behind the ones before -/
def Ord (o a : api_Act) : Prop := o.Act = 2 → a.Act = 2 → o.Round < a.Round ∨ (o.Round = a.Round ∧ o.Kind ≠ a.Kind)
def Bel (rd st : Int) (a : api_Act) : Prop := a.Act = 2 → a.Round < rd ∨ (a.Round = rd ∧ a.Kind < st)
def acts1 (c : CS) : List api_Act := c.acts.map (·.1)
structure QQ (pre : List api_Act) (c : CS) : Prop where
  asc : (pre ++ acts1 c).Pairwise Ord
  bel : ∀ a ∈ pre ++ acts1 c, Bel c.rd c.x.step a
def cnt3 (l : List api_Act) : Nat := (l.filter fun a => a.Act == 3).length
theorem cnt3_app (a b : List api_Act) : cnt3 (a ++ b) = cnt3 a + cnt3 b := by simp [cnt3]
theorem Bel.mono {rd st rd' st' : Int} {a : api_Act} (h : Bel rd st a) (hp : rd < rd' ∨ (rd = rd' ∧ st ≤ st')) : Bel rd' st' a := by
  intro h2
  rcases h h2 with h3 | ⟨h3, h4⟩
  · rcases hp with hp | ⟨hp, _⟩ <;> left <;> omega
  · rcases hp with hp | ⟨hp, hq⟩
    · left; omega
    · right; omega
/-- nothing but acts that are no votes come -/
theorem QQ.add {pre : List api_Act} {c c' : CS} (h : QQ pre c) {e : List api_Act} (ha : acts1 c' = acts1 c ++ e) (he : ∀ a ∈ e, a.Act ≠ 2) (hp : c.rd < c'.rd ∨ (c.rd = c'.rd ∧ c.x.step ≤ c'.x.step)) : QQ pre c' := by
  refine ⟨?_, ?_⟩
  · rw [ha, ← List.append_assoc, List.pairwise_append]
    refine ⟨h.asc, ?_, ?_⟩
    · exact List.pairwise_of_forall_mem_list (fun a ha b _ h2 => absurd h2 (he a ha))
    · intro a _ b hb _ h2; exact absurd h2 (he b hb)
  · intro a hm
    rw [ha, ← List.append_assoc, List.mem_append] at hm
    rcases hm with hm | hm
    · exact (h.bel a hm).mono hp
    · intro h2; exact absurd h2 (he a hm)
/-- a vote comes -/
theorem QQ.vote {pre : List api_Act} {c c' : CS} (h : QQ pre c) {e : List api_Act} (ha : acts1 c' = acts1 c ++ e) (he : ∀ a ∈ e, a.Round = c.rd ∧ a.Kind = c.x.step) (hl : e.length ≤ 1) (hr : c'.rd = c.rd) (hs : c'.x.step = c.x.step + 1) : QQ pre c' := by
  refine ⟨?_, ?_⟩
  · rw [ha, ← List.append_assoc, List.pairwise_append]
    refine ⟨h.asc, ?_, ?_⟩
    · match e, hl with
      | [], _ => exact .nil
      | [x], _ => exact List.pairwise_singleton _ _
    · intro o ho a hae h1 h2
      obtain ⟨e1, e2⟩ := he a hae
      rcases h.bel o ho h1 with h3 | ⟨h3, h4⟩
      · left; omega
      · right; omega
  · intro a hm
    rw [ha, ← List.append_assoc, List.mem_append] at hm
    rw [hr, hs]
    rcases hm with hm | hm
    · exact (h.bel a hm).mono (.inr ⟨rfl, by omega⟩)
    · intro _
      obtain ⟨e1, e2⟩ := he a hm
      right; omega
theorem QQ.same {pre : List api_Act} {c c' : CS} (h : QQ pre c) (ha : c'.acts = c.acts) (hr : c'.rd = c.rd) (hs : c'.x.step = c.x.step) : QQ pre c' := by
  refine ⟨by unfold acts1; rw [ha]; exact h.asc, ?_⟩
  unfold acts1; rw [ha, hr, hs]; exact h.bel
theorem QQ.enter {pre : List api_Act} {c : CS} (h : QQ pre c) (rd : Int) (r o : Sl) (hp : c.rd < rd ∨ (c.rd = rd ∧ c.x.step ≤ 1)) : QQ pre (enterC c rd r o) ∧ cnt3 (acts1 (enterC c rd r o)) = cnt3 (acts1 c) ∧ (enterC c rd r o).rd = rd := by
  obtain ⟨a, KA, out, he, ha⟩ := enterC_eq c rd r o
  have hac : ∃ e, acts1 (enterC c rd r o) = acts1 c ++ e ∧ (∀ x ∈ e, x.Act = 1) := by
    rw [he]
    unfold acts1
    show ∃ e, a.map (·.1) = _ ∧ _
    rw [ha, List.map_append]
    refine ⟨_, rfl, fun x hx => ?_⟩
    split at hx
    · have hx' : x = { api_Act.zero with Act := 1, Round := rd, Valid := c.x.valid.round, Block := { c.x.valid.block with Requests := r } } := by simpa using hx
      rw [hx']
    · simp at hx
  obtain ⟨e, h1, h2⟩ := hac
  have hf : (enterC c rd r o).rd = rd ∧ (enterC c rd r o).x.step = 1 := by rw [he]; exact ⟨rfl, rfl⟩
  refine ⟨h.add h1 (fun x hx => by rw [h2 x hx]; decide) (by rw [hf.1, hf.2]; exact hp), ?_, hf.1⟩
  rw [h1, cnt3_app]
  have : cnt3 e = 0 := by
    unfold cnt3
    rw [List.length_eq_zero_iff, List.filter_eq_nil_iff]
    intro x hx; rw [h2 x hx]; decide
  omega
theorem QQ.votes {pre : List api_Act} {c : CS} (h : QQ pre c) (kd : Int) (d : Dig) (r o : Sl) (hk : c.x.step = kd) : QQ pre (votesC c kd d r o) ∧ cnt3 (acts1 (votesC c kd d r o)) = cnt3 (acts1 c) ∧ (votesC c kd d r o).rd = c.rd := by
  obtain ⟨a, KA, out, he, ha⟩ := votesC_eq c kd d r o
  have hac : ∃ e, acts1 (votesC c kd d r o) = acts1 c ++ e ∧ (∀ x ∈ e, x.Act = 2 ∧ x.Round = c.rd ∧ x.Kind = kd) ∧ e.length ≤ 1 := by
    rw [he]
    unfold acts1
    show ∃ e, a.map (·.1) = _ ∧ _
    rw [ha, List.map_append]
    refine ⟨_, rfl, fun x hx => ?_, ?_⟩
    · split at hx
      · have hx' : x = { api_Act.zero with Act := 2, Round := c.rd, Kind := kd, Digest := d, Block := { api_Block.zero with Requests := r } } := by simpa using hx
        rw [hx']; exact ⟨rfl, rfl, rfl⟩
      · simp at hx
    · split <;> simp
  obtain ⟨e, h1, h2, h3⟩ := hac
  have hf : (votesC c kd d r o).rd = c.rd ∧ (votesC c kd d r o).x.step = kd + 1 := by rw [he]; exact ⟨rfl, rfl⟩
  refine ⟨h.vote h1 (fun x hx => ⟨(h2 x hx).2.1, by rw [(h2 x hx).2.2, hk]⟩) h3 hf.1 (by rw [hf.2, hk]), ?_, hf.1⟩
  rw [h1, cnt3_app]
  have : cnt3 e = 0 := by
    unfold cnt3
    rw [List.length_eq_zero_iff, List.filter_eq_nil_iff]
    intro x hx; rw [(h2 x hx).1]; decide
  omega
theorem QQ.mv {pre : List api_Act} {c c' : CS} {b : Bool} (h : QQ pre c) (hc : Cok c) (hm : MV c c' b) :
    QQ pre c' ∧ c.rd ≤ c'.rd ∧ ((c'.x.decided = c.x.decided ∧ cnt3 (acts1 c') = cnt3 (acts1 c)) ∨ (b = false ∧ c'.x.decided = true ∧ cnt3 (acts1 c') = cnt3 (acts1 c) + 1)) := by
  cases hm with
  | dec d r bb qs rr o hw hf =>
    have ha : acts1 (sayC (decC c) { api_Act.zero with Act := 3, Round := r, Digest := d, Block := bb } qs rr o) = acts1 c ++ [{ api_Act.zero with Act := 3, Round := r, Digest := d, Block := { bb with Requests := rr } }] := by
      show (c.acts ++ [_]).map _ = _; rw [List.map_append]; rfl
    refine ⟨h.add ha (fun x hx => by rw [List.mem_singleton] at hx; rw [hx]; show (3 : Int) ≠ 2; decide) (.inr ⟨rfl, Int.le_refl _⟩), Int.le_refl _, .inr ⟨rfl, rfl, ?_⟩⟩
    rw [ha, cnt3_app]; rfl
  | next ks rr o h1 h2 h3 =>
    have hgt := later_gt h3
    have hp : c.rd < laterV c ks ∨ (c.rd = laterV c ks ∧ c.x.step ≤ 1) := by
      unfold nowL at hgt
      split at hgt
      · rename_i hs
        have hs' : c.x.step = 0 := by simpa using hs
        have := hc.s0 hs'
        by_cases he : c.rd = laterV c ks
        · exact .inr ⟨he, by omega⟩
        · left; omega
      · exact .inl hgt
    obtain ⟨q1, q2, q3⟩ := h.enter (laterV c ks) rr o hp
    exact ⟨q1, by rw [q3]; omega, .inl ⟨enterC_dec _ _ _ _, q2⟩⟩
  | start rr o h1 h2 h3 h4 =>
    have := hc.s0 h3
    obtain ⟨q1, q2, q3⟩ := h.enter 0 rr o (.inr ⟨this, by omega⟩)
    exact ⟨q1, by rw [q3]; omega, .inl ⟨enterC_dec _ _ _ _, q2⟩⟩
  | wait p qs _ _ _ _ _ => exact ⟨h, Int.le_refl _, .inl ⟨rfl, rfl⟩⟩
  | first p qs rr o h1 h2 h3 h4 h5 =>
    obtain ⟨q1, q2, q3⟩ := h.votes 1 (planF c p qs).a rr o h3
    exact ⟨q1, by rw [q3]; omega, .inl ⟨votesC_dec _ _ _ _ _, q2⟩⟩
  | lock p qs rr o h1 h2 h3 h4 h5 =>
    have h' : QQ pre (lockC c p.Block qs) := h.same rfl rfl rfl
    obtain ⟨q1, q2, q3⟩ := h'.votes 2 (digB p.Block qs) rr o h3
    exact ⟨q1, by rw [q3]; exact Int.le_refl _, .inl ⟨votesC_dec _ _ _ _ _, q2⟩⟩
  | nil rr o h1 h2 h3 h4 h5 =>
    obtain ⟨q1, q2, q3⟩ := h.votes 2 dz rr o h3
    exact ⟨q1, by rw [q3]; omega, .inl ⟨votesC_dec _ _ _ _ _, q2⟩⟩
  | val p qs h1 h2 h3 h4 h5 h6 => exact ⟨h.same rfl rfl rfl, Int.le_refl _, .inl ⟨rfl, rfl⟩⟩
  | stop _ _ _ => exact ⟨h, Int.le_refl _, .inl ⟨rfl, rfl⟩⟩
theorem QQ.mvs {pre : List api_Act} {c c' : CS} (hm : Mvs c c') : QQ pre c → Cok c → c.x.decided = false → c.acts.length + mu c + 2 < 2 ^ 19 →
    QQ pre c' ∧ c.rd ≤ c'.rd ∧ ((c'.x.decided = false ∧ cnt3 (acts1 c') = cnt3 (acts1 c)) ∨ (c'.x.decided = true ∧ cnt3 (acts1 c') = cnt3 (acts1 c) + 1)) := by
  induction hm with
  | last h =>
    intro q hc hd hn
    obtain ⟨q1, q2, q3⟩ := q.mv hc h
    refine ⟨q1, q2, ?_⟩
    rcases q3 with ⟨a, b⟩ | ⟨_, a, b⟩
    · exact .inl ⟨a.trans hd, b⟩
    · exact .inr ⟨a, b⟩
  | more h _ ih =>
    intro q hc hd hn
    obtain ⟨q1, q2, q3⟩ := q.mv hc h
    obtain ⟨a1, a2, a3⟩ := h.ok hc hd (by omega)
    obtain ⟨a4, a5⟩ := a3 rfl
    obtain ⟨i1, i2, i3⟩ := ih q1 a1 a5 (by omega)
    refine ⟨i1, Int.le_trans q2 i2, ?_⟩
    rcases q3 with ⟨a, b⟩ | ⟨e, _⟩
    · rw [b] at i3; exact i3
    · cases e
theorem QQ.tick {pre : List api_Act} {c c4 : CS} {n : Int} (h : QQ pre c) (ht : TickR c n c4) : QQ pre c4 ∧ c.rd ≤ c4.rd ∧ c4.x.decided = c.x.decided ∧ cnt3 (acts1 c4) = cnt3 (acts1 c) := by
  obtain ⟨r1, o1, r2, o2, r3, o3, c2, c3, e2, e3, e4⟩ := ht
  have h1 : QQ pre (tickC c n) := h.same rfl rfl rfl
  have h2 : QQ pre c2 ∧ c2.rd = c.rd ∧ c2.x.decided = c.x.decided ∧ cnt3 (acts1 c2) = cnt3 (acts1 c) := by
    rw [e2]; split
    · rename_i hs
      obtain ⟨a, b, d⟩ := h1.votes 1 dz r1 o1 hs.1
      exact ⟨a, d, votesC_dec _ _ _ _ _, b⟩
    · exact ⟨h1, rfl, rfl, rfl⟩
  have h3 : QQ pre c3 ∧ c3.rd = c.rd ∧ c3.x.decided = c.x.decided ∧ cnt3 (acts1 c3) = cnt3 (acts1 c) := by
    rw [e3]; split
    · rename_i hs
      obtain ⟨a, b, d⟩ := h2.1.votes 2 dz r2 o2 hs.1
      exact ⟨a, d.trans h2.2.1, (votesC_dec _ _ _ _ _).trans h2.2.2.1, b.trans h2.2.2.2⟩
    · exact h2
  rw [e4]; split
  · obtain ⟨a, b, d⟩ := h3.1.enter (c3.rd + 1) r3 o3 (.inl (by omega))
    exact ⟨a, by rw [d]; have := h3.2.1; omega, (enterC_dec _ _ _ _).trans h3.2.2.1, b.trans h3.2.2.2⟩
  · exact ⟨h3.1, by have := h3.2.1; omega, h3.2.2.1, h3.2.2.2⟩
end Go.Proofs.YtimmoekliphobaaDoor
namespace Go.Proofs.YtimmoekliphobaaDoor
open Go Go.Sh
open Go.Sh.Ty (reg)
set_option linter.unusedVariables false
set_option maxRecDepth 100000
set_option maxHeartbeats 4000000
theorem ref12_Good.ok (b : api_Block) (k : Bool → H → Prop) (h : H) (hh : ref12_Good.b b k h) : CallsH Prog 66 [reg b].toArray h fun v h' => ∃ r : Bool, v = reg r ∧ k r h' := by
  unfold ref12_Good.b at hh
  refine CallsH.of 40 Tryd.func66 rfl Tryd.ntmps66 rfl (fun w0 => ?_)
  refine CW.seq ?_
  refine CW.region ?_
  refine box_elim hh (fun b_1 hb_1 hh => ?_)
  refine .e (e_boxP hb_1 rfl rfl rfl ?_)
  refine .val (v_assign (v := reg (false : Bool)) rfl) rfl ?_
  refine .nil ?_
  refine QN.then_ ?_
  refine CW.seq ?_
  refine CW.seq ?_
  refine CW.region ?_
  refine .val (v_fieldAddr fl_75_0 rfl) rfl ?_
  obtain ⟨t6, ⟨xt6, hxt6, hgt6⟩, hh⟩ := hh
  refine .val (v_ld1 (p := b_1) 0 na_3 rfl hxt6 hgt6 get_75_Epoch) rfl ?_
  refine .val (v_ilss rfl rfl) rfl ?_
  refine .val (v_move (v := reg ((decide (t6 < (0 : Int))) : Bool)) rfl) rfl ?_
  refine .fv 8 rfl rfl rfl (fun hb => v_fieldAddr fl_75_0 rfl) rfl ?_
  obtain ⟨t10, ⟨xt10, hxt10, hgt10⟩, hh⟩ := hh
  refine .fv 8 rfl rfl rfl (fun hb => v_ld1 (p := b_1) 0 na_3 (gf hb) hxt10 hgt10 get_75_Epoch) rfl ?_
  refine .fv 8 rfl rfl rfl (fun hb => v_igtr (gf hb) rfl) rfl ?_
  refine .val (v_pick_or rfl rfl (fun hb => gf hb)) rfl ?_
  refine .val (v_move (v := reg (((decide (t6 < (0 : Int))) || (decide ((1073741824 : Int) < t10))) : Bool)) rfl) rfl ?_
  refine .fv 13 rfl rfl rfl (fun hb => v_fieldAddr fl_75_1 rfl) rfl ?_
  obtain ⟨t15, ⟨xt15, hxt15, hgt15⟩, hh⟩ := hh
  refine .fv 13 rfl rfl rfl (fun hb => v_ld1 (p := b_1) 1 na_3 (gf hb) hxt15 hgt15 get_75_Height) rfl ?_
  refine .fv 13 rfl rfl rfl (fun hb => v_ilss (gf hb) rfl) rfl ?_
  refine .val (v_pick_or rfl rfl (fun hb => gf hb)) rfl ?_
  refine .val (v_move (v := reg ((((decide (t6 < (0 : Int))) || (decide ((1073741824 : Int) < t10))) || (decide (t15 < (1 : Int)))) : Bool)) rfl) rfl ?_
  refine .fv 18 rfl rfl rfl (fun hb => v_fieldAddr fl_75_1 rfl) rfl ?_
  obtain ⟨t20, ⟨xt20, hxt20, hgt20⟩, hh⟩ := hh
  refine .fv 18 rfl rfl rfl (fun hb => v_ld1 (p := b_1) 1 na_3 (gf hb) hxt20 hgt20 get_75_Height) rfl ?_
  refine .fv 18 rfl rfl rfl (fun hb => v_igtr (gf hb) rfl) rfl ?_
  refine .val (v_pick_or rfl rfl (fun hb => gf hb)) rfl ?_
  refine .val (v_move (v := reg (((((decide (t6 < (0 : Int))) || (decide ((1073741824 : Int) < t10))) || (decide (t15 < (1 : Int)))) || (decide ((1024 : Int) < t20))) : Bool)) rfl) rfl ?_
  refine .fv 23 rfl rfl rfl (fun hb => v_fieldAddr fl_75_5 rfl) rfl ?_
  obtain ⟨t25, ⟨xt25, hxt25, hgt25⟩, hh⟩ := hh
  refine .fv 23 rfl rfl rfl (fun hb => v_ld1 (p := b_1) 98 na_73 (gf hb) hxt25 hgt25 get_75_Requests) rfl ?_
  refine .fv 23 rfl rfl rfl (fun hb => v_len_sl (sl_73).1 (gf hb)) rfl ?_
  refine .fv 23 rfl rfl rfl (fun hb => v_igtr (gf hb) rfl) rfl ?_
  refine .val (v_pick_or rfl rfl (fun hb => gf hb)) rfl ?_
  refine .nil ?_
  refine QN.then_ ?_
  refine CW.cond (((((decide (t6 < (0 : Int))) || (decide ((1073741824 : Int) < t10))) || (decide (t15 < (1 : Int)))) || (decide ((1024 : Int) < t20))) || (decide ((8 : Int) < (t25.len : Int)))) rfl (fun hb => ?_) (fun hb => ?_)
  · have hh := hh.1 hb
    refine CW.seq ?_
    refine CW.region ?_
    refine .val (v_assign (v := reg (false : Bool)) rfl) rfl ?_
    refine .nil ?_
    refine QN.then_ ?_
    refine CW.ret ?_
    refine QN.thenRet ?_
    exact ret1 rfl rfl ⟨(false : Bool), rfl, hh⟩
  · have hh := hh.2 hb
    refine CW.skip ?_
    refine QN.then_ ?_
    refine CW.join (fun ρ h => ∃ (ρ' : Env), ρ = setl ρ' [] ∧ (ref12_Good.j1 k)  h) ?_ ?_
    · refine CW.seq ?_
      refine CW.region ?_
      refine .val (v_fieldAddr fl_75_5 rfl) rfl ?_
      obtain ⟨t30, ⟨xt30, hxt30, hgt30⟩, hh⟩ := hh
      refine .val (v_ld1 (p := b_1) 98 na_73 rfl hxt30 hgt30 get_75_Requests) rfl ?_
      refine .val (v_len_sl (sl_73).1 rfl) rfl ?_
      refine .val (v_move (v := reg ((0 : Int) : Int)) rfl) rfl ?_
      refine .nil ?_
      refine QN.then_ ?_
      refine CW.block ?_
      unfold ref12_Good.l1 at hh
      refine CW.loop (fun (σ0 : Int) ρ => match σ0 with | t32 => ∃ ρ' : Env, ρ = setl ρ' [(30, reg (t30 : Sl)), (31, reg ((t30.len : Int) : Int)), (32, reg (t32 : Int))]) hh ⟨_, setl_eq ⟨rfl, ⟨rfl, ⟨rfl, trivial⟩⟩⟩⟩ ?_
      clear hh
      rintro s1 t32 ρ h ⟨ρ', rfl⟩ hh
      refine CW.seq ?_
      refine CW.region ?_
      refine .val (v_ilss rfl rfl) rfl ?_
      refine .nil ?_
      refine QN.then_ ?_
      refine CW.seq ?_
      refine CW.cond (decide (t32 < (t30.len : Int))) rfl (fun hb_1 => ?_) (fun hb_1 => ?_)
      · have hh := hh.1 hb_1
        refine CW.skip ?_
        refine QN.then_ ?_
        refine CW.seq ?_
        refine CW.block ?_
        refine CW.seq ?_
        refine CW.region ?_
        obtain ⟨t34, ht34, hh⟩ := hh
        refine .val (v_idx_slP sl_73 rfl rfl ht34.1 ht34.2.1 ht34.2.2) rfl ?_
        obtain ⟨t35, ⟨xt35, hxt35, hgt35⟩, hh⟩ := hh
        refine .val (v_ldA (p := t34) 0 ag_182 rfl hxt35 hgt35 get_182_all (fun _ => (len_api_Request _)) (fun _ => rfl)) rfl ?_
        refine box_elim hh (fun q hq hh => ?_)
        refine .e (e_allocP hq zo_182 rfl ?_)
        obtain ⟨xw, hxw, hwxw, hh⟩ := hh
        refine .e (e_storeN (p := q) (nv := enc (t35 : api_Request)) 0 rfl rfl rfl sz_182 (one_api_Request _) hxw hwxw (len_api_Request _) (len_api_Request _) rfl (set_182_all xw (t35 : api_Request)) ?_)
        refine .nil ?_
        refine QN.then_ ?_
        refine CW.seq ?_
        refine CW.region ?_
        obtain ⟨t36, ⟨xt36, hxt36, hgt36⟩, hh⟩ := hh
        refine .val (v_ldA (p := q) 0 ag_182 rfl hxt36 hgt36 get_182_all (fun _ => (len_api_Request _)) (fun _ => rfl)) rfl ?_
        refine .e (e_callP fn_96 rfl rfl hh ?_)
        intro h t37 hh
        refine .val (v_not rfl) rfl ?_
        refine .nil ?_
        refine QN.then_ ?_
        refine CW.cond (!t37) rfl (fun hb_2 => ?_) (fun hb_2 => ?_)
        · have hh := hh.1 hb_2
          refine CW.seq ?_
          refine CW.region ?_
          refine .val (v_assign (v := reg (false : Bool)) rfl) rfl ?_
          refine .nil ?_
          refine QN.then_ ?_
          refine CW.ret ?_
          refine QN.blockRet ?_
          refine QN.thenRet ?_
          refine QN.thenRet ?_
          refine QN.blockRet ?_
          refine QN.thenRet ?_
          exact ret1 rfl rfl ⟨(false : Bool), rfl, hh⟩
        · have hh := hh.2 hb_2
          refine CW.skip ?_
          refine QN.blockN ?_
          refine QN.then_ ?_
          refine CW.region ?_
          refine .val (v_iadd rfl rfl) rfl ?_
          refine .val (v_move (v := reg ((iadd t32 (1 : Int)) : Int)) rfl) rfl ?_
          refine .nil ?_
          exact QN.thenJ ⟨(iadd t32 (1 : Int)), ⟨_, setl_eq ⟨rfl, ⟨rfl, ⟨rfl, trivial⟩⟩⟩⟩, hh⟩
      · have hh := hh.2 hb_1
        refine CW.exit ?_
        refine QN.thenExit ?_
        refine QN.thenExit ?_
        refine QN.blockExit ?_
        exact QN.thenJ ⟨_, setl_eq trivial, hh⟩
    · rintro ρ h ⟨ρ', rfl, hh⟩
      unfold ref12_Good.j1 at hh
      refine CW.seq ?_
      refine CW.region ?_
      refine .val (v_assign (v := reg (true : Bool)) rfl) rfl ?_
      refine .nil ?_
      refine QN.then_ ?_
      refine CW.ret ?_
      exact ret1 rfl rfl ⟨(true : Bool), rfl, hh⟩
end Go.Proofs.YtimmoekliphobaaDoor
namespace Go.Proofs.YtimmoekliphobaaDoor
open Go Go.Sh
open Go.Sh.Ty (reg)
set_option linter.unusedVariables false
set_option maxRecDepth 100000
set_option maxHeartbeats 4000000
theorem ref12_Great.ok (b : api_Block) (most : Int) (k : Bool → H → Prop) (h : H) (hh : ref12_Great.b b most k h) : CallsH Prog 67 [reg b, reg most].toArray h fun v h' => ∃ r : Bool, v = reg r ∧ k r h' := by
  unfold ref12_Great.b at hh
  refine CallsH.of 48 Tryd.func67 rfl Tryd.ntmps67 rfl (fun w0 => ?_)
  refine CW.seq ?_
  refine CW.region ?_
  refine box_elim hh (fun b_1 hb_1 hh => ?_)
  refine .e (e_boxP hb_1 rfl rfl rfl ?_)
  refine .val (v_assign (v := reg (false : Bool)) rfl) rfl ?_
  refine .nil ?_
  refine QN.then_ ?_
  refine CW.seq ?_
  refine CW.region ?_
  refine .val (v_assign (v := reg ((0 : Int) : Int)) rfl) rfl ?_
  refine .nil ?_
  refine QN.then_ ?_
  refine CW.seq ?_
  refine CW.seq ?_
  refine CW.region ?_
  refine .val (v_fieldAddr fl_75_5 rfl) rfl ?_
  obtain ⟨t11, ⟨xt11, hxt11, hgt11⟩, hh⟩ := hh
  refine .val (v_ld1 (p := b_1) 98 na_73 rfl hxt11 hgt11 get_75_Requests) rfl ?_
  refine .val (v_len_sl (sl_73).1 rfl) rfl ?_
  refine .val (v_igtr rfl rfl) rfl ?_
  refine .nil ?_
  refine QN.then_ ?_
  refine CW.cond (decide ((40 : Int) < (t11.len : Int))) rfl (fun hb => ?_) (fun hb => ?_)
  · have hh := hh.1 hb
    refine CW.seq ?_
    refine CW.region ?_
    refine .val (v_assign (v := reg (true : Bool)) rfl) rfl ?_
    refine .nil ?_
    refine QN.then_ ?_
    refine CW.ret ?_
    refine QN.thenRet ?_
    exact ret1 rfl rfl ⟨(true : Bool), rfl, hh⟩
  · have hh := hh.2 hb
    refine CW.skip ?_
    refine QN.then_ ?_
    refine CW.join (fun ρ h => ∃ (ρ' : Env) (n_3 : Int), ρ = setl ρ' [(1, reg (most : Int)), (5, reg (n_3 : Int))] ∧ (ref12_Great.j1 k) most n_3 h) ?_ ?_
    · refine CW.seq ?_
      refine CW.region ?_
      refine .val (v_fieldAddr fl_75_5 rfl) rfl ?_
      obtain ⟨t15, ⟨xt15, hxt15, hgt15⟩, hh⟩ := hh
      refine .val (v_ld1 (p := b_1) 98 na_73 rfl hxt15 hgt15 get_75_Requests) rfl ?_
      refine .val (v_len_sl (sl_73).1 rfl) rfl ?_
      refine .val (v_move (v := reg ((0 : Int) : Int)) rfl) rfl ?_
      refine .nil ?_
      refine QN.then_ ?_
      refine CW.block ?_
      unfold ref12_Great.l1 at hh
      refine CW.loop (fun (σ0 : Int × Int) ρ => match σ0 with | (n, t17) => ∃ ρ' : Env, ρ = setl ρ' [(1, reg (most : Int)), (15, reg (t15 : Sl)), (16, reg ((t15.len : Int) : Int)), (5, reg (n : Int)), (17, reg (t17 : Int))]) hh ⟨_, setl_eq ⟨rfl, ⟨rfl, ⟨rfl, ⟨rfl, ⟨rfl, trivial⟩⟩⟩⟩⟩⟩ ?_
      clear hh
      rintro s1 ⟨n, t17⟩ ρ h ⟨ρ', rfl⟩ hh
      refine CW.seq ?_
      refine CW.region ?_
      refine .val (v_ilss rfl rfl) rfl ?_
      refine .nil ?_
      refine QN.then_ ?_
      refine CW.seq ?_
      refine CW.cond (decide (t17 < (t15.len : Int))) rfl (fun hb_1 => ?_) (fun hb_1 => ?_)
      · have hh := hh.1 hb_1
        refine CW.skip ?_
        refine QN.then_ ?_
        refine CW.join (fun ρ h => ∃ (ρ' : Env) (n_2 : Int), ρ = setl ρ' [(1, reg (most : Int)), (5, reg (n_2 : Int)), (15, reg (t15 : Sl)), (16, reg ((t15.len : Int) : Int)), (17, reg (t17 : Int))] ∧ (ref12_Great.j2 s1) most n_2 t15 (t15.len : Int) t17 h) ?_ ?_
        · refine CW.block ?_
          refine CW.seq ?_
          refine CW.region ?_
          obtain ⟨t19, ht19, hh⟩ := hh
          refine .val (v_idx_slP sl_73 rfl rfl ht19.1 ht19.2.1 ht19.2.2) rfl ?_
          obtain ⟨t20, ⟨xt20, hxt20, hgt20⟩, hh⟩ := hh
          refine .val (v_ldA (p := t19) 0 ag_182 rfl hxt20 hgt20 get_182_all (fun _ => (len_api_Request _)) (fun _ => rfl)) rfl ?_
          refine box_elim hh (fun q hq hh => ?_)
          refine .e (e_allocP hq zo_182 rfl ?_)
          obtain ⟨xw, hxw, hwxw, hh⟩ := hh
          refine .e (e_storeN (p := q) (nv := enc (t20 : api_Request)) 0 rfl rfl rfl sz_182 (one_api_Request _) hxw hwxw (len_api_Request _) (len_api_Request _) rfl (set_182_all xw (t20 : api_Request)) ?_)
          refine .nil ?_
          refine QN.then_ ?_
          refine CW.seq ?_
          refine CW.region ?_
          refine .val (v_move (v := reg (n : Int)) rfl) rfl ?_
          refine .val (v_iadd rfl rfl) rfl ?_
          refine .val (v_assign (v := reg ((iadd n (100 : Int)) : Int)) rfl) rfl ?_
          refine .nil ?_
          refine QN.then_ ?_
          refine CW.seq ?_
          refine CW.region ?_
          refine .val (v_fieldAddr fl_182_2 rfl) rfl ?_
          refine .val (v_fieldAddr fl_180_1 rfl) rfl ?_
          obtain ⟨t25, ⟨xt25, hxt25, hgt25⟩, hh⟩ := hh
          refine .val (v_ld1 (p := q) 3 na_9 rfl hxt25 hgt25 get_182_Op_Key) rfl ?_
          refine .val (v_fieldAddr fl_182_2 rfl) rfl ?_
          refine .val (v_fieldAddr fl_180_2 rfl) rfl ?_
          obtain ⟨t28, ⟨xt28, hxt28, hgt28⟩, hh⟩ := hh
          refine .val (v_ld1 (p := q) 4 na_9 rfl hxt28 hgt28 get_182_Op_Val) rfl ?_
          refine .val (v_fieldAddr fl_182_2 rfl) rfl ?_
          refine .val (v_fieldAddr fl_180_3 rfl) rfl ?_
          obtain ⟨t31, ⟨xt31, hxt31, hgt31⟩, hh⟩ := hh
          refine .val (v_ld1 (p := q) 5 na_9 rfl hxt31 hgt31 get_182_Op_Old) rfl ?_
          refine .val (v_buildAT (arrOf [t25, t28, t31] : Arr 3 ByteArray) zo_192 ar_192 rfl rfl rfl) rfl ?_
          refine .val (v_move (v := reg ((0 : Int) : Int)) rfl) rfl ?_
          refine .nil ?_
          refine QN.then_ ?_
          refine CW.block ?_
          unfold ref12_Great.l2 at hh
          refine CW.loop (fun (σ0 : Int × Int) ρ => match σ0 with | (n_1, t33) => ∃ ρ' : Env, ρ = setl ρ' [(1, reg (most : Int)), (15, reg (t15 : Sl)), (16, reg ((t15.len : Int) : Int)), (17, reg (t17 : Int)), (32, reg ((arrOf [t25, t28, t31] : Arr 3 ByteArray) : Arr 3 ByteArray)), (5, reg (n_1 : Int)), (33, reg (t33 : Int))]) hh ⟨_, setl_eq ⟨rfl, ⟨rfl, ⟨rfl, ⟨rfl, ⟨rfl, ⟨rfl, ⟨rfl, trivial⟩⟩⟩⟩⟩⟩⟩⟩ ?_
          clear hh
          rintro s2 ⟨n_1, t33⟩ ρ h ⟨ρ', rfl⟩ hh
          refine CW.seq ?_
          refine CW.region ?_
          refine .val (v_ilss rfl rfl) rfl ?_
          refine .nil ?_
          refine QN.then_ ?_
          refine CW.seq ?_
          refine CW.cond (decide (t33 < (3 : Int))) rfl (fun hb_2 => ?_) (fun hb_2 => ?_)
          · have hh := hh.1 hb_2
            refine CW.skip ?_
            refine QN.then_ ?_
            refine CW.seq ?_
            refine CW.block ?_
            refine CW.seq ?_
            refine CW.region ?_
            obtain ⟨i35, hi35, hh⟩ := hh
            refine .val (v_index1P ar_192 na_9 rfl rfl hi35) rfl ?_
            refine .val (v_assign (v := reg (((arrOf [t25, t28, t31] : Arr 3 ByteArray) i35) : ByteArray)) rfl) rfl ?_
            refine .nil ?_
            refine QN.then_ ?_
            refine CW.seq ?_
            refine CW.region ?_
            refine .val (v_move (v := reg (n_1 : Int)) rfl) rfl ?_
            refine .val (v_move (v := reg (((arrOf [t25, t28, t31] : Arr 3 ByteArray) i35) : ByteArray)) rfl) rfl ?_
            refine .val (v_len_str un_9 rfl) rfl ?_
            refine .val (v_iadd rfl rfl) rfl ?_
            refine .val (v_assign (v := reg ((iadd n_1 (((arrOf [t25, t28, t31] : Arr 3 ByteArray) i35).size : Int)) : Int)) rfl) rfl ?_
            refine .nil ?_
            refine QN.then_ ?_
            refine CW.seq ?_
            refine CW.region ?_
            refine .val (v_move (v := reg ((iadd n_1 (((arrOf [t25, t28, t31] : Arr 3 ByteArray) i35).size : Int)) : Int)) rfl) rfl ?_
            refine .val (v_move (v := reg (most : Int)) rfl) rfl ?_
            refine .val (v_igtr rfl rfl) rfl ?_
            refine .nil ?_
            refine QN.then_ ?_
            refine CW.cond (decide (most < (iadd n_1 (((arrOf [t25, t28, t31] : Arr 3 ByteArray) i35).size : Int)))) rfl (fun hb_3 => ?_) (fun hb_3 => ?_)
            · have hh := hh.1 hb_3
              refine CW.seq ?_
              refine CW.region ?_
              refine .val (v_assign (v := reg (true : Bool)) rfl) rfl ?_
              refine .nil ?_
              refine QN.then_ ?_
              refine CW.ret ?_
              refine QN.blockRet ?_
              refine QN.thenRet ?_
              refine QN.thenRet ?_
              refine QN.blockRet ?_
              refine QN.blockRet ?_
              refine QN.thenRet ?_
              refine QN.thenRet ?_
              refine QN.blockRet ?_
              refine QN.thenRet ?_
              exact ret1 rfl rfl ⟨(true : Bool), rfl, hh⟩
            · have hh := hh.2 hb_3
              refine CW.skip ?_
              refine QN.blockN ?_
              refine QN.then_ ?_
              refine CW.region ?_
              refine .val (v_iadd rfl rfl) rfl ?_
              refine .val (v_move (v := reg ((iadd t33 (1 : Int)) : Int)) rfl) rfl ?_
              refine .nil ?_
              exact QN.thenJ ⟨((iadd n_1 (((arrOf [t25, t28, t31] : Arr 3 ByteArray) i35).size : Int)), (iadd t33 (1 : Int))), ⟨_, setl_eq ⟨rfl, ⟨rfl, ⟨rfl, ⟨rfl, ⟨rfl, ⟨rfl, ⟨rfl, trivial⟩⟩⟩⟩⟩⟩⟩⟩, hh⟩
          · have hh := hh.2 hb_2
            refine CW.exit ?_
            refine QN.thenExit ?_
            refine QN.thenExit ?_
            refine QN.blockExit ?_
            refine QN.blockN ?_
            exact QN.thenJ ⟨_, n_1, setl_eq ⟨rfl, ⟨rfl, ⟨rfl, ⟨rfl, ⟨rfl, trivial⟩⟩⟩⟩⟩, hh⟩
        · rintro ρ h ⟨ρ', n_2, rfl, hh⟩
          unfold ref12_Great.j2 at hh
          refine CW.region ?_
          refine .val (v_iadd rfl rfl) rfl ?_
          refine .val (v_move (v := reg ((iadd t17 (1 : Int)) : Int)) rfl) rfl ?_
          refine .nil ?_
          exact QN.thenJ ⟨(n_2, (iadd t17 (1 : Int))), ⟨_, setl_eq ⟨rfl, ⟨rfl, ⟨rfl, ⟨rfl, ⟨rfl, trivial⟩⟩⟩⟩⟩⟩, hh⟩
      · have hh := hh.2 hb_1
        refine CW.exit ?_
        refine QN.thenExit ?_
        refine QN.thenExit ?_
        refine QN.blockExit ?_
        exact QN.thenJ ⟨_, n, setl_eq ⟨rfl, ⟨rfl, trivial⟩⟩, hh⟩
    · rintro ρ h ⟨ρ', n_3, rfl, hh⟩
      unfold ref12_Great.j1 at hh
      refine CW.seq ?_
      refine CW.region ?_
      refine .val (v_move (v := reg (n_3 : Int)) rfl) rfl ?_
      refine .val (v_move (v := reg (most : Int)) rfl) rfl ?_
      refine .val (v_igtr rfl rfl) rfl ?_
      refine .val (v_assign (v := reg ((decide (most < n_3)) : Bool)) rfl) rfl ?_
      refine .nil ?_
      refine QN.then_ ?_
      refine CW.ret ?_
      exact ret1 rfl rfl ⟨((decide (most < n_3)) : Bool), rfl, hh⟩
end Go.Proofs.YtimmoekliphobaaDoor
namespace Go.Proofs.YtimmoekliphobaaDoor
open Go Go.Sh
open Go.Sh.Ty (reg)
set_option linter.unusedVariables false
set_option maxRecDepth 100000
set_option maxHeartbeats 4000000
theorem ref09_Good.ok (q : api_Request) (k : Bool → H → Prop) (h : H) (hh : ref09_Good.b q k h) : CallsH Prog 96 [reg q].toArray h fun v h' => ∃ r : Bool, v = reg r ∧ k r h' := by
  unfold ref09_Good.b at hh
  refine CallsH.of 52 Tryd.func96 rfl Tryd.ntmps96 rfl (fun w0 => ?_)
  refine CW.seq ?_
  refine CW.region ?_
  refine box_elim hh (fun q_1 hq_1 hh => ?_)
  refine .e (e_boxP hq_1 rfl rfl rfl ?_)
  refine .val (v_assign (v := reg (false : Bool)) rfl) rfl ?_
  refine .nil ?_
  refine QN.then_ ?_
  refine CW.seq ?_
  refine CW.seq ?_
  refine CW.region ?_
  refine .val (v_fieldAddr fl_182_0 rfl) rfl ?_
  obtain ⟨t4, ⟨xt4, hxt4, hgt4⟩, hh⟩ := hh
  refine .val (v_ld1 (p := q_1) 0 na_3 rfl hxt4 hgt4 get_182_Client) rfl ?_
  refine .val (v_ilss rfl rfl) rfl ?_
  refine .val (v_move (v := reg ((decide (t4 < (1 : Int))) : Bool)) rfl) rfl ?_
  refine .fv 6 rfl rfl rfl (fun hb => v_fieldAddr fl_182_0 rfl) rfl ?_
  obtain ⟨t8, ⟨xt8, hxt8, hgt8⟩, hh⟩ := hh
  refine .fv 6 rfl rfl rfl (fun hb => v_ld1 (p := q_1) 0 na_3 (gf hb) hxt8 hgt8 get_182_Client) rfl ?_
  refine .fv 6 rfl rfl rfl (fun hb => v_igtr (gf hb) rfl) rfl ?_
  refine .val (v_pick_or rfl rfl (fun hb => gf hb)) rfl ?_
  refine .val (v_move (v := reg (((decide (t4 < (1 : Int))) || (decide ((64 : Int) < t8))) : Bool)) rfl) rfl ?_
  refine .fv 11 rfl rfl rfl (fun hb => v_fieldAddr fl_182_1 rfl) rfl ?_
  obtain ⟨t13, ⟨xt13, hxt13, hgt13⟩, hh⟩ := hh
  refine .fv 11 rfl rfl rfl (fun hb => v_ld1 (p := q_1) 1 na_3 (gf hb) hxt13 hgt13 get_182_Num) rfl ?_
  refine .fv 11 rfl rfl rfl (fun hb => v_ilss (gf hb) rfl) rfl ?_
  refine .val (v_pick_or rfl rfl (fun hb => gf hb)) rfl ?_
  refine .val (v_move (v := reg ((((decide (t4 < (1 : Int))) || (decide ((64 : Int) < t8))) || (decide (t13 < (1 : Int)))) : Bool)) rfl) rfl ?_
  refine .fv 16 rfl rfl rfl (fun hb => v_fieldAddr fl_182_1 rfl) rfl ?_
  obtain ⟨t18, ⟨xt18, hxt18, hgt18⟩, hh⟩ := hh
  refine .fv 16 rfl rfl rfl (fun hb => v_ld1 (p := q_1) 1 na_3 (gf hb) hxt18 hgt18 get_182_Num) rfl ?_
  refine .fv 16 rfl rfl rfl (fun hb => v_igtr (gf hb) rfl) rfl ?_
  refine .val (v_pick_or rfl rfl (fun hb => gf hb)) rfl ?_
  refine .val (v_move (v := reg (((((decide (t4 < (1 : Int))) || (decide ((64 : Int) < t8))) || (decide (t13 < (1 : Int)))) || (decide ((1099511627776 : Int) < t18))) : Bool)) rfl) rfl ?_
  refine .fv 21 rfl rfl rfl (fun hb => v_fieldAddr fl_182_2 rfl) rfl ?_
  refine .fv 21 rfl rfl rfl (fun hb => v_fieldAddr fl_180_0 (gf hb)) rfl ?_
  obtain ⟨t24, ⟨xt24, hxt24, hgt24⟩, hh⟩ := hh
  refine .fv 21 rfl rfl rfl (fun hb => v_ld1 (p := q_1) 2 na_3 (gf hb) hxt24 hgt24 get_182_Op_Kind) rfl ?_
  refine .fv 21 rfl rfl rfl (fun hb => v_ilss (gf hb) rfl) rfl ?_
  refine .val (v_pick_or rfl rfl (fun hb => gf hb)) rfl ?_
  refine .val (v_move (v := reg ((((((decide (t4 < (1 : Int))) || (decide ((64 : Int) < t8))) || (decide (t13 < (1 : Int)))) || (decide ((1099511627776 : Int) < t18))) || (decide (t24 < (1 : Int)))) : Bool)) rfl) rfl ?_
  refine .fv 27 rfl rfl rfl (fun hb => v_fieldAddr fl_182_2 rfl) rfl ?_
  refine .fv 27 rfl rfl rfl (fun hb => v_fieldAddr fl_180_0 (gf hb)) rfl ?_
  obtain ⟨t30, ⟨xt30, hxt30, hgt30⟩, hh⟩ := hh
  refine .fv 27 rfl rfl rfl (fun hb => v_ld1 (p := q_1) 2 na_3 (gf hb) hxt30 hgt30 get_182_Op_Kind) rfl ?_
  refine .fv 27 rfl rfl rfl (fun hb => v_igtr (gf hb) rfl) rfl ?_
  refine .val (v_pick_or rfl rfl (fun hb => gf hb)) rfl ?_
  refine .nil ?_
  refine QN.then_ ?_
  refine CW.cond ((((((decide (t4 < (1 : Int))) || (decide ((64 : Int) < t8))) || (decide (t13 < (1 : Int)))) || (decide ((1099511627776 : Int) < t18))) || (decide (t24 < (1 : Int)))) || (decide ((7 : Int) < t30))) rfl (fun hb => ?_) (fun hb => ?_)
  · have hh := hh.1 hb
    refine CW.seq ?_
    refine CW.region ?_
    refine .val (v_assign (v := reg (false : Bool)) rfl) rfl ?_
    refine .nil ?_
    refine QN.then_ ?_
    refine CW.ret ?_
    refine QN.thenRet ?_
    exact ret1 rfl rfl ⟨(false : Bool), rfl, hh⟩
  · have hh := hh.2 hb
    refine CW.skip ?_
    refine QN.then_ ?_
    refine CW.seq ?_
    refine CW.region ?_
    refine .val (v_fieldAddr fl_182_2 rfl) rfl ?_
    refine .val (v_fieldAddr fl_180_1 rfl) rfl ?_
    obtain ⟨t35, ⟨xt35, hxt35, hgt35⟩, hh⟩ := hh
    refine .val (v_ld1 (p := q_1) 3 na_9 rfl hxt35 hgt35 get_182_Op_Key) rfl ?_
    refine .val (v_len_str un_9 rfl) rfl ?_
    refine .val (v_ileq rfl rfl) rfl ?_
    refine .val (v_move (v := reg ((decide ((t35.size : Int) ≤ (1024 : Int))) : Bool)) rfl) rfl ?_
    refine .tv 38 rfl rfl rfl (fun hb => v_fieldAddr fl_182_2 rfl) rfl ?_
    refine .tv 38 rfl rfl rfl (fun hb => v_fieldAddr fl_180_2 (gt hb)) rfl ?_
    obtain ⟨t41, ⟨xt41, hxt41, hgt41⟩, hh⟩ := hh
    refine .tv 38 rfl rfl rfl (fun hb => v_ld1 (p := q_1) 4 na_9 (gt hb) hxt41 hgt41 get_182_Op_Val) rfl ?_
    refine .tv 38 rfl rfl rfl (fun hb => v_len_str un_9 (gt hb)) rfl ?_
    refine .tv 38 rfl rfl rfl (fun hb => v_ileq (gt hb) rfl) rfl ?_
    refine .val (v_pick_and rfl (fun hb => gt hb) rfl) rfl ?_
    refine .val (v_move (v := reg (((decide ((t35.size : Int) ≤ (1024 : Int))) && (decide ((t41.size : Int) ≤ (1024 : Int)))) : Bool)) rfl) rfl ?_
    refine .tv 45 rfl rfl rfl (fun hb => v_fieldAddr fl_182_2 rfl) rfl ?_
    refine .tv 45 rfl rfl rfl (fun hb => v_fieldAddr fl_180_3 (gt hb)) rfl ?_
    obtain ⟨t48, ⟨xt48, hxt48, hgt48⟩, hh⟩ := hh
    refine .tv 45 rfl rfl rfl (fun hb => v_ld1 (p := q_1) 5 na_9 (gt hb) hxt48 hgt48 get_182_Op_Old) rfl ?_
    refine .tv 45 rfl rfl rfl (fun hb => v_len_str un_9 (gt hb)) rfl ?_
    refine .tv 45 rfl rfl rfl (fun hb => v_ileq (gt hb) rfl) rfl ?_
    refine .val (v_pick_and rfl (fun hb => gt hb) rfl) rfl ?_
    refine .val (v_assign (v := reg ((((decide ((t35.size : Int) ≤ (1024 : Int))) && (decide ((t41.size : Int) ≤ (1024 : Int)))) && (decide ((t48.size : Int) ≤ (1024 : Int)))) : Bool)) rfl) rfl ?_
    refine .nil ?_
    refine QN.then_ ?_
    refine CW.ret ?_
    exact ret1 rfl rfl ⟨((((decide ((t35.size : Int) ≤ (1024 : Int))) && (decide ((t41.size : Int) ≤ (1024 : Int)))) && (decide ((t48.size : Int) ≤ (1024 : Int)))) : Bool), rfl, hh⟩
end Go.Proofs.YtimmoekliphobaaDoor
namespace Go.Proofs.YtimmoekliphobaaDoor
open Go Go.Sh
open Go.Sh.Ty (reg)
set_option linter.unusedVariables false
set_option maxRecDepth 100000
set_option maxHeartbeats 4000000
theorem law19_great.ok (c : api_Config) (script : Sl) (k : Bool → H → Prop) (h : H) (hh : law19_great.b c script k h) : CallsH Prog 37 [reg c, reg script].toArray h fun v h' => ∃ r : Bool, v = reg r ∧ k r h' := by
  unfold law19_great.b at hh
  refine CallsH.of 81 Tryd.func37 rfl Tryd.ntmps37 rfl (fun w0 => ?_)
  refine CW.seq ?_
  refine CW.region ?_
  refine box_elim hh (fun c_1 hc_1 hh => ?_)
  refine .e (e_boxP hc_1 rfl rfl rfl ?_)
  refine .val (v_assign (v := reg (false : Bool)) rfl) rfl ?_
  refine .nil ?_
  refine QN.then_ ?_
  refine CW.seq ?_
  refine CW.seq ?_
  refine CW.region ?_
  refine .val (v_fieldAddr fl_54_1 rfl) rfl ?_
  obtain ⟨t9, ⟨xt9, hxt9, hgt9⟩, hh⟩ := hh
  refine .val (v_ld1 (p := c_1) 1 na_52 rfl hxt9 hgt9 get_54_Members) rfl ?_
  refine .val (v_len_sl (sl_52).1 rfl) rfl ?_
  refine .val (v_igtr rfl rfl) rfl ?_
  refine .val (v_move (v := reg ((decide ((20 : Int) < (t9.len : Int))) : Bool)) rfl) rfl ?_
  refine .fv 12 rfl rfl rfl (fun hb => v_move (v := reg (script : Sl)) rfl) rfl ?_
  refine .fv 12 rfl rfl rfl (fun hb => v_len_sl (sl_85).1 (gf hb)) rfl ?_
  refine .fv 12 rfl rfl rfl (fun hb => v_igtr (gf hb) rfl) rfl ?_
  refine .val (v_pick_or rfl rfl (fun hb => gf hb)) rfl ?_
  refine .nil ?_
  refine QN.then_ ?_
  refine CW.cond ((decide ((20 : Int) < (t9.len : Int))) || (decide ((60 : Int) < (script.len : Int)))) rfl (fun hb => ?_) (fun hb => ?_)
  · have hh := hh.1 hb
    refine CW.seq ?_
    refine CW.region ?_
    refine .val (v_assign (v := reg (true : Bool)) rfl) rfl ?_
    refine .nil ?_
    refine QN.then_ ?_
    refine CW.ret ?_
    refine QN.thenRet ?_
    exact ret1 rfl rfl ⟨(true : Bool), rfl, hh⟩
  · have hh := hh.2 hb
    refine CW.skip ?_
    refine QN.then_ ?_
    refine CW.join (fun ρ h => ∃ (ρ' : Env), ρ = setl ρ' [] ∧ (law19_great.j1 k)  h) ?_ ?_
    · refine CW.seq ?_
      refine CW.region ?_
      refine .val (v_move (v := reg (script : Sl)) rfl) rfl ?_
      refine .val (v_len_sl (sl_85).1 rfl) rfl ?_
      refine .val (v_move (v := reg ((0 : Int) : Int)) rfl) rfl ?_
      refine .nil ?_
      refine QN.then_ ?_
      refine CW.block ?_
      unfold law19_great.l1 at hh
      refine CW.loop (fun (σ0 : Int) ρ => match σ0 with | t19 => ∃ ρ' : Env, ρ = setl ρ' [(17, reg (script : Sl)), (18, reg ((script.len : Int) : Int)), (19, reg (t19 : Int))]) hh ⟨_, setl_eq ⟨rfl, ⟨rfl, ⟨rfl, trivial⟩⟩⟩⟩ ?_
      clear hh
      rintro s1 t19 ρ h ⟨ρ', rfl⟩ hh
      refine CW.seq ?_
      refine CW.region ?_
      refine .val (v_ilss rfl rfl) rfl ?_
      refine .nil ?_
      refine QN.then_ ?_
      refine CW.seq ?_
      refine CW.cond (decide (t19 < (script.len : Int))) rfl (fun hb_1 => ?_) (fun hb_1 => ?_)
      · have hh := hh.1 hb_1
        refine CW.skip ?_
        refine QN.then_ ?_
        refine CW.seq ?_
        refine CW.block ?_
        refine CW.seq ?_
        refine CW.region ?_
        obtain ⟨t21, ht21, hh⟩ := hh
        refine .val (v_idx_slP sl_85 rfl rfl ht21.1 ht21.2.1 ht21.2.2) rfl ?_
        obtain ⟨t22, ⟨xt22, hxt22, hgt22⟩, hh⟩ := hh
        refine .val (v_ldA (p := t21) 0 ag_88 rfl hxt22 hgt22 get_88_all (fun _ => (len_law19_Call _)) (fun _ => rfl)) rfl ?_
        refine box_elim hh (fun x hx hh => ?_)
        refine .e (e_allocP hx zo_88 rfl ?_)
        obtain ⟨xw, hxw, hwxw, hh⟩ := hh
        refine .e (e_storeN (p := x) (nv := enc (t22 : law19_Call)) 0 rfl rfl rfl sz_88 (one_law19_Call _) hxw hwxw (len_law19_Call _) (len_law19_Call _) rfl (set_88_all xw (t22 : law19_Call)) ?_)
        refine .nil ?_
        refine QN.then_ ?_
        refine CW.seq ?_
        refine CW.region ?_
        refine .val (v_fieldAddr fl_88_1 rfl) rfl ?_
        obtain ⟨t24, ⟨xt24, hxt24, hgt24⟩, hh⟩ := hh
        refine .val (v_ldA (p := x) 1 ag_77 rfl hxt24 hgt24 get_88_P (fun _ => (len_api_Plan _)) (fun _ => rfl)) rfl ?_
        refine box_elim hh (fun p hp hh => ?_)
        refine .e (e_allocP hp zo_77 rfl ?_)
        obtain ⟨xw_1, hxw_1, hwxw_1, hh⟩ := hh
        refine .e (e_storeN (p := p) (nv := enc (t24 : api_Plan)) 0 rfl rfl rfl sz_77 (one_api_Plan _) hxw_1 hwxw_1 (len_api_Plan _) (len_api_Plan _) rfl (set_77_all xw_1 (t24 : api_Plan)) ?_)
        refine .nil ?_
        refine QN.then_ ?_
        refine CW.join (fun ρ h => ∃ (ρ' : Env) (t79 : Bool), ρ = setl ρ' [(17, reg (script : Sl)), (18, reg ((script.len : Int) : Int)), (19, reg (t19 : Int)), (79, reg (t79 : Bool))] ∧ (law19_great.j2 k s1) script (script.len : Int) t19 t79 h) ?_ ?_
        · refine CW.region ?_
          refine .val (v_fieldAddr fl_88_2 rfl) rfl ?_
          obtain ⟨t26, ⟨xt26, hxt26, hgt26⟩, hh⟩ := hh
          refine .val (v_ldA (p := x) 109 ag_37 rfl hxt26 hgt26 get_88_V (fun _ => (len_api_Vote _)) (fun _ => rfl)) rfl ?_
          refine .e (e_callP fn_10 rfl rfl hh ?_)
          intro h t27 hh
          refine .val (v_not rfl) rfl ?_
          refine .val (v_move (v := reg ((!t27) : Bool)) rfl) rfl ?_
          refine ifb_cases hh (fun hb_2 hh => ?_) (fun hb_2 hh => ?_)
          · refine .no 29 rfl (congrArg Value.bool hb_2) rfl rfl ?_
            refine .no 29 rfl (congrArg Value.bool hb_2) rfl rfl ?_
            refine .no 29 rfl (congrArg Value.bool hb_2) rfl rfl ?_
            refine .no 29 rfl (congrArg Value.bool hb_2) rfl rfl ?_
            refine .val (v_pickT (v := reg (true : Bool)) rfl hb_2 rfl) rfl ?_
            refine .val (v_move (v := reg (true : Bool)) rfl) rfl ?_
            refine .no 35 rfl rfl rfl rfl ?_
            refine .no 35 rfl rfl rfl rfl ?_
            refine .no 35 rfl rfl rfl rfl ?_
            refine .val (v_pickT (v := reg (true : Bool)) rfl rfl rfl) rfl ?_
            refine .val (v_move (v := reg (true : Bool)) rfl) rfl ?_
            refine .no 40 rfl rfl rfl rfl ?_
            refine .no 40 rfl rfl rfl rfl ?_
            refine .no 40 rfl rfl rfl rfl ?_
            refine .no 40 rfl rfl rfl rfl ?_
            refine .no 40 rfl rfl rfl rfl ?_
            refine .no 40 rfl rfl rfl rfl ?_
            refine .val (v_pickT (v := reg (true : Bool)) rfl rfl rfl) rfl ?_
            refine .val (v_move (v := reg (true : Bool)) rfl) rfl ?_
            refine .no 48 rfl rfl rfl rfl ?_
            refine .no 48 rfl rfl rfl rfl ?_
            refine .no 48 rfl rfl rfl rfl ?_
            refine .val (v_pickT (v := reg (true : Bool)) rfl rfl rfl) rfl ?_
            refine .val (v_move (v := reg (true : Bool)) rfl) rfl ?_
            refine .no 53 rfl rfl rfl rfl ?_
            refine .no 53 rfl rfl rfl rfl ?_
            refine .no 53 rfl rfl rfl rfl ?_
            refine .val (v_pickT (v := reg (true : Bool)) rfl rfl rfl) rfl ?_
            refine .val (v_move (v := reg (true : Bool)) rfl) rfl ?_
            refine .no 58 rfl rfl rfl rfl ?_
            refine .no 58 rfl rfl rfl rfl ?_
            refine .no 58 rfl rfl rfl rfl ?_
            refine .val (v_pickT (v := reg (true : Bool)) rfl rfl rfl) rfl ?_
            refine .val (v_move (v := reg (true : Bool)) rfl) rfl ?_
            refine .no 63 rfl rfl rfl rfl ?_
            refine .no 63 rfl rfl rfl rfl ?_
            refine .no 63 rfl rfl rfl rfl ?_
            refine .no 63 rfl rfl rfl rfl ?_
            refine .no 63 rfl rfl rfl rfl ?_
            refine .val (v_pickT (v := reg (true : Bool)) rfl rfl rfl) rfl ?_
            refine .val (v_move (v := reg (true : Bool)) rfl) rfl ?_
            refine .no 70 rfl rfl rfl rfl ?_
            refine .no 70 rfl rfl rfl rfl ?_
            refine .no 70 rfl rfl rfl rfl ?_
            refine .val (v_pickT (v := reg (true : Bool)) rfl rfl rfl) rfl ?_
            refine .val (v_move (v := reg (true : Bool)) rfl) rfl ?_
            refine .no 75 rfl rfl rfl rfl ?_
            refine .no 75 rfl rfl rfl rfl ?_
            refine .no 75 rfl rfl rfl rfl ?_
            refine .val (v_pickT (v := reg (true : Bool)) rfl rfl rfl) rfl ?_
            refine .nil ?_
            exact QN.thenJ ⟨_, true, setl_eq ⟨rfl, ⟨rfl, ⟨rfl, ⟨rfl, trivial⟩⟩⟩⟩, hh⟩
          · refine .yv 29 rfl (congrArg Value.bool hb_2) rfl (v_fieldAddr fl_77_4 rfl) rfl ?_
            obtain ⟨t31, ⟨xt31, hxt31, hgt31⟩, hh⟩ := hh
            refine .yv 29 rfl (congrArg Value.bool hb_2) rfl (v_ldA (p := p) 4 ag_75 rfl hxt31 hgt31 get_77_Block (fun _ => (len_api_Block _)) (fun _ => rfl)) rfl ?_
            refine .ye 29 rfl (congrArg Value.bool hb_2) rfl (e_callP fn_66 rfl rfl hh ?_)
            intro h t32 hh
            refine .yv 29 rfl (congrArg Value.bool hb_2) rfl (v_not rfl) rfl ?_
            refine .val (v_pickF (v := reg ((!t32) : Bool)) rfl hb_2 rfl) rfl ?_
            refine .val (v_move (v := reg ((!t32) : Bool)) rfl) rfl ?_
            refine ifb_cases hh (fun hb_3 hh => ?_) (fun hb_3 hh => ?_)
            · refine .no 35 rfl (congrArg Value.bool hb_3) rfl rfl ?_
              refine .no 35 rfl (congrArg Value.bool hb_3) rfl rfl ?_
              refine .no 35 rfl (congrArg Value.bool hb_3) rfl rfl ?_
              refine .val (v_pickT (v := reg (true : Bool)) rfl hb_3 rfl) rfl ?_
              refine .val (v_move (v := reg (true : Bool)) rfl) rfl ?_
              refine .no 40 rfl rfl rfl rfl ?_
              refine .no 40 rfl rfl rfl rfl ?_
              refine .no 40 rfl rfl rfl rfl ?_
              refine .no 40 rfl rfl rfl rfl ?_
              refine .no 40 rfl rfl rfl rfl ?_
              refine .no 40 rfl rfl rfl rfl ?_
              refine .val (v_pickT (v := reg (true : Bool)) rfl rfl rfl) rfl ?_
              refine .val (v_move (v := reg (true : Bool)) rfl) rfl ?_
              refine .no 48 rfl rfl rfl rfl ?_
              refine .no 48 rfl rfl rfl rfl ?_
              refine .no 48 rfl rfl rfl rfl ?_
              refine .val (v_pickT (v := reg (true : Bool)) rfl rfl rfl) rfl ?_
              refine .val (v_move (v := reg (true : Bool)) rfl) rfl ?_
              refine .no 53 rfl rfl rfl rfl ?_
              refine .no 53 rfl rfl rfl rfl ?_
              refine .no 53 rfl rfl rfl rfl ?_
              refine .val (v_pickT (v := reg (true : Bool)) rfl rfl rfl) rfl ?_
              refine .val (v_move (v := reg (true : Bool)) rfl) rfl ?_
              refine .no 58 rfl rfl rfl rfl ?_
              refine .no 58 rfl rfl rfl rfl ?_
              refine .no 58 rfl rfl rfl rfl ?_
              refine .val (v_pickT (v := reg (true : Bool)) rfl rfl rfl) rfl ?_
              refine .val (v_move (v := reg (true : Bool)) rfl) rfl ?_
              refine .no 63 rfl rfl rfl rfl ?_
              refine .no 63 rfl rfl rfl rfl ?_
              refine .no 63 rfl rfl rfl rfl ?_
              refine .no 63 rfl rfl rfl rfl ?_
              refine .no 63 rfl rfl rfl rfl ?_
              refine .val (v_pickT (v := reg (true : Bool)) rfl rfl rfl) rfl ?_
              refine .val (v_move (v := reg (true : Bool)) rfl) rfl ?_
              refine .no 70 rfl rfl rfl rfl ?_
              refine .no 70 rfl rfl rfl rfl ?_
              refine .no 70 rfl rfl rfl rfl ?_
              refine .val (v_pickT (v := reg (true : Bool)) rfl rfl rfl) rfl ?_
              refine .val (v_move (v := reg (true : Bool)) rfl) rfl ?_
              refine .no 75 rfl rfl rfl rfl ?_
              refine .no 75 rfl rfl rfl rfl ?_
              refine .no 75 rfl rfl rfl rfl ?_
              refine .val (v_pickT (v := reg (true : Bool)) rfl rfl rfl) rfl ?_
              refine .nil ?_
              exact QN.thenJ ⟨_, true, setl_eq ⟨rfl, ⟨rfl, ⟨rfl, ⟨rfl, trivial⟩⟩⟩⟩, hh⟩
            · refine .yv 35 rfl (congrArg Value.bool hb_3) rfl (v_fieldAddr fl_77_4 rfl) rfl ?_
              obtain ⟨t37, ⟨xt37, hxt37, hgt37⟩, hh⟩ := hh
              refine .yv 35 rfl (congrArg Value.bool hb_3) rfl (v_ldA (p := p) 4 ag_75 rfl hxt37 hgt37 get_77_Block (fun _ => (len_api_Block _)) (fun _ => rfl)) rfl ?_
              refine .ye 35 rfl (congrArg Value.bool hb_3) rfl (e_callP fn_67 rfl rfl hh ?_)
              intro h t38 hh
              refine .val (v_pickF (v := reg (t38 : Bool)) rfl hb_3 rfl) rfl ?_
              refine .val (v_move (v := reg (t38 : Bool)) rfl) rfl ?_
              refine .fv 40 rfl rfl rfl (fun hb => v_fieldAddr fl_77_4 rfl) rfl ?_
              refine .fv 40 rfl rfl rfl (fun hb => v_fieldAddr fl_75_1 (gf hb)) rfl ?_
              obtain ⟨t43, ⟨xt43, hxt43, hgt43⟩, hh⟩ := hh
              refine .fv 40 rfl rfl rfl (fun hb => v_ld1 (p := p) 5 na_3 (gf hb) hxt43 hgt43 get_77_Block_Height) rfl ?_
              refine .fv 40 rfl rfl rfl (fun hb => v_fieldAddr fl_77_1 rfl) rfl ?_
              obtain ⟨t45, ⟨xt45, hxt45, hgt45⟩, hh⟩ := hh
              refine .fv 40 rfl rfl rfl (fun hb => v_ld1 (p := p) 1 na_3 (gf hb) hxt45 hgt45 get_77_Height) rfl ?_
              refine .fv 40 rfl rfl rfl (fun hb => v_ineq (gf hb) (gf hb)) rfl ?_
              refine .val (v_pick_or rfl rfl (fun hb => gf hb)) rfl ?_
              refine .val (v_move (v := reg ((t38 || (t43 != t45)) : Bool)) rfl) rfl ?_
              refine .fv 48 rfl rfl rfl (fun hb => v_fieldAddr fl_77_2 rfl) rfl ?_
              obtain ⟨t50, ⟨xt50, hxt50, hgt50⟩, hh⟩ := hh
              refine .fv 48 rfl rfl rfl (fun hb => v_ld1 (p := p) 2 na_3 (gf hb) hxt50 hgt50 get_77_Round) rfl ?_
              refine .fv 48 rfl rfl rfl (fun hb => v_ilss (gf hb) rfl) rfl ?_
              refine .val (v_pick_or rfl rfl (fun hb => gf hb)) rfl ?_
              refine .val (v_move (v := reg (((t38 || (t43 != t45)) || (decide (t50 < (0 : Int)))) : Bool)) rfl) rfl ?_
              refine .fv 53 rfl rfl rfl (fun hb => v_fieldAddr fl_77_2 rfl) rfl ?_
              obtain ⟨t55, ⟨xt55, hxt55, hgt55⟩, hh⟩ := hh
              refine .fv 53 rfl rfl rfl (fun hb => v_ld1 (p := p) 2 na_3 (gf hb) hxt55 hgt55 get_77_Round) rfl ?_
              refine .fv 53 rfl rfl rfl (fun hb => v_igtr (gf hb) rfl) rfl ?_
              refine .val (v_pick_or rfl rfl (fun hb => gf hb)) rfl ?_
              refine .val (v_move (v := reg ((((t38 || (t43 != t45)) || (decide (t50 < (0 : Int)))) || (decide ((1024 : Int) < t55))) : Bool)) rfl) rfl ?_
              refine .fv 58 rfl rfl rfl (fun hb => v_fieldAddr fl_77_3 rfl) rfl ?_
              obtain ⟨t60, ⟨xt60, hxt60, hgt60⟩, hh⟩ := hh
              refine .fv 58 rfl rfl rfl (fun hb => v_ld1 (p := p) 3 na_3 (gf hb) hxt60 hgt60 get_77_Valid) rfl ?_
              refine .fv 58 rfl rfl rfl (fun hb => v_ilss (gf hb) rfl) rfl ?_
              refine .val (v_pick_or rfl rfl (fun hb => gf hb)) rfl ?_
              refine .val (v_move (v := reg (((((t38 || (t43 != t45)) || (decide (t50 < (0 : Int)))) || (decide ((1024 : Int) < t55))) || (decide (t60 < (-1 : Int)))) : Bool)) rfl) rfl ?_
              refine .fv 63 rfl rfl rfl (fun hb => v_fieldAddr fl_77_3 rfl) rfl ?_
              obtain ⟨t65, ⟨xt65, hxt65, hgt65⟩, hh⟩ := hh
              refine .fv 63 rfl rfl rfl (fun hb => v_ld1 (p := p) 3 na_3 (gf hb) hxt65 hgt65 get_77_Valid) rfl ?_
              refine .fv 63 rfl rfl rfl (fun hb => v_fieldAddr fl_77_2 rfl) rfl ?_
              obtain ⟨t67, ⟨xt67, hxt67, hgt67⟩, hh⟩ := hh
              refine .fv 63 rfl rfl rfl (fun hb => v_ld1 (p := p) 2 na_3 (gf hb) hxt67 hgt67 get_77_Round) rfl ?_
              refine .fv 63 rfl rfl rfl (fun hb => v_igeq (gf hb) (gf hb)) rfl ?_
              refine .val (v_pick_or rfl rfl (fun hb => gf hb)) rfl ?_
              refine .val (v_move (v := reg ((((((t38 || (t43 != t45)) || (decide (t50 < (0 : Int)))) || (decide ((1024 : Int) < t55))) || (decide (t60 < (-1 : Int)))) || (decide (t67 ≤ t65))) : Bool)) rfl) rfl ?_
              refine .fv 70 rfl rfl rfl (fun hb => v_fieldAddr fl_77_5 rfl) rfl ?_
              obtain ⟨t72, ⟨xt72, hxt72, hgt72⟩, hh⟩ := hh
              refine .fv 70 rfl rfl rfl (fun hb => v_ld1 (p := p) 103 na_3 (gf hb) hxt72 hgt72 get_77_From) rfl ?_
              refine .fv 70 rfl rfl rfl (fun hb => v_ilss (gf hb) rfl) rfl ?_
              refine .val (v_pick_or rfl rfl (fun hb => gf hb)) rfl ?_
              refine .val (v_move (v := reg (((((((t38 || (t43 != t45)) || (decide (t50 < (0 : Int)))) || (decide ((1024 : Int) < t55))) || (decide (t60 < (-1 : Int)))) || (decide (t67 ≤ t65))) || (decide (t72 < (1 : Int)))) : Bool)) rfl) rfl ?_
              refine .fv 75 rfl rfl rfl (fun hb => v_fieldAddr fl_77_5 rfl) rfl ?_
              obtain ⟨t77, ⟨xt77, hxt77, hgt77⟩, hh⟩ := hh
              refine .fv 75 rfl rfl rfl (fun hb => v_ld1 (p := p) 103 na_3 (gf hb) hxt77 hgt77 get_77_From) rfl ?_
              refine .fv 75 rfl rfl rfl (fun hb => v_igtr (gf hb) rfl) rfl ?_
              refine .val (v_pick_or rfl rfl (fun hb => gf hb)) rfl ?_
              refine .nil ?_
              exact QN.thenJ ⟨_, (((((((t38 || (t43 != t45)) || (decide (t50 < (0 : Int)))) || (decide ((1024 : Int) < t55))) || (decide (t60 < (-1 : Int)))) || (decide (t67 ≤ t65))) || (decide (t72 < (1 : Int)))) || (decide ((63 : Int) < t77))), setl_eq ⟨rfl, ⟨rfl, ⟨rfl, ⟨rfl, trivial⟩⟩⟩⟩, hh⟩
        · rintro ρ h ⟨ρ', t79, rfl, hh⟩
          unfold law19_great.j2 at hh
          refine CW.cond t79 rfl (fun hb_4 => ?_) (fun hb_4 => ?_)
          · have hh := hh.1 hb_4
            refine CW.seq ?_
            refine CW.region ?_
            refine .val (v_assign (v := reg (true : Bool)) rfl) rfl ?_
            refine .nil ?_
            refine QN.then_ ?_
            refine CW.ret ?_
            refine QN.blockRet ?_
            refine QN.thenRet ?_
            refine QN.thenRet ?_
            refine QN.blockRet ?_
            refine QN.thenRet ?_
            exact ret1 rfl rfl ⟨(true : Bool), rfl, hh⟩
          · have hh := hh.2 hb_4
            refine CW.skip ?_
            refine QN.blockN ?_
            refine QN.then_ ?_
            refine CW.region ?_
            refine .val (v_iadd rfl rfl) rfl ?_
            refine .val (v_move (v := reg ((iadd t19 (1 : Int)) : Int)) rfl) rfl ?_
            refine .nil ?_
            exact QN.thenJ ⟨(iadd t19 (1 : Int)), ⟨_, setl_eq ⟨rfl, ⟨rfl, ⟨rfl, trivial⟩⟩⟩⟩, hh⟩
      · have hh := hh.2 hb_1
        refine CW.exit ?_
        refine QN.thenExit ?_
        refine QN.thenExit ?_
        refine QN.blockExit ?_
        exact QN.thenJ ⟨_, setl_eq trivial, hh⟩
    · rintro ρ h ⟨ρ', rfl, hh⟩
      unfold law19_great.j1 at hh
      refine CW.seq ?_
      refine CW.region ?_
      refine .val (v_assign (v := reg (false : Bool)) rfl) rfl ?_
      refine .nil ?_
      refine QN.then_ ?_
      refine CW.ret ?_
      exact ret1 rfl rfl ⟨(false : Bool), rfl, hh⟩
end Go.Proofs.YtimmoekliphobaaDoor
namespace Go.Proofs.YtimmoekliphobaaDoor
open Go Go.Sh
open Go.Sh.Ty (reg)
set_option linter.unusedVariables false
set_option maxRecDepth 100000

/-! what the reference says of requests and blocks -/
def SmallQ (q : api_Request) : Prop := q.Op.Key.size ≤ 1024 ∧ q.Op.Val.size ≤ 1024 ∧ q.Op.Old.size ≤ 1024
theorem QGood_spec (q : api_Request) {k : Bool → H → Prop} {h : H} (hk : ∀ b h', Ext h h' → (b = true → SmallQ q) → k b h') : call (β := Bool) Prog 96 [reg (q : api_Request)] k h := by
  refine ref09_Good.ok _ _ _ ?_
  unfold ref09_Good.b
  refine (Sat.init h).box_ (fun p h1 hs1 _ _ => ?_)
  refine hs1.ld_ 0 rfl (hs1.ld_ 0 rfl (hs1.ld_ 0 rfl (hs1.ld_ 0 rfl (hs1.ld_ 0 rfl (hs1.ld_ 0 rfl ?_)))))
  refine ifb_i (fun _ => hk _ _ hs1.fr (fun e => by cases e)) (fun _ => ?_)
  refine hs1.ld_ 0 rfl (hs1.ld_ 0 rfl (hs1.ld_ 0 rfl ?_))
  refine hk _ _ hs1.fr (fun e => ?_)
  simp only [Bool.and_eq_true, decide_eq_true_eq] at e
  unfold SmallQ; omega
theorem reqsN_small {qs : List api_Request} (h : ∀ q ∈ qs, SmallQ q) : reqsN qs ≤ 3200 * qs.length := by
  induction qs with
  | nil => simp [reqsN]
  | cons q qs ih =>
    have h1 := h q (by simp)
    have h2 := ih (fun x hx => h x (by simp [hx]))
    simp only [reqsN, List.map_cons, List.sum_cons, List.length_cons] at h2 ⊢
    unfold SmallQ at h1
    have : reqN q ≤ 3200 := by unfold reqN; omega
    omega
theorem BGood_spec (b : api_Block) (qs : List api_Request) {k : Bool → H → Prop} {h : H} (hv : SVz 42 h b.Requests qs) (hk : ∀ r h', Ext h h' → (r = true → qs.length ≤ 8 ∧ ∀ q ∈ qs, SmallQ q) → k r h') : call (β := Bool) Prog 66 [reg (b : api_Block)] k h := by
  refine ref12_Good.ok _ _ _ ?_
  unfold ref12_Good.b
  have hlen : b.Requests.len = qs.length := hv.1
  refine (Sat.init h).box_ (fun p h1 hs1 _ _ => ?_)
  refine hs1.ld_ 0 rfl (hs1.ld_ 0 rfl (hs1.ld_ 0 rfl (hs1.ld_ 0 rfl (hs1.ld_ 0 rfl ?_))))
  refine ifb_i (fun _ => hk _ _ hs1.fr (fun e => by cases e)) (fun hc => ?_)
  have h8 : qs.length ≤ 8 := by
    simp only [Bool.or_eq_false_iff, decide_eq_false_iff_not] at hc
    omega
  refine hs1.ld_ 0 rfl ?_
  unfold ref12_Good.l1
  refine ⟨fun (t : Int) h' => ∃ i : Nat, t = i ∧ i ≤ qs.length ∧ Ext h h' ∧ ∀ j, j < i → ∀ q, qs[j]? = some q → SmallQ q, fun t _ => (qs.length - t).toNat, ⟨0, rfl, Nat.zero_le _, hs1.fr, by intro j hj; omega⟩, ?_⟩
  clear hs1
  rintro t h2 ⟨i, rfl, hi, hx, hall⟩
  refine ifb_i (fun hc1 => ?_) (fun hc1 => ?_)
  · have hi' : i < qs.length := by have : (i : Int) < b.Requests.len := by simpa using hc1
                                   omega
    have hgi : qs[i]? = some qs[i] := List.getElem?_eq_getElem hi'
    refine sidx_ldz len_api_Request (hv.ext hx) (Int.natCast_nonneg _) (by rw [Int.toNat_natCast]; exact hgi) ?_
    refine (Sat.init h2).box_ (fun q1 h3 hs3 _ _ => ?_)
    refine hs3.st_ 0 rfl len_api_Request (fun h4 hs4 _ => ?_)
    refine hs4.ld_ 0 rfl ?_
    refine QGood_spec _ (fun r h5 hx5 hr => ?_)
    have hx6 : Ext h h5 := hx.trans (hs4.ext hx5).fr
    refine ifb_i (fun _ => hk _ _ hx6 (fun e => by cases e)) (fun hb => ?_)
    have e : iadd (i : Int) 1 = ((i + 1 : Nat) : Int) := by rw [iadd_eq (by omega) (by omega)]; omega
    rw [e]
    refine ⟨⟨i + 1, rfl, hi', hx6, fun j hj q hq => ?_⟩, by dsimp only; omega⟩
    by_cases hji : j < i
    · exact hall j hji q hq
    · have : j = i := by omega
      subst this
      rw [hgi] at hq
      obtain rfl := Option.some.inj hq
      exact hr (by simpa using hb)
  · have hi' : i = qs.length := by
      have : ¬ (i : Int) < b.Requests.len := by simpa using hc1
      omega
    subst hi'
    unfold ref12_Good.j1
    refine hk _ _ hx (fun _ => ⟨h8, fun q hq => ?_⟩)
    obtain ⟨j, hj⟩ := List.mem_iff_getElem?.1 hq
    exact hall j (by rw [List.getElem?_eq_some_iff] at hj; exact hj.1) q hj
theorem BGreat_spec (b : api_Block) (qs : List api_Request) {k : Bool → H → Prop} {h : H} (hv : SVz 42 h b.Requests qs) (h8 : qs.length ≤ 8) (hq : ∀ q ∈ qs, SmallQ q) (hk : ∀ r h', Ext h h' → k r h') : call (β := Bool) Prog 67 [reg (b : api_Block), reg (2048 : Int)] k h := by
  refine ref12_Great.ok _ _ _ _ ?_
  unfold ref12_Great.b
  have hlen : b.Requests.len = qs.length := hv.1
  refine (Sat.init h).box_ (fun p h1 hs1 _ _ => ?_)
  refine hs1.ld_ 0 rfl ?_
  refine ifb_i (fun _ => hk _ _ hs1.fr) (fun _ => ?_)
  refine hs1.ld_ 0 rfl ?_
  unfold ref12_Great.l1
  refine ⟨fun (t : Int × Int) h' => ∃ i : Nat, t.2 = i ∧ i ≤ qs.length ∧ 0 ≤ t.1 ∧ t.1 ≤ 4000 * i ∧ Ext h h', fun t _ => (qs.length - t.2).toNat, ⟨0, rfl, Nat.zero_le _, Int.le_refl _, Int.le_refl _, hs1.fr⟩, ?_⟩
  clear hs1
  rintro ⟨n, t⟩ h2 ⟨i, ht, hi, hn0, hn, hx⟩
  simp only at ht hn0 hn
  subst ht
  refine ifb_i (fun hc1 => ?_) (fun hc1 => ?_)
  · have hi' : i < qs.length := by have : (i : Int) < b.Requests.len := by simpa using hc1
                                   omega
    have hgi : qs[i]? = some qs[i] := List.getElem?_eq_getElem hi'
    have hsm := hq _ (List.getElem_mem hi')
    refine sidx_ldz len_api_Request (hv.ext hx) (Int.natCast_nonneg _) (by rw [Int.toNat_natCast]; exact hgi) ?_
    generalize qs[i] = q at *
    refine (Sat.init h2).box_ (fun q1 h3 hs3 _ _ => ?_)
    refine hs3.st_ 0 rfl len_api_Request (fun h4 hs4 _ => ?_)
    refine hs4.ld_ 0 rfl (hs4.ld_ 0 rfl (hs4.ld_ 0 rfl ?_))
    have hx4 : Ext h h4 := hx.trans hs4.fr
    have e0 : iadd n 100 = n + 100 := iadd_eq (by omega) (by omega)
    rw [e0]
    have hsz : ∀ j : Fin 3, ((arrOf [q.Op.Key, q.Op.Val, q.Op.Old] : Arr 3 ByteArray) j).size ≤ 1024 := by
      intro j
      match j with
      | ⟨0, _⟩ => exact hsm.1
      | ⟨1, _⟩ => exact hsm.2.1
      | ⟨2, _⟩ => exact hsm.2.2
    generalize (arrOf [q.Op.Key, q.Op.Val, q.Op.Old] : Arr 3 ByteArray) = A at hsz
    unfold ref12_Great.l2
    refine ⟨fun (t : Int × Int) h' => ∃ j : Nat, t.2 = j ∧ j ≤ 3 ∧ 0 ≤ t.1 ∧ t.1 ≤ n + 100 + 1024 * j ∧ h' = h4, fun t _ => (3 - t.2).toNat, ⟨0, rfl, Nat.zero_le _, by show 0 ≤ n + 100; omega, by show n + 100 ≤ n + 100 + 1024 * ((0 : Nat) : Int); omega, rfl⟩, ?_⟩
    rintro ⟨n1, t1⟩ h5 ⟨j, hj, hj3, ha, hb, rfl⟩
    simp only at hj ha hb
    subst hj
    refine ifb_i (fun hc2 => ?_) (fun hc2 => ?_)
    · have hj' : j < 3 := by have : (j : Int) < 3 := by simpa using hc2
                             omega
      refine bnd_N (Int.natCast_nonneg _) (by omega) (fun f hf => ?_)
      have := hsz f
      have e1 : iadd n1 ((A f).size : Int) = n1 + ((A f).size : Int) := iadd_eq (by omega) (by omega)
      have e2 : iadd (j : Int) 1 = ((j + 1 : Nat) : Int) := by rw [iadd_eq (by omega) (by omega)]; omega
      rw [e1, e2]
      refine ifb_i (fun _ => hk _ _ hx4) (fun _ => ?_)
      exact ⟨⟨j + 1, rfl, hj', by show 0 ≤ n1 + _; omega, by show n1 + _ ≤ _; omega, rfl⟩, by dsimp only; omega⟩
    · have hj' : j = 3 := by have : ¬ (j : Int) < 3 := by simpa using hc2
                             omega
      subst hj'
      unfold ref12_Great.j2
      have e2 : iadd (i : Int) 1 = ((i + 1 : Nat) : Int) := by rw [iadd_eq (by omega) (by omega)]; omega
      rw [e2]
      exact ⟨⟨i + 1, rfl, hi', ha, by show n1 ≤ _; omega, hx4⟩, by dsimp only; omega⟩
  · unfold ref12_Great.j1
    exact hk _ _ hx
/-- a call that can be played -/
def CallOk (x : law19_Call) : Prop := (0 ≤ x.V.Round ∧ x.V.Round ≤ 1024) ∧ 0 ≤ x.P.Round ∧ x.P.Round ≤ 1024
theorem goodR_round {v : api_Vote} (h : goodR v = true) : 0 ≤ v.Round ∧ v.Round ≤ 1024 := by
  unfold goodR at h
  split at h
  · cases h
  · simp only [Bool.and_eq_true, decide_eq_true_eq] at h; omega
theorem Great19_spec (c : api_Config) (s : Sl) (l : List law19_Call) {k : Bool → H → Prop} {h : H} (Q : law19_Call → List api_Request → Prop) (hv : SVz 151 h s l) (hd : ∀ x ∈ l, ∃ qs : List api_Request, Q x qs ∧ SVz 42 h x.P.Block.Requests qs)
    (hk : ∀ r h', Ext h h' → (r = false → l.length ≤ 60 ∧ ∀ x ∈ l, CallOk x ∧ ∃ qs : List api_Request, Q x qs ∧ reqsN qs < 2 ^ 30) → k r h') : call (β := Bool) Prog 37 [reg (c : api_Config), reg (s : Sl)] k h := by
  refine law19_great.ok _ _ _ _ ?_
  unfold law19_great.b
  have hlen : s.len = l.length := hv.1
  refine (Sat.init h).box_ (fun p h1 hs1 _ _ => ?_)
  refine hs1.ld_ 0 rfl ?_
  refine ifb_i (fun _ => hk _ _ hs1.fr (fun e => by cases e)) (fun hc => ?_)
  have h60 : l.length ≤ 60 := by
    simp only [Bool.or_eq_false_iff, decide_eq_false_iff_not] at hc
    omega
  unfold law19_great.l1
  refine ⟨fun (t : Int) h' => ∃ i : Nat, t = i ∧ i ≤ l.length ∧ Ext h h' ∧ ∀ j, j < i → ∀ x, l[j]? = some x → CallOk x ∧ ∃ qs : List api_Request, Q x qs ∧ reqsN qs < 2 ^ 30, fun t _ => (l.length - t).toNat, ⟨0, rfl, Nat.zero_le _, hs1.fr, by intro j hj; omega⟩, ?_⟩
  clear hs1
  rintro t h2 ⟨i, rfl, hi, hx, hall⟩
  refine ifb_i (fun hc1 => ?_) (fun hc1 => ?_)
  · have hi' : i < l.length := by have : (i : Int) < s.len := by simpa using hc1
                                  omega
    have hgi : l[i]? = some l[i] := List.getElem?_eq_getElem hi'
    obtain ⟨qs, hQ, hqs⟩ := hd _ (List.getElem_mem hi')
    refine sidx_ldz len_law19_Call (hv.ext hx) (Int.natCast_nonneg _) (by rw [Int.toNat_natCast]; exact hgi) ?_
    generalize hxx : l[i] = x at *
    refine (Sat.init h2).box_ (fun x1 h3 hs3 _ _ => ?_)
    refine hs3.st_ 0 rfl len_law19_Call (fun h4 hs4 _ => ?_)
    refine hs4.ld_ 0 rfl ?_
    refine hs4.box_ (fun p1 h5 hs5 _ _ => ?_)
    refine hs5.st_ 0 rfl len_api_Plan (fun h6 hs6 _ => ?_)
    refine hs6.ld_ 1 rfl ?_
    refine ref13_Good.ok _ _ _ (RGood_spec _ (fun h7 hx7 => ?_))
    have hs7 := hs6.ext hx7
    have hj2 : ∀ b h', Ext h2 h' → (b = false → CallOk x ∧ reqsN qs < 2 ^ 30) → law19_great.j2 k (fun s' h' => (∃ i : Nat, s' = i ∧ i ≤ l.length ∧ Ext h h' ∧ ∀ j, j < i → ∀ x, l[j]? = some x → CallOk x ∧ ∃ qs : List api_Request, Q x qs ∧ reqsN qs < 2 ^ 30) ∧ (l.length - s').toNat < ((l.length : Int) - (i : Int)).toNat) s (s.len : Int) (i : Int) b h' := by
      intro b h' hx' hb
      unfold law19_great.j2
      refine ifb_i (fun _ => hk _ _ (hx.trans hx') (fun e => by cases e)) (fun hbf => ?_)
      have e : iadd (i : Int) 1 = ((i + 1 : Nat) : Int) := by rw [iadd_eq (by omega) (by omega)]; omega
      rw [e]
      refine ⟨⟨i + 1, rfl, hi', hx.trans hx', fun j hj y hy => ?_⟩, by omega⟩
      by_cases hji : j < i
      · exact hall j hji y hy
      · have : j = i := by omega
        subst this
        rw [hgi] at hy
        obtain rfl := Option.some.inj hy
        obtain ⟨a, b⟩ := hb hbf
        exact ⟨a, qs, hQ, b⟩
    refine ifb_i (fun _ => hj2 true h7 hs7.fr (fun e => by cases e)) (fun hg => ?_)
    have hgr := goodR_round (show goodR x.V = true by simpa using hg)
    refine hs7.ld_ 0 rfl ?_
    refine BGood_spec _ qs (hqs.ext (hx.trans hs7.fr)) (fun r h8 hx8 hr => ?_)
    have hs8 := hs7.ext hx8
    refine ifb_i (fun _ => hj2 true h8 hs8.fr (fun e => by cases e)) (fun hg2 => ?_)
    obtain ⟨a8, aq⟩ := hr (by simpa using hg2)
    refine hs8.ld_ 0 rfl ?_
    refine BGreat_spec _ qs (hqs.ext (hx.trans hs8.fr)) a8 aq (fun r2 h9 hx9 => ?_)
    have hs9 := hs8.ext hx9
    refine hs9.ld_ 0 rfl (hs9.ld_ 0 rfl (hs9.ld_ 0 rfl (hs9.ld_ 0 rfl (hs9.ld_ 0 rfl (hs9.ld_ 0 rfl (hs9.ld_ 0 rfl (hs9.ld_ 0 rfl (hs9.ld_ 0 rfl ?_))))))))
    refine hj2 _ h9 hs9.fr (fun hb => ?_)
    simp only [Bool.or_eq_false_iff, decide_eq_false_iff_not] at hb
    have := reqsN_small aq
    exact ⟨⟨hgr, by omega, by omega⟩, by omega⟩
  · have hi' : i = l.length := by
      have : ¬ (i : Int) < s.len := by simpa using hc1
      omega
    subst hi'
    unfold law19_great.j1
    refine hk _ _ hx (fun _ => ⟨h60, fun x hx' => ?_⟩)
    obtain ⟨j, hj⟩ := List.mem_iff_getElem?.1 hx'
    exact hall j (by rw [List.getElem?_eq_some_iff] at hj; exact hj.1) x hj
end Go.Proofs.YtimmoekliphobaaDoor
namespace Go.Proofs.YtimmoekliphobaaDoor
open Go Go.Sh
open Go.Sh.Ty (reg)
set_option linter.unusedVariables false
set_option maxRecDepth 100000
set_option maxHeartbeats 4000000
theorem law19_RoundOnce.ok (c : api_Config) (me : Int) (height : Int) (base : Int) (script : Sl) (k : Bool → H → Prop) (h : H) (hh : law19_RoundOnce.b c me height base script k h) : CallsH Prog 6 [reg c, reg me, reg height, reg base, reg script].toArray h fun v h' => ∃ r : Bool, v = reg r ∧ k r h' := by
  unfold law19_RoundOnce.b at hh
  refine CallsH.of 127 Tryd.func6 rfl Tryd.ntmps6 rfl (fun w0 => ?_)
  refine CW.seq ?_
  refine CW.region ?_
  refine box_elim hh (fun c_1 hc_1 hh => ?_)
  refine .e (e_boxP hc_1 rfl rfl rfl ?_)
  refine .val (v_assign (v := reg (false : Bool)) rfl) rfl ?_
  refine .nil ?_
  refine QN.then_ ?_
  refine CW.seq ?_
  refine CW.seq ?_
  refine CW.region ?_
  refine .e (e_callP fn_25 rfl rfl hh ?_)
  intro h t24 hh
  refine .val (v_not rfl) rfl ?_
  refine .nil ?_
  refine QN.then_ ?_
  refine CW.cond (!t24) rfl (fun hb => ?_) (fun hb => ?_)
  · have hh := hh.1 hb
    refine CW.seq ?_
    refine CW.region ?_
    refine .val (v_assign (v := reg (false : Bool)) rfl) rfl ?_
    refine .nil ?_
    refine QN.then_ ?_
    refine CW.ret ?_
    refine QN.thenRet ?_
    exact ret1 rfl rfl ⟨(false : Bool), rfl, hh⟩
  · have hh := hh.2 hb
    refine CW.skip ?_
    refine QN.then_ ?_
    refine CW.seq ?_
    refine CW.seq ?_
    refine CW.region ?_
    obtain ⟨t26, ⟨xt26, hxt26, hgt26⟩, hh⟩ := hh
    refine .val (v_ldA (p := c_1) 0 ag_54 rfl hxt26 hgt26 get_54_all (fun _ => (len_api_Config _)) (fun _ => rfl)) rfl ?_
    refine .val (v_move (v := reg (script : Sl)) rfl) rfl ?_
    refine .e (e_callP fn_37 rfl rfl hh ?_)
    intro h t28 hh
    refine .nil ?_
    refine QN.then_ ?_
    refine CW.cond t28 rfl (fun hb_1 => ?_) (fun hb_1 => ?_)
    · have hh := hh.1 hb_1
      refine CW.seq ?_
      refine CW.region ?_
      refine .val (v_assign (v := reg (true : Bool)) rfl) rfl ?_
      refine .nil ?_
      refine QN.then_ ?_
      refine CW.ret ?_
      refine QN.thenRet ?_
      exact ret1 rfl rfl ⟨(true : Bool), rfl, hh⟩
    · have hh := hh.2 hb_1
      refine CW.skip ?_
      refine QN.then_ ?_
      refine CW.seq ?_
      refine CW.region ?_
      obtain ⟨t29, ⟨xt29, hxt29, hgt29⟩, hh⟩ := hh
      refine .val (v_ldA (p := c_1) 0 ag_54 rfl hxt29 hgt29 get_54_all (fun _ => (len_api_Config _)) (fun _ => rfl)) rfl ?_
      refine .val (v_move (v := reg (me : Int)) rfl) rfl ?_
      refine .val (v_move (v := reg (height : Int)) rfl) rfl ?_
      refine .val (v_move (v := reg (base : Int)) rfl) rfl ?_
      refine .e (e_callP fn_28 rfl rfl hh ?_)
      intro h t33 hh
      refine .val (v_assign (v := reg (t33 : Pt)) rfl) rfl ?_
      refine .nil ?_
      refine QN.then_ ?_
      refine CW.seq ?_
      refine CW.seq ?_
      refine CW.region ?_
      refine .val (v_move (v := reg (t33 : Pt)) rfl) rfl ?_
      refine .val (v_eq_nil pt_62 rfl rfl) rfl ?_
      refine .nil ?_
      refine QN.then_ ?_
      refine CW.cond t33.isNone rfl (fun hb_2 => ?_) (fun hb_2 => ?_)
      · have hh := hh.1 hb_2
        refine CW.seq ?_
        refine CW.region ?_
        refine .val (v_assign (v := reg (true : Bool)) rfl) rfl ?_
        refine .nil ?_
        refine QN.then_ ?_
        refine CW.ret ?_
        refine QN.thenRet ?_
        exact ret1 rfl rfl ⟨(true : Bool), rfl, hh⟩
      · have hh := hh.2 hb_2
        refine CW.skip ?_
        refine QN.then_ ?_
        refine CW.seq ?_
        refine CW.region ?_
        refine .val (v_assign (v := reg (Sl.nil : Sl)) rfl) rfl ?_
        refine .nil ?_
        refine QN.then_ ?_
        refine CW.seq ?_
        refine CW.region ?_
        refine .val (v_assign (v := reg ((0 : Int) : Int)) rfl) rfl ?_
        refine .nil ?_
        refine QN.then_ ?_
        refine CW.seq ?_
        refine CW.region ?_
        refine .val (v_move (v := reg (height : Int)) rfl) rfl ?_
        refine .e (e_callP fn_30 rfl rfl hh ?_)
        intro h t37 hh
        refine .val (v_assign (v := reg (t37 : Cx)) rfl) rfl ?_
        refine .nil ?_
        refine QN.then_ ?_
        refine CW.join (fun ρ h => ∃ (ρ' : Env), ρ = setl ρ' [] ∧ (law19_RoundOnce.j1 k)  h) ?_ ?_
        · refine CW.seq ?_
          refine CW.region ?_
          refine .val (v_move (v := reg (script : Sl)) rfl) rfl ?_
          refine .val (v_len_sl (sl_85).1 rfl) rfl ?_
          refine .val (v_move (v := reg ((0 : Int) : Int)) rfl) rfl ?_
          refine .nil ?_
          refine QN.then_ ?_
          refine CW.block ?_
          unfold law19_RoundOnce.l1 at hh
          refine CW.loop (fun (σ0 : Sl × Int × Cx × Int) ρ => match σ0 with | (said, decided, last, t40) => ∃ ρ' : Env, ρ = setl ρ' [(11, reg (t33 : Pt)), (38, reg (script : Sl)), (39, reg ((script.len : Int) : Int)), (12, reg (said : Sl)), (13, reg (decided : Int)), (14, reg (last : Cx)), (40, reg (t40 : Int))]) hh ⟨_, setl_eq ⟨rfl, ⟨rfl, ⟨rfl, ⟨rfl, ⟨rfl, ⟨rfl, ⟨rfl, trivial⟩⟩⟩⟩⟩⟩⟩⟩ ?_
          clear hh
          rintro s1 ⟨said, decided, last, t40⟩ ρ h ⟨ρ', rfl⟩ hh
          refine CW.seq ?_
          refine CW.region ?_
          refine .val (v_ilss rfl rfl) rfl ?_
          refine .nil ?_
          refine QN.then_ ?_
          refine CW.seq ?_
          refine CW.cond (decide (t40 < (script.len : Int))) rfl (fun hb_3 => ?_) (fun hb_3 => ?_)
          · have hh := hh.1 hb_3
            refine CW.skip ?_
            refine QN.then_ ?_
            refine CW.join (fun ρ h => ∃ (ρ' : Env) (said_8 : Sl) (decided_8 : Int) (last_8 : Cx), ρ = setl ρ' [(11, reg (t33 : Pt)), (12, reg (said_8 : Sl)), (13, reg (decided_8 : Int)), (14, reg (last_8 : Cx)), (38, reg (script : Sl)), (39, reg ((script.len : Int) : Int)), (40, reg (t40 : Int))] ∧ (law19_RoundOnce.j2 s1) t33 said_8 decided_8 last_8 script (script.len : Int) t40 h) ?_ ?_
            · refine CW.block ?_
              refine CW.seq ?_
              refine CW.region ?_
              obtain ⟨t42, ht42, hh⟩ := hh
              refine .val (v_idx_slP sl_85 rfl rfl ht42.1 ht42.2.1 ht42.2.2) rfl ?_
              obtain ⟨t43, ⟨xt43, hxt43, hgt43⟩, hh⟩ := hh
              refine .val (v_ldA (p := t42) 0 ag_88 rfl hxt43 hgt43 get_88_all (fun _ => (len_law19_Call _)) (fun _ => rfl)) rfl ?_
              refine box_elim hh (fun s hs hh => ?_)
              refine .e (e_allocP hs zo_88 rfl ?_)
              obtain ⟨xw, hxw, hwxw, hh⟩ := hh
              refine .e (e_storeN (p := s) (nv := enc (t43 : law19_Call)) 0 rfl rfl rfl sz_88 (one_law19_Call _) hxw hwxw (len_law19_Call _) (len_law19_Call _) rfl (set_88_all xw (t43 : law19_Call)) ?_)
              refine .nil ?_
              refine QN.then_ ?_
              refine CW.seq ?_
              refine CW.region ?_
              refine .val (v_assign (v := reg (Sl.nil : Sl)) rfl) rfl ?_
              refine .nil ?_
              refine QN.then_ ?_
              refine CW.join (fun ρ h => ∃ (ρ' : Env) (l : Sl), ρ = setl ρ' [(11, reg (t33 : Pt)), (12, reg (said : Sl)), (13, reg (decided : Int)), (14, reg (last : Cx)), (17, reg (l : Sl)), (38, reg (script : Sl)), (39, reg ((script.len : Int) : Int)), (40, reg (t40 : Int))] ∧ (law19_RoundOnce.j3 (law19_RoundOnce.j2 s1) k) t33 said decided last l script (script.len : Int) t40 h) ?_ ?_
              · refine CW.seq ?_
                refine CW.region ?_
                refine .val (v_fieldAddr fl_88_0 rfl) rfl ?_
                obtain ⟨t45, ⟨xt45, hxt45, hgt45⟩, hh⟩ := hh
                refine .val (v_ld1 (p := s) 0 na_3 rfl hxt45 hgt45 get_88_Kind) rfl ?_
                refine .nil ?_
                refine QN.then_ ?_
                refine CW.block ?_
                refine CW.seq ?_
                refine CW.region ?_
                refine .val (v_ieql rfl rfl) rfl ?_
                refine .val (v_assign (v := reg ((t45 == (0 : Int)) : Bool)) rfl) rfl ?_
                refine .nil ?_
                refine QN.then_ ?_
                refine CW.cond (t45 == (0 : Int)) rfl (fun hb_4 => ?_) (fun hb_4 => ?_)
                · have hh := hh.1 hb_4
                  refine CW.region ?_
                  refine .val (v_move (v := reg (t33 : Pt)) rfl) rfl ?_
                  refine .e (e_callP fn_32 rfl rfl hh ?_)
                  intro h t49 hh
                  refine .val (v_assign (v := reg (t49 : Sl)) rfl) rfl ?_
                  refine .nil ?_
                  refine QN.blockN ?_
                  exact QN.thenJ ⟨_, t49, setl_eq ⟨rfl, ⟨rfl, ⟨rfl, ⟨rfl, ⟨rfl, ⟨rfl, ⟨rfl, ⟨rfl, trivial⟩⟩⟩⟩⟩⟩⟩⟩, hh⟩
                · have hh := hh.2 hb_4
                  refine CW.seq ?_
                  refine CW.region ?_
                  refine .val (v_ieql rfl rfl) rfl ?_
                  refine .val (v_assign (v := reg ((t45 == (1 : Int)) : Bool)) rfl) rfl ?_
                  refine .nil ?_
                  refine QN.then_ ?_
                  refine CW.cond (t45 == (1 : Int)) rfl (fun hb_5 => ?_) (fun hb_5 => ?_)
                  · have hh := hh.1 hb_5
                    refine CW.region ?_
                    refine .val (v_move (v := reg (t33 : Pt)) rfl) rfl ?_
                    refine .val (v_fieldAddr fl_88_1 rfl) rfl ?_
                    obtain ⟨t54, ⟨xt54, hxt54, hgt54⟩, hh⟩ := hh
                    refine .val (v_ldA (p := s) 1 ag_77 rfl hxt54 hgt54 get_88_P (fun _ => (len_api_Plan _)) (fun _ => rfl)) rfl ?_
                    refine .e (e_callP fn_38 rfl rfl hh ?_)
                    intro h t55 hh
                    refine .val (v_assign (v := reg (t55 : Sl)) rfl) rfl ?_
                    refine .nil ?_
                    refine QN.blockN ?_
                    exact QN.thenJ ⟨_, t55, setl_eq ⟨rfl, ⟨rfl, ⟨rfl, ⟨rfl, ⟨rfl, ⟨rfl, ⟨rfl, ⟨rfl, trivial⟩⟩⟩⟩⟩⟩⟩⟩, hh⟩
                  · have hh := hh.2 hb_5
                    refine CW.seq ?_
                    refine CW.region ?_
                    refine .val (v_ieql rfl rfl) rfl ?_
                    refine .val (v_assign (v := reg ((t45 == (2 : Int)) : Bool)) rfl) rfl ?_
                    refine .nil ?_
                    refine QN.then_ ?_
                    refine CW.cond (t45 == (2 : Int)) rfl (fun hb_6 => ?_) (fun hb_6 => ?_)
                    · have hh := hh.1 hb_6
                      refine CW.region ?_
                      refine .val (v_move (v := reg (t33 : Pt)) rfl) rfl ?_
                      refine .val (v_fieldAddr fl_88_2 rfl) rfl ?_
                      obtain ⟨t60, ⟨xt60, hxt60, hgt60⟩, hh⟩ := hh
                      refine .val (v_ldA (p := s) 109 ag_37 rfl hxt60 hgt60 get_88_V (fun _ => (len_api_Vote _)) (fun _ => rfl)) rfl ?_
                      refine .e (e_callP fn_39 rfl rfl hh ?_)
                      intro h t61 hh
                      refine .val (v_assign (v := reg (t61 : Sl)) rfl) rfl ?_
                      refine .nil ?_
                      refine QN.blockN ?_
                      exact QN.thenJ ⟨_, t61, setl_eq ⟨rfl, ⟨rfl, ⟨rfl, ⟨rfl, ⟨rfl, ⟨rfl, ⟨rfl, ⟨rfl, trivial⟩⟩⟩⟩⟩⟩⟩⟩, hh⟩
                    · have hh := hh.2 hb_6
                      refine CW.seq ?_
                      refine CW.region ?_
                      refine .val (v_ieql rfl rfl) rfl ?_
                      refine .val (v_assign (v := reg ((t45 == (3 : Int)) : Bool)) rfl) rfl ?_
                      refine .nil ?_
                      refine QN.then_ ?_
                      refine CW.cond (t45 == (3 : Int)) rfl (fun hb_7 => ?_) (fun hb_7 => ?_)
                      · have hh := hh.1 hb_7
                        refine CW.region ?_
                        refine .val (v_move (v := reg (t33 : Pt)) rfl) rfl ?_
                        refine .val (v_fieldAddr fl_88_3 rfl) rfl ?_
                        obtain ⟨t66, ⟨xt66, hxt66, hgt66⟩, hh⟩ := hh
                        refine .val (v_ld1 (p := s) 150 na_3 rfl hxt66 hgt66 get_88_N) rfl ?_
                        refine .e (e_callP fn_35 rfl rfl hh ?_)
                        intro h t67 hh
                        refine .val (v_assign (v := reg (t67 : Sl)) rfl) rfl ?_
                        refine .nil ?_
                        refine QN.blockN ?_
                        exact QN.thenJ ⟨_, t67, setl_eq ⟨rfl, ⟨rfl, ⟨rfl, ⟨rfl, ⟨rfl, ⟨rfl, ⟨rfl, ⟨rfl, trivial⟩⟩⟩⟩⟩⟩⟩⟩, hh⟩
                      · have hh := hh.2 hb_7
                        refine CW.skip ?_
                        refine QN.blockN ?_
                        exact QN.thenJ ⟨_, Sl.nil, setl_eq ⟨rfl, ⟨rfl, ⟨rfl, ⟨rfl, ⟨rfl, ⟨rfl, ⟨rfl, ⟨rfl, trivial⟩⟩⟩⟩⟩⟩⟩⟩, hh⟩
              · rintro ρ h ⟨ρ', l, rfl, hh⟩
                unfold law19_RoundOnce.j3 at hh
                refine CW.join (fun ρ h => ∃ (ρ' : Env) (said_7 : Sl) (decided_7 : Int), ρ = setl ρ' [(11, reg (t33 : Pt)), (12, reg (said_7 : Sl)), (13, reg (decided_7 : Int)), (14, reg (last : Cx)), (38, reg (script : Sl)), (39, reg ((script.len : Int) : Int)), (40, reg (t40 : Int))] ∧ (law19_RoundOnce.j4 (law19_RoundOnce.j2 s1) k) t33 said_7 decided_7 last script (script.len : Int) t40 h) ?_ ?_
                · refine CW.seq ?_
                  refine CW.region ?_
                  refine .val (v_move (v := reg (l : Sl)) rfl) rfl ?_
                  refine .val (v_len_sl (sl_68).1 rfl) rfl ?_
                  refine .val (v_move (v := reg ((0 : Int) : Int)) rfl) rfl ?_
                  refine .nil ?_
                  refine QN.then_ ?_
                  refine CW.block ?_
                  unfold law19_RoundOnce.l2 at hh
                  refine CW.loop (fun (σ0 : Sl × Int × Int) ρ => match σ0 with | (said_2, decided_2, t70) => ∃ ρ' : Env, ρ = setl ρ' [(11, reg (t33 : Pt)), (14, reg (last : Cx)), (38, reg (script : Sl)), (39, reg ((script.len : Int) : Int)), (40, reg (t40 : Int)), (68, reg (l : Sl)), (69, reg ((l.len : Int) : Int)), (12, reg (said_2 : Sl)), (13, reg (decided_2 : Int)), (70, reg (t70 : Int))]) hh ⟨_, setl_eq ⟨rfl, ⟨rfl, ⟨rfl, ⟨rfl, ⟨rfl, ⟨rfl, ⟨rfl, ⟨rfl, ⟨rfl, ⟨rfl, trivial⟩⟩⟩⟩⟩⟩⟩⟩⟩⟩⟩ ?_
                  clear hh
                  rintro s2 ⟨said_2, decided_2, t70⟩ ρ h ⟨ρ', rfl⟩ hh
                  refine CW.seq ?_
                  refine CW.region ?_
                  refine .val (v_ilss rfl rfl) rfl ?_
                  refine .nil ?_
                  refine QN.then_ ?_
                  refine CW.seq ?_
                  refine CW.cond (decide (t70 < (l.len : Int))) rfl (fun hb_8 => ?_) (fun hb_8 => ?_)
                  · have hh := hh.1 hb_8
                    refine CW.skip ?_
                    refine QN.then_ ?_
                    refine CW.join (fun ρ h => ∃ (ρ' : Env) (said_4 : Sl) (decided_4 : Int), ρ = setl ρ' [(11, reg (t33 : Pt)), (12, reg (said_4 : Sl)), (13, reg (decided_4 : Int)), (14, reg (last : Cx)), (38, reg (script : Sl)), (39, reg ((script.len : Int) : Int)), (40, reg (t40 : Int)), (68, reg (l : Sl)), (69, reg ((l.len : Int) : Int)), (70, reg (t70 : Int))] ∧ (law19_RoundOnce.j5 s2) t33 said_4 decided_4 last script (script.len : Int) t40 l (l.len : Int) t70 h) ?_ ?_
                    · refine CW.block ?_
                      refine CW.seq ?_
                      refine CW.region ?_
                      obtain ⟨t72, ht72, hh⟩ := hh
                      refine .val (v_idx_slP sl_68 rfl rfl ht72.1 ht72.2.1 ht72.2.2) rfl ?_
                      obtain ⟨t73, ⟨xt73, hxt73, hgt73⟩, hh⟩ := hh
                      refine .val (v_ldA (p := t72) 0 ag_80 rfl hxt73 hgt73 get_80_all (fun _ => (len_api_Act _)) (fun _ => rfl)) rfl ?_
                      refine box_elim hh (fun a ha hh => ?_)
                      refine .e (e_allocP ha zo_80 rfl ?_)
                      obtain ⟨xw_1, hxw_1, hwxw_1, hh⟩ := hh
                      refine .e (e_storeN (p := a) (nv := enc (t73 : api_Act)) 0 rfl rfl rfl sz_80 (one_api_Act _) hxw_1 hwxw_1 (len_api_Act _) (len_api_Act _) rfl (set_80_all xw_1 (t73 : api_Act)) ?_)
                      refine .nil ?_
                      refine QN.then_ ?_
                      refine CW.join (fun ρ h => ∃ (ρ' : Env) (decided_3 : Int), ρ = setl ρ' [(11, reg (t33 : Pt)), (12, reg (said_2 : Sl)), (13, reg (decided_3 : Int)), (14, reg (last : Cx)), (19, .pointer (some a)), (38, reg (script : Sl)), (39, reg ((script.len : Int) : Int)), (40, reg (t40 : Int)), (68, reg (l : Sl)), (69, reg ((l.len : Int) : Int)), (70, reg (t70 : Int))] ∧ (law19_RoundOnce.j6 (law19_RoundOnce.j5 s2) k) t33 said_2 decided_3 last a script (script.len : Int) t40 l (l.len : Int) t70 h) ?_ ?_
                      · refine CW.seq ?_
                        refine CW.region ?_
                        refine .val (v_fieldAddr fl_80_0 rfl) rfl ?_
                        obtain ⟨t75, ⟨xt75, hxt75, hgt75⟩, hh⟩ := hh
                        refine .val (v_ld1 (p := a) 0 na_3 rfl hxt75 hgt75 get_80_Act) rfl ?_
                        refine .val (v_ieql rfl rfl) rfl ?_
                        refine .nil ?_
                        refine QN.then_ ?_
                        refine CW.cond (t75 == (3 : Int)) rfl (fun hb_9 => ?_) (fun hb_9 => ?_)
                        · have hh := hh.1 hb_9
                          refine CW.region ?_
                          refine .val (v_move (v := reg (decided_2 : Int)) rfl) rfl ?_
                          refine .val (v_iadd rfl rfl) rfl ?_
                          refine .val (v_assign (v := reg ((iadd decided_2 (1 : Int)) : Int)) rfl) rfl ?_
                          refine .nil ?_
                          exact QN.thenJ ⟨_, (iadd decided_2 (1 : Int)), setl_eq ⟨rfl, ⟨rfl, ⟨rfl, ⟨rfl, ⟨rfl, ⟨rfl, ⟨rfl, ⟨rfl, ⟨rfl, ⟨rfl, ⟨rfl, trivial⟩⟩⟩⟩⟩⟩⟩⟩⟩⟩⟩, hh⟩
                        · have hh := hh.2 hb_9
                          refine CW.skip ?_
                          exact QN.thenJ ⟨_, decided_2, setl_eq ⟨rfl, ⟨rfl, ⟨rfl, ⟨rfl, ⟨rfl, ⟨rfl, ⟨rfl, ⟨rfl, ⟨rfl, ⟨rfl, ⟨rfl, trivial⟩⟩⟩⟩⟩⟩⟩⟩⟩⟩⟩, hh⟩
                      · rintro ρ h ⟨ρ', decided_3, rfl, hh⟩
                        unfold law19_RoundOnce.j6 at hh
                        refine CW.seq ?_
                        refine CW.seq ?_
                        refine CW.region ?_
                        refine .val (v_fieldAddr fl_80_0 rfl) rfl ?_
                        obtain ⟨t80, ⟨xt80, hxt80, hgt80⟩, hh⟩ := hh
                        refine .val (v_ld1 (p := a) 0 na_3 rfl hxt80 hgt80 get_80_Act) rfl ?_
                        refine .val (v_ineq rfl rfl) rfl ?_
                        refine .nil ?_
                        refine QN.then_ ?_
                        refine CW.cond (t80 != (2 : Int)) rfl (fun hb_10 => ?_) (fun hb_10 => ?_)
                        · have hh := hh.1 hb_10
                          refine CW.exit ?_
                          refine QN.thenExit ?_
                          refine QN.blockExit ?_
                          exact QN.thenJ ⟨_, said_2, decided_3, setl_eq ⟨rfl, ⟨rfl, ⟨rfl, ⟨rfl, ⟨rfl, ⟨rfl, ⟨rfl, ⟨rfl, ⟨rfl, ⟨rfl, trivial⟩⟩⟩⟩⟩⟩⟩⟩⟩⟩, hh⟩
                        · have hh := hh.2 hb_10
                          refine CW.skip ?_
                          refine QN.then_ ?_
                          refine CW.join (fun ρ h => ∃ (ρ' : Env), ρ = setl ρ' [(11, reg (t33 : Pt)), (12, reg (said_2 : Sl)), (13, reg (decided_3 : Int)), (14, reg (last : Cx)), (19, .pointer (some a)), (38, reg (script : Sl)), (39, reg ((script.len : Int) : Int)), (40, reg (t40 : Int)), (68, reg (l : Sl)), (69, reg ((l.len : Int) : Int)), (70, reg (t70 : Int))] ∧ (law19_RoundOnce.j7 (law19_RoundOnce.j5 s2)) t33 said_2 decided_3 last a script (script.len : Int) t40 l (l.len : Int) t70 h) ?_ ?_
                          · refine CW.seq ?_
                            refine CW.region ?_
                            refine .val (v_move (v := reg (said_2 : Sl)) rfl) rfl ?_
                            refine .val (v_len_sl (sl_68).1 rfl) rfl ?_
                            refine .val (v_move (v := reg ((0 : Int) : Int)) rfl) rfl ?_
                            refine .nil ?_
                            refine QN.then_ ?_
                            refine CW.block ?_
                            unfold law19_RoundOnce.l3 at hh
                            refine CW.loop (fun (σ0 : Int) ρ => match σ0 with | t84 => ∃ ρ' : Env, ρ = setl ρ' [(11, reg (t33 : Pt)), (12, reg (said_2 : Sl)), (13, reg (decided_3 : Int)), (14, reg (last : Cx)), (19, .pointer (some a)), (38, reg (script : Sl)), (39, reg ((script.len : Int) : Int)), (40, reg (t40 : Int)), (68, reg (l : Sl)), (69, reg ((l.len : Int) : Int)), (70, reg (t70 : Int)), (82, reg (said_2 : Sl)), (83, reg ((said_2.len : Int) : Int)), (84, reg (t84 : Int))]) hh ⟨_, setl_eq ⟨rfl, ⟨rfl, ⟨rfl, ⟨rfl, ⟨rfl, ⟨rfl, ⟨rfl, ⟨rfl, ⟨rfl, ⟨rfl, ⟨rfl, ⟨rfl, ⟨rfl, ⟨rfl, trivial⟩⟩⟩⟩⟩⟩⟩⟩⟩⟩⟩⟩⟩⟩⟩ ?_
                            clear hh
                            rintro s3 t84 ρ h ⟨ρ', rfl⟩ hh
                            refine CW.seq ?_
                            refine CW.region ?_
                            refine .val (v_ilss rfl rfl) rfl ?_
                            refine .nil ?_
                            refine QN.then_ ?_
                            refine CW.seq ?_
                            refine CW.cond (decide (t84 < (said_2.len : Int))) rfl (fun hb_11 => ?_) (fun hb_11 => ?_)
                            · have hh := hh.1 hb_11
                              refine CW.skip ?_
                              refine QN.then_ ?_
                              refine CW.seq ?_
                              refine CW.block ?_
                              refine CW.seq ?_
                              refine CW.region ?_
                              obtain ⟨t86, ht86, hh⟩ := hh
                              refine .val (v_idx_slP sl_68 rfl rfl ht86.1 ht86.2.1 ht86.2.2) rfl ?_
                              obtain ⟨t87, ⟨xt87, hxt87, hgt87⟩, hh⟩ := hh
                              refine .val (v_ldA (p := t86) 0 ag_80 rfl hxt87 hgt87 get_80_all (fun _ => (len_api_Act _)) (fun _ => rfl)) rfl ?_
                              refine box_elim hh (fun o ho hh => ?_)
                              refine .e (e_allocP ho zo_80 rfl ?_)
                              obtain ⟨xw_2, hxw_2, hwxw_2, hh⟩ := hh
                              refine .e (e_storeN (p := o) (nv := enc (t87 : api_Act)) 0 rfl rfl rfl sz_80 (one_api_Act _) hxw_2 hwxw_2 (len_api_Act _) (len_api_Act _) rfl (set_80_all xw_2 (t87 : api_Act)) ?_)
                              refine .nil ?_
                              refine QN.then_ ?_
                              refine CW.seq ?_
                              refine CW.region ?_
                              refine .val (v_fieldAddr fl_80_2 rfl) rfl ?_
                              obtain ⟨t89, ⟨xt89, hxt89, hgt89⟩, hh⟩ := hh
                              refine .val (v_ld1 (p := o) 2 na_3 rfl hxt89 hgt89 get_80_Kind) rfl ?_
                              refine .val (v_fieldAddr fl_80_2 rfl) rfl ?_
                              obtain ⟨t91, ⟨xt91, hxt91, hgt91⟩, hh⟩ := hh
                              refine .val (v_ld1 (p := a) 2 na_3 rfl hxt91 hgt91 get_80_Kind) rfl ?_
                              refine .val (v_ieql rfl rfl) rfl ?_
                              refine .val (v_move (v := reg ((t89 == t91) : Bool)) rfl) rfl ?_
                              refine .tv 93 rfl rfl rfl (fun hb => v_fieldAddr fl_80_1 rfl) rfl ?_
                              obtain ⟨t95, ⟨xt95, hxt95, hgt95⟩, hh⟩ := hh
                              refine .tv 93 rfl rfl rfl (fun hb => v_ld1 (p := o) 1 na_3 (gt hb) hxt95 hgt95 get_80_Round) rfl ?_
                              refine .tv 93 rfl rfl rfl (fun hb => v_fieldAddr fl_80_1 rfl) rfl ?_
                              obtain ⟨t97, ⟨xt97, hxt97, hgt97⟩, hh⟩ := hh
                              refine .tv 93 rfl rfl rfl (fun hb => v_ld1 (p := a) 1 na_3 (gt hb) hxt97 hgt97 get_80_Round) rfl ?_
                              refine .tv 93 rfl rfl rfl (fun hb => v_ieql (gt hb) (gt hb)) rfl ?_
                              refine .val (v_pick_and rfl (fun hb => gt hb) rfl) rfl ?_
                              refine .val (v_move (v := reg (((t89 == t91) && (t95 == t97)) : Bool)) rfl) rfl ?_
                              refine .fv 100 rfl rfl rfl (fun hb => v_fieldAddr fl_80_1 rfl) rfl ?_
                              obtain ⟨t102, ⟨xt102, hxt102, hgt102⟩, hh⟩ := hh
                              refine .fv 100 rfl rfl rfl (fun hb => v_ld1 (p := o) 1 na_3 (gf hb) hxt102 hgt102 get_80_Round) rfl ?_
                              refine .fv 100 rfl rfl rfl (fun hb => v_fieldAddr fl_80_1 rfl) rfl ?_
                              obtain ⟨t104, ⟨xt104, hxt104, hgt104⟩, hh⟩ := hh
                              refine .fv 100 rfl rfl rfl (fun hb => v_ld1 (p := a) 1 na_3 (gf hb) hxt104 hgt104 get_80_Round) rfl ?_
                              refine .fv 100 rfl rfl rfl (fun hb => v_igtr (gf hb) (gf hb)) rfl ?_
                              refine .val (v_pick_or rfl rfl (fun hb => gf hb)) rfl ?_
                              refine .nil ?_
                              refine QN.then_ ?_
                              refine CW.cond (((t89 == t91) && (t95 == t97)) || (decide (t104 < t102))) rfl (fun hb_12 => ?_) (fun hb_12 => ?_)
                              · have hh := hh.1 hb_12
                                refine CW.seq ?_
                                refine CW.region ?_
                                refine .val (v_assign (v := reg (false : Bool)) rfl) rfl ?_
                                refine .nil ?_
                                refine QN.then_ ?_
                                refine CW.ret ?_
                                refine QN.blockRet ?_
                                refine QN.thenRet ?_
                                refine QN.thenRet ?_
                                refine QN.blockRet ?_
                                refine QN.thenRet ?_
                                refine QN.blockRet ?_
                                refine QN.thenRet ?_
                                refine QN.thenRet ?_
                                refine QN.blockRet ?_
                                refine QN.thenRet ?_
                                refine QN.blockRet ?_
                                refine QN.thenRet ?_
                                refine QN.thenRet ?_
                                refine QN.blockRet ?_
                                refine QN.thenRet ?_
                                exact ret1 rfl rfl ⟨(false : Bool), rfl, hh⟩
                              · have hh := hh.2 hb_12
                                refine CW.skip ?_
                                refine QN.blockN ?_
                                refine QN.then_ ?_
                                refine CW.region ?_
                                refine .val (v_iadd rfl rfl) rfl ?_
                                refine .val (v_move (v := reg ((iadd t84 (1 : Int)) : Int)) rfl) rfl ?_
                                refine .nil ?_
                                exact QN.thenJ ⟨(iadd t84 (1 : Int)), ⟨_, setl_eq ⟨rfl, ⟨rfl, ⟨rfl, ⟨rfl, ⟨rfl, ⟨rfl, ⟨rfl, ⟨rfl, ⟨rfl, ⟨rfl, ⟨rfl, ⟨rfl, ⟨rfl, ⟨rfl, trivial⟩⟩⟩⟩⟩⟩⟩⟩⟩⟩⟩⟩⟩⟩⟩, hh⟩
                            · have hh := hh.2 hb_11
                              refine CW.exit ?_
                              refine QN.thenExit ?_
                              refine QN.thenExit ?_
                              refine QN.blockExit ?_
                              exact QN.thenJ ⟨_, setl_eq ⟨rfl, ⟨rfl, ⟨rfl, ⟨rfl, ⟨rfl, ⟨rfl, ⟨rfl, ⟨rfl, ⟨rfl, ⟨rfl, ⟨rfl, trivial⟩⟩⟩⟩⟩⟩⟩⟩⟩⟩⟩, hh⟩
                          · rintro ρ h ⟨ρ', rfl, hh⟩
                            unfold law19_RoundOnce.j7 at hh
                            refine CW.region ?_
                            refine .val (v_move (v := reg (said_2 : Sl)) rfl) rfl ?_
                            obtain ⟨t109, ⟨xt109, hxt109, hgt109⟩, hh⟩ := hh
                            refine .val (v_ldA (p := a) 0 ag_80 rfl hxt109 hgt109 get_80_all (fun _ => (len_api_Act _)) (fun _ => rfl)) rfl ?_
                            refine mks_elim hh (fun pt110 t110 hpt110 ht110 hh => ?_)
                            refine .e (e_mks [(t109 : api_Act)] hpt110 ht110 zo_80 sl_68 rfl rfl rfl rfl rfl ?_)
                            refine .e (e_app sl_68 zo_80 by_80 rfl rfl rfl hh ?_)
                            intro h t111 hh
                            refine .val (v_assign (v := reg (t111 : Sl)) rfl) rfl ?_
                            refine .nil ?_
                            refine QN.blockN ?_
                            exact QN.thenJ ⟨_, t111, decided_3, setl_eq ⟨rfl, ⟨rfl, ⟨rfl, ⟨rfl, ⟨rfl, ⟨rfl, ⟨rfl, ⟨rfl, ⟨rfl, ⟨rfl, trivial⟩⟩⟩⟩⟩⟩⟩⟩⟩⟩, hh⟩
                    · rintro ρ h ⟨ρ', said_4, decided_4, rfl, hh⟩
                      unfold law19_RoundOnce.j5 at hh
                      refine CW.region ?_
                      refine .val (v_iadd rfl rfl) rfl ?_
                      refine .val (v_move (v := reg ((iadd t70 (1 : Int)) : Int)) rfl) rfl ?_
                      refine .nil ?_
                      exact QN.thenJ ⟨(said_4, decided_4, (iadd t70 (1 : Int))), ⟨_, setl_eq ⟨rfl, ⟨rfl, ⟨rfl, ⟨rfl, ⟨rfl, ⟨rfl, ⟨rfl, ⟨rfl, ⟨rfl, ⟨rfl, trivial⟩⟩⟩⟩⟩⟩⟩⟩⟩⟩⟩, hh⟩
                  · have hh := hh.2 hb_8
                    refine CW.exit ?_
                    refine QN.thenExit ?_
                    refine QN.thenExit ?_
                    refine QN.blockExit ?_
                    exact QN.thenJ ⟨_, said_2, decided_2, setl_eq ⟨rfl, ⟨rfl, ⟨rfl, ⟨rfl, ⟨rfl, ⟨rfl, ⟨rfl, trivial⟩⟩⟩⟩⟩⟩⟩, hh⟩
                · rintro ρ h ⟨ρ', said_7, decided_7, rfl, hh⟩
                  unfold law19_RoundOnce.j4 at hh
                  refine CW.seq ?_
                  refine CW.region ?_
                  refine .val (v_move (v := reg (t33 : Pt)) rfl) rfl ?_
                  refine .e (e_callP fn_36 rfl rfl hh ?_)
                  intro h t115 hh
                  refine .val (v_move (v := reg (t115 : T2 Cx Int)) rfl) rfl ?_
                  refine .val (v_extract (v := reg (t115.a : Cx)) rfl rfl) rfl ?_
                  refine .val (v_extract (v := reg (t115.b : Int)) rfl rfl) rfl ?_
                  refine .val (v_assign (v := reg (t115.a : Cx)) rfl) rfl ?_
                  refine .val (v_assign (v := reg (t115.b : Int)) rfl) rfl ?_
                  refine .nil ?_
                  refine QN.then_ ?_
                  refine CW.seq ?_
                  refine CW.seq ?_
                  refine CW.region ?_
                  refine .val (v_move (v := reg (t115.a : Cx)) rfl) rfl ?_
                  refine .val (v_move (v := reg (last : Cx)) rfl) rfl ?_
                  refine .e (e_callP fn_40 rfl rfl hh ?_)
                  intro h t120 hh
                  refine .val (v_move (v := reg (t120 : Bool)) rfl) rfl ?_
                  refine .fv 121 rfl rfl rfl (fun hb => v_move (v := reg (decided_7 : Int)) rfl) rfl ?_
                  refine .fv 121 rfl rfl rfl (fun hb => v_igtr (gf hb) rfl) rfl ?_
                  refine .val (v_pick_or rfl rfl (fun hb => gf hb)) rfl ?_
                  refine .nil ?_
                  refine QN.then_ ?_
                  refine CW.cond (t120 || (decide ((1 : Int) < decided_7))) rfl (fun hb_13 => ?_) (fun hb_13 => ?_)
                  · have hh := hh.1 hb_13
                    refine CW.seq ?_
                    refine CW.region ?_
                    refine .val (v_assign (v := reg (false : Bool)) rfl) rfl ?_
                    refine .nil ?_
                    refine QN.then_ ?_
                    refine CW.ret ?_
                    refine QN.thenRet ?_
                    refine QN.blockRet ?_
                    refine QN.thenRet ?_
                    refine QN.thenRet ?_
                    refine QN.blockRet ?_
                    refine QN.thenRet ?_
                    exact ret1 rfl rfl ⟨(false : Bool), rfl, hh⟩
                  · have hh := hh.2 hb_13
                    refine CW.skip ?_
                    refine QN.then_ ?_
                    refine CW.region ?_
                    refine .val (v_move (v := reg (t115.a : Cx)) rfl) rfl ?_
                    refine .val (v_assign (v := reg (t115.a : Cx)) rfl) rfl ?_
                    refine .nil ?_
                    refine QN.blockN ?_
                    exact QN.thenJ ⟨_, said_7, decided_7, t115.a, setl_eq ⟨rfl, ⟨rfl, ⟨rfl, ⟨rfl, ⟨rfl, ⟨rfl, ⟨rfl, trivial⟩⟩⟩⟩⟩⟩⟩, hh⟩
            · rintro ρ h ⟨ρ', said_8, decided_8, last_8, rfl, hh⟩
              unfold law19_RoundOnce.j2 at hh
              refine CW.region ?_
              refine .val (v_iadd rfl rfl) rfl ?_
              refine .val (v_move (v := reg ((iadd t40 (1 : Int)) : Int)) rfl) rfl ?_
              refine .nil ?_
              exact QN.thenJ ⟨(said_8, decided_8, last_8, (iadd t40 (1 : Int))), ⟨_, setl_eq ⟨rfl, ⟨rfl, ⟨rfl, ⟨rfl, ⟨rfl, ⟨rfl, ⟨rfl, trivial⟩⟩⟩⟩⟩⟩⟩⟩, hh⟩
          · have hh := hh.2 hb_3
            refine CW.exit ?_
            refine QN.thenExit ?_
            refine QN.thenExit ?_
            refine QN.blockExit ?_
            exact QN.thenJ ⟨_, setl_eq trivial, hh⟩
        · rintro ρ h ⟨ρ', rfl, hh⟩
          unfold law19_RoundOnce.j1 at hh
          refine CW.seq ?_
          refine CW.region ?_
          refine .val (v_assign (v := reg (true : Bool)) rfl) rfl ?_
          refine .nil ?_
          refine QN.then_ ?_
          refine CW.ret ?_
          exact ret1 rfl rfl ⟨(true : Bool), rfl, hh⟩
end Go.Proofs.YtimmoekliphobaaDoor
namespace Go.Proofs.YtimmoekliphobaaDoor
open Go Go.Sh
open Go.Sh.Ty (reg)
set_option linter.unusedVariables false
set_option maxRecDepth 100000
set_option maxHeartbeats 1000000

def isV (a : api_Act) : Bool := a.Act == 2
theorem take_sub (acts : List api_Act) (j : Nat) (a : api_Act) (h : acts[j]? = some a) : ((acts.take j).filter isV ++ [a]).Sublist acts := by
  have e : acts.take (j + 1) = acts.take j ++ [a] := by rw [List.take_add_one, h]; rfl
  have h1 : ((acts.take j).filter isV ++ [a]).Sublist (acts.take j ++ [a]) := (List.filter_sublist).append (List.Sublist.refl _)
  rw [← e] at h1
  exact h1.trans (List.take_sublist _ _)
section
variable {h0 h : H} {S : List Nat} {L : List En}
theorem once_j3 (c : CS) (said : Sl) (saids : List api_Act) (d : Nat) (rl : Int) (l : Sl) (acts : List api_Act) (t38 : Sl) (t39 i : Int) {k : Bool → H → Prop} {s1 : Sl × Int × Cx × Int → H → Prop}
    (hc : Cok c) (hs : Sat h0 S h (core c ++ (rdo 135 l acts :: own 80 135 said saids :: L))) (hasc : (saids ++ acts).Pairwise Ord) (hv : ∀ a ∈ saids, a.Act = 2) (hd : d + cnt3 acts ≤ 1) (hrl : 0 ≤ rl ∧ rl ≤ c.rd) (hn1 : saids.length < 2 ^ 27) (hn2 : acts.length < 2 ^ 20)
    (hk : ∀ said' h', Sat h0 S h' (core c ++ (own 80 135 said' (saids ++ acts.filter isV) :: L)) → s1 (said', ((d + cnt3 acts : Nat) : Int), cxI c.ht c.rd, iadd i 1) h') :
    law19_RoundOnce.j3 (law19_RoundOnce.j2 s1) k (some c.p) said (d : Int) (cxI c.ht rl) l t38 t39 i h := by
  unfold law19_RoundOnce.j3
  have hll : l.len = acts.length := (hs.rdoSV 8 rfl : SV 135 h l acts).2.1
  rw [hll]
  unfold law19_RoundOnce.l2
  refine ⟨fun (t : Sl × Int × Int) h' => ∃ j : Nat, t.2.2 = j ∧ j ≤ acts.length ∧ t.2.1 = ((d + cnt3 (acts.take j) : Nat) : Int) ∧ Sat h0 S h' (core c ++ (rdo 135 l acts :: own 80 135 t.1 (saids ++ (acts.take j).filter isV) :: L)), fun t _ => (acts.length - t.2.2).toNat, ⟨0, rfl, Nat.zero_le _, by simp [cnt3], by simpa using hs⟩, ?_⟩
  clear hs
  rintro ⟨sd, dd, t⟩ h1 ⟨j, ht, hj, hdd, hs⟩
  simp only at ht hdd hs
  subst ht; subst hdd
  have hcl : ∀ j, cnt3 (acts.take j) ≤ cnt3 acts := fun j => ((List.take_sublist j acts).filter _).length_le
  refine ifb_i (fun hc1 => ?_) (fun hc1 => ?_)
  · have hj' : j < acts.length := by have : (j : Int) < (acts.length : Int) := by simpa using hc1
                                     omega
    have hgj : acts[j]? = some acts[j] := List.getElem?_eq_getElem hj'
    have hsv : SV 135 h1 l acts := hs.rdoSV 8 rfl
    refine sidx_ld len_api_Act hsv (Int.natCast_nonneg _) (by rw [Int.toNat_natCast]; exact hgj) ?_
    generalize acts[j] = A at *
    have htk : acts.take (j + 1) = acts.take j ++ [A] := by rw [List.take_add_one, hgj]; rfl
    have ej : iadd (j : Int) 1 = ((j + 1 : Nat) : Int) := by rw [iadd_eq (by omega) (by omega)]; omega
    refine hs.box_ (fun a h2 hs2 _ _ => ?_)
    refine hs2.st_ 0 rfl len_api_Act (fun h3 hs3 _ => ?_)
    refine hs3.ld_ 0 rfl ?_
    have hcj := hcl (j + 1)
    rw [htk, cnt3_app] at hcj
    -- what is done with an act
    have j6 : ∀ (D : Int), D = ((d + cnt3 (acts.take (j + 1)) : Nat) : Int) → law19_RoundOnce.j6 (law19_RoundOnce.j5 (fun s' h' => (∃ j : Nat, s'.2.2 = j ∧ j ≤ acts.length ∧ s'.2.1 = ((d + cnt3 (acts.take j) : Nat) : Int) ∧ Sat h0 S h' (core c ++ (rdo 135 l acts :: own 80 135 s'.1 (saids ++ (acts.take j).filter isV) :: L))) ∧ (acts.length - s'.2.2).toNat < ((acts.length : Int) - (j : Int)).toNat)) k (some c.p) sd D (cxI c.ht rl) a t38 t39 i l (acts.length : Int) (j : Int) h3 := by
      intro D hD
      unfold law19_RoundOnce.j6 law19_RoundOnce.j5
      refine hs3.ld_ 0 rfl ?_
      rw [ej]
      refine ifb_i (fun h2 => ?_) (fun h2 => ?_)
      · have hA : isV A = false := by
          have : A.Act ≠ 2 := by simpa using h2
          unfold isV; simpa using this
        refine ⟨⟨j + 1, rfl, hj', hD, ?_⟩, by dsimp only; omega⟩
        have e : (acts.take (j + 1)).filter isV = (acts.take j).filter isV := by rw [htk, List.filter_append]; simp [hA]
        rw [e]
        exact hs3.drop (List.sublist_cons_self _ _)
      · have hA2 : A.Act = 2 := by simpa using h2
        have hA : isV A = true := by unfold isV; simpa using hA2
        have hord : ∀ o ∈ saids ++ (acts.take j).filter isV, ¬ ((o.Kind == A.Kind && o.Round == A.Round) || decide (A.Round < o.Round)) = true := by
          have hsub : ((saids ++ (acts.take j).filter isV) ++ [A]).Sublist (saids ++ acts) := by
            rw [List.append_assoc]
            exact (List.Sublist.refl _).append (take_sub acts j A hgj)
          have hp := hasc.sublist hsub
          rw [List.pairwise_append] at hp
          intro o ho
          have h3 := hp.2.2 o ho A (by simp)
          have ho2 : o.Act = 2 := by
            rcases List.mem_append.1 ho with ho | ho
            · exact hv o ho
            · have := (List.mem_filter.1 ho).2; unfold isV at this; simpa using this
          have h4 := h3 ho2 hA2
          simp only [Bool.or_eq_true, Bool.and_eq_true, beq_iff_eq, decide_eq_true_eq]
          rcases h4 with h4 | ⟨h4, h5⟩
          · rintro (⟨_, h6⟩ | h6) <;> omega
          · rintro (⟨h6, _⟩ | h6)
            · exact h5 h6
            · omega
        have hsl : sd.len = (saids ++ (acts.take j).filter isV).length := (hs3.ownSV 10 rfl len_api_Act : SV 135 h3 sd _).2.1
        have hbig : (saids ++ (acts.take j).filter isV).length < 2 ^ 28 := by
          have h9 : ((acts.take j).filter isV).length ≤ acts.length := Nat.le_trans (List.filter_sublist).length_le ((List.take_sublist j acts).length_le)
          rw [List.length_append]; omega
        generalize hSS : saids ++ (acts.take j).filter isV = SS at *
        rw [hsl]
        unfold law19_RoundOnce.l3
        refine ⟨fun (t : Int) h' => ∃ m : Nat, t = m ∧ m ≤ SS.length ∧ Sat h0 S h' (cel 80 a (enc A) :: (core c ++ (rdo 135 l acts :: own 80 135 sd SS :: L))), fun t _ => (SS.length - t).toNat, ⟨0, rfl, Nat.zero_le _, hs3⟩, ?_⟩
        rintro t h4 ⟨m, rfl, hm, hs4⟩
        refine ifb_i (fun hc2 => ?_) (fun hc2 => ?_)
        · have hm' : m < SS.length := by have : (m : Int) < (SS.length : Int) := by simpa using hc2
                                         omega
          have hsv2 : SV 135 h4 sd SS := hs4.ownSV 10 rfl len_api_Act
          refine sidx_ld len_api_Act hsv2 (Int.natCast_nonneg _) (by rw [Int.toNat_natCast]; exact List.getElem?_eq_getElem hm') ?_
          have hno := hord _ (List.getElem_mem hm')
          refine hs4.box_ (fun o h5 hs5 _ _ => ?_)
          refine hs5.st_ 0 rfl len_api_Act (fun h6 hs6 _ => ?_)
          refine hs6.ld_ 0 rfl (hs6.ld_ 1 rfl (hs6.ld_ 0 rfl (hs6.ld_ 1 rfl (hs6.ld_ 0 rfl (hs6.ld_ 1 rfl ?_)))))
          refine ifb_i (fun hb => absurd hb hno) (fun _ => ?_)
          have em : iadd (m : Int) 1 = ((m + 1 : Nat) : Int) := by rw [iadd_eq (by omega) (by omega)]; omega
          rw [em]
          exact ⟨⟨m + 1, rfl, hm', hs6.drop (List.sublist_cons_self _ _)⟩, by dsimp only; omega⟩
        · unfold law19_RoundOnce.j7
          refine hs4.ld_ 0 rfl ?_
          refine hs4.mks_ (n := 135) (fun t110 h5 hs5 _ _ => ?_)
          refine hs5.app_ 11 rfl (hs5.ownSV 0 rfl len_api_Act) len_api_Act one_api_Act (len_api_Act _) ?_ ?_ (fun r h6 hs6 _ => ?_)
          · simp only [List.length_cons, List.length_nil, maxBytes]; omega
          · simp only [List.length_cons, List.length_nil]; omega
          refine ⟨⟨j + 1, ej, hj', hD, ?_⟩, by show ((acts.length : Int) - iadd (j : Int) 1).toNat < _; rw [ej]; omega⟩
          have e : saids ++ (acts.take (j + 1)).filter isV = SS ++ [A] := by rw [htk, List.filter_append, ← hSS]; simp [hA]
          rw [e]
          exact (hs6.drop (List.sublist_cons_self _ _)).drop (List.sublist_cons_self _ _)
    refine ifb_i (fun h2 => ?_) (fun h2 => ?_)
    · have hA : A.Act = 3 := by simpa using h2
      have e1 : cnt3 [A] = 1 := by unfold cnt3; rw [List.filter_cons, if_pos (by simpa using hA)]; rfl
      refine j6 _ ?_
      rw [htk, cnt3_app, e1]
      rw [iadd_eq (by omega) (by omega)]; omega
    · have hA : A.Act ≠ 3 := by simpa using h2
      have e1 : cnt3 [A] = 0 := by unfold cnt3; rw [List.filter_cons, if_neg (by simpa using hA)]; rfl
      refine j6 _ ?_
      rw [htk, cnt3_app, e1]; rfl
  · have hj' : j = acts.length := by have : ¬ (j : Int) < (acts.length : Int) := by simpa using hc1
                                     omega
    subst hj'
    rw [List.take_length] at hs ⊢
    unfold law19_RoundOnce.j4 law19_RoundOnce.j2
    have hs2 : Sat h0 S h1 (core c ++ (own 80 135 sd (saids ++ acts.filter isV) :: L)) := hs.sel 9 [0, 1, 2, 3, 4, 5, 6, 7] (by decide) (by decide)
    refine At_spec19 c hc hs2 ?_
    have hp := hc.plc
    refine Less_spec (a := c.ht) (b := c.rd) (c := c.ht) (d := rl) hp ⟨hp.1, by have := hp.2; omega⟩ ?_
    have e1 : decide (c.ht < c.ht ∨ c.ht = c.ht ∧ c.rd < rl) = false := decide_eq_false (by omega)
    have e2 : decide ((1 : Int) < ((d + cnt3 acts : Nat) : Int)) = false := decide_eq_false (by omega)
    rw [e1, e2]
    refine ifb_i (fun hb => by cases hb) (fun _ => ?_)
    exact hk sd h1 hs2
end
end Go.Proofs.YtimmoekliphobaaDoor

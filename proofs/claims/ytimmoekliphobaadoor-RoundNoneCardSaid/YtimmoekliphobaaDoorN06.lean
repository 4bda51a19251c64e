/-
  THE CARD OF wapentakelaw19.RoundNone: for every input that the row lets in, RoundNone returns true and its arguments read as they did. Part 6 of 6. No condition stands ahead of the statement. Parts of this text were printed by a program of ours.
-/
import Derived.Test.YtimmoekliphobaaDoorN05
set_option linter.all false
namespace Go.Proofs.YtimmoekliphobaaDoor
open Go Go.Sh
open Go.Sh.Ty (reg)
set_option linter.unusedVariables false
set_option maxRecDepth 100000
set_option maxHeartbeats 1000000

theorem patF_le (base b : Int) : 1 ≤ patF base b ∧ patF base b ≤ 1073741824 := by
  unfold patF ishl
  have h1 : 1 ≤ imin (imax base 1) 1048576 ∧ imin (imax base 1) 1048576 ≤ 1048576 := by
    unfold imin imax; split <;> split <;> omega
  have h2 : (imin b 10).toNat ≤ 10 := by unfold imin; split <;> omega
  generalize imin (imax base 1) 1048576 = a at *
  generalize (imin b 10).toNat = m at *
  have e : min m 64 = m := by omega
  rw [e]
  have h3 : 1 ≤ 2 ^ m ∧ 2 ^ m ≤ 2 ^ 10 := ⟨Nat.one_le_two_pow, Nat.pow_le_pow_right (by decide) h2⟩
  have h4 : ((2 : Int) ^ m) = ((2 ^ m : Nat) : Int) := by simp
  rw [h4]
  generalize 2 ^ m = q at *
  have h5 : 1 ≤ a * (q : Int) ∧ a * (q : Int) ≤ 1048576 * 1024 := by
    constructor
    · calc (1 : Int) = 1 * 1 := rfl
        _ ≤ a * (q : Int) := Int.mul_le_mul h1.1 (by omega) (by omega) (by omega)
    · exact Int.mul_le_mul h1.2 (by omega) (by omega) (by omega)
  rw [wrap_eq (by omega) (by omega)]
  omega
def tickC (c : CS) (n : Int) : CS := { c with x := { c.x with ticks := imin (iadd c.x.ticks (imin n 1099511627776)) 1099511627776 } }
/-- what time does -/
def TickR (c : CS) (n : Int) (c4 : CS) : Prop := ∃ r1 o1 r2 o2 r3 o3 c2 c3,
  c2 = (if (tickC c n).x.step = 1 ∧ patF c.x.base c.rd ≤ (tickC c n).x.ticks then votesC (tickC c n) 1 dz r1 o1 else tickC c n) ∧
  c3 = (if c2.x.step = 2 ∧ 2 * patF c.x.base c.rd ≤ c2.x.ticks then votesC c2 2 dz r2 o2 else c2) ∧
  c4 = (if c3.x.step = 3 ∧ 3 * patF c.x.base c.rd ≤ c3.x.ticks ∧ c3.rd < 1024 then enterC c3 (c3.rd + 1) r3 o3 else c3)
theorem votesC_f (c : CS) (kd : Int) (d : Dig) (r o : Sl) : (votesC c kd d r o).p = c.p ∧ (votesC c kd d r o).rd = c.rd ∧ (votesC c kd d r o).x.base = c.x.base ∧ (votesC c kd d r o).x.ticks = c.x.ticks := by unfold votesC; split <;> exact ⟨rfl, rfl, rfl, rfl⟩
theorem enterC_p (c : CS) (rd : Int) (r o : Sl) : (enterC c rd r o).p = c.p := by unfold enterC; split <;> rfl
theorem mu_ub {c : CS} (hc : Cok c) : mu c ≤ 16400 := by
  unfold mu
  have := hc.plc.2; have := hc.st
  split <;> omega
section
variable {h0 h : H} {S : List Nat} {L : List En}
theorem Tick_spec (c : CS) (n : Int) {k : Sl → H → Prop} (hT : Tb h0) (hS : 0 ∉ S) (hc : Cok c) (hn : c.acts.length < 2 ^ 18) (hs : Sat h0 S h (core c ++ L))
    (hk0 : c.x.decided = true ∨ c.x.step = 0 ∨ n < 1 → k Sl.nil h)
    (hk1 : ∀ c4 h', c.x.decided = false → c.x.step ≠ 0 → 1 ≤ n → TickR c n c4 → c4.x.fresh = false → Sat h0 S h' (core c4 ++ L) → k Sl.nil h')
    (hk : ∀ c4 c' h', c.x.decided = false → c.x.step ≠ 0 → 1 ≤ n → TickR c n c4 → c4.x.fresh = true → Mvs c4 c' → Sat h0 S h' (core (clrC c') ++ (hand c' ++ L)) → k c'.x.out h') :
    call (β := Sl) Prog 35 [reg ((some c.p : Pt) : Pt), reg (n : Int)] k h := by
  refine round_Core_Tick.ok _ _ _ _ ?_
  unfold round_Core_Tick.b
  refine ifb_i (fun e => by cases e) (fun _ => ?_)
  refine nn_i (hs.ld_ 0 rfl ?_)
  unfold round_Core_Tick.j1
  refine ifb_i (fun hd => ?_) (fun hd => ?_)
  · exact ifb_i (fun _ => hk0 (.inl hd)) (fun e => by cases e)
  refine hs.ld_ 0 rfl ?_
  refine ifb_i (fun h1 => ?_) (fun h1 => ?_)
  · refine hk0 (.inr ?_)
    simpa using h1
  have h1' : c.x.step ≠ 0 ∧ 1 ≤ n := by
    simp only [Bool.or_eq_false_iff, beq_eq_false_iff_ne, decide_eq_false_iff_not] at h1
    exact ⟨h1.1, by omega⟩
  refine nn_i (hs.ld_ 0 rfl ?_)
  refine hs.st_ 0 rfl len_round_Core (fun h2 hs1 _ => ?_)
  have hs2 : Sat h0 S h2 (core (tickC c n) ++ L) := hs1
  have hc2 : Cok (tickC c n) := { hc with }
  clear hs hs1
  refine hs2.ld_ 0 rfl (hs2.ld_ 0 rfl ?_)
  rw [show (tickC c n).x.at_ = cxI c.ht c.rd from hc.at_]
  refine Patience_spec hc.plc ?_
  rw [show (tickC c n).x.base = c.x.base from rfl]
  obtain ⟨q1, q2⟩ := patF_le c.x.base c.rd
  have e2 : imul 2 (patF c.x.base c.rd) = 2 * patF c.x.base c.rd := imul_eq (by omega) (by omega)
  have e3 : imul 3 (patF c.x.base c.rd) = 3 * patF c.x.base c.rd := imul_eq (by omega) (by omega)
  -- the end
  have j6 : ∀ c4 h', c4.p = c.p → TickR c n c4 → Cok c4 → c4.x.decided = false → c4.acts.length ≤ c.acts.length + 3 → Sat h0 S h' (core c4 ++ L) → round_Core_Tick.j6 k (some c.p) h' := by
    intro c4 h' hp hR hc4 hd4 ha hs4
    unfold round_Core_Tick.j6
    rw [← hp]
    refine nn_i (hs4.ld_ 0 rfl ?_)
    refine ifb_i (fun hf => ?_) (fun hf => ?_)
    · exact hk1 c4 h' hd h1'.1 h1'.2 hR (by simpa using hf) hs4
    · have := mu_ub hc4
      refine acts_spec c4 hT hS hc4 hd4 (by omega) hs4 (fun c' h3 hm3 hs3 => ?_)
      exact hk c4 c' h3 hd h1'.1 h1'.2 hR (by simpa using hf) hm3 hs3
  have j4 : ∀ c2 c3 h' r1 o1 r2 o2, c2 = (if (tickC c n).x.step = 1 ∧ patF c.x.base c.rd ≤ (tickC c n).x.ticks then votesC (tickC c n) 1 dz r1 o1 else tickC c n) → c3 = (if c2.x.step = 2 ∧ 2 * patF c.x.base c.rd ≤ c2.x.ticks then votesC c2 2 dz r2 o2 else c2) → c3.p = c.p → c3.rd = c.rd → c3.ht = c.ht → Cok c3 → c3.x.decided = false → c3.acts.length ≤ c.acts.length + 2 → Sat h0 S h' (core c3 ++ L) → round_Core_Tick.j4 k (some c.p) (patF c.x.base c.rd) h' := by
    intro c2 c3 h' r1 o1 r2 o2 hd2 hd3 hp hr hht hc3 hdd ha hs3
    unfold round_Core_Tick.j4
    have hnot : ¬ (c3.x.step = 3 ∧ 3 * patF c.x.base c.rd ≤ c3.x.ticks ∧ c3.rd < 1024) → round_Core_Tick.j7 (round_Core_Tick.j6 k) (some c.p) c3.rd false h' := by
      intro hno
      unfold round_Core_Tick.j7
      refine ifb_i (fun e => by cases e) (fun _ => ?_)
      exact j6 c3 h' hp ⟨r1, o1, r2, o2, Sl.nil, Sl.nil, c2, c3, hd2, hd3, by rw [if_neg hno]⟩ hc3 hdd (by omega) hs3
    rw [← hp] at hnot ⊢
    refine nn_i (hs3.ld_ 0 rfl ?_)
    rw [hc3.at_]
    refine Round_spec hc3.plc (hs3.ld_ 0 rfl ?_)
    refine ifb_i (fun h5 => ?_) (fun h5 => ?_)
    · have h5' : c3.x.step = 3 := by simpa using h5
      refine hs3.ld_ 0 rfl ?_
      rw [e3]
      by_cases h6 : 3 * patF c.x.base c.rd ≤ c3.x.ticks ∧ c3.rd < 1024
      · have e : (decide (3 * patF c.x.base c.rd ≤ c3.x.ticks) && decide (c3.rd < 1024)) = true := by simp [h6]
        rw [e]
        unfold round_Core_Tick.j7
        refine ifb_i (fun _ => ?_) (fun e => by cases e)
        have hrd := hc3.plc.2
        have e5 : iadd c3.rd 1 = c3.rd + 1 := iadd_eq (by omega) (by omega)
        rw [e5]
        refine enter_spec c3 (c3.rd + 1) (by omega) hc3 hs3 (fun r o h7 hs7 => ?_)
        obtain ⟨a1, a2, a3⟩ := hc3.enter (by omega) (show 0 ≤ c3.rd + 1 ∧ c3.rd + 1 ≤ 1024 by omega) r o
        rw [hp]
        exact j6 _ h7 ((enterC_p _ _ _ _).trans hp) ⟨r1, o1, r2, o2, r, o, c2, c3, hd2, hd3, by rw [if_pos ⟨h5', h6⟩]⟩ a1 (by rw [enterC_dec]; exact hdd) (by omega) hs7
      · have e : (decide (3 * patF c.x.base c.rd ≤ c3.x.ticks) && decide (c3.rd < 1024)) = false := by
          rw [Bool.eq_false_iff]; simp only [ne_eq, Bool.and_eq_true, decide_eq_true_eq]; exact h6
        rw [e]
        exact hnot (fun hx => h6 hx.2)
    · exact hnot (fun hx => by rw [hx.1] at h5; simp at h5)
  have j2 : ∀ c2 h' r1 o1, c2 = (if (tickC c n).x.step = 1 ∧ patF c.x.base c.rd ≤ (tickC c n).x.ticks then votesC (tickC c n) 1 dz r1 o1 else tickC c n) → c2.p = c.p → c2.rd = c.rd → c2.ht = c.ht → Cok c2 → c2.x.decided = false → c2.acts.length ≤ c.acts.length + 1 → Sat h0 S h' (core c2 ++ L) → round_Core_Tick.j2 k (some c.p) (patF c.x.base c.rd) h' := by
    intro c2 h' r1 o1 hd2 hp hr hht hc3 hdd ha hs3
    unfold round_Core_Tick.j2
    have hnot : ¬ (c2.x.step = 2 ∧ 2 * patF c.x.base c.rd ≤ c2.x.ticks) → round_Core_Tick.j5 (round_Core_Tick.j4 k) (some c.p) (patF c.x.base c.rd) false h' := by
      intro hno
      unfold round_Core_Tick.j5
      refine ifb_i (fun e => by cases e) (fun _ => ?_)
      exact j4 c2 c2 h' r1 o1 Sl.nil Sl.nil hd2 (by rw [if_neg hno]) hp hr hht hc3 hdd (by omega) hs3
    rw [← hp] at hnot ⊢
    refine nn_i (hs3.ld_ 0 rfl ?_)
    refine ifb_i (fun h5 => ?_) (fun h5 => ?_)
    · have h5' : c2.x.step = 2 := by simpa using h5
      refine hs3.ld_ 0 rfl ?_
      rw [e2]
      by_cases h6 : 2 * patF c.x.base c.rd ≤ c2.x.ticks
      · rw [decide_eq_true h6]
        unfold round_Core_Tick.j5
        refine ifb_i (fun _ => ?_) (fun e => by cases e)
        refine none_spec' (fun h8 hx8 => ?_)
        refine votes_spec c2 2 _ (by decide) hc3 (hs3.ext hx8) (fun r o h7 hs7 => ?_)
        obtain ⟨a1, a2, a3⟩ := hc3.votes (by omega) (show (0 : Int) ≤ 2 ∧ (2 : Int) ≤ 2 by decide) dz r o
        have hf := votesC_f c2 2 dz r o
        have hht2 : (votesC c2 2 dz r o).ht = c2.ht := by unfold votesC; split <;> rfl
        rw [hp]
        exact j4 c2 _ h7 r1 o1 r o hd2 (by rw [if_pos ⟨h5', h6⟩]) (hf.1.trans hp) (hf.2.1.trans hr) (hht2.trans hht) a1 (by rw [votesC_dec]; exact hdd) (by omega) hs7
      · rw [decide_eq_false h6]
        exact hnot (fun hx => h6 hx.2)
    · exact hnot (fun hx => by rw [hx.1] at h5; simp at h5)
  have hnot : ¬ ((tickC c n).x.step = 1 ∧ patF c.x.base c.rd ≤ (tickC c n).x.ticks) → round_Core_Tick.j3 (round_Core_Tick.j2 k) (some c.p) (patF c.x.base c.rd) false h2 := by
    intro hno
    unfold round_Core_Tick.j3
    refine ifb_i (fun e => by cases e) (fun _ => ?_)
    exact j2 (tickC c n) h2 Sl.nil Sl.nil (by rw [if_neg hno]) rfl rfl rfl hc2 hd (Nat.le_succ _) hs2
  refine hs2.ld_ 0 rfl ?_
  refine ifb_i (fun h5 => ?_) (fun h5 => ?_)
  · have h5' : (tickC c n).x.step = 1 := by simpa using h5
    refine hs2.ld_ 0 rfl ?_
    by_cases h6 : patF c.x.base c.rd ≤ (tickC c n).x.ticks
    · rw [decide_eq_true h6]
      unfold round_Core_Tick.j3
      refine ifb_i (fun _ => ?_) (fun e => by cases e)
      refine none_spec' (fun h8 hx8 => ?_)
      refine votes_spec (tickC c n) 1 _ (by decide) hc2 (hs2.ext hx8) (fun r o h7 hs7 => ?_)
      obtain ⟨a1, a2, a3⟩ := hc2.votes (show (tickC c n).acts.length + 1 < 2 ^ 19 from by show c.acts.length + 1 < 2 ^ 19; omega) (show (0 : Int) ≤ 1 ∧ (1 : Int) ≤ 2 by decide) dz r o
      have hf := votesC_f (tickC c n) 1 dz r o
      have hht2 : (votesC (tickC c n) 1 dz r o).ht = c.ht := by unfold votesC; split <;> rfl
      exact j2 _ h7 r o (by rw [if_pos ⟨h5', h6⟩]) hf.1 hf.2.1 hht2 a1 (by rw [votesC_dec]; exact hd) a2 hs7
    · rw [decide_eq_false h6]
      exact hnot (fun hx => h6 hx.2)
  · exact hnot (fun hx => by rw [hx.1] at h5; simp at h5)
/-- a plan is known -/
def planC (c : CS) (pl : api_Plan) (qs : List api_Request) (r : Sl) : CS :=
  if mfind c.pl pl.Round = none ∧ idAt c c.ht pl.Round = pl.From then { c with K := c.K ++ [(r, qs)], bl := mins c.bl (digB pl.Block qs) ({ pl.Block with Requests := r }, qs), pl := mins c.pl pl.Round ({ pl with Block := { pl.Block with Requests := r } }, qs) }
  else { c with K := c.K ++ [(r, qs)], bl := mins c.bl (digB pl.Block qs) ({ pl.Block with Requests := r }, qs) }
theorem Cok.blk {c : CS} (hc : Cok c) (b : api_Block) (qs : List api_Request) (d : Dig) (r : Sl) (hq : reqsN qs < 2 ^ 30) : Cok { c with K := c.K ++ [(r, qs)], bl := mins c.bl d ({ b with Requests := r }, qs) } := by
  have hK : ∀ q ∈ c.K, q ∈ c.K ++ [(r, qs)] := fun q hq => by simp [hq]
  refine { hc with lk := hc.lk.mono hK, vl := hc.vl.mono hK, pc := fun e he => (hc.pc e he).mono hK, bc := fun e he => ?_ }
  rcases mins_in he with h | h
  · exact (hc.bc e h).mono hK
  · subst h; exact ⟨hq, .inl (by simp)⟩
theorem Cok.plan {c : CS} (hc : Cok c) (pl : api_Plan) (qs : List api_Request) (r : Sl) (hq : reqsN qs < 2 ^ 30) : Cok (planC c pl qs r) := by
  have h1 := hc.blk pl.Block qs (digB pl.Block qs) r hq
  unfold planC
  split
  · refine { h1 with pc := fun e he => ?_ }
    rcases mins_in he with h | h
    · exact h1.pc e h
    · subst h; exact ⟨hq, .inl (by simp)⟩
  · exact h1
theorem Plan_spec (c : CS) (pl : api_Plan) (qs : List api_Request) {k : Sl → H → Prop} (hT : Tb h0) (hS : 0 ∉ S) (hc : Cok c) (hr : 0 ≤ pl.Round ∧ pl.Round ≤ 1024) (hq : reqsN qs < 2 ^ 30) (hn : c.acts.length < 2 ^ 18) (hs : Sat h0 S h (core c ++ L)) (hv : SVz 42 h pl.Block.Requests qs)
    (hk0 : ∀ h', c.x.decided = true ∨ pl.Height ≠ c.ht → Sat h0 S h' (core c ++ L) → k Sl.nil h') (hk : ∀ r c' h', c.x.decided = false → pl.Height = c.ht → Mvs (planC c pl qs r) c' → Sat h0 S h' (core (clrC c') ++ (hand c' ++ L)) → k c'.x.out h') :
    call (β := Sl) Prog 38 [reg ((some c.p : Pt) : Pt), reg (pl : api_Plan)] k h := by
  refine round_Core_Plan.ok _ _ _ _ ?_
  unfold round_Core_Plan.b
  refine hs.box_ (fun p1 h1 hs1 _ hx1 => ?_)
  have fin : ∀ {h' : H} {a : En}, Sat h0 S h' (a :: (core c ++ L)) → Sat h0 S h' (core c ++ L) := fun hs => hs.drop (List.sublist_cons_self _ _)
  unfold round_Core_Plan.j1
  refine ifb_i (fun e => by cases e) (fun _ => ?_)
  refine nn_i (hs1.ld_ 1 rfl ?_)
  refine ifb_i (fun hd => ?_) (fun hd => ?_)
  · exact ifb_i (fun _ => hk0 h1 (.inl hd) (fin hs1)) (fun e => by cases e)
  refine hs1.ld_ 0 rfl (hs1.ld_ 1 rfl ?_)
  rw [hc.at_]
  refine Height_spec hc.plc (hs1.chk_ 0 rfl rfl ?_)
  refine ifb_i (fun hh => ?_) (fun hh => ?_)
  · exact hk0 h1 (.inr (by simpa using hh)) (fin hs1)
  have hh' : pl.Height = c.ht := by simpa using hh
  refine hs1.ld_ 0 rfl ?_
  refine copied_spec _ qs (hv.ext hx1) (reqs_len hq) (fun r h2 hx2 ho2 hb2 => ?_)
  have hs2 := hs1.add (e := own 182 42 r qs) hx2 ho2 (own_loc _ _ _ _) hb2
  refine hs2.st_ 1 rfl len_api_Plan (fun h3 hs3 _ => ?_)
  generalize hpl2 : ({ pl with Block := { pl.Block with Requests := r } } : api_Plan) = pl2 at hs3
  have hpb : pl2.Block = { pl.Block with Requests := r } := by rw [← hpl2]
  have hpr : pl2.Round = pl.Round := by rw [← hpl2]
  have hph : pl2.Height = pl.Height := by rw [← hpl2]
  have hpf : pl2.From = pl.From := by rw [← hpl2]
  have hs4 : Sat h0 S h3 (own 182 42 r qs :: kE c.K :: cel 77 p1 (enc pl2) :: cel 140 c.p (enc c.x) :: bxE c.q c.vm c.vts :: mpE c.pm (rawP c.pl) :: mpE c.bm (rawB c.bl) :: own 80 135 c.x.out (c.acts.map (·.1)) :: rdo 34 c.x.config.Members c.ms :: kE c.KA :: L) :=
    hs3.sel 10 [0, 8, 1, 2, 3, 4, 5, 6, 7, 9] (by decide) (by decide)
  have hs5 := kE_add hs4
  have hs6 : Sat h0 S h3 (core { c with K := c.K ++ [(r, qs)] } ++ (cel 77 p1 (enc pl2) :: L)) := hs5.sel 9 [2, 3, 4, 5, 6, 7, 0, 8, 1] (by decide) (by decide)
  clear hs1 hs2 hs3 hs4 hs5
  refine nn_i (hs6.ld_ 0 rfl (hs6.ld_ 8 rfl (hs6.ld_ 8 rfl ?_)))
  rw [hpb]
  have hcv : SVz 42 h3 ({ pl.Block with Requests := r } : api_Block).Requests qs := by
    have hK : (kE (c.K ++ [(r, qs)])).A h3 := hs6.at_ (i := 6) rfl
    exact SV.z (hK (r, qs) (by simp))
  refine BDig_spec _ qs (hT.fr hs6.fr hS) hcv (by omega) (fun h4 hx4 => ?_)
  have hs7 := hs6.ext hx4
  have ed : digB ({ pl.Block with Requests := r } : api_Block) qs = digB pl.Block qs := rfl
  rw [ed]
  refine hs7.chk_ 0 rfl rfl (hs7.chk_ 8 rfl hpb ?_)
  rw [hc.hb]
  refine hs7.mput_ 3 rfl (fun h5 hs8 => ?_)
  have hs9 : Sat h0 S h5 (core { c with K := c.K ++ [(r, qs)], bl := mins c.bl (digB pl.Block qs) ({ pl.Block with Requests := r }, qs) } ++ (cel 77 p1 (enc pl2) :: L)) := by
    have e := mins_rawB c.bl (digB pl.Block qs) ({ pl.Block with Requests := r }, qs)
    unfold core
    rw [← e]
    exact hs8
  have hc2 := hc.blk pl.Block qs (digB pl.Block qs) r hq
  generalize hcc : ({ c with K := c.K ++ [(r, qs)], bl := mins c.bl (digB pl.Block qs) ({ pl.Block with Requests := r }, qs) } : CS) = c2 at hs9 hc2
  have hf : c2.p = c.p ∧ c2.x = c.x ∧ c2.pl = c.pl ∧ c2.ht = c.ht ∧ c2.acts = c.acts ∧ c2.pm = c.pm ∧ (∀ a b, idAt c2 a b = idAt c a b) := by rw [← hcc]; exact ⟨rfl, rfl, rfl, rfl, rfl, rfl, fun _ _ => rfl⟩
  obtain ⟨f1, f2, f3, f4, f5, f6, f7⟩ := hf
  obtain ⟨pv, pk, hlp, hps, hpn⟩ := lookP c pl.Round
  have hlp2 : mlook api_Plan.zero (rawP c2.pl) pl.Round = ⟨pv, pk⟩ := by rw [f3]; exact hlp
  rw [← f1]
  refine hs9.ld_ 0 rfl (hs9.ld_ 8 rfl ?_)
  rw [hc2.hp, hpr]
  refine hs9.mgetE 2 rfl hlp2 ?_
  refine hs9.box_ (fun t5 h6 hs10 _ _ => ?_)
  refine hs10.chk_ 1 rfl hc2.hp (hs10.chk_ 9 rfl hpr (hs10.mchk_ 3 rfl hlp2 ?_))
  refine hs10.st_ 0 rfl len_api_Plan (fun h7 hs11 _ => ?_)
  have hs12 : Sat h0 S h7 (core c2 ++ (cel 77 p1 (enc pl2) :: cel 77 t5 (enc pv) :: L)) := hs11.sel 10 [1, 2, 3, 4, 5, 6, 7, 8, 9, 0] (by decide) (by decide)
  clear hs7 hs8 hs9 hs10 hs11
  have fin2 : ∀ {h' : H} {c' : CS} {a b : En}, Sat h0 S h' (core c' ++ (a :: b :: L)) → Sat h0 S h' (core c' ++ L) := fun hs => by
    have := hs.sel 10 [0, 1, 2, 3, 4, 5, 6, 7] (by decide) (by decide)
    exact this
  -- the end
  have hend : ∀ h', Sat h0 S h' (core (planC c pl qs r) ++ L) → round_Core_Plan.j2 k (some c2.p) h' := by
    intro h' hs'
    unfold round_Core_Plan.j2
    have hcp := hc.plan pl qs r hq
    have e : (planC c pl qs r).p = c2.p ∧ (planC c pl qs r).x = c.x ∧ (planC c pl qs r).acts = c.acts := by rw [f1]; unfold planC; split <;> exact ⟨rfl, rfl, rfl⟩
    rw [← e.1]
    have := mu_ub hcp
    refine acts_spec _ hT hS hcp (by rw [e.2.1]; exact hd) (by rw [e.2.2]; omega) hs' (fun c' h3 hm3 hs3 => ?_)
    exact hk r c' h3 hd hh' hm3 hs3
  have hno : ∀ h', ¬ (mfind c.pl pl.Round = none ∧ idAt c c.ht pl.Round = pl.From) → Sat h0 S h' (core c2 ++ (cel 77 p1 (enc pl2) :: cel 77 t5 (enc pv) :: L)) → round_Core_Plan.j3 (round_Core_Plan.j2 k) (some c2.p) p1 false h' := by
    intro h' hx hs'
    unfold round_Core_Plan.j3
    refine ifb_i (fun e => by cases e) (fun _ => ?_)
    refine hend h' ?_
    unfold planC
    rw [if_neg hx, hcc]
    exact fin2 hs'
  refine ifb_i (fun h8 => ?_) (fun h8 => ?_)
  · have hnone : mfind c.pl pl.Round = none := hpn (by simpa using h8)
    refine hs12.ld_ 8 rfl (hs12.ld_ 8 rfl (hs12.ld_ 8 rfl ?_))
    refine At_spec _ _ (hs12.chk_ 8 rfl rfl ?_)
    rw [hpr, hph, hh', hpf]
    refine leader_spec c2 (a := c.ht) (b := pl.Round) ⟨hc.plc.1, hr⟩ hc2 hs12 (fun h9 hs13 => ?_)
    refine hs13.chk_ 8 rfl hpf ?_
    rw [f7]
    by_cases hl : idAt c c.ht pl.Round = pl.From
    · rw [show (idAt c c.ht pl.Round == pl.From) = true by simpa using hl]
      unfold round_Core_Plan.j3
      refine ifb_i (fun _ => ?_) (fun e => by cases e)
      refine nn_i (hs13.ld_ 0 rfl (hs13.ld_ 8 rfl (hs13.ld_ 8 rfl ?_)))
      rw [hc2.hp, hpr]
      refine hs13.mput_ 2 rfl (fun h10 hs14 => ?_)
      refine hend h10 ?_
      unfold planC
      rw [if_pos ⟨hnone, hl⟩]
      have e := mins_rawP c2.pl pl.Round (pl2, qs)
      have e4 : Sat h0 S h10 (core { c2 with pl := mins c2.pl pl.Round (pl2, qs) } ++ (cel 77 p1 (enc pl2) :: cel 77 t5 (enc pv) :: L)) := by
        unfold core
        rw [← e]
        exact hs14
      have e5 := fin2 e4
      rw [f3, ← hcc, ← hpl2] at e5
      exact e5
    · rw [show (idAt c c.ht pl.Round == pl.From) = false by simpa using hl]
      exact hno h9 (fun hx => hl hx.2) hs13
  · exact hno h7 (fun hx => by
      cases hpk : pk with
      | false => rw [hpk] at h8; simp at h8
      | true => obtain ⟨qs', hm⟩ := hps hpk; rw [hx.1] at hm; cases hm) hs12
end
end Go.Proofs.YtimmoekliphobaaDoor
namespace Go.Proofs.YtimmoekliphobaaDoor
open Go Go.Sh
open Go.Sh.Ty (reg)
set_option linter.unusedVariables false
set_option maxRecDepth 100000

theorem quo_pos (n : Nat) : 1 ≤ quoN n := by unfold quoN; omega
theorem win_cnt {c : CS} {d : Dig} {r : Int} (h : Win c d r true) : quoN c.ms.length ≤ cntF c.vts 2 ⟨r, d⟩ := by
  obtain ⟨cs, hC, hW⟩ := h
  rcases hW with ⟨h1, _⟩ | ⟨_, n, hm, hq, _⟩
  · cases h1
  · have h2 := mfind_of_mem hC.nodup hm
    rw [hC.cnt] at h2
    split at h2
    · cases h2
    · have := Option.some.inj h2
      omega
theorem cnt_pos {l : Vts} {k : Int} {ch : vote_choice} (h : 1 ≤ cntF l k ch) : ∃ q ∈ l, q.1.kind = k ∧ q.2.Digest ≠ dz ∧ chq q = ch := by
  unfold cntF at h
  obtain ⟨q, hq⟩ := List.exists_mem_of_length_pos (Nat.lt_of_lt_of_le Nat.zero_lt_one h)
  rw [List.mem_filter] at hq
  simp only [Bool.and_eq_true, decide_eq_true_eq, Bool.not_eq_true', decide_eq_false_iff_not] at hq
  exact ⟨q, hq.1, hq.2.1.1, hq.2.1.2, hq.2.2⟩
/-- whatever a quorum voted second for, something is decided -/
theorem win_tt {c : CS} {d0 : Dig} {r0 : Int} (h0 : quoN c.ms.length ≤ cntF c.vts 2 ⟨r0, d0⟩) {d : Dig} {r : Int} {is : Bool} (h : Win c d r is) : is = true := by
  obtain ⟨cs, hC, hW⟩ := h
  rcases hW with ⟨_, _, _, hno⟩ | ⟨h1, _⟩
  · exfalso
    have h1 := hC.cnt ⟨r0, d0⟩
    have := quo_pos c.ms.length
    rw [if_neg (by omega)] at h1
    exact hno _ (mfind_mem h1) (by show (quoN c.ms.length : Int) ≤ _; omega)
  · exact h1
theorem later_no {c : CS} {ks : List (Int × Int)} (hL : LastOf ks c.vts) (hrd : 0 ≤ c.rd) (h : ∀ q ∈ c.vts, q.1.round ≤ c.rd) (hs : c.x.step ≠ 0) : laterV c ks < 0 := by
  unfold laterV
  have hn : nowL c = c.rd := by unfold nowL; rw [if_neg (by simpa using hs)]
  rw [hn]
  split
  · rename_i hlt
    rcases reached_le hL (n := (((c.ms.length - 1) / 3 + 1 : Nat) : Int)) (by omega) with h1 | ⟨q, hq, h1⟩
    · rw [h1] at hlt; omega
    · rw [← h1] at hlt; have := h q hq; omega
  · omega
theorem later_nil {c : CS} {ks : List (Int × Int)} (hL : LastOf ks c.vts) (h : c.vts = []) (hrd : 0 ≤ c.rd) : laterV c ks < 0 := by
  unfold laterV
  rcases reached_le hL (n := (((c.ms.length - 1) / 3 + 1 : Nat) : Int)) (by omega) with h1 | ⟨q, hq, h1⟩
  · rw [h1]
    split
    · rename_i hlt; unfold nowL at hlt; split at hlt <;> omega
    · omega
  · rw [h] at hq; cases hq
theorem first_nil {c : CS} (h : c.vts = []) (rd : Int) (d : Dig) : firstB c rd d = false := by
  unfold firstB
  have : forF c.vts 1 rd d 63 = [] := by
    rw [h]; unfold forF pick1
    rw [List.flatMap_eq_nil_iff]
    intro i _; rfl
  rw [this]
  have := quo_pos c.ms.length
  exact decide_eq_false (by simp; omega)
theorem win_nil {c : CS} (h : c.vts = []) {d : Dig} {r : Int} (hw : Win c d r true) : False := by
  have h1 := win_cnt hw
  have h2 := quo_pos c.ms.length
  obtain ⟨q, hq, _⟩ := cnt_pos (Nat.le_trans h2 h1)
  rw [h] at hq; cases hq
theorem enterC_eq (c : CS) (rd : Int) (r o : Sl) : ∃ a KA out, enterC c rd r o = { rdC c rd with acts := a, KA := KA, x := { (rdC c rd).x with out := out } } ∧
    a = c.acts ++ (if isMem c && (idAt c c.ht rd == c.x.me) then [({ api_Act.zero with Act := 1, Round := rd, Valid := c.x.valid.round, Block := { c.x.valid.block with Requests := r } }, c.vq)] else []) := by
  unfold enterC
  by_cases h : (isMem c && (idAt c c.ht rd == c.x.me)) = true
  · rw [if_pos h, if_pos h]; exact ⟨_, _, _, rfl, rfl⟩
  · rw [if_neg h, if_neg h, List.append_nil]; exact ⟨c.acts, c.KA, c.x.out, rfl, rfl⟩
theorem votesC_eq (c : CS) (kd : Int) (d : Dig) (r o : Sl) : ∃ a KA out, votesC c kd d r o = { stpC c kd with acts := a, KA := KA, x := { (stpC c kd).x with out := out } } ∧
    a = c.acts ++ (if isMem c then [({ api_Act.zero with Act := 2, Round := c.rd, Kind := kd, Digest := d, Block := { api_Block.zero with Requests := r } }, [])] else []) := by
  unfold votesC
  by_cases h : isMem c = true
  · rw [if_pos h, if_pos h]; exact ⟨_, _, _, rfl, rfl⟩
  · rw [if_neg h, if_neg h, List.append_nil]; exact ⟨c.acts, c.KA, c.x.out, rfl, rfl⟩
theorem planF_free {c : CS} {pl : api_Plan} {qs : List api_Request} (h1 : pl.Valid < 0) (h2 : c.x.locked.round < 0) : planF c pl qs = ⟨digB pl.Block qs, true⟩ := by
  unfold planF
  rw [if_neg (by omega), decide_eq_true h2]; rfl
/-- where nothing was heard nothing is done -/
theorem mv_quiet {c c' : CS} {b : Bool} (hm : MV c c' b) (hrd : 0 ≤ c.rd) (hv : c.vts = []) (hp : c.pl = []) : c' = c ∧ b = false := by
  have hnf : ∀ rd e, mfind c.pl rd = some e → False := by intro rd e he; rw [hp] at he; cases he
  cases hm with
  | dec d r bb qs rr o hw hf => exact (win_nil hv hw).elim
  | next ks rr o h1 h2 h3 => have := later_nil h2 hv hrd; omega
  | start rr o h1 h2 h3 h4 =>
    rcases h4 with h4 | ⟨q, hq, _⟩
    · exact absurd hp h4
    · rw [hv] at hq; cases hq
  | wait p qs _ _ _ h _ => exact (hnf _ _ h).elim
  | first p qs rr o h1 h2 h3 h4 h5 => exact (hnf _ _ h4).elim
  | lock p qs rr o h1 h2 h3 h4 h5 => exact (hnf _ _ h4).elim
  | nil rr o h1 h2 h3 h4 h5 => rw [first_nil hv] at h5; cases h5
  | val p qs h1 h2 h3 h4 h5 h6 => exact (hnf _ _ h4).elim
  | stop _ _ _ => exact ⟨rfl, rfl⟩
theorem mvs_quiet {c c' : CS} (hm : Mvs c c') (hrd : 0 ≤ c.rd) (hv : c.vts = []) (hp : c.pl = []) : c' = c := by
  cases hm with
  | last h => exact (mv_quiet h hrd hv hp).1
  | more h _ => have := (mv_quiet h hrd hv hp).2; cases this
theorem mv_novote {c c' : CS} {b : Bool} (hm : MV c c' b) (hrd : 0 ≤ c.rd) (hv : c.vts = []) (hs : 2 ≤ c.x.step) : c' = c ∧ b = false := by
  cases hm with
  | dec d r bb qs rr o hw hf => exact (win_nil hv hw).elim
  | next ks rr o h1 h2 h3 => have := later_nil h2 hv hrd; omega
  | start rr o h1 h2 h3 h4 => omega
  | wait p qs _ _ h _ _ => omega
  | first p qs rr o h1 h2 h3 h4 h5 => omega
  | lock p qs rr o h1 h2 h3 h4 h5 => rw [first_nil hv] at h5; cases h5
  | nil rr o h1 h2 h3 h4 h5 => rw [first_nil hv] at h5; cases h5
  | val p qs h1 h2 h3 h4 h5 h6 => rw [first_nil hv] at h6; cases h6
  | stop _ _ _ => exact ⟨rfl, rfl⟩
theorem mvs_novote {c c' : CS} (hm : Mvs c c') (hrd : 0 ≤ c.rd) (hv : c.vts = []) (hs : 2 ≤ c.x.step) : c' = c := by
  cases hm with
  | last h => exact (mv_novote h hrd hv hs).1
  | more h _ => have := (mv_novote h hrd hv hs).2; cases this
/-- a plan of the round, heard ahead of all votes -/
theorem mvs_plan {c c' : CS} (hm : Mvs c c') (hrd : 0 ≤ c.rd) (hv : c.vts = []) (hs : c.x.step = 1) {p : api_Plan} {qs : List api_Request} (hp : mfind c.pl c.rd = some (p, qs)) (hf : (planF c p qs).b = true) :
    ∃ r o, c' = votesC c 1 (planF c p qs).a r o := by
  have step : ∀ {c1 : CS} {b : Bool}, MV c c1 b → b = true ∧ ∃ r o, c1 = votesC c 1 (planF c p qs).a r o := by
    intro c1 b hm
    cases hm with
    | dec d r bb qs rr o hw hf => exact (win_nil hv hw).elim
    | next ks rr o h1 h2 h3 => have := later_nil h2 hv hrd; omega
    | start rr o h1 h2 h3 h4 => omega
    | wait p' qs' _ _ h h2 h3 =>
      rw [hp] at h2
      obtain ⟨rfl, rfl⟩ := Prod.mk.inj (Option.some.inj h2)
      rw [hf] at h3; cases h3
    | first p' qs' rr o h1 h2 h3 h4 h5 =>
      rw [hp] at h4
      obtain ⟨rfl, rfl⟩ := Prod.mk.inj (Option.some.inj h4)
      exact ⟨rfl, rr, o, rfl⟩
    | lock p qs rr o h1 h2 h3 h4 h5 => omega
    | nil rr o h1 h2 h3 h4 h5 => omega
    | val p qs h1 h2 h3 h4 h5 h6 => omega
    | stop _ _ h => have := h.2.1 hs; rw [hp] at this; cases this
  cases hm with
  | last h => have := (step h).1; cases this
  | more h h2 =>
    obtain ⟨_, r, o, rfl⟩ := step h
    refine ⟨r, o, ?_⟩
    obtain ⟨a, KA, out, he, _⟩ := votesC_eq c 1 (planF c p qs).a r o
    exact mvs_novote h2 (by rw [he]; exact hrd) (by rw [he]; exact hv) (by rw [he]; show (2 : Int) ≤ 1 + 1; decide)
theorem mem_forF {l : Vts} {kind rd : Int} {d : Dig} {i : Nat} {v : api_Vote} (hi : i < 63) (hm : mfind l ⟨kind, rd, ((i + 1 : Nat) : Int)⟩ = some v) (hd : v.Digest = d) : v ∈ forF l kind rd d 63 := by
  unfold forF
  rw [List.mem_flatMap]
  refine ⟨i, by simpa using hi, ?_⟩
  unfold pick1
  rw [hm]; simp [hd]
theorem no_win {c : CS} (h : ∀ q ∈ c.vts, q.1.kind = 1) {d : Dig} {r : Int} (hw : Win c d r true) : False := by
  obtain ⟨q, hq, hk, _⟩ := cnt_pos (Nat.le_trans (quo_pos _) (win_cnt hw))
  rw [h q hq] at hk; cases hk
/-- a quorum's first votes for the plan of the round -/
theorem mvs_lock {c c' : CS} (hm : Mvs c c') (hrd : 0 ≤ c.rd) (hk : ∀ q ∈ c.vts, q.1.kind = 1) (hr : ∀ q ∈ c.vts, q.1.round ≤ c.rd) (hs : c.x.step = 2) {p : api_Plan} {qs : List api_Request} (hp : mfind c.pl c.rd = some (p, qs)) (hf : firstB c c.rd (digB p.Block qs) = true) :
    ∃ r o, c' = votesC (lockC c p.Block qs) 2 (digB p.Block qs) r o := by
  have step : ∀ {c1 : CS} {b : Bool}, MV c c1 b → b = true ∧ ∃ r o, c1 = votesC (lockC c p.Block qs) 2 (digB p.Block qs) r o := by
    intro c1 b hm
    cases hm with
    | dec d r bb qs rr o hw hf => exact (no_win hk hw).elim
    | next ks rr o h1 h2 h3 => have := later_no h2 hrd hr (by omega); omega
    | start rr o h1 h2 h3 h4 => omega
    | wait p' qs' _ _ h h2 h3 => omega
    | first p' qs' rr o h1 h2 h3 h4 h5 => omega
    | lock p' qs' rr o h1 h2 h3 h4 h5 =>
      rw [hp] at h4
      obtain ⟨rfl, rfl⟩ := Prod.mk.inj (Option.some.inj h4)
      exact ⟨rfl, rr, o, rfl⟩
    | nil rr o h1 h2 h3 h4 h5 => have := h4 _ _ hp; rw [hf] at this; cases this
    | val p qs h1 h2 h3 h4 h5 h6 => omega
    | stop _ _ h => have := (h.2.2.1 hs).1 _ _ hp; rw [hf] at this; cases this
  cases hm with
  | last h => have := (step h).1; cases this
  | more h h2 =>
    obtain ⟨_, r, o, rfl⟩ := step h
    refine ⟨r, o, ?_⟩
    obtain ⟨a, KA, out, he, _⟩ := votesC_eq (lockC c p.Block qs) 2 (digB p.Block qs) r o
    rw [he] at h2 ⊢
    have stop : ∀ {c1 : CS} {b : Bool}, MV { stpC (lockC c p.Block qs) 2 with acts := a, KA := KA, x := { (stpC (lockC c p.Block qs) 2).x with out := out } } c1 b → b = false ∧ c1 = { stpC (lockC c p.Block qs) 2 with acts := a, KA := KA, x := { (stpC (lockC c p.Block qs) 2).x with out := out } } := by
      intro c1 b hm
      have e3 : ({ stpC (lockC c p.Block qs) 2 with acts := a, KA := KA, x := { (stpC (lockC c p.Block qs) 2).x with out := out } } : CS).x.step = 3 := rfl
      cases hm with
      | dec d r bb qs rr o hw hf => exact (no_win (c := { stpC (lockC c p.Block _) 2 with acts := a, KA := KA, x := { (stpC (lockC c p.Block _) 2).x with out := out } }) hk hw).elim
      | next ks rr o h1 h2 h3 => have := later_no h2 hrd hr (by rw [e3]; decide); omega
      | start rr o h1 h2 h3 h4 => rw [e3] at h3; omega
      | wait p' qs' _ _ h h2 h3 => rw [e3] at h; omega
      | first p' qs' rr o h1 h2 h3 h4 h5 => rw [e3] at h3; omega
      | lock p' qs' rr o h1 h2 h3 h4 h5 => rw [e3] at h3; omega
      | nil rr o h1 h2 h3 h4 h5 => rw [e3] at h3; omega
      | val p qs h1 h2 h3 h4 h5 h6 => exact absurd h5 (Int.lt_irrefl _)
      | stop _ _ h => exact ⟨rfl, rfl⟩
    cases h2 with
    | last h => exact (stop h).2
    | more h _ => have := (stop h).1; cases this
/-- a quorum's second votes for a block that is known -/
theorem mvs_dec {c c' : CS} (hm : Mvs c c') {D : Dig} {r0 : Int} (hq : quoN c.ms.length ≤ cntF c.vts 2 ⟨r0, D⟩) (hk : ∀ q ∈ c.vts, q.1.kind = 2 → q.2.Digest = D) {b : api_Block} {qs : List api_Request} (hb : mfind c.bl D = some (b, qs)) :
    ∃ r rr o, c' = sayC (decC c) { api_Act.zero with Act := 3, Round := r, Digest := D, Block := b } qs rr o := by
  have hd : ∀ {d : Dig} {r : Int}, Win c d r true → d = D := by
    intro d r hw
    obtain ⟨q, hq, h1, _, h2⟩ := cnt_pos (Nat.le_trans (quo_pos _) (win_cnt hw))
    have h3 := hk q hq h1
    have h4 := congrArg vote_choice.digest h2
    exact h4.symm.trans h3
  have hnw : ¬ NW c := by
    rintro ⟨d, r, is, hw, hn⟩
    have hi := win_tt hq hw
    subst hi
    have := hd hw
    subst this
    rw [hn rfl] at hb; cases hb
  have step : ∀ {c1 : CS} {bb : Bool}, MV c c1 bb → bb = false ∧ ∃ r rr o, c1 = sayC (decC c) { api_Act.zero with Act := 3, Round := r, Digest := D, Block := b } qs rr o := by
    intro c1 bb hm
    cases hm with
    | dec d r b' qs' rr o hw hf =>
      have := hd hw
      subst this
      rw [hb] at hf
      obtain ⟨rfl, rfl⟩ := Prod.mk.inj (Option.some.inj hf)
      exact ⟨rfl, r, rr, o, rfl⟩
    | next ks rr o h1 h2 h3 => exact absurd h1 hnw
    | start rr o h1 h2 h3 h4 => exact absurd h1 hnw
    | wait p' qs' h1 _ h h2 h3 => exact absurd h1 hnw
    | first p' qs' rr o h1 h2 h3 h4 h5 => exact absurd h1 hnw
    | lock p' qs' rr o h1 h2 h3 h4 h5 => exact absurd h1 hnw
    | nil rr o h1 h2 h3 h4 h5 => exact absurd h1 hnw
    | val p qs h1 h2 h3 h4 h5 h6 => exact absurd h1 hnw
    | stop h1 _ h => exact absurd h1 hnw
  cases hm with
  | last h => exact (step h).2
  | more h _ => have := (step h).1; cases this
end Go.Proofs.YtimmoekliphobaaDoor
namespace Go.Proofs.YtimmoekliphobaaDoor
open Go Go.Sh
open Go.Sh.Ty (reg)
set_option linter.unusedVariables false
set_option maxRecDepth 100000
set_option maxHeartbeats 4000000
theorem law19_game.ok (n : Int) (height : Int) (k : Pt → H → Prop) (h : H) (hh : law19_game.b n height k h) : CallsH Prog 26 [reg n, reg height].toArray h fun v h' => ∃ r : Pt, v = reg r ∧ k r h' := by
  unfold law19_game.b at hh
  refine CallsH.of 77 Tryd.func26 rfl Tryd.ntmps26 rfl (fun w0 => ?_)
  refine CW.seq ?_
  refine CW.region ?_
  refine .val (v_assign (v := reg ((none : Pt) : Pt)) rfl) rfl ?_
  refine .nil ?_
  refine QN.then_ ?_
  refine CW.seq ?_
  refine CW.region ?_
  refine .val (v_move (v := reg (height : Int)) rfl) rfl ?_
  refine .val (v_buildT ({ law19_Game.zero with height := height } : law19_Game) zo_61 pl_61 rfl (fill_step rfl rfl (len_i _) (len_law19_Game _) rfl (set_61_height _ _) (rfl)) rfl) rfl ?_
  refine box_elim hh (fun t10 ht10 hh => ?_)
  refine .e (e_boxP ht10 rfl rfl rfl ?_)
  refine .val (v_assign (v := .pointer (some t10)) rfl) rfl ?_
  refine .nil ?_
  refine QN.then_ ?_
  refine CW.join (fun ρ h => ∃ (ρ' : Env), ρ = setl ρ' [(0, reg (n : Int)), (1, reg (height : Int)), (5, .pointer (some t10))] ∧ (law19_game.j1 k) n height t10 h) ?_ ?_
  · refine CW.seq ?_
    refine CW.region ?_
    refine .val (v_assign (v := reg ((1 : Int) : Int)) rfl) rfl ?_
    refine .nil ?_
    refine QN.then_ ?_
    refine CW.block ?_
    unfold law19_game.l1 at hh
    refine CW.loop (fun (σ0 : Int) ρ => match σ0 with | i => ∃ ρ' : Env, ρ = setl ρ' [(0, reg (n : Int)), (1, reg (height : Int)), (5, .pointer (some t10)), (6, reg (i : Int))]) hh ⟨_, setl_eq ⟨rfl, ⟨rfl, ⟨rfl, ⟨rfl, trivial⟩⟩⟩⟩⟩ ?_
    clear hh
    rintro s1 i ρ h ⟨ρ', rfl⟩ hh
    refine CW.seq ?_
    refine CW.seq ?_
    refine CW.region ?_
    refine .val (v_move (v := reg (i : Int)) rfl) rfl ?_
    refine .val (v_move (v := reg (n : Int)) rfl) rfl ?_
    refine .val (v_ileq rfl rfl) rfl ?_
    refine .nil ?_
    refine QN.then_ ?_
    refine CW.cond (decide (i ≤ n)) rfl (fun hb => ?_) (fun hb => ?_)
    · have hh := hh.1 hb
      refine CW.skip ?_
      refine QN.then_ ?_
      refine CW.seq ?_
      refine CW.block ?_
      refine CW.region ?_
      refine .val (v_move (v := .pointer (some t10)) rfl) rfl ?_
      refine .val (v_move (v := .pointer (some t10)) rfl) rfl ?_
      refine .val (v_nilCheck rfl) rfl ?_
      refine .val (v_fieldAddr fl_61_0 rfl) rfl ?_
      refine .val (v_fieldAddr fl_54_1 rfl) rfl ?_
      obtain ⟨t21, ⟨xt21, hxt21, hgt21⟩, hh⟩ := hh
      refine .val (v_ld1 (p := t10) 1 na_52 rfl hxt21 hgt21 get_61_config_Members) rfl ?_
      refine .val (v_move (v := reg (i : Int)) rfl) rfl ?_
      refine .val (v_buildT ({ api_Member.zero with Id := i } : api_Member) zo_110 pl_110 rfl (fill_step rfl rfl (len_i _) (len_api_Member _) rfl (set_110_Id _ _) (rfl)) rfl) rfl ?_
      refine mks_elim hh (fun pt24 t24 hpt24 ht24 hh => ?_)
      refine .e (e_mks [(({ api_Member.zero with Id := i } : api_Member) : api_Member)] hpt24 ht24 zo_110 sl_52 rfl rfl rfl rfl rfl ?_)
      refine .e (e_app sl_52 zo_110 by_110 rfl rfl rfl hh ?_)
      intro h t25 hh
      refine .val (v_nilCheck rfl) rfl ?_
      refine .val (v_fieldAddr fl_61_0 rfl) rfl ?_
      refine .val (v_fieldAddr fl_54_1 rfl) rfl ?_
      obtain ⟨xw, hxw, hwxw, hh⟩ := hh
      refine .e (e_storeN (p := t10) (nv := enc (t25 : Sl)) 1 rfl rfl rfl sz_52 (one_sl _) hxw hwxw (len_law19_Game _) (len_sl _) rfl (set_61_config_Members xw (t25 : Sl)) ?_)
      refine .nil ?_
      refine QN.blockN ?_
      refine QN.then_ ?_
      refine CW.region ?_
      refine .val (v_move (v := reg (i : Int)) rfl) rfl ?_
      refine .val (v_iadd rfl rfl) rfl ?_
      refine .val (v_assign (v := reg ((iadd i (1 : Int)) : Int)) rfl) rfl ?_
      refine .nil ?_
      exact QN.thenJ ⟨(iadd i (1 : Int)), ⟨_, setl_eq ⟨rfl, ⟨rfl, ⟨rfl, ⟨rfl, trivial⟩⟩⟩⟩⟩, hh⟩
    · have hh := hh.2 hb
      refine CW.exit ?_
      refine QN.thenExit ?_
      refine QN.thenExit ?_
      refine QN.blockExit ?_
      exact QN.thenJ ⟨_, setl_eq ⟨rfl, ⟨rfl, ⟨rfl, trivial⟩⟩⟩, hh⟩
  · rintro ρ h ⟨ρ', rfl, hh⟩
    unfold law19_game.j1 at hh
    refine CW.join (fun ρ h => ∃ (ρ' : Env), ρ = setl ρ' [(5, .pointer (some t10))] ∧ (law19_game.j2 k) t10 h) ?_ ?_
    · refine CW.seq ?_
      refine CW.region ?_
      refine .val (v_assign (v := reg ((0 : Int) : Int)) rfl) rfl ?_
      refine .nil ?_
      refine QN.then_ ?_
      refine CW.block ?_
      unfold law19_game.l2 at hh
      refine CW.loop (fun (σ0 : Int) ρ => match σ0 with | i_1 => ∃ ρ' : Env, ρ = setl ρ' [(0, reg (n : Int)), (1, reg (height : Int)), (5, .pointer (some t10)), (7, reg (i_1 : Int))]) hh ⟨_, setl_eq ⟨rfl, ⟨rfl, ⟨rfl, ⟨rfl, trivial⟩⟩⟩⟩⟩ ?_
      clear hh
      rintro s2 i_1 ρ h ⟨ρ', rfl⟩ hh
      refine CW.seq ?_
      refine CW.seq ?_
      refine CW.region ?_
      refine .val (v_move (v := reg (i_1 : Int)) rfl) rfl ?_
      refine .val (v_move (v := reg (n : Int)) rfl) rfl ?_
      refine .val (v_move (v := .pointer (some t10)) rfl) rfl ?_
      refine .val (v_nilCheck rfl) rfl ?_
      refine .val (v_fieldAddr fl_61_0 rfl) rfl ?_
      obtain ⟨t34, ⟨xt34, hxt34, hgt34⟩, hh⟩ := hh
      refine .val (v_ldA (p := t10) 0 ag_54 rfl hxt34 hgt34 get_61_config (fun _ => (len_api_Config _)) (fun _ => rfl)) rfl ?_
      refine .e (e_callP fn_53 rfl rfl hh ?_)
      intro h t35 hh
      refine .val (v_isub rfl rfl) rfl ?_
      refine .val (v_ilss rfl rfl) rfl ?_
      refine .nil ?_
      refine QN.then_ ?_
      refine CW.cond (decide (i_1 < (isub n t35))) rfl (fun hb_1 => ?_) (fun hb_1 => ?_)
      · have hh := hh.1 hb_1
        refine CW.skip ?_
        refine QN.then_ ?_
        refine CW.seq ?_
        refine CW.block ?_
        refine CW.seq ?_
        refine CW.drawN 18 rfl follows_mixed [0, 1, 2, 3, 4, 5, 6, 7, 8, 9, 10, 11, 15, 16] ?_
        refine .p 0 rfl (by kernel_rfl) (NoPanic.then_ (NoPanic.block (NoPanic.then_ (NoPanic.then_ (NoPanic.block (NoPanic.then_ (NoPanic.body))))))) (fun _ => v_move (v := .pointer (some t10)) rfl) ?_
        refine .p 1 rfl (by kernel_rfl) (NoPanic.then_ (NoPanic.block (NoPanic.then_ (NoPanic.then_ (NoPanic.block (NoPanic.then_ (NoPanic.body))))))) (fun _ => v_move (v := .pointer (some t10)) rfl) ?_
        refine .p 2 rfl (by kernel_rfl) (NoPanic.then_ (NoPanic.block (NoPanic.then_ (NoPanic.then_ (NoPanic.block (NoPanic.then_ (NoPanic.body))))))) (fun _ => v_nilCheck rfl) ?_
        refine .p 3 rfl (by kernel_rfl) (NoPanic.then_ (NoPanic.block (NoPanic.then_ (NoPanic.then_ (NoPanic.block (NoPanic.then_ (NoPanic.body))))))) (fun _ => v_fieldAddr fl_61_2 rfl) ?_
        obtain ⟨t44, ⟨xt44, hxt44, hgt44⟩, hh⟩ := hh
        refine .r 4 (fun h' => ∃ x : law19_Game, AtH h' t10 (enc x) ∧ ((fun (x : law19_Game) => x.cores) : law19_Game → Sl) x = t44) rfl (by kernel_rfl) (NoPanic.then_ (NoPanic.block (NoPanic.then_ (NoPanic.then_ (NoPanic.block (NoPanic.then_ (NoPanic.body))))))) ⟨xt44, hxt44, hgt44⟩ (fun h' hS => hS.elim fun _ hS => v_ld1 (p := t10) 3 na_55 rfl hS.1 hS.2 get_61_cores) ?_
        refine .p 5 rfl (by kernel_rfl) (NoPanic.then_ (NoPanic.block (NoPanic.then_ (NoPanic.then_ (NoPanic.block (NoPanic.then_ (NoPanic.body))))))) (fun _ => v_move (v := .pointer (some t10)) rfl) ?_
        refine .p 6 rfl (by kernel_rfl) (NoPanic.then_ (NoPanic.block (NoPanic.then_ (NoPanic.then_ (NoPanic.block (NoPanic.then_ (NoPanic.body))))))) (fun _ => v_nilCheck rfl) ?_
        refine .p 7 rfl (by kernel_rfl) (NoPanic.then_ (NoPanic.block (NoPanic.then_ (NoPanic.then_ (NoPanic.block (NoPanic.then_ (NoPanic.body))))))) (fun _ => v_fieldAddr fl_61_0 rfl) ?_
        obtain ⟨t48, ⟨xt48, hxt48, hgt48⟩, hh⟩ := hh
        refine .r 8 (fun h' => ∃ x : law19_Game, AtH h' t10 (enc x) ∧ ((fun (x : law19_Game) => x.config) : law19_Game → api_Config) x = t48) rfl (by kernel_rfl) (NoPanic.then_ (NoPanic.block (NoPanic.then_ (NoPanic.then_ (NoPanic.block (NoPanic.then_ (NoPanic.body))))))) ⟨xt48, hxt48, hgt48⟩ (fun h' hS => hS.elim fun _ hS => v_ldA (p := t10) 0 ag_54 rfl hS.1 hS.2 get_61_config (fun _ => (len_api_Config _)) (fun _ => rfl)) ?_
        refine .p 9 rfl (by kernel_rfl) (NoPanic.then_ (NoPanic.block (NoPanic.then_ (NoPanic.then_ (NoPanic.block (NoPanic.then_ (NoPanic.body))))))) (fun _ => v_move (v := reg (i_1 : Int)) rfl) ?_
        refine .p 10 rfl (by kernel_rfl) (NoPanic.then_ (NoPanic.block (NoPanic.then_ (NoPanic.then_ (NoPanic.block (NoPanic.then_ (NoPanic.body))))))) (fun _ => v_iadd rfl rfl) ?_
        refine .p 11 rfl (by kernel_rfl) (NoPanic.then_ (NoPanic.block (NoPanic.then_ (NoPanic.then_ (NoPanic.block (NoPanic.then_ (NoPanic.body))))))) (fun _ => v_move (v := reg (height : Int)) rfl) ?_
        refine .w 12 (by kernel_rfl) rfl (by kernel_rfl) (.e (e_callP fn_28 rfl rfl hh ?_))
        intro h t52 hh
        obtain ⟨hc, hh⟩ := hh
        refine ⟨⟨⟨trivial, .inr hc⟩, .inl (by kernel_rfl)⟩, ?_⟩
        refine mks_elim hh (fun pt53 t53 hpt53 ht53 hh => ?_)
        refine .w 13 (by kernel_rfl) rfl (by kernel_rfl) (.e (e_mks [(t52 : Pt)] hpt53 ht53 zo_62 sl_55 rfl rfl rfl rfl rfl ?_))
        obtain ⟨hc_1, hh⟩ := hh
        refine ⟨⟨⟨trivial, .inr hc_1⟩, .inl (by kernel_rfl)⟩, ?_⟩
        refine .w 14 (by kernel_rfl) rfl (by kernel_rfl) (.e (e_app sl_55 zo_62 by_62 rfl rfl rfl hh ?_))
        intro h t54 hh
        refine ⟨⟨⟨trivial, .inl (by kernel_rfl)⟩, .inl (by kernel_rfl)⟩, ?_⟩
        refine .p 15 rfl (by kernel_rfl) (NoPanic.then_ (NoPanic.block (NoPanic.then_ (NoPanic.then_ (NoPanic.block (NoPanic.then_ (NoPanic.body))))))) (fun _ => v_nilCheck rfl) ?_
        refine .p 16 rfl (by kernel_rfl) (NoPanic.then_ (NoPanic.block (NoPanic.then_ (NoPanic.then_ (NoPanic.block (NoPanic.then_ (NoPanic.body))))))) (fun _ => v_fieldAddr fl_61_2 rfl) ?_
        obtain ⟨xw_1, hxw_1, hwxw_1, hh⟩ := hh
        refine .w 17 (by kernel_rfl) rfl (by kernel_rfl) (.e (e_storeN (p := t10) (nv := enc (t54 : Sl)) 3 rfl rfl rfl sz_55 (one_sl _) hxw_1 hwxw_1 (len_law19_Game _) (len_sl _) rfl (set_61_cores xw_1 (t54 : Sl)) ?_))
        refine ⟨⟨⟨trivial, .inl (by kernel_rfl)⟩, .inl (by kernel_rfl)⟩, ?_⟩
        refine .done (by kernel_rfl) ?_
        refine QN.then_ ?_
        refine CW.seq ?_
        refine CW.region ?_
        refine .val (v_move (v := .pointer (some t10)) rfl) rfl ?_
        refine .val (v_move (v := .pointer (some t10)) rfl) rfl ?_
        refine .val (v_nilCheck rfl) rfl ?_
        refine .val (v_fieldAddr fl_61_6 rfl) rfl ?_
        obtain ⟨t61, ⟨xt61, hxt61, hgt61⟩, hh⟩ := hh
        refine .val (v_ld1 (p := t10) 7 na_58 rfl hxt61 hgt61 get_61_own) rfl ?_
        refine mks_elim hh (fun pt62 t62 hpt62 ht62 hh => ?_)
        refine .e (e_mks [(Sl.nil : Sl)] hpt62 ht62 zo_22 sl_58 rfl rfl rfl rfl rfl ?_)
        refine .e (e_app sl_58 zo_22 by_22 rfl rfl rfl hh ?_)
        intro h t63 hh
        refine .val (v_nilCheck rfl) rfl ?_
        refine .val (v_fieldAddr fl_61_6 rfl) rfl ?_
        obtain ⟨xw_2, hxw_2, hwxw_2, hh⟩ := hh
        refine .e (e_storeN (p := t10) (nv := enc (t63 : Sl)) 7 rfl rfl rfl sz_58 (one_sl _) hxw_2 hwxw_2 (len_law19_Game _) (len_sl _) rfl (set_61_own xw_2 (t63 : Sl)) ?_)
        refine .nil ?_
        refine QN.then_ ?_
        refine CW.region ?_
        refine .val (v_move (v := .pointer (some t10)) rfl) rfl ?_
        refine .val (v_move (v := .pointer (some t10)) rfl) rfl ?_
        refine .val (v_nilCheck rfl) rfl ?_
        refine .val (v_fieldAddr fl_61_7 rfl) rfl ?_
        obtain ⟨t70, ⟨xt70, hxt70, hgt70⟩, hh⟩ := hh
        refine .val (v_ld1 (p := t10) 8 na_31 rfl hxt70 hgt70 get_61_decided) rfl ?_
        refine .val (v_buildAT (arrOf [0, 0, 0, 0, 0, 0, 0, 0, 0, 0, 0, 0, 0, 0, 0, 0, 0, 0, 0, 0, 0, 0, 0, 0, 0, 0, 0, 0, 0, 0, 0, 0] : Arr 32 UInt8) zo_24 ar_24 rfl rfl rfl) rfl ?_
        refine mks_elim hh (fun pt72 t72 hpt72 ht72 hh => ?_)
        refine .e (e_mks [((arrOf [0, 0, 0, 0, 0, 0, 0, 0, 0, 0, 0, 0, 0, 0, 0, 0, 0, 0, 0, 0, 0, 0, 0, 0, 0, 0, 0, 0, 0, 0, 0, 0] : Arr 32 UInt8) : Arr 32 UInt8)] hpt72 ht72 zo_24 sl_31 rfl rfl rfl rfl rfl ?_)
        refine .e (e_app sl_31 zo_24 by_24 rfl rfl rfl hh ?_)
        intro h t73 hh
        refine .val (v_nilCheck rfl) rfl ?_
        refine .val (v_fieldAddr fl_61_7 rfl) rfl ?_
        obtain ⟨xw_3, hxw_3, hwxw_3, hh⟩ := hh
        refine .e (e_storeN (p := t10) (nv := enc (t73 : Sl)) 8 rfl rfl rfl sz_31 (one_sl _) hxw_3 hwxw_3 (len_law19_Game _) (len_sl _) rfl (set_61_decided xw_3 (t73 : Sl)) ?_)
        refine .nil ?_
        refine QN.blockN ?_
        refine QN.then_ ?_
        refine CW.region ?_
        refine .val (v_move (v := reg (i_1 : Int)) rfl) rfl ?_
        refine .val (v_iadd rfl rfl) rfl ?_
        refine .val (v_assign (v := reg ((iadd i_1 (1 : Int)) : Int)) rfl) rfl ?_
        refine .nil ?_
        exact QN.thenJ ⟨(iadd i_1 (1 : Int)), ⟨_, setl_eq ⟨rfl, ⟨rfl, ⟨rfl, ⟨rfl, trivial⟩⟩⟩⟩⟩, hh⟩
      · have hh := hh.2 hb_1
        refine CW.exit ?_
        refine QN.thenExit ?_
        refine QN.thenExit ?_
        refine QN.blockExit ?_
        exact QN.thenJ ⟨_, setl_eq ⟨rfl, trivial⟩, hh⟩
    · rintro ρ h ⟨ρ', rfl, hh⟩
      unfold law19_game.j2 at hh
      refine CW.seq ?_
      refine CW.region ?_
      refine .val (v_move (v := .pointer (some t10)) rfl) rfl ?_
      refine .val (v_assign (v := .pointer (some t10)) rfl) rfl ?_
      refine .nil ?_
      refine QN.then_ ?_
      refine CW.ret ?_
      exact ret1 rfl rfl ⟨((some t10) : Pt), rfl, hh⟩
end Go.Proofs.YtimmoekliphobaaDoor
namespace Go.Proofs.YtimmoekliphobaaDoor
open Go Go.Sh
open Go.Sh.Ty (reg)
set_option linter.unusedVariables false
set_option maxRecDepth 100000

theorem zero32' : (arrOf [0, 0, 0, 0, 0, 0, 0, 0, 0, 0, 0, 0, 0, 0, 0, 0, 0, 0, 0, 0, 0, 0, 0, 0, 0, 0, 0, 0, 0, 0, 0, 0] : Dig) = dz := by
  funext i
  have : ∀ i : Fin 32, (arrOf [0, 0, 0, 0, 0, 0, 0, 0, 0, 0, 0, 0, 0, 0, 0, 0, 0, 0, 0, 0, 0, 0, 0, 0, 0, 0, 0, 0, 0, 0, 0, 0] : Dig) i = 0 := by decide
  exact this i
/-! a game: cores, and all that was said -/
def memN (n : Nat) : List api_Member := (List.range n).map fun i : Nat => { api_Member.zero with Id := ((i + 1 : Nat) : Int) }
theorem memN_len (n : Nat) : (memN n).length = n := by simp [memN]
theorem memN_succ (n : Nat) : memN (n + 1) = memN n ++ [{ api_Member.zero with Id := ((n + 1 : Nat) : Int) }] := by simp [memN, List.range_succ]
theorem memAt_N (n i : Nat) (h : i < n) : memAt (memN n) i = { api_Member.zero with Id := ((i + 1 : Nat) : Int) } := by
  simp [memAt, memN, h]
theorem goodC_N (n : Nat) (h1 : 1 ≤ n) (h2 : n ≤ 10) : goodC 0 (memN n) = true := by
  unfold goodC
  rw [Bool.and_eq_true]
  refine ⟨decide_eq_true ⟨by omega, by omega, ?_, by rw [memN_len]; exact h2⟩, ?_⟩
  · intro h; have := memN_len n; rw [h] at this; simp at this; omega
  · rw [List.all_eq_true]
    intro i hi
    rw [memN_len, List.mem_range] at hi
    unfold goodAt
    rw [memAt_N n i hi]
    rw [Bool.and_eq_true]
    constructor
    · unfold rightM
      simp only [Bool.and_eq_true, decide_eq_true_eq]
      refine ⟨⟨⟨?_, ?_⟩, ?_⟩, ?_⟩
      · show (1 : Int) ≤ ((i + 1 : Nat) : Int); omega
      · show ((i + 1 : Nat) : Int) ≤ 63; omega
      · decide
      · decide
    · by_cases h0 : i = 0
      · subst h0; rfl
      · rw [memAt_N n (i - 1) (by omega), decide_eq_false h0, Bool.false_or, decide_eq_true_eq]
        show ((i - 1 + 1 : Nat) : Int) < ((i + 1 : Nat) : Int)
        omega
theorem findF_N (n i : Nat) (h : i < n) : (findF (memN n) ((i + 1 : Nat) : Int)).c = true := by
  unfold findF
  cases hf : (memN n).findIdx? (·.Id == ((i + 1 : Nat) : Int)) with
  | some j => rfl
  | none =>
    rw [List.findIdx?_eq_none_iff] at hf
    have := hf { api_Member.zero with Id := ((i + 1 : Nat) : Int) } (by simp only [memN, List.mem_map, List.mem_range]; exact ⟨i, h, rfl⟩)
    simp at this
/-- a core as it is at first -/
structure New1 (c : CS) (n : Nat) (ht : Int) (i : Nat) : Prop where
  ok : Cok c
  ms : c.ms = memN n
  me : c.x.me = ((i + 1 : Nat) : Int)
  ht : c.ht = ht
  rd : c.rd = 0
  base : c.x.base = 1
  vts : c.vts = []
  pl : c.pl = []
  bl : c.bl = []
  step : c.x.step = 0
  dec : c.x.decided = false
  fr : c.x.fresh = false
  lk : c.x.locked.round = -1
  vl : c.x.valid.round = -1
  vb : c.x.valid.block = api_Block.zero ∧ c.vq = []
  acts : c.acts = []
/-- a game's own things -/
@[reducible] def gmE (g : Addr) (x : law19_Game) (ms : List api_Member) (cs : List CS) (ow : List Sl) (dc : List Dig) : List En := [cel 61 g (enc x), own 110 34 x.config.Members ms, own 62 1 x.cores (cs.map fun c => (some c.p : Pt)), own 22 1 x.own ow, own 24 32 x.decided dc]
theorem len_game (y : law19_Game) : (enc y).length = 11 := len_law19_Game y
theorem perm3 {α : Type} (C A B L : List α) : (C ++ (A ++ (B ++ L))).Perm (A ++ ((B ++ C) ++ L)) := by
  have h1 : (C ++ (A ++ B)).Perm ((A ++ B) ++ C) := List.perm_append_comm
  have := h1.append_right L
  simpa [List.append_assoc] using this
section
variable {h0 h : H} {S : List Nat} {L : List En}
theorem game_spec (n : Nat) (ht : Int) {k : Pt → H → Prop} (h1 : 1 ≤ n) (h2 : n ≤ 10) (hh : 1 ≤ ht ∧ ht ≤ 1024) (hs : Sat h0 S h L)
    (hk : ∀ g x cs h', x.height = ht → x.config.Epoch = 0 → x.plans = Sl.nil → x.votes = Sl.nil → x.order = Sl.nil → x.others = Sl.nil → x.made = 0 → cs.length = n - (n - 1) / 3 → (∀ (i : Nat) c, cs[i]? = some c → New1 c n ht i) →
      Sat h0 S h' (gmE g x (memN n) cs (List.replicate (n - (n - 1) / 3) Sl.nil) (List.replicate (n - (n - 1) / 3) dz) ++ (cs.flatMap core ++ L)) → k (some g) h') :
    call (β := Pt) Prog 26 [reg ((n : Int) : Int), reg (ht : Int)] k h := by
  refine law19_game.ok _ _ _ _ ?_
  unfold law19_game.b
  refine hs.box_ (fun g h3 hs3 _ _ => ?_)
  have hs4 := hs3.nilOwn (T := 110) (n := 34) (α := api_Member)
  unfold law19_game.l1
  refine ⟨fun (t : Int) h' => ∃ (i : Nat) (mm : Sl), t = ((i + 1 : Nat) : Int) ∧ i ≤ n ∧ Sat h0 S h' (own 110 34 mm (memN i) :: cel 61 g (enc ({ law19_Game.zero with height := ht, config := { api_Config.zero with Members := mm } } : law19_Game)) :: L), fun t _ => (n + 1 - t).toNat, ⟨0, Sl.nil, rfl, Nat.zero_le _, hs4⟩, ?_⟩
  clear hs hs3 hs4
  rintro t h3 ⟨i, mm, rfl, hi, hs3⟩
  refine ifb_i (fun hc => ?_) (fun hc => ?_)
  · have hi' : i < n := by have : ((i + 1 : Nat) : Int) ≤ n := by simpa using hc
                           omega
    refine hs3.ld_ 1 rfl ?_
    refine hs3.mks_ (n := 34) (fun t24 h4 hs4 _ _ => ?_)
    refine hs4.app_ 1 rfl (hs4.ownSV 0 rfl len_api_Member) len_api_Member one_api_Member (len_api_Member _) ?_ ?_ (fun r h5 hs5 _ => ?_)
    · simp only [memN_len, List.length_cons, List.length_nil, maxBytes]; omega
    · simp only [memN_len, List.length_cons, List.length_nil]; omega
    refine hs5.st_ 2 rfl len_game (fun h6 hs6 _ => ?_)
    have e : iadd ((i + 1 : Nat) : Int) 1 = ((i + 1 + 1 : Nat) : Int) := by rw [iadd_eq (by omega) (by omega)]; omega
    rw [e]
    refine ⟨⟨i + 1, r, rfl, hi', ?_⟩, by dsimp only; omega⟩
    rw [memN_succ]
    exact hs6.drop (List.sublist_cons_self _ _)
  · have hi' : i = n := by
      have : ¬ ((i + 1 : Nat) : Int) ≤ n := by simpa using hc
      omega
    subst hi'
    clear hc
    unfold law19_game.j1 law19_game.l2
    have hsA : Sat h0 S h3 (gmE g { law19_Game.zero with height := ht, config := { api_Config.zero with Members := mm } } (memN i) [] [] [] ++ (([] : List CS).flatMap core ++ L)) := by
      have := ((hs3.nilOwn (T := 24) (n := 32) (α := Dig)).nilOwn (T := 22) (n := 1) (α := Sl)).nilOwn (T := 62) (n := 1) (α := Pt)
      exact this.sel 5 [4, 3, 0, 1, 2] (by decide) (by decide)
    refine ⟨fun (t : Int) h' => ∃ (x : law19_Game) (cs : List CS), t = (cs.length : Int) ∧ cs.length ≤ i - (i - 1) / 3 ∧ x.height = ht ∧ x.config.Epoch = 0 ∧ x.plans = Sl.nil ∧ x.votes = Sl.nil ∧ x.order = Sl.nil ∧ x.others = Sl.nil ∧ x.made = 0 ∧ (∀ (j : Nat) c, cs[j]? = some c → New1 c i ht j) ∧
      Sat h0 S h' (gmE g x (memN i) cs (List.replicate cs.length Sl.nil) (List.replicate cs.length dz) ++ (cs.flatMap core ++ L)), fun t _ => (i - (i - 1) / 3 - t).toNat, ⟨_, [], rfl, Nat.zero_le _, rfl, rfl, rfl, rfl, rfl, rfl, rfl, by simp, hsA⟩, ?_⟩
    clear hs3 hsA
    rintro t h3 ⟨x, cs, rfl, hle, x1, x2, x3, x4, x5, x6, x7, hcs, hs3⟩
    refine hs3.ld_ 0 rfl ?_
    have hmem : SV 34 h3 x.config.Members (memN i) := hs3.ownSV 1 rfl len_api_Member
    refine Faults_spec _ i (by rw [hmem.2.1, memN_len]) (by omega) (fun h4 hx4 => ?_)
    have hs4 := hs3.ext hx4
    have e1 : isub (i : Int) (((i - 1) / 3 : Nat) : Int) = ((i - (i - 1) / 3 : Nat) : Int) := by rw [isub_eq (by omega) (by omega)]; omega
    rw [e1]
    refine ifb_i (fun hc => ?_) (fun hc => ?_)
    · have hc' : cs.length < i - (i - 1) / 3 := by have : (cs.length : Int) < ((i - (i - 1) / 3 : Nat) : Int) := by simpa using hc
                                                   omega
      refine hs4.ld_ 0 rfl (hs4.ld_ 0 rfl ?_)
      have e2 : iadd (cs.length : Int) 1 = ((cs.length + 1 : Nat) : Int) := by rw [iadd_eq (by omega) (by omega)]; omega
      rw [e2]
      have hg := goodC_N i h1 h2
      refine New_spec19 x.config (memN i) _ ht 1 (by unfold I64; omega) hs4 (SV.z (hs4.ownSV 1 rfl len_api_Member)) (fun h5 hf _ => ?_) (fun c mm' h5 _ hF hs5 => ?_)
      · rw [x2, hg, decide_eq_true hh] at hf; cases hf
      have hc0 : Cok c := hF.ok (by rw [x2]; exact hg) ⟨hh, by omega⟩
      have hnew : New1 c i ht cs.length := by
        obtain ⟨fx, f1, f2, f3, f4, f5, f6, f7, f8, f9, f10, f11⟩ := hF
        exact ⟨hc0, f9, by rw [fx], f1, f2, by rw [fx], f3, f4, f5, by rw [fx]; rfl, by rw [fx]; rfl, by rw [fx]; rfl, by rw [fx], by rw [fx], ⟨by rw [fx]; rfl, f7⟩, f8⟩
      have hs6 : Sat h0 S h5 (gmE g x (memN i) cs (List.replicate cs.length Sl.nil) (List.replicate cs.length dz) ++ ((cs.flatMap core ++ core c) ++ L)) := hs5.perm (perm3 _ _ _ _)
      refine hs6.chk_ 0 rfl rfl ?_
      refine hs6.mks_ (n := 1) (fun t53 h6 hs7 _ _ => ?_)
      refine hs7.chk_ 1 rfl rfl ?_
      refine hs7.app_ 3 rfl (hs7.ownSV 0 rfl (fun _ => rfl)) (fun _ => rfl) (fun _ => rfl) rfl ?_ ?_ (fun r1 h8 hs8 _ => ?_)
      · simp only [List.length_map, List.length_cons, List.length_nil, maxBytes]; omega
      · simp only [List.length_map, List.length_cons, List.length_nil]; omega
      refine hs8.st_ 1 rfl len_game (fun h9 hs9 _ => ?_)
      refine hs9.ld_ 1 rfl ?_
      refine hs9.mks_ (n := 1) (fun t62 h10 hs10 _ _ => ?_)
      refine hs10.app_ 5 rfl (hs10.ownSV 0 rfl (fun _ => rfl)) (fun _ => rfl) (fun _ => rfl) rfl ?_ ?_ (fun r2 h11 hs11 _ => ?_)
      · simp only [List.length_replicate, List.length_cons, List.length_nil, maxBytes]; omega
      · simp only [List.length_replicate, List.length_cons, List.length_nil]; omega
      refine hs11.st_ 2 rfl len_game (fun h12 hs12 _ => ?_)
      refine hs12.ld_ 2 rfl ?_
      refine hs12.mks_ (n := 32) (fun t72 h13 hs13 _ _ => ?_)
      refine hs13.app_ 7 rfl (hs13.ownSV 0 rfl arr_len) arr_len one_dig (arr_len _) ?_ ?_ (fun r3 h14 hs14 _ => ?_)
      · simp only [List.length_replicate, List.length_cons, List.length_nil, maxBytes]; omega
      · simp only [List.length_replicate, List.length_cons, List.length_nil]; omega
      refine hs14.st_ 3 rfl len_game (fun h15 hs15 _ => ?_)
      have hs16 := hs15.sel 8 [3, 4, 5, 6, 7] (by decide) (by decide)
      refine ⟨⟨{ x with cores := r1, own := r2, decided := r3 }, cs ++ [c], by simp, by simp; omega, x1, x2, x3, x4, x5, x6, x7, ?_, ?_⟩, by dsimp only; omega⟩
      · intro j c' hj
        by_cases hjl : j < cs.length
        · rw [List.getElem?_append_left hjl] at hj; exact hcs j c' hj
        · rw [List.getElem?_append_right (by omega)] at hj
          have : j = cs.length := by
            by_cases h9 : j - cs.length = 0
            · omega
            · rw [List.getElem?_eq_none (by simp; omega)] at hj; cases hj
          subst this
          simp at hj; subst hj; exact hnew
      · have e3 : (List.replicate (cs ++ [c]).length Sl.nil : List Sl) = List.replicate cs.length Sl.nil ++ [Sl.nil] := by simp [List.replicate_succ']
        have e4 : (List.replicate (cs ++ [c]).length dz : List Dig) = List.replicate cs.length dz ++ [(arrOf [0, 0, 0, 0, 0, 0, 0, 0, 0, 0, 0, 0, 0, 0, 0, 0, 0, 0, 0, 0, 0, 0, 0, 0, 0, 0, 0, 0, 0, 0, 0, 0] : Dig)] := by
          have : (arrOf [0, 0, 0, 0, 0, 0, 0, 0, 0, 0, 0, 0, 0, 0, 0, 0, 0, 0, 0, 0, 0, 0, 0, 0, 0, 0, 0, 0, 0, 0, 0, 0] : Dig) = dz := zero32'
          rw [this]; simp [List.replicate_succ']
        have e5 : (cs ++ [c]).map (fun c => (some c.p : Pt)) = cs.map (fun c => (some c.p : Pt)) ++ [some c.p] := by simp
        have e6 : (cs ++ [c]).flatMap core = cs.flatMap core ++ core c := by simp
        unfold gmE
        rw [e3, e4, e5, e6]
        exact hs16
    · have hc' : cs.length = i - (i - 1) / 3 := by have : ¬ (cs.length : Int) < ((i - (i - 1) / 3 : Nat) : Int) := by simpa using hc
                                                   omega
      unfold law19_game.j2
      rw [hc'] at hs4
      exact hk g x cs h4 x1 x2 x3 x4 x5 x6 x7 hc' hcs hs4
end
end Go.Proofs.YtimmoekliphobaaDoor
namespace Go.Proofs.YtimmoekliphobaaDoor
open Go Go.Sh
open Go.Sh.Ty (reg)
set_option linter.unusedVariables false
set_option maxRecDepth 100000

/-! sha over a block whose steps are told -/
def r8L (l : List UInt32) : R8 := ⟨l.getD 0 0, l.getD 1 0, l.getD 2 0, l.getD 3 0, l.getD 4 0, l.getD 5 0, l.getD 6 0, l.getD 7 0⟩
def r8e (r : R8) (l : List UInt32) : Bool := r.a == l.getD 0 0 && r.c == l.getD 1 0 && r.d == l.getD 2 0 && r.e == l.getD 3 0 && r.f == l.getD 4 0 && r.g == l.getD 5 0 && r.k == l.getD 6 0 && r.l == l.getD 7 0
theorem r8e_eq {r : R8} {l : List UInt32} (h : r8e r l = true) : r = r8L l := by
  unfold r8e at h
  simp only [Bool.and_eq_true, beq_iff_eq] at h
  obtain ⟨⟨⟨⟨⟨⟨⟨a, b⟩, c⟩, d⟩, e⟩, f⟩, g⟩, i⟩ := h
  cases r
  simp only at a b c d e f g i
  subst a; subst b; subst c; subst d; subst e; subst f; subst g; subst i
  rfl
def schedL (w : List UInt32) (i : Nat) : UInt32 :=
  let x := w.getD (i - 15) 0; let y := w.getD (i - 2) 0
  ((w.getD (i - 16) 0 + ((rot x (-7) ^^^ rot x (-18)) ^^^ (shr32 x 3))) + w.getD (i - 7) 0) + ((rot y (-17) ^^^ rot y (-19)) ^^^ (shr32 y 10))
def tabL : List UInt32 := [0x428a2f98, 0x71374491, 0xb5c0fbcf, 0xe9b5dba5, 0x3956c25b, 0x59f111f1, 0x923f82a4, 0xab1c5ed5,
  0xd807aa98, 0x12835b01, 0x243185be, 0x550c7dc3, 0x72be5d74, 0x80deb1fe, 0x9bdc06a7, 0xc19bf174,
  0xe49b69c1, 0xefbe4786, 0x0fc19dc6, 0x240ca1cc, 0x2de92c6f, 0x4a7484aa, 0x5cb0a9dc, 0x76f988da,
  0x983e5152, 0xa831c66d, 0xb00327c8, 0xbf597fc7, 0xc6e00bf3, 0xd5a79147, 0x06ca6351, 0x14292967,
  0x27b70a85, 0x2e1b2138, 0x4d2c6dfc, 0x53380d13, 0x650a7354, 0x766a0abb, 0x81c2c92e, 0x92722c85,
  0xa2bfe8a1, 0xa81a664b, 0xc24b8b70, 0xc76c51a3, 0xd192e819, 0xd6990624, 0xf40e3585, 0x106aa070,
  0x19a4c116, 0x1e376c08, 0x2748774c, 0x34b0bcb5, 0x391c0cb3, 0x4ed8aa4a, 0x5b9cca4f, 0x682e6ff3,
  0x748f82ee, 0x78a5636f, 0x84c87814, 0x8cc70208, 0x90befffa, 0xa4506ceb, 0xbef9a3f7, 0xc67178f2]
theorem tabL_get (i : Nat) (h : i < 64) : getN tableA i = tabL.getD i 0 := by
  have e : tableA = arrOf tabL := rfl
  rw [e]; simp [getN, h, arrOf]; rfl
def round1L (t w : UInt32) (r : R8) : R8 :=
  let t := (((r.l + ((rot r.f (-6) ^^^ rot r.f (-11)) ^^^ rot r.f (-25))) + ((r.f &&& r.g) ^^^ ((~~~r.f) &&& r.k))) + t) + w
  let u := ((rot r.a (-2) ^^^ rot r.a (-13)) ^^^ rot r.a (-22)) + (((r.a &&& r.c) ^^^ (r.a &&& r.d)) ^^^ (r.c &&& r.d))
  ⟨t + u, r.a, r.c, r.d, r.e + t, r.f, r.g, r.k⟩
theorem getN_upd {n : Nat} (w : Arr n UInt32) (i : Nat) (v : UInt32) (j : Nat) (hj : j < n) : getN (updN w i v) j = if j = i then v else getN w j := by
  simp [getN, hj, updN]
theorem sched1_get (bs : List UInt8) (w : List UInt32) (h1 : (List.range 16).all (fun i => w.getD i 0 == word4 (bs.getD (4 * i) 0) (bs.getD (4 * i + 1) 0) (bs.getD (4 * i + 2) 0) (bs.getD (4 * i + 3) 0)) = true) :
    ∀ n, n ≤ 16 → ∀ j, j < n → getN (sched1 bs n) j = w.getD j 0
  | 0, _, j, hj => by omega
  | n + 1, hn, j, hj => by
    show getN (updN (sched1 bs n) n _) j = _
    rw [getN_upd _ _ _ _ (by omega)]
    split
    · rename_i e; subst e
      have := List.all_eq_true.1 h1 j (by simp; omega)
      exact (by simpa using this : w.getD j 0 = _).symm
    · exact sched1_get bs w h1 n (by omega) j (by omega)
theorem sched2_get (bs : List UInt8) (w : List UInt32) (h1 : (List.range 16).all (fun i => w.getD i 0 == word4 (bs.getD (4 * i) 0) (bs.getD (4 * i + 1) 0) (bs.getD (4 * i + 2) 0) (bs.getD (4 * i + 3) 0)) = true)
    (h2 : (List.range 48).all (fun i => w.getD (i + 16) 0 == schedL w (i + 16)) = true) : ∀ n, n ≤ 48 → ∀ j, j < n + 16 → getN (sched2 bs n) j = w.getD j 0
  | 0, _, j, hj => sched1_get bs w h1 16 (by omega) j hj
  | n + 1, hn, j, hj => by
    have ih := sched2_get bs w h1 h2 n (by omega)
    show getN (updN (sched2 bs n) (n + 16) (schedW (sched2 bs n) (n + 16))) j = _
    rw [getN_upd _ _ _ _ (by omega)]
    split
    · rename_i e; subst e
      have := List.all_eq_true.1 h2 n (by simp; omega)
      have e : w.getD (n + 16) 0 = schedL w (n + 16) := by simpa using this
      rw [e]
      unfold schedW schedL
      simp only
      rw [ih (n + 16 - 15) (by omega), ih (n + 16 - 2) (by omega), ih (n + 16 - 16) (by omega), ih (n + 16 - 7) (by omega)]
    · exact ih j (by omega)
theorem rounds_get (w : Arr 64 UInt32) (wl : List UInt32) (hw : ∀ j, j < 64 → getN w j = wl.getD j 0) (ss : List (List UInt32)) (h3 : (List.range 64).all (fun i => r8e (round1L (tabL.getD i 0) (wl.getD i 0) (r8L (ss.getD i []))) (ss.getD (i + 1) [])) = true) :
    ∀ n, n ≤ 64 → rounds w n (r8L (ss.getD 0 [])) = r8L (ss.getD n [])
  | 0, _ => rfl
  | n + 1, hn => by
    show round1 w n (rounds w n (r8L (ss.getD 0 []))) = _
    rw [rounds_get w wl hw ss h3 n (by omega)]
    have := List.all_eq_true.1 h3 n (by simp; omega)
    rw [← r8e_eq this]
    unfold round1 round1L
    simp only
    rw [tabL_get n (by omega), hw n (by omega)]
def sumL (r : List UInt32) (x : List UInt32) (j : Nat) : UInt32 := x.getD j 0 + r.getD j 0
theorem sum8_get (t x : Arr 8 UInt32) : ∀ n, n ≤ 8 → ∀ j : Fin 8, sum8 t n x j = if j.val < n then x j + t j else x j
  | 0, _, j => by simp [sum8, itF]
  | n + 1, hn, j => by
    have ih := sum8_get t x n (by omega)
    show updN (sum8 t n x) n (getN (sum8 t n x) n + getN t n) j = _
    unfold updN
    by_cases h : j.val = n
    · have e : getN (sum8 t n x) n = x j := by
        rw [getN, dif_pos (by omega : n < 8), ih]
        simp only [Nat.lt_irrefl, if_false]
        congr 1; exact Fin.ext h.symm
      have e2 : getN t n = t j := by rw [getN, dif_pos (by omega : n < 8)]; congr 1; exact Fin.ext h.symm
      rw [if_pos h, e, e2, if_pos (by omega)]
    · rw [if_neg h, ih]
      by_cases h2 : j.val < n
      · rw [if_pos h2, if_pos (by omega)]
      · rw [if_neg h2, if_neg (by omega)]
theorem blk_eval (x : List UInt32) (bs : List UInt8) (w : List UInt32) (ss : List (List UInt32)) (y : List UInt32)
    (h1 : (List.range 16).all (fun i => w.getD i 0 == word4 (bs.getD (4 * i) 0) (bs.getD (4 * i + 1) 0) (bs.getD (4 * i + 2) 0) (bs.getD (4 * i + 3) 0)) = true)
    (h2 : (List.range 48).all (fun i => w.getD (i + 16) 0 == schedL w (i + 16)) = true)
    (h3 : (List.range 64).all (fun i => r8e (round1L (tabL.getD i 0) (w.getD i 0) (r8L (ss.getD i []))) (ss.getD (i + 1) [])) = true)
    (h4 : ((List.range 8).all (fun j => (ss.getD 0 []).getD j 0 == x.getD j 0) && (List.range 8).all (fun j => y.getD j 0 == sumL (ss.getD 64 []) x j)) = true) : blockF (arrOf x) bs = arrOf y := by
  rw [Bool.and_eq_true] at h4
  obtain ⟨h4, h5⟩ := h4
  have gx : ∀ j, j < 8 → getN (arrOf x : Arr 8 UInt32) j = (ss.getD 0 []).getD j 0 := by
    intro j hj
    have := List.all_eq_true.1 h4 j (by simp; omega)
    have e : (ss.getD 0 []).getD j 0 = x.getD j 0 := by simpa using this
    rw [e]; simp [getN, hj, arrOf]; rfl
  have hr := rounds_get (sched2 bs 48) w (sched2_get bs w h1 h2 48 (by omega)) ss h3 64 (by omega)
  unfold blockF
  have e0 : (⟨getN (arrOf x : Arr 8 UInt32) 0, getN (arrOf x : Arr 8 UInt32) 1, getN (arrOf x : Arr 8 UInt32) 2, getN (arrOf x : Arr 8 UInt32) 3, getN (arrOf x : Arr 8 UInt32) 4, getN (arrOf x : Arr 8 UInt32) 5, getN (arrOf x : Arr 8 UInt32) 6, getN (arrOf x : Arr 8 UInt32) 7⟩ : R8) = r8L (ss.getD 0 []) := by
    rw [gx 0 (by omega), gx 1 (by omega), gx 2 (by omega), gx 3 (by omega), gx 4 (by omega), gx 5 (by omega), gx 6 (by omega), gx 7 (by omega)]; rfl
  rw [e0, hr]
  funext j
  rw [sum8_get _ _ 8 (by omega) j, if_pos j.2]
  have h6 := List.all_eq_true.1 h5 j.val (by simp)
  have e : y.getD j.val 0 = sumL (ss.getD 64 []) x j.val := by simpa using h6
  show _ = y.getD j.val 0
  rw [e]
  unfold sumL
  have e7 : (arrOf [(r8L (ss.getD 64 [])).a, (r8L (ss.getD 64 [])).c, (r8L (ss.getD 64 [])).d, (r8L (ss.getD 64 [])).e, (r8L (ss.getD 64 [])).f, (r8L (ss.getD 64 [])).g, (r8L (ss.getD 64 [])).k, (r8L (ss.getD 64 [])).l] : Arr 8 UInt32) j = (ss.getD 64 []).getD j.val 0 := by
    match j with
    | ⟨0, _⟩ => rfl
    | ⟨1, _⟩ => rfl
    | ⟨2, _⟩ => rfl
    | ⟨3, _⟩ => rfl
    | ⟨4, _⟩ => rfl
    | ⟨5, _⟩ => rfl
    | ⟨6, _⟩ => rfl
    | ⟨7, _⟩ => rfl
  show arrOf x j + _ = _
  exact congrArg (arrOf x j + ·) e7
def st0 : List UInt32 := [1779033703, 3144134277, 1013904242, 2773480762, 1359893119, 2600822924, 528734635, 1541459225]
def bs0 : List UInt8 := [98, 108, 111, 99, 107, 0, 0, 0, 0, 0, 0, 0, 0, 0, 0, 0, 0, 0, 0, 0, 1, 0, 0, 0, 0, 0, 0, 0, 0, 0, 0, 0, 0, 0, 0, 0, 0, 0, 0, 0, 0, 0, 0, 0, 0, 0, 0, 0, 0, 0, 0, 0, 0, 0, 0, 0, 0, 0, 0, 0, 0, 0, 0, 0]
def ws0 : List UInt32 := [1651273571, 1795162112, 0, 0, 0, 16777216, 0, 0, 0, 0, 0, 0, 0, 0, 0, 0, 1881311779, 1795162112, 340385463, 1767648, 3567942426, 611059376, 1926961758, 4087977949, 1501053424, 225676411, 686518883, 2354853646, 4226011748, 270572294, 2263462486, 2731330682, 2056018723, 2928842216, 3318542769, 3327942721, 823398723, 3684192204, 1620230082, 2554393231, 615941783, 1514479570, 2217266088, 193512078, 2095206705, 3138176481, 1406072578, 559008344, 3694946122, 1451825446, 338179102, 1995529108, 2581702976, 3710925665, 2486053732, 451110907, 876884521, 3235452108, 3359399960, 1197738940, 4223659655, 2266119070, 1079959259, 1210095502]
def ss0 : List (List UInt32) := [[1779033703, 3144134277, 1013904242, 2773480762, 1359893119, 2600822924, 528734635, 1541459225],
  [1584723888, 1779033703, 3144134277, 1013904242, 4214510085, 1359893119, 2600822924, 528734635],
  [241320927, 1584723888, 1779033703, 3144134277, 1453998458, 4214510085, 1359893119, 2600822924],
  [3656122265, 241320927, 1584723888, 1779033703, 4068681291, 1453998458, 4214510085, 1359893119],
  [3243198189, 3656122265, 241320927, 1584723888, 2813058525, 4068681291, 1453998458, 4214510085],
  [2204402251, 3243198189, 3656122265, 241320927, 2655503706, 2813058525, 4068681291, 1453998458],
  [2632159722, 2204402251, 3243198189, 3656122265, 2303326533, 2655503706, 2813058525, 4068681291],
  [4121052901, 2632159722, 2204402251, 3243198189, 2818251390, 2303326533, 2655503706, 2813058525],
  [2384164023, 4121052901, 2632159722, 2204402251, 4130049340, 2818251390, 2303326533, 2655503706],
  [801613410, 2384164023, 4121052901, 2632159722, 3936378872, 4130049340, 2818251390, 2303326533],
  [635244678, 801613410, 2384164023, 4121052901, 1824791663, 3936378872, 4130049340, 2818251390],
  [3255608316, 635244678, 801613410, 2384164023, 248202205, 1824791663, 3936378872, 4130049340],
  [3893080260, 3255608316, 635244678, 801613410, 812562179, 248202205, 1824791663, 3936378872],
  [4179193851, 3893080260, 3255608316, 635244678, 3052185037, 812562179, 248202205, 1824791663],
  [1836498980, 4179193851, 3893080260, 3255608316, 3341004765, 3052185037, 812562179, 248202205],
  [673296234, 1836498980, 4179193851, 3893080260, 1066674296, 3341004765, 3052185037, 812562179],
  [2155308656, 673296234, 1836498980, 4179193851, 2272044371, 1066674296, 3341004765, 3052185037],
  [2590620117, 2155308656, 673296234, 1836498980, 2634754890, 2272044371, 1066674296, 3341004765],
  [660855836, 2590620117, 2155308656, 673296234, 4255580543, 2634754890, 2272044371, 1066674296],
  [4012022322, 660855836, 2590620117, 2155308656, 781619396, 4255580543, 2634754890, 2272044371],
  [1010172427, 4012022322, 660855836, 2590620117, 756202563, 781619396, 4255580543, 2634754890],
  [3764720987, 1010172427, 4012022322, 660855836, 1146087252, 756202563, 781619396, 4255580543],
  [3929905654, 3764720987, 1010172427, 4012022322, 1592277496, 1146087252, 756202563, 781619396],
  [2038331828, 3929905654, 3764720987, 1010172427, 4245427794, 1592277496, 1146087252, 756202563],
  [238691684, 2038331828, 3929905654, 3764720987, 936937726, 4245427794, 1592277496, 1146087252],
  [3909498037, 238691684, 2038331828, 3929905654, 2666637164, 936937726, 4245427794, 1592277496],
  [3827307696, 3909498037, 238691684, 2038331828, 2648925754, 2666637164, 936937726, 4245427794],
  [2055973011, 3827307696, 3909498037, 238691684, 3943302615, 2648925754, 2666637164, 936937726],
  [510865651, 2055973011, 3827307696, 3909498037, 2416946707, 3943302615, 2648925754, 2666637164],
  [2255496466, 510865651, 2055973011, 3827307696, 1686844728, 2416946707, 3943302615, 2648925754],
  [2043308621, 2255496466, 510865651, 2055973011, 4124765582, 1686844728, 2416946707, 3943302615],
  [2297355170, 2043308621, 2255496466, 510865651, 3210216123, 4124765582, 1686844728, 2416946707],
  [2677577490, 2297355170, 2043308621, 2255496466, 1893720390, 3210216123, 4124765582, 1686844728],
  [840817963, 2677577490, 2297355170, 2043308621, 2710868925, 1893720390, 3210216123, 4124765582],
  [1244139086, 840817963, 2677577490, 2297355170, 3601550861, 2710868925, 1893720390, 3210216123],
  [1900515190, 1244139086, 840817963, 2677577490, 2673631251, 3601550861, 2710868925, 1893720390],
  [2401826204, 1900515190, 1244139086, 840817963, 3268693276, 2673631251, 3601550861, 2710868925],
  [17343931, 2401826204, 1900515190, 1244139086, 3137715564, 3268693276, 2673631251, 3601550861],
  [482683071, 17343931, 2401826204, 1900515190, 2530722848, 3137715564, 3268693276, 2673631251],
  [1691812374, 482683071, 17343931, 2401826204, 850041688, 2530722848, 3137715564, 3268693276],
  [3252962280, 1691812374, 482683071, 17343931, 1991858455, 850041688, 2530722848, 3137715564],
  [1543062373, 3252962280, 1691812374, 482683071, 1510746499, 1991858455, 850041688, 2530722848],
  [835187718, 1543062373, 3252962280, 1691812374, 1673445093, 1510746499, 1991858455, 850041688],
  [3944745725, 835187718, 1543062373, 3252962280, 3397475766, 1673445093, 1510746499, 1991858455],
  [4068877981, 3944745725, 835187718, 1543062373, 2340191245, 3397475766, 1673445093, 1510746499],
  [3774966628, 4068877981, 3944745725, 835187718, 4171242960, 2340191245, 3397475766, 1673445093],
  [1933856619, 3774966628, 4068877981, 3944745725, 1531008798, 4171242960, 2340191245, 3397475766],
  [3462675787, 1933856619, 3774966628, 4068877981, 264811686, 1531008798, 4171242960, 2340191245],
  [229920675, 3462675787, 1933856619, 3774966628, 2479076235, 264811686, 1531008798, 4171242960],
  [3084333086, 229920675, 3462675787, 1933856619, 3660077467, 2479076235, 264811686, 1531008798],
  [2981495015, 3084333086, 229920675, 3462675787, 591792870, 3660077467, 2479076235, 264811686],
  [772845964, 2981495015, 3084333086, 229920675, 325802721, 591792870, 3660077467, 2479076235],
  [4112786755, 772845964, 2981495015, 3084333086, 2250168314, 325802721, 591792870, 3660077467],
  [3884679588, 4112786755, 772845964, 2981495015, 2724913238, 2250168314, 325802721, 591792870],
  [1229752895, 3884679588, 4112786755, 772845964, 4181629431, 2724913238, 2250168314, 325802721],
  [3192280111, 1229752895, 3884679588, 4112786755, 1439231686, 4181629431, 2724913238, 2250168314],
  [1766951993, 3192280111, 1229752895, 3884679588, 392845197, 1439231686, 4181629431, 2724913238],
  [2690924392, 1766951993, 3192280111, 1229752895, 2700830886, 392845197, 1439231686, 4181629431],
  [1743865144, 2690924392, 1766951993, 3192280111, 3310879956, 2700830886, 392845197, 1439231686],
  [4050933891, 1743865144, 2690924392, 1766951993, 1495142431, 3310879956, 2700830886, 392845197],
  [2309689762, 4050933891, 1743865144, 2690924392, 677883500, 1495142431, 3310879956, 2700830886],
  [2931118291, 2309689762, 4050933891, 1743865144, 3924835203, 677883500, 1495142431, 3310879956],
  [320394813, 2931118291, 2309689762, 4050933891, 417422286, 3924835203, 677883500, 1495142431],
  [3566893715, 320394813, 2931118291, 2309689762, 2749311326, 417422286, 3924835203, 677883500],
  [496323204, 3566893715, 320394813, 2931118291, 3361051758, 2749311326, 417422286, 3924835203]]
def st1 : List UInt32 := [2275356907, 2416060696, 1334299055, 1409631757, 425977581, 1055166954, 946156921, 1171327132]
theorem ev0 : blockF (arrOf st0) bs0 = arrOf st1 := blk_eval st0 bs0 ws0 ss0 st1 (by decide +kernel) (by decide +kernel) (by decide +kernel) (by decide +kernel)
def bs1 : List UInt8 := [0, 0, 0, 0, 0, 0, 0, 0, 0, 0, 0, 0, 0, 0, 0, 0, 0, 0, 0, 0, 0, 0, 0, 0, 0, 0, 0, 0, 0, 0, 0, 0, 0, 0, 0, 0, 0, 0, 0, 0, 0, 0, 0, 0, 0, 0, 0, 0, 0, 0, 0, 0, 0, 0, 0, 0, 0, 0, 0, 0, 0, 128, 0, 0]
def ws1 : List UInt32 := [0, 0, 0, 0, 0, 0, 0, 0, 0, 0, 0, 0, 0, 0, 0, 8388608, 0, 8272, 0, 337772552, 0, 1073741845, 8388608, 1574912, 16544, 83887629, 1013317656, 63332897, 84, 4258549763, 4818976, 2730439908, 2720537766, 3106704173, 2757980800, 3909034221, 4153605734, 3031170813, 3322193790, 1928622970, 2612480069, 421807583, 1298707701, 1304463160, 233124442, 960690432, 3268340214, 3226321799, 3554546497, 696044846, 3440737835, 1654761917, 1409095397, 637520513, 2524144125, 2906468834, 1316618523, 4079658284, 1236611517, 2701048524, 737882621, 2842707753, 3594567178, 1462734050]
def ss1 : List (List UInt32) := [[2275356907, 2416060696, 1334299055, 1409631757, 425977581, 1055166954, 946156921, 1171327132],
  [989145119, 2275356907, 2416060696, 1334299055, 3975865764, 425977581, 1055166954, 946156921],
  [198975252, 989145119, 2275356907, 2416060696, 1843912547, 3975865764, 425977581, 1055166954],
  [2579908286, 198975252, 989145119, 2275356907, 2478845613, 1843912547, 3975865764, 425977581],
  [2607969345, 2579908286, 198975252, 989145119, 2090725652, 2478845613, 1843912547, 3975865764],
  [512809900, 2607969345, 2579908286, 198975252, 2964221129, 2090725652, 2478845613, 1843912547],
  [434431201, 512809900, 2607969345, 2579908286, 4031003442, 2964221129, 2090725652, 2478845613],
  [2163442113, 434431201, 512809900, 2607969345, 199647526, 4031003442, 2964221129, 2090725652],
  [3775764465, 2163442113, 434431201, 512809900, 3277285474, 199647526, 4031003442, 2964221129],
  [1549189301, 3775764465, 2163442113, 434431201, 124677228, 3277285474, 199647526, 4031003442],
  [1666083823, 1549189301, 3775764465, 2163442113, 3005105909, 124677228, 3277285474, 199647526],
  [437695566, 1666083823, 1549189301, 3775764465, 2075407637, 3005105909, 124677228, 3277285474],
  [1436059214, 437695566, 1666083823, 1549189301, 1579874178, 2075407637, 3005105909, 124677228],
  [2044070227, 1436059214, 437695566, 1666083823, 3187699641, 1579874178, 2075407637, 3005105909],
  [3423277876, 2044070227, 1436059214, 437695566, 150469074, 3187699641, 1579874178, 2075407637],
  [1673088611, 3423277876, 2044070227, 1436059214, 2571995062, 150469074, 3187699641, 1579874178],
  [2439669442, 1673088611, 3423277876, 2044070227, 781917633, 2571995062, 150469074, 3187699641],
  [2568715671, 2439669442, 1673088611, 3423277876, 368125922, 781917633, 2571995062, 150469074],
  [170011594, 2568715671, 2439669442, 1673088611, 3722806881, 368125922, 781917633, 2571995062],
  [2285617968, 170011594, 2568715671, 2439669442, 4266831366, 3722806881, 368125922, 781917633],
  [2480843211, 2285617968, 170011594, 2568715671, 3364303305, 4266831366, 3722806881, 368125922],
  [3641158088, 2480843211, 2285617968, 170011594, 400318669, 3364303305, 4266831366, 3722806881],
  [342774114, 3641158088, 2480843211, 2285617968, 517001785, 400318669, 3364303305, 4266831366],
  [1177135309, 342774114, 3641158088, 2480843211, 2244477624, 517001785, 400318669, 3364303305],
  [2900820630, 1177135309, 342774114, 3641158088, 995267635, 2244477624, 517001785, 400318669],
  [3247533194, 2900820630, 1177135309, 342774114, 1923291230, 995267635, 2244477624, 517001785],
  [4244065757, 3247533194, 2900820630, 1177135309, 3141794306, 1923291230, 995267635, 2244477624],
  [1231568241, 4244065757, 3247533194, 2900820630, 3585431138, 3141794306, 1923291230, 995267635],
  [842273251, 1231568241, 4244065757, 3247533194, 4228130152, 3585431138, 3141794306, 1923291230],
  [705650295, 842273251, 1231568241, 4244065757, 3747189760, 4228130152, 3585431138, 3141794306],
  [3380619133, 705650295, 842273251, 1231568241, 2550660248, 3747189760, 4228130152, 3585431138],
  [1047524579, 3380619133, 705650295, 842273251, 348153829, 2550660248, 3747189760, 4228130152],
  [2552880257, 1047524579, 3380619133, 705650295, 3372021039, 348153829, 2550660248, 3747189760],
  [3694872957, 2552880257, 1047524579, 3380619133, 1219232517, 3372021039, 348153829, 2550660248],
  [1840764896, 3694872957, 2552880257, 1047524579, 3376831879, 1219232517, 3372021039, 348153829],
  [3010253752, 1840764896, 3694872957, 2552880257, 2591019210, 3376831879, 1219232517, 3372021039],
  [3529322471, 3010253752, 1840764896, 3694872957, 1794566955, 2591019210, 3376831879, 1219232517],
  [3606542410, 3529322471, 3010253752, 1840764896, 3231622030, 1794566955, 2591019210, 3376831879],
  [3513239455, 3606542410, 3529322471, 3010253752, 3264733347, 3231622030, 1794566955, 2591019210],
  [3319840522, 3513239455, 3606542410, 3529322471, 1327308119, 3264733347, 3231622030, 1794566955],
  [1309316352, 3319840522, 3513239455, 3606542410, 2125306381, 1327308119, 3264733347, 3231622030],
  [1191517621, 1309316352, 3319840522, 3513239455, 3334810313, 2125306381, 1327308119, 3264733347],
  [3746077746, 1191517621, 1309316352, 3319840522, 3247578232, 3334810313, 2125306381, 1327308119],
  [3318473152, 3746077746, 1191517621, 1309316352, 3362778469, 3247578232, 3334810313, 2125306381],
  [1057486180, 3318473152, 3746077746, 1191517621, 3033864060, 3362778469, 3247578232, 3334810313],
  [2043956799, 1057486180, 3318473152, 3746077746, 643293434, 3033864060, 3362778469, 3247578232],
  [379000755, 2043956799, 1057486180, 3318473152, 2036444599, 643293434, 3033864060, 3362778469],
  [1677346142, 379000755, 2043956799, 1057486180, 3318420185, 2036444599, 643293434, 3033864060],
  [2440664122, 1677346142, 379000755, 2043956799, 26364757, 3318420185, 2036444599, 643293434],
  [2098677737, 2440664122, 1677346142, 379000755, 4279663719, 26364757, 3318420185, 2036444599],
  [163290297, 2098677737, 2440664122, 1677346142, 1908789822, 4279663719, 26364757, 3318420185],
  [3945756174, 163290297, 2098677737, 2440664122, 3961116639, 1908789822, 4279663719, 26364757],
  [3040267669, 3945756174, 163290297, 2098677737, 638340050, 3961116639, 1908789822, 4279663719],
  [3137910358, 3040267669, 3945756174, 163290297, 3020543387, 638340050, 3961116639, 1908789822],
  [635476967, 3137910358, 3040267669, 3945756174, 901681998, 3020543387, 638340050, 3961116639],
  [3957063051, 635476967, 3137910358, 3040267669, 2377924184, 901681998, 3020543387, 638340050],
  [227965571, 3957063051, 635476967, 3137910358, 2644834879, 2377924184, 901681998, 3020543387],
  [221562717, 227965571, 3957063051, 635476967, 1272087563, 2644834879, 2377924184, 901681998],
  [747550713, 221562717, 227965571, 3957063051, 2585798672, 1272087563, 2644834879, 2377924184],
  [2549787730, 747550713, 221562717, 227965571, 2819261643, 2585798672, 1272087563, 2644834879],
  [2238450593, 2549787730, 747550713, 221562717, 1466466349, 2819261643, 2585798672, 1272087563],
  [2813663076, 2238450593, 2549787730, 747550713, 2726395699, 1466466349, 2819261643, 2585798672],
  [683615070, 2813663076, 2238450593, 2549787730, 2260459784, 2726395699, 1466466349, 2819261643],
  [2182217116, 683615070, 2813663076, 2238450593, 133935358, 2260459784, 2726395699, 1466466349],
  [1679309052, 2182217116, 683615070, 2813663076, 3141070689, 133935358, 2260459784, 2726395699]]
def st2 : List UInt32 := [3954665959, 303310516, 2017914125, 4223294833, 3567048270, 1189102312, 3206616705, 3897722831]
theorem ev1 : blockF (arrOf st1) bs1 = arrOf st2 := blk_eval st1 bs1 ws1 ss1 st2 (by decide +kernel) (by decide +kernel) (by decide +kernel) (by decide +kernel)
def bs2 : List UInt8 := [0, 0, 0, 0, 0, 0, 0, 0, 0, 0, 0, 0, 0, 0, 0, 0, 0, 0, 0, 0, 0, 0, 0, 0, 0, 0, 0, 0, 0, 0, 0, 0, 0, 0, 0, 0, 0, 0, 0, 0, 0, 0, 0, 0, 0, 0, 0, 0, 0, 0, 0, 0, 0, 0, 0, 0, 0, 0, 0, 0, 0, 0, 3, 232]
def ws2 : List UInt32 := [0, 0, 0, 0, 0, 0, 0, 0, 0, 0, 0, 0, 0, 0, 0, 1000, 0, 25755648, 0, 2684379829, 0, 1025795096, 1000, 3196080175, 51511296, 574457988, 3758172192, 1968839227, 3998273634, 1313310312, 25235327, 922534642, 146783129, 3669297841, 134547828, 2995367525, 2729891242, 4067574159, 1139561623, 2960067699, 3971186653, 2846254917, 1636329402, 58652827, 1489214765, 4085185790, 1092894708, 2741863785, 2227880581, 1505516130, 4217670797, 2788258884, 4293443283, 4227420102, 1649944499, 1024957936, 1700663292, 1131468026, 1445111746, 725422080, 3095426344, 1866327094, 1489783981, 42170188]
def ss2 : List (List UInt32) := [[3954665959, 303310516, 2017914125, 4223294833, 3567048270, 1189102312, 3206616705, 3897722831],
  [971851754, 3954665959, 303310516, 2017914125, 1394351946, 3567048270, 1189102312, 3206616705],
  [323553072, 971851754, 3954665959, 303310516, 1269126624, 1394351946, 3567048270, 1189102312],
  [411454344, 323553072, 971851754, 3954665959, 3579776657, 1269126624, 1394351946, 3567048270],
  [2573018440, 411454344, 323553072, 971851754, 670552277, 3579776657, 1269126624, 1394351946],
  [561044326, 2573018440, 411454344, 323553072, 3381295722, 670552277, 3579776657, 1269126624],
  [2282019718, 561044326, 2573018440, 411454344, 4059623828, 3381295722, 670552277, 3579776657],
  [3271516227, 2282019718, 561044326, 2573018440, 3839189918, 4059623828, 3381295722, 670552277],
  [2944550420, 3271516227, 2282019718, 561044326, 3108622134, 3839189918, 4059623828, 3381295722],
  [3091017504, 2944550420, 3271516227, 2282019718, 1019873623, 3108622134, 3839189918, 4059623828],
  [1583301102, 3091017504, 2944550420, 3271516227, 2549001907, 1019873623, 3108622134, 3839189918],
  [3645781043, 1583301102, 3091017504, 2944550420, 4165710170, 2549001907, 1019873623, 3108622134],
  [1342450969, 3645781043, 1583301102, 3091017504, 3087648243, 4165710170, 2549001907, 1019873623],
  [1757152626, 1342450969, 3645781043, 1583301102, 2620072240, 3087648243, 4165710170, 2549001907],
  [2629850666, 1757152626, 1342450969, 3645781043, 1634330055, 2620072240, 3087648243, 4165710170],
  [2913771905, 2629850666, 1757152626, 1342450969, 389707391, 1634330055, 2620072240, 3087648243],
  [870357639, 2913771905, 2629850666, 1757152626, 22576843, 389707391, 1634330055, 2620072240],
  [2481383841, 870357639, 2913771905, 2629850666, 2752952102, 22576843, 389707391, 1634330055],
  [1094794129, 2481383841, 870357639, 2913771905, 2009679146, 2752952102, 22576843, 389707391],
  [3478411928, 1094794129, 2481383841, 870357639, 3773578928, 2009679146, 2752952102, 22576843],
  [125732937, 3478411928, 1094794129, 2481383841, 3248592902, 3773578928, 2009679146, 2752952102],
  [3573926532, 125732937, 3478411928, 1094794129, 669113233, 3248592902, 3773578928, 2009679146],
  [3305714229, 3573926532, 125732937, 3478411928, 3366443363, 669113233, 3248592902, 3773578928],
  [3106422216, 3305714229, 3573926532, 125732937, 4283062923, 3366443363, 669113233, 3248592902],
  [3513839451, 3106422216, 3305714229, 3573926532, 2733463625, 4283062923, 3366443363, 669113233],
  [620294294, 3513839451, 3106422216, 3305714229, 3684080813, 2733463625, 4283062923, 3366443363],
  [3276095990, 620294294, 3513839451, 3106422216, 3901240032, 3684080813, 2733463625, 4283062923],
  [1638643717, 3276095990, 620294294, 3513839451, 2936177309, 3901240032, 3684080813, 2733463625],
  [218733800, 1638643717, 3276095990, 620294294, 1173267667, 2936177309, 3901240032, 3684080813],
  [1634910910, 218733800, 1638643717, 3276095990, 2196794158, 1173267667, 2936177309, 3901240032],
  [2316881770, 1634910910, 218733800, 1638643717, 2777495032, 2196794158, 1173267667, 2936177309],
  [3612452825, 2316881770, 1634910910, 218733800, 1962198976, 2777495032, 2196794158, 1173267667],
  [2351818999, 3612452825, 2316881770, 1634910910, 3361802687, 1962198976, 2777495032, 2196794158],
  [3000923212, 2351818999, 3612452825, 2316881770, 1931641261, 3361802687, 1962198976, 2777495032],
  [2446655685, 3000923212, 2351818999, 3612452825, 2391585319, 1931641261, 3361802687, 1962198976],
  [1884484393, 2446655685, 3000923212, 2351818999, 2154586463, 2391585319, 1931641261, 3361802687],
  [1683785104, 1884484393, 2446655685, 3000923212, 2971689630, 2154586463, 2391585319, 1931641261],
  [2055956826, 1683785104, 1884484393, 2446655685, 1972574740, 2971689630, 2154586463, 2391585319],
  [3990527744, 2055956826, 1683785104, 1884484393, 360732358, 1972574740, 2971689630, 2154586463],
  [308534094, 3990527744, 2055956826, 1683785104, 1825470148, 360732358, 1972574740, 2971689630],
  [65664347, 308534094, 3990527744, 2055956826, 469058077, 1825470148, 360732358, 1972574740],
  [2971364325, 65664347, 308534094, 3990527744, 1506011103, 469058077, 1825470148, 360732358],
  [2126450423, 2971364325, 65664347, 308534094, 4201180610, 1506011103, 469058077, 1825470148],
  [4196646234, 2126450423, 2971364325, 65664347, 2224831730, 4201180610, 1506011103, 469058077],
  [2943261690, 4196646234, 2126450423, 2971364325, 3732081595, 2224831730, 4201180610, 1506011103],
  [2521567464, 2943261690, 4196646234, 2126450423, 2060887452, 3732081595, 2224831730, 4201180610],
  [2635368282, 2521567464, 2943261690, 4196646234, 3402688596, 2060887452, 3732081595, 2224831730],
  [3110191363, 2635368282, 2521567464, 2943261690, 1152141149, 3402688596, 2060887452, 3732081595],
  [3560821652, 3110191363, 2635368282, 2521567464, 2233874585, 1152141149, 3402688596, 2060887452],
  [1250993128, 3560821652, 3110191363, 2635368282, 3837750115, 2233874585, 1152141149, 3402688596],
  [2866960226, 1250993128, 3560821652, 3110191363, 542850535, 3837750115, 2233874585, 1152141149],
  [2117412082, 2866960226, 1250993128, 3560821652, 3556100532, 542850535, 3837750115, 2233874585],
  [2060624574, 2117412082, 2866960226, 1250993128, 2010307843, 3556100532, 542850535, 3837750115],
  [4080861220, 2060624574, 2117412082, 2866960226, 17691977, 2010307843, 3556100532, 542850535],
  [2400859002, 4080861220, 2060624574, 2117412082, 4125040633, 17691977, 2010307843, 3556100532],
  [3629649112, 2400859002, 4080861220, 2060624574, 177467737, 4125040633, 17691977, 2010307843],
  [833049740, 3629649112, 2400859002, 4080861220, 2692633659, 177467737, 4125040633, 17691977],
  [1440959757, 833049740, 3629649112, 2400859002, 2058080122, 2692633659, 177467737, 4125040633],
  [662415792, 1440959757, 833049740, 3629649112, 3029092240, 2058080122, 2692633659, 177467737],
  [3996987374, 662415792, 1440959757, 833049740, 3854097934, 3029092240, 2058080122, 2692633659],
  [3572871194, 3996987374, 662415792, 1440959757, 1859802448, 3854097934, 3029092240, 2058080122],
  [147652598, 3572871194, 3996987374, 662415792, 2500264529, 1859802448, 3854097934, 3029092240],
  [3627510505, 147652598, 3572871194, 3996987374, 3828921058, 2500264529, 1859802448, 3854097934],
  [766829068, 3627510505, 147652598, 3572871194, 1175673503, 3828921058, 2500264529, 1859802448],
  [91908464, 766829068, 3627510505, 147652598, 154585356, 1175673503, 3828921058, 2500264529]]
def st3 : List UInt32 := [4046574423, 1070139584, 1350457334, 75980135, 3721633626, 2364775815, 2740570467, 2103020064]
theorem ev2 : blockF (arrOf st2) bs2 = arrOf st3 := blk_eval st2 bs2 ws2 ss2 st3 (by decide +kernel) (by decide +kernel) (by decide +kernel) (by decide +kernel)
def blk1 : api_Block := { api_Block.zero with Height := 1 }
theorem dig_blk1 : digB blk1 [] = outF (arrOf st3) := by
  have e1 : ([98, 108, 111, 99, 107] ++ blkB blk1 [] : List UInt8) = bs0 ++ bs1.take 61 := by decide +kernel
  have hl : (bs0 ++ bs1.take 61).length = 125 := by decide
  unfold digB shaF
  rw [e1, hl, absorb_app, absorb_full bs0 iv [] (by decide) (by decide)]
  have e2 : iv = arrOf st0 := rfl
  rw [List.nil_append, e2, ev0, absorb_short _ _ _ (by decide)]
  unfold finish
  have e3 : ([] ++ bs1.take 61).length = 61 := by decide
  simp only
  rw [e3, if_pos (by decide)]
  have e4 : ([] ++ bs1.take 61) ++ (128 : UInt8) :: List.replicate (63 - 61) 0 = bs1 := by decide +kernel
  have e5 : List.replicate 56 (0 : UInt8) ++ lenBytes ((125 : Nat) : Int) = bs2 := by decide +kernel
  rw [e4, e5, ev1, ev2]
theorem dig_ne : digB blk1 [] ≠ dz := by
  rw [dig_blk1]
  intro h
  have := congrFun h ⟨0, by decide⟩
  revert this
  decide +kernel
end Go.Proofs.YtimmoekliphobaaDoor
namespace Go.Proofs.YtimmoekliphobaaDoor
open Go Go.Sh
open Go.Sh.Ty (reg)
set_option linter.unusedVariables false
set_option maxRecDepth 100000
set_option maxHeartbeats 4000000
theorem law19_alive.ok (k : Bool → H → Prop) (h : H) (hh : law19_alive.b k h) : CallsH Prog 25 ([] : List Value).toArray h fun v h' => ∃ r : Bool, v = reg r ∧ k r h' := by
  unfold law19_alive.b at hh
  refine CallsH.of 81 Tryd.func25 rfl Tryd.ntmps25 rfl (fun w0 => ?_)
  refine CW.seq ?_
  refine CW.region ?_
  refine .val (v_assign (v := reg (false : Bool)) rfl) rfl ?_
  refine .nil ?_
  refine QN.then_ ?_
  refine CW.seq ?_
  refine CW.region ?_
  refine .val (v_buildT ({ api_Member.zero with Id := (1 : Int) } : api_Member) zo_110 pl_110 rfl (fill_step rfl rfl (len_i _) (len_api_Member _) rfl (set_110_Id _ _) (rfl)) rfl) rfl ?_
  refine mks_elim hh (fun pt5 t5 hpt5 ht5 hh => ?_)
  refine .e (e_mks [(({ api_Member.zero with Id := (1 : Int) } : api_Member) : api_Member)] hpt5 ht5 zo_110 sl_52 rfl rfl rfl rfl rfl ?_)
  refine .val (v_buildT ({ api_Config.zero with Members := t5 } : api_Config) zo_54 pl_54 rfl (fill_step rfl rfl (len_sl _) (len_api_Config _) rfl (set_54_Members _ _) (rfl)) rfl) rfl ?_
  refine .e (e_callP fn_28 rfl rfl hh ?_)
  intro h t7 hh
  refine .val (v_assign (v := reg (t7 : Pt)) rfl) rfl ?_
  refine .nil ?_
  refine QN.then_ ?_
  refine CW.seq ?_
  refine CW.region ?_
  refine .val (v_move (v := reg (t7 : Pt)) rfl) rfl ?_
  refine .e (e_callP fn_32 rfl rfl hh ?_)
  intro h t9 hh
  refine .val (v_assign (v := reg (t9 : Sl)) rfl) rfl ?_
  refine .nil ?_
  refine QN.then_ ?_
  refine CW.seq ?_
  refine CW.join (fun ρ h => ∃ (ρ' : Env) (t26 : Bool), ρ = setl ρ' [(1, reg (t7 : Pt)), (26, reg (t26 : Bool))] ∧ (law19_alive.j1 k) t7 t26 h) ?_ ?_
  · refine CW.region ?_
    refine .val (v_move (v := reg (t9 : Sl)) rfl) rfl ?_
    refine .val (v_len_sl (sl_68).1 rfl) rfl ?_
    refine .val (v_ineq rfl rfl) rfl ?_
    refine .val (v_move (v := reg (((t9.len : Int) != (1 : Int)) : Bool)) rfl) rfl ?_
    refine ifb_cases hh (fun hb hh => ?_) (fun hb hh => ?_)
    · refine .no 13 rfl (congrArg Value.bool hb) rfl rfl ?_
      refine .no 13 rfl (congrArg Value.bool hb) rfl rfl ?_
      refine .no 13 rfl (congrArg Value.bool hb) rfl rfl ?_
      refine .no 13 rfl (congrArg Value.bool hb) rfl rfl ?_
      refine .no 13 rfl (congrArg Value.bool hb) rfl rfl ?_
      refine .val (v_pickT (v := reg (true : Bool)) rfl hb rfl) rfl ?_
      refine .val (v_move (v := reg (true : Bool)) rfl) rfl ?_
      refine .no 20 rfl rfl rfl rfl ?_
      refine .no 20 rfl rfl rfl rfl ?_
      refine .no 20 rfl rfl rfl rfl ?_
      refine .no 20 rfl rfl rfl rfl ?_
      refine .no 20 rfl rfl rfl rfl ?_
      refine .val (v_pickT (v := reg (true : Bool)) rfl rfl rfl) rfl ?_
      refine .nil ?_
      exact QN.thenJ ⟨_, true, setl_eq ⟨rfl, ⟨rfl, trivial⟩⟩, hh⟩
    · refine .yv 13 rfl (congrArg Value.bool hb) rfl (v_move (v := reg (t9 : Sl)) rfl) rfl ?_
      obtain ⟨t15, ht15, hh⟩ := hh
      refine .yv 13 rfl (congrArg Value.bool hb) rfl (v_idx_slP sl_68 rfl rfl ht15.1 ht15.2.1 ht15.2.2) rfl ?_
      refine .yv 13 rfl (congrArg Value.bool hb) rfl (v_fieldAddr fl_80_0 rfl) rfl ?_
      obtain ⟨t17, ⟨xt17, hxt17, hgt17⟩, hh⟩ := hh
      refine .yv 13 rfl (congrArg Value.bool hb) rfl (v_ld1 (p := t15) 0 na_3 rfl hxt17 hgt17 get_80_Act) rfl ?_
      refine .yv 13 rfl (congrArg Value.bool hb) rfl (v_ineq rfl rfl) rfl ?_
      refine .val (v_pickF (v := reg ((t17 != (1 : Int)) : Bool)) rfl hb rfl) rfl ?_
      refine .val (v_move (v := reg ((t17 != (1 : Int)) : Bool)) rfl) rfl ?_
      refine ifb_cases hh (fun hb_1 hh => ?_) (fun hb_1 hh => ?_)
      · refine .no 20 rfl (congrArg Value.bool hb_1) rfl rfl ?_
        refine .no 20 rfl (congrArg Value.bool hb_1) rfl rfl ?_
        refine .no 20 rfl (congrArg Value.bool hb_1) rfl rfl ?_
        refine .no 20 rfl (congrArg Value.bool hb_1) rfl rfl ?_
        refine .no 20 rfl (congrArg Value.bool hb_1) rfl rfl ?_
        refine .val (v_pickT (v := reg (true : Bool)) rfl hb_1 rfl) rfl ?_
        refine .nil ?_
        exact QN.thenJ ⟨_, true, setl_eq ⟨rfl, ⟨rfl, trivial⟩⟩, hh⟩
      · refine .yv 20 rfl (congrArg Value.bool hb_1) rfl (v_move (v := reg (t9 : Sl)) rfl) rfl ?_
        obtain ⟨t22, ht22, hh⟩ := hh
        refine .yv 20 rfl (congrArg Value.bool hb_1) rfl (v_idx_slP sl_68 rfl rfl ht22.1 ht22.2.1 ht22.2.2) rfl ?_
        refine .yv 20 rfl (congrArg Value.bool hb_1) rfl (v_fieldAddr fl_80_4 rfl) rfl ?_
        obtain ⟨t24, ⟨xt24, hxt24, hgt24⟩, hh⟩ := hh
        refine .yv 20 rfl (congrArg Value.bool hb_1) rfl (v_ld1 (p := t22) 35 na_3 rfl hxt24 hgt24 get_80_Valid) rfl ?_
        refine .yv 20 rfl (congrArg Value.bool hb_1) rfl (v_ineq rfl rfl) rfl ?_
        refine .val (v_pickF (v := reg ((t24 != (-1 : Int)) : Bool)) rfl hb_1 rfl) rfl ?_
        refine .nil ?_
        exact QN.thenJ ⟨_, (t24 != (-1 : Int)), setl_eq ⟨rfl, ⟨rfl, trivial⟩⟩, hh⟩
  · rintro ρ h ⟨ρ', t26, rfl, hh⟩
    unfold law19_alive.j1 at hh
    refine CW.cond t26 rfl (fun hb_2 => ?_) (fun hb_2 => ?_)
    · have hh := hh.1 hb_2
      refine CW.seq ?_
      refine CW.region ?_
      refine .val (v_assign (v := reg (false : Bool)) rfl) rfl ?_
      refine .nil ?_
      refine QN.then_ ?_
      refine CW.ret ?_
      refine QN.thenRet ?_
      exact ret1 rfl rfl ⟨(false : Bool), rfl, hh⟩
    · have hh := hh.2 hb_2
      refine CW.skip ?_
      refine QN.then_ ?_
      refine CW.seq ?_
      refine CW.region ?_
      refine .val (v_buildT ({ api_Block.zero with Height := (1 : Int) } : api_Block) zo_75 pl_75 rfl (fill_step rfl rfl (len_i _) (len_api_Block _) rfl (set_75_Height _ _) (rfl)) rfl) rfl ?_
      refine box_elim hh (fun b hb hh => ?_)
      refine .e (e_allocP hb zo_75 rfl ?_)
      obtain ⟨xw, hxw, hwxw, hh⟩ := hh
      refine .e (e_storeN (p := b) (nv := enc (({ api_Block.zero with Height := (1 : Int) } : api_Block) : api_Block)) 0 rfl rfl rfl sz_75 (one_api_Block _) hxw hwxw (len_api_Block _) (len_api_Block _) rfl (set_75_all xw (({ api_Block.zero with Height := (1 : Int) } : api_Block) : api_Block)) ?_)
      refine .nil ?_
      refine QN.then_ ?_
      refine CW.seq ?_
      refine CW.region ?_
      refine .val (v_move (v := reg (t7 : Pt)) rfl) rfl ?_
      obtain ⟨t29, ⟨xt29, hxt29, hgt29⟩, hh⟩ := hh
      refine .val (v_ldA (p := b) 0 ag_75 rfl hxt29 hgt29 get_75_all (fun _ => (len_api_Block _)) (fun _ => rfl)) rfl ?_
      refine .val (v_buildT ({ api_Plan.zero with Height := (1 : Int), Valid := (-1 : Int), Block := t29, From := (1 : Int) } : api_Plan) zo_77 pl_77 rfl (fill_step rfl rfl (len_i _) (len_api_Plan _) rfl (set_77_Height _ _) (fill_step rfl rfl (len_i _) (len_api_Plan _) rfl (set_77_Valid _ _) (fill_step rfl rfl (len_api_Block _) (len_api_Plan _) rfl (set_77_Block _ _) (fill_step rfl rfl (len_i _) (len_api_Plan _) rfl (set_77_From _ _) (rfl))))) rfl) rfl ?_
      refine .e (e_callP fn_38 rfl rfl hh ?_)
      intro h t31 hh
      refine .val (v_assign (v := reg (t31 : Sl)) rfl) rfl ?_
      refine .nil ?_
      refine QN.then_ ?_
      refine CW.seq ?_
      refine CW.join (fun ρ h => ∃ (ρ' : Env) (t50 : Bool), ρ = setl ρ' [(1, reg (t7 : Pt)), (3, .pointer (some b)), (50, reg (t50 : Bool))] ∧ (law19_alive.j2 k) t7 b t50 h) ?_ ?_
      · refine CW.drawN 19 rfl follows_mixed [0, 1, 2, 3, 4, 5, 6, 7, 8, 9, 10, 11, 12, 13, 14, 15, 17, 18] ?_
        refine .p 0 rfl (by kernel_rfl) (NoPanic.then_ (NoPanic.then_ (NoPanic.body))) (fun _ => v_move (v := reg (t31 : Sl)) rfl) ?_
        refine .p 1 rfl (by kernel_rfl) (NoPanic.then_ (NoPanic.then_ (NoPanic.body))) (fun _ => v_len_sl (sl_68).1 rfl) ?_
        refine .p 2 rfl (by kernel_rfl) (NoPanic.then_ (NoPanic.then_ (NoPanic.body))) (fun _ => v_ineq rfl rfl) ?_
        refine .p 3 rfl (by kernel_rfl) (NoPanic.then_ (NoPanic.then_ (NoPanic.body))) (fun _ => v_move (v := reg (((t31.len : Int) != (1 : Int)) : Bool)) rfl) ?_
        refine ifb_cases hh (fun hb_3 hh => ?_) (fun hb_3 hh => ?_)
        · refine .no' 4 35 rfl rfl (congrArg Value.bool hb_3) rfl (by kernel_rfl) (NoPanic.then_ (NoPanic.then_ (NoPanic.body))) ?_
          refine .no' 5 35 rfl rfl (congrArg Value.bool hb_3) rfl (by kernel_rfl) (NoPanic.then_ (NoPanic.then_ (NoPanic.body))) ?_
          refine .no' 6 35 rfl rfl (congrArg Value.bool hb_3) rfl (by kernel_rfl) (NoPanic.then_ (NoPanic.then_ (NoPanic.body))) ?_
          refine .no' 7 35 rfl rfl (congrArg Value.bool hb_3) rfl (by kernel_rfl) (NoPanic.then_ (NoPanic.then_ (NoPanic.body))) ?_
          refine .no' 8 35 rfl rfl (congrArg Value.bool hb_3) rfl (by kernel_rfl) (NoPanic.then_ (NoPanic.then_ (NoPanic.body))) ?_
          refine .p 9 rfl (by kernel_rfl) (NoPanic.then_ (NoPanic.then_ (NoPanic.body))) (fun _ => v_pickT (v := reg (true : Bool)) rfl hb_3 rfl) ?_
          refine .p 10 rfl (by kernel_rfl) (NoPanic.then_ (NoPanic.then_ (NoPanic.body))) (fun _ => v_move (v := reg (true : Bool)) rfl) ?_
          refine .no' 11 42 rfl rfl rfl rfl (by kernel_rfl) (NoPanic.then_ (NoPanic.then_ (NoPanic.body))) ?_
          refine .no' 12 42 rfl rfl rfl rfl (by kernel_rfl) (NoPanic.then_ (NoPanic.then_ (NoPanic.body))) ?_
          refine .no' 13 42 rfl rfl rfl rfl (by kernel_rfl) (NoPanic.then_ (NoPanic.then_ (NoPanic.body))) ?_
          refine .no' 14 42 rfl rfl rfl rfl (by kernel_rfl) (NoPanic.then_ (NoPanic.then_ (NoPanic.body))) ?_
          refine .no' 15 42 rfl rfl rfl rfl (by kernel_rfl) (NoPanic.then_ (NoPanic.then_ (NoPanic.body))) ?_
          refine .w 16 (by kernel_rfl) rfl (by kernel_rfl) (.no 42 rfl rfl rfl rfl ⟨trivial, ?_⟩)
          refine .no' 17 42 rfl rfl rfl rfl (by kernel_rfl) (NoPanic.then_ (NoPanic.then_ (NoPanic.body))) ?_
          refine .p 18 rfl (by kernel_rfl) (NoPanic.then_ (NoPanic.then_ (NoPanic.body))) (fun _ => v_pickT (v := reg (true : Bool)) rfl rfl rfl) ?_
          refine .done (by kernel_rfl) ?_
          exact QN.thenJ ⟨_, true, setl_eq ⟨rfl, ⟨rfl, ⟨rfl, trivial⟩⟩⟩, hh⟩
        · refine .yp 4 35 rfl rfl (congrArg Value.bool hb_3) rfl (by kernel_rfl) (NoPanic.then_ (NoPanic.then_ (NoPanic.body))) (fun _ => v_move (v := reg (t31 : Sl)) rfl) ?_
          obtain ⟨t37, ht37, hh⟩ := hh
          refine .yp 5 35 rfl rfl (congrArg Value.bool hb_3) rfl (by kernel_rfl) (NoPanic.then_ (NoPanic.then_ (NoPanic.body))) (fun _ => v_idx_slP sl_68 rfl rfl ht37.1 ht37.2.1 ht37.2.2) ?_
          refine .yp 6 35 rfl rfl (congrArg Value.bool hb_3) rfl (by kernel_rfl) (NoPanic.then_ (NoPanic.then_ (NoPanic.body))) (fun _ => v_fieldAddr fl_80_0 rfl) ?_
          obtain ⟨t39, ⟨xt39, hxt39, hgt39⟩, hh⟩ := hh
          refine .yr 7 35 (fun h' => ∃ x : api_Act, AtH h' t37 (enc x) ∧ ((fun (x : api_Act) => x.Act) : api_Act → Int) x = t39) rfl rfl (congrArg Value.bool hb_3) rfl (by kernel_rfl) (NoPanic.then_ (NoPanic.then_ (NoPanic.body))) ⟨xt39, hxt39, hgt39⟩ (fun h' hS => hS.elim fun _ hS => v_ld1 (p := t37) 0 na_3 rfl hS.1 hS.2 get_80_Act) ?_
          refine .yp 8 35 rfl rfl (congrArg Value.bool hb_3) rfl (by kernel_rfl) (NoPanic.then_ (NoPanic.then_ (NoPanic.body))) (fun _ => v_ineq rfl rfl) ?_
          refine .p 9 rfl (by kernel_rfl) (NoPanic.then_ (NoPanic.then_ (NoPanic.body))) (fun _ => v_pickF (v := reg ((t39 != (2 : Int)) : Bool)) rfl hb_3 rfl) ?_
          refine .p 10 rfl (by kernel_rfl) (NoPanic.then_ (NoPanic.then_ (NoPanic.body))) (fun _ => v_move (v := reg ((t39 != (2 : Int)) : Bool)) rfl) ?_
          refine ifb_cases hh (fun hb_4 hh => ?_) (fun hb_4 hh => ?_)
          · refine .no' 11 42 rfl rfl (congrArg Value.bool hb_4) rfl (by kernel_rfl) (NoPanic.then_ (NoPanic.then_ (NoPanic.body))) ?_
            refine .no' 12 42 rfl rfl (congrArg Value.bool hb_4) rfl (by kernel_rfl) (NoPanic.then_ (NoPanic.then_ (NoPanic.body))) ?_
            refine .no' 13 42 rfl rfl (congrArg Value.bool hb_4) rfl (by kernel_rfl) (NoPanic.then_ (NoPanic.then_ (NoPanic.body))) ?_
            refine .no' 14 42 rfl rfl (congrArg Value.bool hb_4) rfl (by kernel_rfl) (NoPanic.then_ (NoPanic.then_ (NoPanic.body))) ?_
            refine .no' 15 42 rfl rfl (congrArg Value.bool hb_4) rfl (by kernel_rfl) (NoPanic.then_ (NoPanic.then_ (NoPanic.body))) ?_
            refine .w 16 (by kernel_rfl) rfl (by kernel_rfl) (.no 42 rfl (congrArg Value.bool hb_4) rfl rfl ⟨⟨trivial, .inl (by kernel_rfl)⟩, ?_⟩)
            refine .no' 17 42 rfl rfl (congrArg Value.bool hb_4) rfl (by kernel_rfl) (NoPanic.then_ (NoPanic.then_ (NoPanic.body))) ?_
            refine .p 18 rfl (by kernel_rfl) (NoPanic.then_ (NoPanic.then_ (NoPanic.body))) (fun _ => v_pickT (v := reg (true : Bool)) rfl hb_4 rfl) ?_
            refine .done (by kernel_rfl) ?_
            exact QN.thenJ ⟨_, true, setl_eq ⟨rfl, ⟨rfl, ⟨rfl, trivial⟩⟩⟩, hh⟩
          · refine .yp 11 42 rfl rfl (congrArg Value.bool hb_4) rfl (by kernel_rfl) (NoPanic.then_ (NoPanic.then_ (NoPanic.body))) (fun _ => v_move (v := reg (t31 : Sl)) rfl) ?_
            obtain ⟨t44, ht44, hh⟩ := hh
            refine .yp 12 42 rfl rfl (congrArg Value.bool hb_4) rfl (by kernel_rfl) (NoPanic.then_ (NoPanic.then_ (NoPanic.body))) (fun _ => v_idx_slP sl_68 rfl rfl ht44.1 ht44.2.1 ht44.2.2) ?_
            refine .yp 13 42 rfl rfl (congrArg Value.bool hb_4) rfl (by kernel_rfl) (NoPanic.then_ (NoPanic.then_ (NoPanic.body))) (fun _ => v_fieldAddr fl_80_3 rfl) ?_
            obtain ⟨t46, ⟨xt46, hxt46, hgt46⟩, hh⟩ := hh
            refine .yr 14 42 (fun h' => ∃ x : api_Act, AtH h' t44 (enc x) ∧ ((fun (x : api_Act) => x.Digest) : api_Act → Arr 32 UInt8) x = t46) rfl rfl (congrArg Value.bool hb_4) rfl (by kernel_rfl) (NoPanic.then_ (NoPanic.then_ (NoPanic.body))) ⟨xt46, hxt46, hgt46⟩ (fun h' hS => hS.elim fun _ hS => v_ldA (p := t44) 3 ag_24 rfl hS.1 hS.2 get_80_Digest (fun _ => (arr_len (n := 32) _)) (fun _ => rfl)) ?_
            obtain ⟨t47, ⟨xt47, hxt47, hgt47⟩, hh⟩ := hh
            refine .yr 15 42 (fun h' => ∃ x : api_Block, AtH h' b (enc x) ∧ ((fun (x : api_Block) => x) : api_Block → api_Block) x = t47) rfl rfl (congrArg Value.bool hb_4) rfl (by kernel_rfl) (NoPanic.then_ (NoPanic.then_ (NoPanic.body))) ⟨xt47, hxt47, hgt47⟩ (fun h' hS => hS.elim fun _ hS => v_ldA (p := b) 0 ag_75 rfl hS.1 hS.2 get_75_all (fun _ => (len_api_Block _)) (fun _ => rfl)) ?_
            refine .w 16 (by kernel_rfl) rfl (by kernel_rfl) (.ye 42 rfl (congrArg Value.bool hb_4) rfl (e_callP fn_34 rfl rfl hh ?_))
            intro h t48 hh
            obtain ⟨hc, hh⟩ := hh
            refine ⟨⟨⟨⟨trivial, .inl (by kernel_rfl)⟩, .inr hc⟩, .inl (by kernel_rfl)⟩, ?_⟩
            refine .yp 17 42 rfl rfl (congrArg Value.bool hb_4) rfl (by kernel_rfl) (NoPanic.then_ (NoPanic.then_ (NoPanic.body))) (fun _ => v_ne_arr8 bt_24 rfl rfl) ?_
            refine .p 18 rfl (by kernel_rfl) (NoPanic.then_ (NoPanic.then_ (NoPanic.body))) (fun _ => v_pickF (v := reg ((!decide (t46 = t48)) : Bool)) rfl hb_4 rfl) ?_
            refine .done (by kernel_rfl) ?_
            exact QN.thenJ ⟨_, (!decide (t46 = t48)), setl_eq ⟨rfl, ⟨rfl, ⟨rfl, trivial⟩⟩⟩, hh⟩
      · rintro ρ h ⟨ρ', t50, rfl, hh⟩
        unfold law19_alive.j2 at hh
        refine CW.cond t50 rfl (fun hb_5 => ?_) (fun hb_5 => ?_)
        · have hh := hh.1 hb_5
          refine CW.seq ?_
          refine CW.region ?_
          refine .val (v_assign (v := reg (false : Bool)) rfl) rfl ?_
          refine .nil ?_
          refine QN.then_ ?_
          refine CW.ret ?_
          refine QN.thenRet ?_
          exact ret1 rfl rfl ⟨(false : Bool), rfl, hh⟩
        · have hh := hh.2 hb_5
          refine CW.skip ?_
          refine QN.then_ ?_
          refine CW.seq ?_
          refine CW.region ?_
          refine .val (v_move (v := reg (t7 : Pt)) rfl) rfl ?_
          obtain ⟨t52, ⟨xt52, hxt52, hgt52⟩, hh⟩ := hh
          refine .val (v_ldA (p := b) 0 ag_75 rfl hxt52 hgt52 get_75_all (fun _ => (len_api_Block _)) (fun _ => rfl)) rfl ?_
          refine .e (e_callP fn_34 rfl rfl hh ?_)
          intro h t53 hh
          refine .val (v_buildT ({ api_Vote.zero with Kind := (1 : Int), Height := (1 : Int), Digest := t53, From := (1 : Int) } : api_Vote) zo_37 pl_37 rfl (fill_step rfl rfl (len_i _) (len_api_Vote _) rfl (set_37_Kind _ _) (fill_step rfl rfl (len_i _) (len_api_Vote _) rfl (set_37_Height _ _) (fill_step rfl rfl (len_i _) (len_api_Vote _) rfl (set_37_From _ _) (fill_step rfl rfl (arr_len (n := 32) _) (len_api_Vote _) rfl (set_37_Digest _ _) (rfl))))) rfl) rfl ?_
          refine .e (e_callP fn_39 rfl rfl hh ?_)
          intro h t55 hh
          refine .val (v_assign (v := reg (t55 : Sl)) rfl) rfl ?_
          refine .nil ?_
          refine QN.then_ ?_
          refine CW.seq ?_
          refine CW.join (fun ρ h => ∃ (ρ' : Env) (t65 : Bool), ρ = setl ρ' [(1, reg (t7 : Pt)), (3, .pointer (some b)), (65, reg (t65 : Bool))] ∧ (law19_alive.j3 k) t7 b t65 h) ?_ ?_
          · refine CW.region ?_
            refine .val (v_move (v := reg (t55 : Sl)) rfl) rfl ?_
            refine .val (v_len_sl (sl_68).1 rfl) rfl ?_
            refine .val (v_ineq rfl rfl) rfl ?_
            refine .val (v_move (v := reg (((t55.len : Int) != (1 : Int)) : Bool)) rfl) rfl ?_
            refine ifb_cases hh (fun hb_6 hh => ?_) (fun hb_6 hh => ?_)
            · refine .no 59 rfl (congrArg Value.bool hb_6) rfl rfl ?_
              refine .no 59 rfl (congrArg Value.bool hb_6) rfl rfl ?_
              refine .no 59 rfl (congrArg Value.bool hb_6) rfl rfl ?_
              refine .no 59 rfl (congrArg Value.bool hb_6) rfl rfl ?_
              refine .no 59 rfl (congrArg Value.bool hb_6) rfl rfl ?_
              refine .val (v_pickT (v := reg (true : Bool)) rfl hb_6 rfl) rfl ?_
              refine .nil ?_
              exact QN.thenJ ⟨_, true, setl_eq ⟨rfl, ⟨rfl, ⟨rfl, trivial⟩⟩⟩, hh⟩
            · refine .yv 59 rfl (congrArg Value.bool hb_6) rfl (v_move (v := reg (t55 : Sl)) rfl) rfl ?_
              obtain ⟨t61, ht61, hh⟩ := hh
              refine .yv 59 rfl (congrArg Value.bool hb_6) rfl (v_idx_slP sl_68 rfl rfl ht61.1 ht61.2.1 ht61.2.2) rfl ?_
              refine .yv 59 rfl (congrArg Value.bool hb_6) rfl (v_fieldAddr fl_80_2 rfl) rfl ?_
              obtain ⟨t63, ⟨xt63, hxt63, hgt63⟩, hh⟩ := hh
              refine .yv 59 rfl (congrArg Value.bool hb_6) rfl (v_ld1 (p := t61) 2 na_3 rfl hxt63 hgt63 get_80_Kind) rfl ?_
              refine .yv 59 rfl (congrArg Value.bool hb_6) rfl (v_ineq rfl rfl) rfl ?_
              refine .val (v_pickF (v := reg ((t63 != (2 : Int)) : Bool)) rfl hb_6 rfl) rfl ?_
              refine .nil ?_
              exact QN.thenJ ⟨_, (t63 != (2 : Int)), setl_eq ⟨rfl, ⟨rfl, ⟨rfl, trivial⟩⟩⟩, hh⟩
          · rintro ρ h ⟨ρ', t65, rfl, hh⟩
            unfold law19_alive.j3 at hh
            refine CW.cond t65 rfl (fun hb_7 => ?_) (fun hb_7 => ?_)
            · have hh := hh.1 hb_7
              refine CW.seq ?_
              refine CW.region ?_
              refine .val (v_assign (v := reg (false : Bool)) rfl) rfl ?_
              refine .nil ?_
              refine QN.then_ ?_
              refine CW.ret ?_
              refine QN.thenRet ?_
              exact ret1 rfl rfl ⟨(false : Bool), rfl, hh⟩
            · have hh := hh.2 hb_7
              refine CW.skip ?_
              refine QN.then_ ?_
              refine CW.seq ?_
              refine CW.region ?_
              refine .val (v_move (v := reg (t7 : Pt)) rfl) rfl ?_
              obtain ⟨t67, ⟨xt67, hxt67, hgt67⟩, hh⟩ := hh
              refine .val (v_ldA (p := b) 0 ag_75 rfl hxt67 hgt67 get_75_all (fun _ => (len_api_Block _)) (fun _ => rfl)) rfl ?_
              refine .e (e_callP fn_34 rfl rfl hh ?_)
              intro h t68 hh
              refine .val (v_buildT ({ api_Vote.zero with Kind := (2 : Int), Height := (1 : Int), Digest := t68, From := (1 : Int) } : api_Vote) zo_37 pl_37 rfl (fill_step rfl rfl (len_i _) (len_api_Vote _) rfl (set_37_Kind _ _) (fill_step rfl rfl (len_i _) (len_api_Vote _) rfl (set_37_Height _ _) (fill_step rfl rfl (len_i _) (len_api_Vote _) rfl (set_37_From _ _) (fill_step rfl rfl (arr_len (n := 32) _) (len_api_Vote _) rfl (set_37_Digest _ _) (rfl))))) rfl) rfl ?_
              refine .e (e_callP fn_39 rfl rfl hh ?_)
              intro h t70 hh
              refine .val (v_assign (v := reg (t70 : Sl)) rfl) rfl ?_
              refine .nil ?_
              refine QN.then_ ?_
              refine CW.join (fun ρ h => ∃ (ρ' : Env) (t0 : Bool), ρ = setl ρ' [(0, reg (t0 : Bool))] ∧ (law19_alive.j4 k) t0 h) ?_ ?_
              · refine CW.region ?_
                refine .val (v_move (v := reg (t70 : Sl)) rfl) rfl ?_
                refine .val (v_len_sl (sl_68).1 rfl) rfl ?_
                refine .val (v_ieql rfl rfl) rfl ?_
                refine .val (v_move (v := reg (((t70.len : Int) == (1 : Int)) : Bool)) rfl) rfl ?_
                refine ifb_cases hh (fun hb_8 hh => ?_) (fun hb_8 hh => ?_)
                · refine .yv 74 rfl (congrArg Value.bool hb_8) rfl (v_move (v := reg (t70 : Sl)) rfl) rfl ?_
                  obtain ⟨t76, ht76, hh⟩ := hh
                  refine .yv 74 rfl (congrArg Value.bool hb_8) rfl (v_idx_slP sl_68 rfl rfl ht76.1 ht76.2.1 ht76.2.2) rfl ?_
                  refine .yv 74 rfl (congrArg Value.bool hb_8) rfl (v_fieldAddr fl_80_0 rfl) rfl ?_
                  obtain ⟨t78, ⟨xt78, hxt78, hgt78⟩, hh⟩ := hh
                  refine .yv 74 rfl (congrArg Value.bool hb_8) rfl (v_ld1 (p := t76) 0 na_3 rfl hxt78 hgt78 get_80_Act) rfl ?_
                  refine .yv 74 rfl (congrArg Value.bool hb_8) rfl (v_ieql rfl rfl) rfl ?_
                  refine .val (v_pickT (v := reg ((t78 == (3 : Int)) : Bool)) rfl hb_8 rfl) rfl ?_
                  refine .val (v_assign (v := reg ((t78 == (3 : Int)) : Bool)) rfl) rfl ?_
                  refine .nil ?_
                  exact QN.thenJ ⟨_, (t78 == (3 : Int)), setl_eq ⟨rfl, trivial⟩, hh⟩
                · refine .no 74 rfl (congrArg Value.bool hb_8) rfl rfl ?_
                  refine .no 74 rfl (congrArg Value.bool hb_8) rfl rfl ?_
                  refine .no 74 rfl (congrArg Value.bool hb_8) rfl rfl ?_
                  refine .no 74 rfl (congrArg Value.bool hb_8) rfl rfl ?_
                  refine .no 74 rfl (congrArg Value.bool hb_8) rfl rfl ?_
                  refine .val (v_pickF (v := reg (false : Bool)) rfl hb_8 rfl) rfl ?_
                  refine .val (v_assign (v := reg (false : Bool)) rfl) rfl ?_
                  refine .nil ?_
                  exact QN.thenJ ⟨_, false, setl_eq ⟨rfl, trivial⟩, hh⟩
              · rintro ρ h ⟨ρ', t0, rfl, hh⟩
                unfold law19_alive.j4 at hh
                refine CW.ret ?_
                exact ret1 rfl rfl ⟨(t0 : Bool), rfl, hh⟩
end Go.Proofs.YtimmoekliphobaaDoor
namespace Go.Proofs.YtimmoekliphobaaDoor
open Go Go.Sh
open Go.Sh.Ty (reg)
set_option linter.unusedVariables false
set_option maxRecDepth 100000

def m1 : api_Member := { api_Member.zero with Id := 1 }
def plan1 : api_Plan := { api_Plan.zero with Height := 1, Valid := -1, Block := blk1, From := 1 }
def plan1r (r : Sl) : api_Plan := { plan1 with Block := { blk1 with Requests := r } }
def vote1 (kd : Int) : api_Vote := { api_Vote.zero with Kind := kd, Height := 1, Digest := digB blk1 [], From := 1 }
theorem outSV {h0 h : H} {S : List Nat} {L : List En} {c : CS} (hs : Sat h0 S h (core (clrC c) ++ (hand c ++ L))) : SV 135 h c.x.out (c.acts.map (·.1)) := hs.ownSV 8 rfl len_api_Act
theorem voteC_new {c : CS} {v : api_Vote} (h : mfind c.vts (placeOf v) = none) : voteC c v = { c with vts := mins c.vts (placeOf v) v } := if_pos h
set_option maxHeartbeats 1000000 in
theorem alive19_spec {k : Bool → H → Prop} {h : H} (hT : Tb h) (hk : ∀ h', Ext h h' → k true h') : law19_alive.b k h := by
  unfold law19_alive.b
  refine (Sat.init h).mks_ (n := 34) (fun t5 h1 hs1 _ _ => ?_)
  have hp1 : Plc 1 0 := by unfold Plc; omega
  refine New_spec19 { api_Config.zero with Members := t5 } [m1] 1 1 1 (by unfold I64; omega) hs1 (SV.z (hs1.ownSV 0 rfl len_api_Member)) (fun h2 hf _ => ?_) (fun c mm h2 hg hF hs2 => ?_)
  · exact absurd hf (show ¬ (goodC 0 [m1] && decide ((1 : Int) ≤ 1 ∧ (1 : Int) ≤ 1024)) = false by decide)
  have hc : Cok c := hF.ok (show goodC 0 [m1] = true by decide) hp1
  obtain ⟨fx, f1, f2, f3, f4, f5, f6, f7, f8, f9, f10, f11⟩ := hF
  have hmu := mu_ub hc
  refine Start_spec c hT (by simp) hc (by rw [f8]; simp; omega) hs2 (fun hd => by rw [fx] at hd; cases hd) (fun c1 c' h3 hd hst hmv hs3 => ?_)
  have hmem : isMem c = true := by unfold isMem; rw [f9, fx]; rfl
  have hid : ∀ a b, idAt c a b = 1 := by
    intro a b; unfold idAt; rw [f9]
    have : ((a + b) % ([m1] : List api_Member).length).toNat = 0 := by simp [Int.emod_one]
    rw [this]; rfl
  have hme : c.x.me = 1 := by rw [fx]
  obtain ⟨r, o, rfl⟩ : ∃ r o, c1 = enterC c 0 r o := by
    rcases hst with ⟨_, r, o, e⟩ | ⟨hne, _⟩
    · exact ⟨r, o, e⟩
    · exact absurd (show c.x.step = 0 by rw [fx]; rfl) hne
  obtain ⟨a, KA, out, he, ha⟩ := enterC_eq c 0 r o
  have hc1 : Cok (enterC c 0 r o) := (hc.enter (by rw [f8]; decide) (by decide) r o).1
  have hq : c' = enterC c 0 r o := mvs_quiet hmv (by rw [he]; exact Int.le_refl _) (by rw [he]; exact f3) (by rw [he]; exact f4)
  subst hq
  rw [f8, hmem, hid, hme] at ha
  simp only [List.nil_append, beq_self_eq_true, Bool.and_self, if_true] at ha
  rw [he] at hs3 hc1 ⊢
  clear he hmv
  have hsv := outSV hs3
  simp only at hsv
  rw [ha] at hsv
  refine ifb_i (fun hb => ?_) (fun _ => ?_)
  · have := hsv.2.1
    simp only [List.map_cons, List.map_nil, List.length_cons, List.length_nil] at this
    simp only at hb
    rw [this] at hb; simp at hb
  refine sidx_ld len_api_Act hsv (by decide) (j := 0) rfl ?_
  refine ifb_i (fun hb => by simp at hb) (fun _ => ?_)
  refine sidx_ld len_api_Act hsv (by decide) (j := 0) rfl ?_
  have hvr : c.x.valid.round = -1 := by rw [fx]
  unfold law19_alive.j1
  refine ifb_i (fun hb => by simp only [hvr] at hb; simp at hb) (fun _ => ?_)
  -- the plan
  generalize hcc : clrC { rdC c 0 with acts := a, KA := KA, x := { (rdC c 0).x with out := out } } = c2 at hs3
  have hc2 : Cok c2 := by rw [← hcc]; exact hc1.clr
  have g : c2.p = c.p ∧ c2.ms = [m1] ∧ c2.x.me = 1 ∧ c2.ht = 1 ∧ c2.rd = 0 ∧ c2.vts = [] ∧ c2.pl = [] ∧ c2.bl = [] ∧ c2.x.step = 1 ∧ c2.x.decided = false ∧ c2.x.locked.round = -1 ∧ c2.acts = [] := by
    rw [← hcc]; exact ⟨rfl, f9, hme, f1, rfl, f3, f4, f5, rfl, hd, by show c.x.locked.round = -1; rw [fx], rfl⟩
  obtain ⟨g0, g1, g2, g3, g4, g5, g6, g7, g8, g9, g10, g11⟩ := g
  have gmem : ∀ c3 : CS, c3.ms = [m1] → c3.x.me = 1 → isMem c3 = true := by intro c3 e1 e2; unfold isMem; rw [e1, e2]; rfl
  have gquo : ∀ c3 : CS, c3.ms = [m1] → quoN c3.ms.length = 1 := by intro c3 e1; rw [e1]; rfl
  refine hs3.box_ (fun b h4 hs4 _ _ => ?_)
  refine hs4.st_ 0 rfl len_api_Block (fun h5 hs5 _ => ?_)
  refine hs5.ld_ 0 rfl ?_
  have hs6 : Sat h [] h5 (core c2 ++ [cel 75 b (enc blk1)]) := hs5.sel 12 [1, 2, 3, 4, 5, 6, 7, 8, 0] (by decide) (by decide)
  clear hs1 hs2 hs3 hs4 hs5
  have hcp : (some c.p : Pt) = some c2.p := by rw [g0]
  rw [hcp]
  have hmu2 := mu_ub hc2
  refine Plan_spec c2 plan1 [] hT (by simp) hc2 (by decide) (by decide) (by rw [g11]; decide) hs6 ⟨rfl, fun hne => absurd rfl hne⟩ (fun h6 hx _ => ?_) (fun r2 c3 h6 _ _ hmv hs7 => ?_)
  · rcases hx with hx | hx
    · rw [g9] at hx; cases hx
    · rw [g3] at hx; exact absurd rfl hx
  have hnone : mfind c2.pl plan1.Round = none := by rw [g6]; rfl
  have hid2 : idAt c2 c2.ht plan1.Round = plan1.From := by
    unfold idAt; rw [g1]
    have : ((c2.ht + plan1.Round) % ([m1] : List api_Member).length).toNat = 0 := by simp [Int.emod_one]
    rw [this]; rfl
  have hpc : planC c2 plan1 [] r2 = { c2 with K := c2.K ++ [(r2, [])], bl := mins c2.bl (digB blk1 []) ({ blk1 with Requests := r2 }, []), pl := mins c2.pl 0 (plan1r r2, []) } := by
    unfold planC; rw [if_pos ⟨hnone, hid2⟩]; rfl
  have hc4 := hc2.plan plan1 [] r2 (by decide)
  rw [hpc] at hmv hc4
  generalize hc4d : ({ c2 with K := c2.K ++ [(r2, [])], bl := mins c2.bl (digB blk1 []) ({ blk1 with Requests := r2 }, []), pl := mins c2.pl 0 (plan1r r2, []) } : CS) = c4 at hmv hc4
  have q : c4.ms = [m1] ∧ c4.x = c2.x ∧ c4.ht = 1 ∧ c4.rd = 0 ∧ c4.vts = [] ∧ c4.acts = [] ∧ c4.p = c2.p ∧ mfind c4.pl 0 = some (plan1r r2, []) ∧ mfind c4.bl (digB blk1 []) = some ({ blk1 with Requests := r2 }, []) := by
    rw [← hc4d]
    refine ⟨g1, rfl, g3, g4, g5, g11, rfl, ?_, ?_⟩
    · show mfind (mins c2.pl 0 _) 0 = _; rw [mfind_mins, if_pos rfl]
    · show mfind (mins c2.bl (digB blk1 []) _) (digB blk1 []) = _; rw [mfind_mins, if_pos rfl]
  obtain ⟨q1, q2, q3, q4, q5, q6, q7, q8, q9⟩ := q
  have hpf : planF c4 (plan1r r2) [] = ⟨digB blk1 [], true⟩ := planF_free (show (-1 : Int) < 0 by decide) (by rw [q2, g10]; decide)
  obtain ⟨r3, o3, rfl⟩ := mvs_plan hmv (by rw [q4]; decide) q5 (by rw [q2]; exact g8) (by rw [q4]; exact q8) (by rw [hpf])
  rw [hpf] at hs7 ⊢
  have hmem4 : isMem c4 = true := gmem c4 q1 (by rw [q2]; exact g2)
  obtain ⟨a5, KA5, out5, he5, ha5⟩ := votesC_eq c4 1 (digB blk1 []) r3 o3
  have hc5 : Cok (votesC c4 1 (digB blk1 []) r3 o3) := (hc4.votes (by rw [q6]; decide) (by decide) _ r3 o3).1
  rw [q6, hmem4] at ha5
  simp only [List.nil_append, if_true] at ha5
  rw [he5] at hs7 hc5 ⊢
  have hsv5 := outSV hs7
  simp only at hsv5
  rw [ha5] at hsv5
  have hs8 : Sat h [] h6 (core (clrC { stpC c4 1 with acts := a5, KA := KA5, x := { (stpC c4 1).x with out := out5 } }) ++ [cel 75 b (enc blk1)]) := hs7.sel 10 [0, 1, 2, 3, 4, 5, 6, 7] (by decide) (by decide)
  generalize hc6 : clrC { stpC c4 1 with acts := a5, KA := KA5, x := { (stpC c4 1).x with out := out5 } } = c6 at hs8
  have hc6k : Cok c6 := by rw [← hc6]; exact hc5.clr
  have u : c6.ms = [m1] ∧ c6.x.me = 1 ∧ c6.ht = 1 ∧ c6.rd = 0 ∧ c6.vts = [] ∧ c6.x.step = 2 ∧ c6.x.decided = false ∧ c6.acts = [] ∧ c6.p = c2.p ∧ mfind c6.pl 0 = some (plan1r r2, []) ∧ mfind c6.bl (digB blk1 []) = some ({ blk1 with Requests := r2 }, []) := by
    rw [← hc6]; exact ⟨q1, by show c4.x.me = 1; rw [q2]; exact g2, q3, q4, q5, rfl, by show c4.x.decided = false; rw [q2]; exact g9, rfl, q7, q8, q9⟩
  obtain ⟨u1, u2, u3, u4, u5, u6, u7, u8, u9, u10, u11⟩ := u
  refine ifb_i (fun hb => ?_) (fun _ => ?_)
  · have := hsv5.2.1
    simp only [List.map_cons, List.map_nil, List.length_cons, List.length_nil] at this
    simp only at hb
    rw [this] at hb; simp at hb
  refine sidx_ld len_api_Act hsv5 (by decide) (j := 0) rfl ?_
  refine ifb_i (fun hb => by simp at hb) (fun _ => ?_)
  obtain ⟨aa, haa, hat, hlt⟩ := hsv5.elem len_api_Act (j := 0) (by decide) rfl
  refine ⟨_, ⟨⟨aa, haa, rfl⟩, by decide, hlt⟩, ld_old hat ?_⟩
  refine hs8.ld_ 8 rfl ?_
  refine BDig_spec _ [] (hT.fr hs8.fr (by simp)) ⟨rfl, fun hne => absurd rfl hne⟩ (by decide) (fun h7 hx7 => ?_)
  refine ⟨⟨_, hat.ext hx7, rfl⟩, ?_⟩
  have hs9 := hs8.ext hx7
  unfold law19_alive.j2
  refine ifb_i (fun hb => by simp at hb) (fun _ => ?_)
  -- the first vote
  refine hs9.ld_ 8 rfl ?_
  refine BDig_spec _ [] (hT.fr hs9.fr (by simp)) ⟨rfl, fun hne => absurd rfl hne⟩ (by decide) (fun h8 hx8 => ?_)
  have hs10 := hs9.ext hx8
  have hcp2 : (some c2.p : Pt) = some c6.p := by rw [u9]
  rw [hcp2]
  have hmu6 := mu_ub hc6k
  refine Vote_spec c6 (vote1 1) hT (by simp) hc6k (by decide) (by rw [u5]; decide) (by rw [u8]; simp; omega) hs10 (fun h9 hx _ => ?_) (fun c7 h9 _ _ hmv hs11 => ?_)
  · rcases hx with hx | hx
    · rw [u7] at hx; cases hx
    · rw [u3] at hx; exact absurd rfl hx
  have hvc : voteC c6 (vote1 1) = { c6 with vts := [(⟨1, 0, 1⟩, vote1 1)] } := by
    rw [voteC_new (by rw [u5]; rfl), u5]; rfl
  have hc8k := hc6k.vote (v := vote1 1) (by decide) (by rw [u5]; decide)
  rw [hvc] at hmv hc8k
  generalize hc8 : ({ c6 with vts := [(⟨1, 0, 1⟩, vote1 1)] } : CS) = c8 at hmv hc8k
  have w : c8.ms = [m1] ∧ c8.x = c6.x ∧ c8.ht = 1 ∧ c8.rd = 0 ∧ c8.vts = [(⟨1, 0, 1⟩, vote1 1)] ∧ c8.acts = [] ∧ c8.p = c6.p ∧ c8.pl = c6.pl ∧ c8.bl = c6.bl := by rw [← hc8]; exact ⟨u1, rfl, u3, u4, rfl, u8, rfl, rfl, rfl⟩
  obtain ⟨w1, w2, w3, w4, w5, w6, w7, w8, w9⟩ := w
  have hD : digB (plan1r r2).Block [] = digB blk1 [] := rfl
  obtain ⟨r9, o9, rfl⟩ := mvs_lock hmv (by rw [w4]; decide) (by rw [w5]; intro q hq; simp only [List.mem_singleton] at hq; subst hq; rfl) (by rw [w5, w4]; intro q hq; simp only [List.mem_singleton] at hq; subst hq; exact Int.le_refl _) (by rw [w2]; exact u6) (by rw [w4, w8]; exact u10) (by
    rw [hD, w4]
    unfold firstB
    rw [gquo c8 w1]
    have hm := mem_forF (l := c8.vts) (kind := 1) (rd := 0) (d := digB blk1 []) (i := 0) (v := vote1 1) (by decide) (by rw [w5]; rfl) rfl
    have := List.length_pos_of_mem hm
    exact decide_eq_true (by omega))
  rw [hD] at hs11 ⊢
  obtain ⟨a9, KA9, out9, he9, ha9⟩ := votesC_eq (lockC c8 (plan1r r2).Block []) 2 (digB blk1 []) r9 o9
  have hcv8 : Cov c8.K (plan1r r2).Block [] := hc8k.pc (0, (plan1r r2, [])) (mfind_mem (by rw [w8]; exact u10))
  have hc8l : Cok (lockC c8 (plan1r r2).Block []) := { hc8k with lk := hcv8, vl := hcv8 }
  have hc9 := (hc8l.votes (kind := 2) (by show c8.acts.length + 1 < _; rw [w6]; decide) (by decide) (digB blk1 []) r9 o9).1
  have hmem8 : isMem (lockC c8 (plan1r r2).Block []) = true := gmem _ w1 (by show c8.x.me = 1; rw [w2]; exact u2)
  have hac8 : (lockC c8 (plan1r r2).Block []).acts = [] := w6
  rw [hac8, hmem8] at ha9
  simp only [List.nil_append, if_true] at ha9
  rw [he9] at hs11 hc9 ⊢
  have hsv9 := outSV hs11
  simp only at hsv9
  rw [ha9] at hsv9
  have hs12 : Sat h [] h9 (core (clrC { stpC (lockC c8 (plan1r r2).Block []) 2 with acts := a9, KA := KA9, x := { (stpC (lockC c8 (plan1r r2).Block []) 2).x with out := out9 } }) ++ [cel 75 b (enc blk1)]) := hs11.sel 10 [0, 1, 2, 3, 4, 5, 6, 7] (by decide) (by decide)
  generalize hc10 : clrC { stpC (lockC c8 (plan1r r2).Block []) 2 with acts := a9, KA := KA9, x := { (stpC (lockC c8 (plan1r r2).Block []) 2).x with out := out9 } } = c10 at hs12
  have hc10k : Cok c10 := by rw [← hc10]; exact hc9.clr
  have y : c10.ms = [m1] ∧ c10.ht = 1 ∧ c10.vts = [(⟨1, 0, 1⟩, vote1 1)] ∧ c10.x.decided = false ∧ c10.acts = [] ∧ c10.p = c6.p ∧ c10.bl = c6.bl := by
    rw [← hc10]; exact ⟨w1, w3, w5, by show c8.x.decided = false; rw [w2]; exact u7, rfl, w7, w9⟩
  obtain ⟨y1, y2, y3, y4, y5, y6, y7⟩ := y
  refine ifb_i (fun hb => ?_) (fun _ => ?_)
  · have := hsv9.2.1
    simp only [List.map_cons, List.map_nil, List.length_cons, List.length_nil] at this
    simp only at hb
    rw [this] at hb; simp at hb
  refine sidx_ld len_api_Act hsv9 (by decide) (j := 0) rfl ?_
  unfold law19_alive.j3
  refine ifb_i (fun hb => by simp at hb) (fun _ => ?_)
  -- the second vote
  refine hs12.ld_ 8 rfl ?_
  refine BDig_spec _ [] (hT.fr hs12.fr (by simp)) ⟨rfl, fun hne => absurd rfl hne⟩ (by decide) (fun h10 hx10 => ?_)
  have hs13 := hs12.ext hx10
  have hcp3 : (some c6.p : Pt) = some c10.p := by rw [y6]
  rw [hcp3]
  have hmu10 := mu_ub hc10k
  refine Vote_spec c10 (vote1 2) hT (by simp) hc10k (by decide) (by rw [y3]; decide) (by rw [y5]; simp; omega) hs13 (fun h11 hx _ => ?_) (fun c11 h11 _ _ hmv hs14 => ?_)
  · rcases hx with hx | hx
    · rw [y4] at hx; cases hx
    · rw [y2] at hx; exact absurd rfl hx
  have hvc2 : voteC c10 (vote1 2) = { c10 with vts := [(⟨1, 0, 1⟩, vote1 1), (⟨2, 0, 1⟩, vote1 2)] } := by
    rw [voteC_new (by rw [y3]; rfl), y3]; rfl
  rw [hvc2] at hmv
  obtain ⟨r11, rr11, o11, rfl⟩ := mvs_dec hmv (D := digB blk1 []) (r0 := 0) (by
      show quoN c10.ms.length ≤ _
      rw [gquo c10 y1]
      unfold cntF
      have : (⟨2, 0, 1⟩, vote1 2) ∈ ([(⟨1, 0, 1⟩, vote1 1), (⟨2, 0, 1⟩, vote1 2)] : Vts).filter fun q => decide (q.1.kind = 2) && !decide (q.2.Digest = dz) && decide (chq q = ⟨0, digB blk1 []⟩) := by
        rw [List.mem_filter]
        refine ⟨by simp, ?_⟩
        have e1 : decide ((vote1 2).Digest = dz) = false := decide_eq_false dig_ne
        have e2 : decide (chq (⟨2, 0, 1⟩, vote1 2) = ⟨0, digB blk1 []⟩) = true := decide_eq_true rfl
        show (decide ((2 : Int) = 2) && !decide ((vote1 2).Digest = dz) && decide (chq (⟨2, 0, 1⟩, vote1 2) = ⟨0, digB blk1 []⟩)) = true
        rw [e1, e2]; rfl
      exact List.length_pos_of_mem this) (by
      intro q hq _
      simp only [List.mem_cons, List.not_mem_nil, or_false] at hq
      rcases hq with rfl | rfl <;> rfl) (by show mfind c10.bl _ = _; rw [y7]; exact u11)
  have hsv11 := outSV hs14
  have hac : (sayC (decC { c10 with vts := [(⟨1, 0, 1⟩, vote1 1), (⟨2, 0, 1⟩, vote1 2)] }) { api_Act.zero with Act := 3, Round := r11, Digest := digB blk1 [], Block := { blk1 with Requests := r2 } } [] rr11 o11).acts = [({ api_Act.zero with Act := 3, Round := r11, Digest := digB blk1 [], Block := { blk1 with Requests := rr11 } }, [])] := by
    show c10.acts ++ _ = _; rw [y5]; rfl
  rw [hac] at hsv11
  refine ifb_i (fun _ => ?_) (fun hb => ?_)
  · refine sidx_ld len_api_Act hsv11 (by decide) (j := 0) rfl ?_
    unfold law19_alive.j4
    exact hk h11 hs14.fr
  · have := hsv11.2.1
    simp only [List.map_cons, List.map_nil, List.length_cons, List.length_nil] at this
    rw [this] at hb; simp at hb
end Go.Proofs.YtimmoekliphobaaDoor
namespace Go.Proofs.YtimmoekliphobaaDoor
open Go Go.Sh
open Go.Sh.Ty (reg)
set_option linter.unusedVariables false
set_option maxRecDepth 100000
set_option maxHeartbeats 4000000
theorem law19_RoundNone.ok (n : Int) (height : Int) (rounds : Int) (k : Bool → H → Prop) (h : H) (hh : law19_RoundNone.b n height rounds k h) : CallsH Prog 5 [reg n, reg height, reg rounds].toArray h fun v h' => ∃ r : Bool, v = reg r ∧ k r h' := by
  unfold law19_RoundNone.b at hh
  refine CallsH.of 155 Tryd.func5 rfl Tryd.ntmps5 rfl (fun w0 => ?_)
  refine CW.seq ?_
  refine CW.region ?_
  refine .val (v_assign (v := reg (false : Bool)) rfl) rfl ?_
  refine .nil ?_
  refine QN.then_ ?_
  refine CW.seq ?_
  refine CW.seq ?_
  refine CW.region ?_
  refine .e (e_callP fn_25 rfl rfl hh ?_)
  intro h t18 hh
  refine .val (v_not rfl) rfl ?_
  refine .nil ?_
  refine QN.then_ ?_
  refine CW.cond (!t18) rfl (fun hb => ?_) (fun hb => ?_)
  · have hh := hh.1 hb
    refine CW.seq ?_
    refine CW.region ?_
    refine .val (v_assign (v := reg (false : Bool)) rfl) rfl ?_
    refine .nil ?_
    refine QN.then_ ?_
    refine CW.ret ?_
    refine QN.thenRet ?_
    exact ret1 rfl rfl ⟨(false : Bool), rfl, hh⟩
  · have hh := hh.2 hb
    refine CW.skip ?_
    refine QN.then_ ?_
    refine CW.seq ?_
    refine CW.seq ?_
    refine CW.region ?_
    refine .val (v_move (v := reg (n : Int)) rfl) rfl ?_
    refine .val (v_ilss rfl rfl) rfl ?_
    refine .val (v_move (v := reg ((decide (n < (2 : Int))) : Bool)) rfl) rfl ?_
    refine .fv 22 rfl rfl rfl (fun hb => v_move (v := reg (n : Int)) rfl) rfl ?_
    refine .fv 22 rfl rfl rfl (fun hb => v_igtr (gf hb) rfl) rfl ?_
    refine .val (v_pick_or rfl rfl (fun hb => gf hb)) rfl ?_
    refine .val (v_move (v := reg (((decide (n < (2 : Int))) || (decide ((10 : Int) < n))) : Bool)) rfl) rfl ?_
    refine .fv 26 rfl rfl rfl (fun hb => v_move (v := reg (height : Int)) rfl) rfl ?_
    refine .fv 26 rfl rfl rfl (fun hb => v_ilss (gf hb) rfl) rfl ?_
    refine .val (v_pick_or rfl rfl (fun hb => gf hb)) rfl ?_
    refine .val (v_move (v := reg ((((decide (n < (2 : Int))) || (decide ((10 : Int) < n))) || (decide (height < (1 : Int)))) : Bool)) rfl) rfl ?_
    refine .fv 30 rfl rfl rfl (fun hb => v_move (v := reg (height : Int)) rfl) rfl ?_
    refine .fv 30 rfl rfl rfl (fun hb => v_igtr (gf hb) rfl) rfl ?_
    refine .val (v_pick_or rfl rfl (fun hb => gf hb)) rfl ?_
    refine .val (v_move (v := reg (((((decide (n < (2 : Int))) || (decide ((10 : Int) < n))) || (decide (height < (1 : Int)))) || (decide ((1024 : Int) < height))) : Bool)) rfl) rfl ?_
    refine .fv 34 rfl rfl rfl (fun hb => v_move (v := reg (rounds : Int)) rfl) rfl ?_
    refine .fv 34 rfl rfl rfl (fun hb => v_ilss (gf hb) rfl) rfl ?_
    refine .val (v_pick_or rfl rfl (fun hb => gf hb)) rfl ?_
    refine .val (v_move (v := reg ((((((decide (n < (2 : Int))) || (decide ((10 : Int) < n))) || (decide (height < (1 : Int)))) || (decide ((1024 : Int) < height))) || (decide (rounds < (0 : Int)))) : Bool)) rfl) rfl ?_
    refine .fv 38 rfl rfl rfl (fun hb => v_move (v := reg (rounds : Int)) rfl) rfl ?_
    refine .fv 38 rfl rfl rfl (fun hb => v_igtr (gf hb) rfl) rfl ?_
    refine .val (v_pick_or rfl rfl (fun hb => gf hb)) rfl ?_
    refine .nil ?_
    refine QN.then_ ?_
    refine CW.cond ((((((decide (n < (2 : Int))) || (decide ((10 : Int) < n))) || (decide (height < (1 : Int)))) || (decide ((1024 : Int) < height))) || (decide (rounds < (0 : Int)))) || (decide ((8 : Int) < rounds))) rfl (fun hb_1 => ?_) (fun hb_1 => ?_)
    · have hh := hh.1 hb_1
      refine CW.seq ?_
      refine CW.region ?_
      refine .val (v_assign (v := reg (true : Bool)) rfl) rfl ?_
      refine .nil ?_
      refine QN.then_ ?_
      refine CW.ret ?_
      refine QN.thenRet ?_
      exact ret1 rfl rfl ⟨(true : Bool), rfl, hh⟩
    · have hh := hh.2 hb_1
      refine CW.skip ?_
      refine QN.then_ ?_
      refine CW.seq ?_
      refine CW.region ?_
      refine .val (v_move (v := reg (n : Int)) rfl) rfl ?_
      refine .val (v_move (v := reg (height : Int)) rfl) rfl ?_
      refine .e (e_callP fn_26 rfl rfl hh ?_)
      intro h t44 hh
      refine .val (v_assign (v := reg (t44 : Pt)) rfl) rfl ?_
      refine .nil ?_
      refine QN.then_ ?_
      refine CW.join (fun ρ h => ∃ (ρ' : Env), ρ = setl ρ' [] ∧ (law19_RoundNone.j1 k)  h) ?_ ?_
      · refine CW.seq ?_
        refine CW.region ?_
        refine .val (v_assign (v := reg ((0 : Int) : Int)) rfl) rfl ?_
        refine .nil ?_
        refine QN.then_ ?_
        refine CW.block ?_
        unfold law19_RoundNone.l1 at hh
        refine CW.loop (fun (σ0 : Int) ρ => match σ0 with | r => ∃ ρ' : Env, ρ = setl ρ' [(0, reg (n : Int)), (1, reg (height : Int)), (2, reg (rounds : Int)), (7, reg (t44 : Pt)), (8, reg (r : Int))]) hh ⟨_, setl_eq ⟨rfl, ⟨rfl, ⟨rfl, ⟨rfl, ⟨rfl, trivial⟩⟩⟩⟩⟩⟩ ?_
        clear hh
        rintro s1 r ρ h ⟨ρ', rfl⟩ hh
        refine CW.seq ?_
        refine CW.seq ?_
        refine CW.region ?_
        refine .val (v_move (v := reg (r : Int)) rfl) rfl ?_
        refine .val (v_move (v := reg (rounds : Int)) rfl) rfl ?_
        refine .val (v_ilss rfl rfl) rfl ?_
        refine .nil ?_
        refine QN.then_ ?_
        refine CW.cond (decide (r < rounds)) rfl (fun hb_2 => ?_) (fun hb_2 => ?_)
        · have hh := hh.1 hb_2
          refine CW.skip ?_
          refine QN.then_ ?_
          refine CW.join (fun ρ h => ∃ (ρ' : Env), ρ = setl ρ' [(0, reg (n : Int)), (1, reg (height : Int)), (2, reg (rounds : Int)), (7, reg (t44 : Pt)), (8, reg (r : Int))] ∧ (law19_RoundNone.j2 s1) n height rounds t44 r h) ?_ ?_
          · refine CW.block ?_
            refine CW.seq ?_
            refine CW.region ?_
            refine .val (v_move (v := reg (t44 : Pt)) rfl) rfl ?_
            obtain ⟨p, hp, hh⟩ := hh
            refine .val (v_nilCheck (congrArg Value.pointer hp)) rfl ?_
            refine .val (v_fieldAddr fl_61_2 rfl) rfl ?_
            obtain ⟨t53, ⟨xt53, hxt53, hgt53⟩, hh⟩ := hh
            refine .val (v_ld1 (p := p) 3 na_55 rfl hxt53 hgt53 get_61_cores) rfl ?_
            refine .val (v_len_sl (sl_55).1 rfl) rfl ?_
            refine .val (v_move (v := reg ((0 : Int) : Int)) rfl) rfl ?_
            refine .nil ?_
            refine QN.then_ ?_
            refine CW.block ?_
            unfold law19_RoundNone.l2 at hh
            refine CW.loop (fun (σ0 : Int) ρ => match σ0 with | t55 => ∃ ρ' : Env, ρ = setl ρ' [(0, reg (n : Int)), (1, reg (height : Int)), (2, reg (rounds : Int)), (7, reg (t44 : Pt)), (8, reg (r : Int)), (53, reg (t53 : Sl)), (54, reg ((t53.len : Int) : Int)), (55, reg (t55 : Int))]) hh ⟨_, setl_eq ⟨rfl, ⟨rfl, ⟨rfl, ⟨rfl, ⟨rfl, ⟨rfl, ⟨rfl, ⟨rfl, trivial⟩⟩⟩⟩⟩⟩⟩⟩⟩ ?_
            clear hh
            rintro s2 t55 ρ h ⟨ρ', rfl⟩ hh
            refine CW.seq ?_
            refine CW.region ?_
            refine .val (v_ilss rfl rfl) rfl ?_
            refine .nil ?_
            refine QN.then_ ?_
            refine CW.seq ?_
            refine CW.cond (decide (t55 < (t53.len : Int))) rfl (fun hb_3 => ?_) (fun hb_3 => ?_)
            · have hh := hh.1 hb_3
              refine CW.skip ?_
              refine QN.then_ ?_
              refine CW.join (fun ρ h => ∃ (ρ' : Env), ρ = setl ρ' [(0, reg (n : Int)), (1, reg (height : Int)), (2, reg (rounds : Int)), (7, reg (t44 : Pt)), (8, reg (r : Int)), (53, reg (t53 : Sl)), (54, reg ((t53.len : Int) : Int)), (55, reg (t55 : Int))] ∧ (law19_RoundNone.j3 s2) n height rounds t44 r t53 (t53.len : Int) t55 h) ?_ ?_
              · refine CW.block ?_
                refine CW.seq ?_
                refine CW.region ?_
                refine .val (v_move (v := reg (t55 : Int)) rfl) rfl ?_
                obtain ⟨t58, ht58, hh⟩ := hh
                refine .val (v_idx_slP sl_55 rfl rfl ht58.1 ht58.2.1 ht58.2.2) rfl ?_
                obtain ⟨t59, ⟨xt59, hxt59, hgt59⟩, hh⟩ := hh
                refine .val (v_ld1 (p := t58) 0 na_62 rfl hxt59 hgt59 get_62_all) rfl ?_
                refine .val (v_assign (v := reg (t55 : Int)) rfl) rfl ?_
                refine .val (v_assign (v := reg (t59 : Pt)) rfl) rfl ?_
                refine .nil ?_
                refine QN.then_ ?_
                refine CW.join (fun ρ h => ∃ (ρ' : Env), ρ = setl ρ' [(0, reg (n : Int)), (1, reg (height : Int)), (2, reg (rounds : Int)), (7, reg (t44 : Pt)), (8, reg (r : Int)), (9, reg (t55 : Int)), (10, reg (t59 : Pt)), (53, reg (t53 : Sl)), (54, reg ((t53.len : Int) : Int)), (55, reg (t55 : Int))] ∧ (law19_RoundNone.j4 (law19_RoundNone.j3 s2) k) n height rounds t44 r t55 t59 t53 (t53.len : Int) t55 h) ?_ ?_
                · refine CW.seq ?_
                  refine CW.region ?_
                  refine .val (v_move (v := reg (t59 : Pt)) rfl) rfl ?_
                  refine .e (e_callP fn_32 rfl rfl hh ?_)
                  intro h t61 hh
                  refine .val (v_len_sl (sl_68).1 rfl) rfl ?_
                  refine .val (v_move (v := reg ((0 : Int) : Int)) rfl) rfl ?_
                  refine .nil ?_
                  refine QN.then_ ?_
                  refine CW.block ?_
                  unfold law19_RoundNone.l3 at hh
                  refine CW.loop (fun (σ0 : Int) ρ => match σ0 with | t63 => ∃ ρ' : Env, ρ = setl ρ' [(0, reg (n : Int)), (1, reg (height : Int)), (2, reg (rounds : Int)), (7, reg (t44 : Pt)), (8, reg (r : Int)), (9, reg (t55 : Int)), (10, reg (t59 : Pt)), (53, reg (t53 : Sl)), (54, reg ((t53.len : Int) : Int)), (55, reg (t55 : Int)), (61, reg (t61 : Sl)), (62, reg ((t61.len : Int) : Int)), (63, reg (t63 : Int))]) hh ⟨_, setl_eq ⟨rfl, ⟨rfl, ⟨rfl, ⟨rfl, ⟨rfl, ⟨rfl, ⟨rfl, ⟨rfl, ⟨rfl, ⟨rfl, ⟨rfl, ⟨rfl, ⟨rfl, trivial⟩⟩⟩⟩⟩⟩⟩⟩⟩⟩⟩⟩⟩⟩ ?_
                  clear hh
                  rintro s3 t63 ρ h ⟨ρ', rfl⟩ hh
                  refine CW.seq ?_
                  refine CW.region ?_
                  refine .val (v_ilss rfl rfl) rfl ?_
                  refine .nil ?_
                  refine QN.then_ ?_
                  refine CW.seq ?_
                  refine CW.cond (decide (t63 < (t61.len : Int))) rfl (fun hb_4 => ?_) (fun hb_4 => ?_)
                  · have hh := hh.1 hb_4
                    refine CW.skip ?_
                    refine QN.then_ ?_
                    refine CW.seq ?_
                    refine CW.block ?_
                    refine CW.seq ?_
                    refine CW.region ?_
                    obtain ⟨t65, ht65, hh⟩ := hh
                    refine .val (v_idx_slP sl_68 rfl rfl ht65.1 ht65.2.1 ht65.2.2) rfl ?_
                    obtain ⟨t66, ⟨xt66, hxt66, hgt66⟩, hh⟩ := hh
                    refine .val (v_ldA (p := t65) 0 ag_80 rfl hxt66 hgt66 get_80_all (fun _ => (len_api_Act _)) (fun _ => rfl)) rfl ?_
                    refine box_elim hh (fun a ha hh => ?_)
                    refine .e (e_allocP ha zo_80 rfl ?_)
                    obtain ⟨xw, hxw, hwxw, hh⟩ := hh
                    refine .e (e_storeN (p := a) (nv := enc (t66 : api_Act)) 0 rfl rfl rfl sz_80 (one_api_Act _) hxw hwxw (len_api_Act _) (len_api_Act _) rfl (set_80_all xw (t66 : api_Act)) ?_)
                    refine .nil ?_
                    refine QN.then_ ?_
                    refine CW.seq ?_
                    refine CW.region ?_
                    refine .val (v_fieldAddr fl_80_0 rfl) rfl ?_
                    obtain ⟨t68, ⟨xt68, hxt68, hgt68⟩, hh⟩ := hh
                    refine .val (v_ld1 (p := a) 0 na_3 rfl hxt68 hgt68 get_80_Act) rfl ?_
                    refine .val (v_ieql rfl rfl) rfl ?_
                    refine .nil ?_
                    refine QN.then_ ?_
                    refine CW.cond (t68 == (2 : Int)) rfl (fun hb_5 => ?_) (fun hb_5 => ?_)
                    · have hh := hh.1 hb_5
                      refine CW.seq ?_
                      refine CW.region ?_
                      refine .val (v_assign (v := reg (false : Bool)) rfl) rfl ?_
                      refine .nil ?_
                      refine QN.then_ ?_
                      refine CW.ret ?_
                      refine QN.blockRet ?_
                      refine QN.thenRet ?_
                      refine QN.thenRet ?_
                      refine QN.blockRet ?_
                      refine QN.thenRet ?_
                      refine QN.blockRet ?_
                      refine QN.thenRet ?_
                      refine QN.thenRet ?_
                      refine QN.blockRet ?_
                      refine QN.blockRet ?_
                      refine QN.thenRet ?_
                      refine QN.thenRet ?_
                      refine QN.blockRet ?_
                      refine QN.thenRet ?_
                      exact ret1 rfl rfl ⟨(false : Bool), rfl, hh⟩
                    · have hh := hh.2 hb_5
                      refine CW.skip ?_
                      refine QN.blockN ?_
                      refine QN.then_ ?_
                      refine CW.region ?_
                      refine .val (v_iadd rfl rfl) rfl ?_
                      refine .val (v_move (v := reg ((iadd t63 (1 : Int)) : Int)) rfl) rfl ?_
                      refine .nil ?_
                      exact QN.thenJ ⟨(iadd t63 (1 : Int)), ⟨_, setl_eq ⟨rfl, ⟨rfl, ⟨rfl, ⟨rfl, ⟨rfl, ⟨rfl, ⟨rfl, ⟨rfl, ⟨rfl, ⟨rfl, ⟨rfl, ⟨rfl, ⟨rfl, trivial⟩⟩⟩⟩⟩⟩⟩⟩⟩⟩⟩⟩⟩⟩, hh⟩
                  · have hh := hh.2 hb_4
                    refine CW.exit ?_
                    refine QN.thenExit ?_
                    refine QN.thenExit ?_
                    refine QN.blockExit ?_
                    exact QN.thenJ ⟨_, setl_eq ⟨rfl, ⟨rfl, ⟨rfl, ⟨rfl, ⟨rfl, ⟨rfl, ⟨rfl, ⟨rfl, ⟨rfl, ⟨rfl, trivial⟩⟩⟩⟩⟩⟩⟩⟩⟩⟩, hh⟩
                · rintro ρ h ⟨ρ', rfl, hh⟩
                  unfold law19_RoundNone.j4 at hh
                  refine CW.seq ?_
                  refine CW.region ?_
                  refine .val (v_move (v := reg (t59 : Pt)) rfl) rfl ?_
                  refine .val (v_move (v := reg (r : Int)) rfl) rfl ?_
                  refine .val (v_conv_u64 un_3 un_71 rfl) rfl ?_
                  refine .val (v_ishl (a := (3 : Int)) (b := ((toU64 r).toNat : Int)) rfl rfl (Int.natCast_nonneg _)) rfl ?_
                  refine .e (e_callP fn_35 rfl rfl hh ?_)
                  intro h t75 hh
                  refine .val (v_assign (v := reg (t75 : Sl)) rfl) rfl ?_
                  refine .nil ?_
                  refine QN.then_ ?_
                  refine CW.join (fun ρ h => ∃ (ρ' : Env), ρ = setl ρ' [(0, reg (n : Int)), (1, reg (height : Int)), (2, reg (rounds : Int)), (7, reg (t44 : Pt)), (8, reg (r : Int)), (10, reg (t59 : Pt)), (13, reg (t75 : Sl)), (53, reg (t53 : Sl)), (54, reg ((t53.len : Int) : Int)), (55, reg (t55 : Int))] ∧ (law19_RoundNone.j5 (law19_RoundNone.j3 s2) k) n height rounds t44 r t59 t75 t53 (t53.len : Int) t55 h) ?_ ?_
                  · refine CW.seq ?_
                    refine CW.region ?_
                    refine .val (v_move (v := reg (t75 : Sl)) rfl) rfl ?_
                    refine .val (v_len_sl (sl_68).1 rfl) rfl ?_
                    refine .val (v_move (v := reg ((0 : Int) : Int)) rfl) rfl ?_
                    refine .nil ?_
                    refine QN.then_ ?_
                    refine CW.block ?_
                    unfold law19_RoundNone.l4 at hh
                    refine CW.loop (fun (σ0 : Int) ρ => match σ0 with | t78 => ∃ ρ' : Env, ρ = setl ρ' [(0, reg (n : Int)), (1, reg (height : Int)), (2, reg (rounds : Int)), (7, reg (t44 : Pt)), (8, reg (r : Int)), (9, reg (t55 : Int)), (10, reg (t59 : Pt)), (13, reg (t75 : Sl)), (53, reg (t53 : Sl)), (54, reg ((t53.len : Int) : Int)), (55, reg (t55 : Int)), (76, reg (t75 : Sl)), (77, reg ((t75.len : Int) : Int)), (78, reg (t78 : Int))]) hh ⟨_, setl_eq ⟨rfl, ⟨rfl, ⟨rfl, ⟨rfl, ⟨rfl, ⟨rfl, ⟨rfl, ⟨rfl, ⟨rfl, ⟨rfl, ⟨rfl, ⟨rfl, ⟨rfl, ⟨rfl, trivial⟩⟩⟩⟩⟩⟩⟩⟩⟩⟩⟩⟩⟩⟩⟩ ?_
                    clear hh
                    rintro s4 t78 ρ h ⟨ρ', rfl⟩ hh
                    refine CW.seq ?_
                    refine CW.region ?_
                    refine .val (v_ilss rfl rfl) rfl ?_
                    refine .nil ?_
                    refine QN.then_ ?_
                    refine CW.seq ?_
                    refine CW.cond (decide (t78 < (t75.len : Int))) rfl (fun hb_6 => ?_) (fun hb_6 => ?_)
                    · have hh := hh.1 hb_6
                      refine CW.skip ?_
                      refine QN.then_ ?_
                      refine CW.seq ?_
                      refine CW.block ?_
                      refine CW.seq ?_
                      refine CW.region ?_
                      refine .val (v_move (v := reg (t78 : Int)) rfl) rfl ?_
                      obtain ⟨t81, ht81, hh⟩ := hh
                      refine .val (v_idx_slP sl_68 rfl rfl ht81.1 ht81.2.1 ht81.2.2) rfl ?_
                      obtain ⟨t82, ⟨xt82, hxt82, hgt82⟩, hh⟩ := hh
                      refine .val (v_ldA (p := t81) 0 ag_80 rfl hxt82 hgt82 get_80_all (fun _ => (len_api_Act _)) (fun _ => rfl)) rfl ?_
                      refine box_elim hh (fun a_1 ha_1 hh => ?_)
                      refine .e (e_allocP ha_1 zo_80 rfl ?_)
                      refine .val (v_assign (v := reg (t78 : Int)) rfl) rfl ?_
                      obtain ⟨xw_1, hxw_1, hwxw_1, hh⟩ := hh
                      refine .e (e_storeN (p := a_1) (nv := enc (t82 : api_Act)) 0 rfl rfl rfl sz_80 (one_api_Act _) hxw_1 hwxw_1 (len_api_Act _) (len_api_Act _) rfl (set_80_all xw_1 (t82 : api_Act)) ?_)
                      refine .nil ?_
                      refine QN.then_ ?_
                      refine CW.seq ?_
                      refine CW.join (fun ρ h => ∃ (ρ' : Env) (t108 : Bool), ρ = setl ρ' [(0, reg (n : Int)), (1, reg (height : Int)), (2, reg (rounds : Int)), (7, reg (t44 : Pt)), (8, reg (r : Int)), (9, reg (t55 : Int)), (10, reg (t59 : Pt)), (13, reg (t75 : Sl)), (14, reg (t78 : Int)), (15, .pointer (some a_1)), (53, reg (t53 : Sl)), (54, reg ((t53.len : Int) : Int)), (55, reg (t55 : Int)), (76, reg (t75 : Sl)), (77, reg ((t75.len : Int) : Int)), (78, reg (t78 : Int)), (108, reg (t108 : Bool))] ∧ (law19_RoundNone.j6 k s4) n height rounds t44 r t55 t59 t75 t78 a_1 t53 (t53.len : Int) t55 t75 (t75.len : Int) t78 t108 h) ?_ ?_
                      · refine CW.region ?_
                        refine .val (v_move (v := reg (t78 : Int)) rfl) rfl ?_
                        refine .val (v_ilss rfl rfl) rfl ?_
                        refine .val (v_move (v := reg ((decide (t78 < (2 : Int))) : Bool)) rfl) rfl ?_
                        refine ifb_cases hh (fun hb_7 hh => ?_) (fun hb_7 hh => ?_)
                        · refine .yv 85 rfl (congrArg Value.bool hb_7) rfl (v_fieldAddr fl_80_0 rfl) rfl ?_
                          obtain ⟨t87, ⟨xt87, hxt87, hgt87⟩, hh⟩ := hh
                          refine .yv 85 rfl (congrArg Value.bool hb_7) rfl (v_ld1 (p := a_1) 0 na_3 rfl hxt87 hgt87 get_80_Act) rfl ?_
                          refine .yv 85 rfl (congrArg Value.bool hb_7) rfl (v_ineq rfl rfl) rfl ?_
                          refine .yv 85 rfl (congrArg Value.bool hb_7) rfl (v_move (v := reg ((t87 != (2 : Int)) : Bool)) rfl) rfl ?_
                          refine .fv 89 rfl rfl rfl (fun hb => v_fieldAddr fl_80_2 rfl) rfl ?_
                          obtain ⟨t91, ⟨xt91, hxt91, hgt91⟩, hh⟩ := hh
                          refine .fv 89 rfl rfl rfl (fun hb => v_ld1 (p := a_1) 2 na_3 (gf hb) hxt91 hgt91 get_80_Kind) rfl ?_
                          refine .fv 89 rfl rfl rfl (fun hb => v_move (v := reg (t78 : Int)) rfl) rfl ?_
                          refine .fv 89 rfl rfl rfl (fun hb => v_iadd (gf hb) rfl) rfl ?_
                          refine .fv 89 rfl rfl rfl (fun hb => v_ineq (gf hb) (gf hb)) rfl ?_
                          refine .yv 85 rfl (congrArg Value.bool hb_7) rfl (v_pick_or rfl rfl (fun hb => gf hb)) rfl ?_
                          refine .yv 85 rfl (congrArg Value.bool hb_7) rfl (v_move (v := reg (((t87 != (2 : Int)) || (t91 != (iadd t78 (1 : Int)))) : Bool)) rfl) rfl ?_
                          refine ifb_cases hh (fun hb_8 hh => ?_) (fun hb_8 hh => ?_)
                          · refine .no 96 rfl (congrArg Value.bool hb_8) rfl rfl ?_
                            refine .no 96 rfl (congrArg Value.bool hb_8) rfl rfl ?_
                            refine .no 96 rfl (congrArg Value.bool hb_8) rfl rfl ?_
                            refine .no 96 rfl (congrArg Value.bool hb_8) rfl rfl ?_
                            refine .yv 85 rfl (congrArg Value.bool hb_7) rfl (v_pickT (v := reg (true : Bool)) rfl hb_8 rfl) rfl ?_
                            refine .yv 85 rfl (congrArg Value.bool hb_7) rfl (v_move (v := reg (true : Bool)) rfl) rfl ?_
                            refine .no 102 rfl rfl rfl rfl ?_
                            refine .no 102 rfl rfl rfl rfl ?_
                            refine .no 102 rfl rfl rfl rfl ?_
                            refine .no 102 rfl rfl rfl rfl ?_
                            refine .yv 85 rfl (congrArg Value.bool hb_7) rfl (v_pickT (v := reg (true : Bool)) rfl rfl rfl) rfl ?_
                            refine .val (v_pickT (v := reg (true : Bool)) rfl hb_7 rfl) rfl ?_
                            refine .nil ?_
                            exact QN.thenJ ⟨_, true, setl_eq ⟨rfl, ⟨rfl, ⟨rfl, ⟨rfl, ⟨rfl, ⟨rfl, ⟨rfl, ⟨rfl, ⟨rfl, ⟨rfl, ⟨rfl, ⟨rfl, ⟨rfl, ⟨rfl, ⟨rfl, ⟨rfl, ⟨rfl, trivial⟩⟩⟩⟩⟩⟩⟩⟩⟩⟩⟩⟩⟩⟩⟩⟩⟩, hh⟩
                          · refine .yv 96 rfl (congrArg Value.bool hb_8) rfl (v_fieldAddr fl_80_3 rfl) rfl ?_
                            obtain ⟨t98, ⟨xt98, hxt98, hgt98⟩, hh⟩ := hh
                            refine .yv 96 rfl (congrArg Value.bool hb_8) rfl (v_ldA (p := a_1) 3 ag_24 rfl hxt98 hgt98 get_80_Digest (fun _ => (arr_len (n := 32) _)) (fun _ => rfl)) rfl ?_
                            refine .yv 96 rfl (congrArg Value.bool hb_8) rfl (v_buildAT (arrOf [0, 0, 0, 0, 0, 0, 0, 0, 0, 0, 0, 0, 0, 0, 0, 0, 0, 0, 0, 0, 0, 0, 0, 0, 0, 0, 0, 0, 0, 0, 0, 0] : Arr 32 UInt8) zo_24 ar_24 rfl rfl rfl) rfl ?_
                            refine .yv 96 rfl (congrArg Value.bool hb_8) rfl (v_ne_arr8 bt_24 rfl rfl) rfl ?_
                            refine .yv 85 rfl (congrArg Value.bool hb_7) rfl (v_pickF (v := reg ((!decide (t98 = (arrOf [0, 0, 0, 0, 0, 0, 0, 0, 0, 0, 0, 0, 0, 0, 0, 0, 0, 0, 0, 0, 0, 0, 0, 0, 0, 0, 0, 0, 0, 0, 0, 0] : Arr 32 UInt8))) : Bool)) rfl hb_8 rfl) rfl ?_
                            refine .yv 85 rfl (congrArg Value.bool hb_7) rfl (v_move (v := reg ((!decide (t98 = (arrOf [0, 0, 0, 0, 0, 0, 0, 0, 0, 0, 0, 0, 0, 0, 0, 0, 0, 0, 0, 0, 0, 0, 0, 0, 0, 0, 0, 0, 0, 0, 0, 0] : Arr 32 UInt8))) : Bool)) rfl) rfl ?_
                            refine .fv 102 rfl rfl rfl (fun hb => v_fieldAddr fl_80_1 rfl) rfl ?_
                            obtain ⟨t104, ⟨xt104, hxt104, hgt104⟩, hh⟩ := hh
                            refine .fv 102 rfl rfl rfl (fun hb => v_ld1 (p := a_1) 1 na_3 (gf hb) hxt104 hgt104 get_80_Round) rfl ?_
                            refine .fv 102 rfl rfl rfl (fun hb => v_move (v := reg (r : Int)) rfl) rfl ?_
                            refine .fv 102 rfl rfl rfl (fun hb => v_ineq (gf hb) (gf hb)) rfl ?_
                            refine .yv 85 rfl (congrArg Value.bool hb_7) rfl (v_pick_or rfl rfl (fun hb => gf hb)) rfl ?_
                            refine .val (v_pickT (v := reg (((!decide (t98 = (arrOf [0, 0, 0, 0, 0, 0, 0, 0, 0, 0, 0, 0, 0, 0, 0, 0, 0, 0, 0, 0, 0, 0, 0, 0, 0, 0, 0, 0, 0, 0, 0, 0] : Arr 32 UInt8))) || (t104 != r)) : Bool)) rfl hb_7 rfl) rfl ?_
                            refine .nil ?_
                            exact QN.thenJ ⟨_, ((!decide (t98 = (arrOf [0, 0, 0, 0, 0, 0, 0, 0, 0, 0, 0, 0, 0, 0, 0, 0, 0, 0, 0, 0, 0, 0, 0, 0, 0, 0, 0, 0, 0, 0, 0, 0] : Arr 32 UInt8))) || (t104 != r)), setl_eq ⟨rfl, ⟨rfl, ⟨rfl, ⟨rfl, ⟨rfl, ⟨rfl, ⟨rfl, ⟨rfl, ⟨rfl, ⟨rfl, ⟨rfl, ⟨rfl, ⟨rfl, ⟨rfl, ⟨rfl, ⟨rfl, ⟨rfl, trivial⟩⟩⟩⟩⟩⟩⟩⟩⟩⟩⟩⟩⟩⟩⟩⟩⟩, hh⟩
                        · refine .no 85 rfl (congrArg Value.bool hb_7) rfl rfl ?_
                          refine .no 85 rfl (congrArg Value.bool hb_7) rfl rfl ?_
                          refine .no 85 rfl (congrArg Value.bool hb_7) rfl rfl ?_
                          refine .no 85 rfl (congrArg Value.bool hb_7) rfl rfl ?_
                          refine .nu 89 rfl rfl rfl rfl ?_
                          refine .nu 89 rfl rfl rfl rfl ?_
                          refine .nu 89 rfl rfl rfl rfl ?_
                          refine .nu 89 rfl rfl rfl rfl ?_
                          refine .nu 89 rfl rfl rfl rfl ?_
                          refine .no 85 rfl (congrArg Value.bool hb_7) rfl rfl ?_
                          refine .no 85 rfl (congrArg Value.bool hb_7) rfl rfl ?_
                          refine .nu 96 rfl rfl rfl rfl ?_
                          refine .nu 96 rfl rfl rfl rfl ?_
                          refine .nu 96 rfl rfl rfl rfl ?_
                          refine .nu 96 rfl rfl rfl rfl ?_
                          refine .no 85 rfl (congrArg Value.bool hb_7) rfl rfl ?_
                          refine .no 85 rfl (congrArg Value.bool hb_7) rfl rfl ?_
                          refine .nu 102 rfl rfl rfl rfl ?_
                          refine .nu 102 rfl rfl rfl rfl ?_
                          refine .nu 102 rfl rfl rfl rfl ?_
                          refine .nu 102 rfl rfl rfl rfl ?_
                          refine .no 85 rfl (congrArg Value.bool hb_7) rfl rfl ?_
                          refine .val (v_pickF (v := reg (false : Bool)) rfl hb_7 rfl) rfl ?_
                          refine .nil ?_
                          exact QN.thenJ ⟨_, false, setl_eq ⟨rfl, ⟨rfl, ⟨rfl, ⟨rfl, ⟨rfl, ⟨rfl, ⟨rfl, ⟨rfl, ⟨rfl, ⟨rfl, ⟨rfl, ⟨rfl, ⟨rfl, ⟨rfl, ⟨rfl, ⟨rfl, ⟨rfl, trivial⟩⟩⟩⟩⟩⟩⟩⟩⟩⟩⟩⟩⟩⟩⟩⟩⟩, hh⟩
                      · rintro ρ h ⟨ρ', t108, rfl, hh⟩
                        unfold law19_RoundNone.j6 at hh
                        refine CW.cond t108 rfl (fun hb_9 => ?_) (fun hb_9 => ?_)
                        · have hh := hh.1 hb_9
                          refine CW.seq ?_
                          refine CW.region ?_
                          refine .val (v_assign (v := reg (false : Bool)) rfl) rfl ?_
                          refine .nil ?_
                          refine QN.then_ ?_
                          refine CW.ret ?_
                          refine QN.thenRet ?_
                          refine QN.blockRet ?_
                          refine QN.thenRet ?_
                          refine QN.thenRet ?_
                          refine QN.blockRet ?_
                          refine QN.thenRet ?_
                          refine QN.blockRet ?_
                          refine QN.thenRet ?_
                          refine QN.thenRet ?_
                          refine QN.blockRet ?_
                          refine QN.blockRet ?_
                          refine QN.thenRet ?_
                          refine QN.thenRet ?_
                          refine QN.blockRet ?_
                          refine QN.thenRet ?_
                          exact ret1 rfl rfl ⟨(false : Bool), rfl, hh⟩
                        · have hh := hh.2 hb_9
                          refine CW.skip ?_
                          refine QN.then_ ?_
                          refine CW.join (fun ρ h => ∃ (ρ' : Env) (t132 : Bool), ρ = setl ρ' [(0, reg (n : Int)), (1, reg (height : Int)), (2, reg (rounds : Int)), (7, reg (t44 : Pt)), (8, reg (r : Int)), (9, reg (t55 : Int)), (10, reg (t59 : Pt)), (13, reg (t75 : Sl)), (53, reg (t53 : Sl)), (54, reg ((t53.len : Int) : Int)), (55, reg (t55 : Int)), (76, reg (t75 : Sl)), (77, reg ((t75.len : Int) : Int)), (78, reg (t78 : Int)), (132, reg (t132 : Bool))] ∧ (law19_RoundNone.j7 k s4) n height rounds t44 r t55 t59 t75 t53 (t53.len : Int) t55 t75 (t75.len : Int) t78 t132 h) ?_ ?_
                          · refine CW.region ?_
                            refine .val (v_move (v := reg (t78 : Int)) rfl) rfl ?_
                            refine .val (v_igeq rfl rfl) rfl ?_
                            refine .val (v_move (v := reg ((decide ((2 : Int) ≤ t78)) : Bool)) rfl) rfl ?_
                            refine ifb_cases hh (fun hb_10 hh => ?_) (fun hb_10 hh => ?_)
                            · refine .yv 111 rfl (congrArg Value.bool hb_10) rfl (v_fieldAddr fl_80_0 rfl) rfl ?_
                              obtain ⟨t113, ⟨xt113, hxt113, hgt113⟩, hh⟩ := hh
                              refine .yv 111 rfl (congrArg Value.bool hb_10) rfl (v_ld1 (p := a_1) 0 na_3 rfl hxt113 hgt113 get_80_Act) rfl ?_
                              refine .yv 111 rfl (congrArg Value.bool hb_10) rfl (v_ineq rfl rfl) rfl ?_
                              refine .yv 111 rfl (congrArg Value.bool hb_10) rfl (v_move (v := reg ((t113 != (1 : Int)) : Bool)) rfl) rfl ?_
                              refine .fv 115 rfl rfl rfl (fun hb => v_fieldAddr fl_80_1 rfl) rfl ?_
                              obtain ⟨t117, ⟨xt117, hxt117, hgt117⟩, hh⟩ := hh
                              refine .fv 115 rfl rfl rfl (fun hb => v_ld1 (p := a_1) 1 na_3 (gf hb) hxt117 hgt117 get_80_Round) rfl ?_
                              refine .fv 115 rfl rfl rfl (fun hb => v_move (v := reg (r : Int)) rfl) rfl ?_
                              refine .fv 115 rfl rfl rfl (fun hb => v_iadd (gf hb) rfl) rfl ?_
                              refine .fv 115 rfl rfl rfl (fun hb => v_ineq (gf hb) (gf hb)) rfl ?_
                              refine .yv 111 rfl (congrArg Value.bool hb_10) rfl (v_pick_or rfl rfl (fun hb => gf hb)) rfl ?_
                              refine .yv 111 rfl (congrArg Value.bool hb_10) rfl (v_move (v := reg (((t113 != (1 : Int)) || (t117 != (iadd r (1 : Int)))) : Bool)) rfl) rfl ?_
                              refine ifb_cases hh (fun hb_11 hh => ?_) (fun hb_11 hh => ?_)
                              · refine .no 122 rfl (congrArg Value.bool hb_11) rfl rfl ?_
                                refine .no 122 rfl (congrArg Value.bool hb_11) rfl rfl ?_
                                refine .no 122 rfl (congrArg Value.bool hb_11) rfl rfl ?_
                                refine .no 122 rfl (congrArg Value.bool hb_11) rfl rfl ?_
                                refine .no 122 rfl (congrArg Value.bool hb_11) rfl rfl ?_
                                refine .no 122 rfl (congrArg Value.bool hb_11) rfl rfl ?_
                                refine .no 122 rfl (congrArg Value.bool hb_11) rfl rfl ?_
                                refine .no 122 rfl (congrArg Value.bool hb_11) rfl rfl ?_
                                refine .yv 111 rfl (congrArg Value.bool hb_10) rfl (v_pickT (v := reg (true : Bool)) rfl hb_11 rfl) rfl ?_
                                refine .val (v_pickT (v := reg (true : Bool)) rfl hb_10 rfl) rfl ?_
                                refine .nil ?_
                                exact QN.thenJ ⟨_, true, setl_eq ⟨rfl, ⟨rfl, ⟨rfl, ⟨rfl, ⟨rfl, ⟨rfl, ⟨rfl, ⟨rfl, ⟨rfl, ⟨rfl, ⟨rfl, ⟨rfl, ⟨rfl, ⟨rfl, ⟨rfl, trivial⟩⟩⟩⟩⟩⟩⟩⟩⟩⟩⟩⟩⟩⟩⟩, hh⟩
                              · refine .yv 122 rfl (congrArg Value.bool hb_11) rfl (v_move (v := reg (n : Int)) rfl) rfl ?_
                                refine .yv 122 rfl (congrArg Value.bool hb_11) rfl (v_move (v := reg (height : Int)) rfl) rfl ?_
                                refine .yv 122 rfl (congrArg Value.bool hb_11) rfl (v_move (v := reg (r : Int)) rfl) rfl ?_
                                refine .yv 122 rfl (congrArg Value.bool hb_11) rfl (v_iadd rfl rfl) rfl ?_
                                refine .ye 122 rfl (congrArg Value.bool hb_11) rfl (e_callP fn_30 rfl rfl hh ?_)
                                intro h t127 hh
                                refine .ye 122 rfl (congrArg Value.bool hb_11) rfl (e_callP fn_29 rfl rfl hh ?_)
                                intro h t128 hh
                                refine .yv 122 rfl (congrArg Value.bool hb_11) rfl (v_move (v := reg (t55 : Int)) rfl) rfl ?_
                                refine .yv 122 rfl (congrArg Value.bool hb_11) rfl (v_ineq rfl rfl) rfl ?_
                                refine .yv 111 rfl (congrArg Value.bool hb_10) rfl (v_pickF (v := reg ((t128 != t55) : Bool)) rfl hb_11 rfl) rfl ?_
                                refine .val (v_pickT (v := reg ((t128 != t55) : Bool)) rfl hb_10 rfl) rfl ?_
                                refine .nil ?_
                                exact QN.thenJ ⟨_, (t128 != t55), setl_eq ⟨rfl, ⟨rfl, ⟨rfl, ⟨rfl, ⟨rfl, ⟨rfl, ⟨rfl, ⟨rfl, ⟨rfl, ⟨rfl, ⟨rfl, ⟨rfl, ⟨rfl, ⟨rfl, ⟨rfl, trivial⟩⟩⟩⟩⟩⟩⟩⟩⟩⟩⟩⟩⟩⟩⟩, hh⟩
                            · refine .no 111 rfl (congrArg Value.bool hb_10) rfl rfl ?_
                              refine .no 111 rfl (congrArg Value.bool hb_10) rfl rfl ?_
                              refine .no 111 rfl (congrArg Value.bool hb_10) rfl rfl ?_
                              refine .no 111 rfl (congrArg Value.bool hb_10) rfl rfl ?_
                              refine .nu 115 rfl rfl rfl rfl ?_
                              refine .nu 115 rfl rfl rfl rfl ?_
                              refine .nu 115 rfl rfl rfl rfl ?_
                              refine .nu 115 rfl rfl rfl rfl ?_
                              refine .nu 115 rfl rfl rfl rfl ?_
                              refine .no 111 rfl (congrArg Value.bool hb_10) rfl rfl ?_
                              refine .no 111 rfl (congrArg Value.bool hb_10) rfl rfl ?_
                              refine .nu 122 rfl rfl rfl rfl ?_
                              refine .nu 122 rfl rfl rfl rfl ?_
                              refine .nu 122 rfl rfl rfl rfl ?_
                              refine .nu 122 rfl rfl rfl rfl ?_
                              refine .nu 122 rfl rfl rfl rfl ?_
                              refine .nu 122 rfl rfl rfl rfl ?_
                              refine .nu 122 rfl rfl rfl rfl ?_
                              refine .nu 122 rfl rfl rfl rfl ?_
                              refine .no 111 rfl (congrArg Value.bool hb_10) rfl rfl ?_
                              refine .val (v_pickF (v := reg (false : Bool)) rfl hb_10 rfl) rfl ?_
                              refine .nil ?_
                              exact QN.thenJ ⟨_, false, setl_eq ⟨rfl, ⟨rfl, ⟨rfl, ⟨rfl, ⟨rfl, ⟨rfl, ⟨rfl, ⟨rfl, ⟨rfl, ⟨rfl, ⟨rfl, ⟨rfl, ⟨rfl, ⟨rfl, ⟨rfl, trivial⟩⟩⟩⟩⟩⟩⟩⟩⟩⟩⟩⟩⟩⟩⟩, hh⟩
                          · rintro ρ h ⟨ρ', t132, rfl, hh⟩
                            unfold law19_RoundNone.j7 at hh
                            refine CW.cond t132 rfl (fun hb_12 => ?_) (fun hb_12 => ?_)
                            · have hh := hh.1 hb_12
                              refine CW.seq ?_
                              refine CW.region ?_
                              refine .val (v_assign (v := reg (false : Bool)) rfl) rfl ?_
                              refine .nil ?_
                              refine QN.then_ ?_
                              refine CW.ret ?_
                              refine QN.blockRet ?_
                              refine QN.thenRet ?_
                              refine QN.thenRet ?_
                              refine QN.blockRet ?_
                              refine QN.thenRet ?_
                              refine QN.blockRet ?_
                              refine QN.thenRet ?_
                              refine QN.thenRet ?_
                              refine QN.blockRet ?_
                              refine QN.blockRet ?_
                              refine QN.thenRet ?_
                              refine QN.thenRet ?_
                              refine QN.blockRet ?_
                              refine QN.thenRet ?_
                              exact ret1 rfl rfl ⟨(false : Bool), rfl, hh⟩
                            · have hh := hh.2 hb_12
                              refine CW.skip ?_
                              refine QN.blockN ?_
                              refine QN.then_ ?_
                              refine CW.region ?_
                              refine .val (v_iadd rfl rfl) rfl ?_
                              refine .val (v_move (v := reg ((iadd t78 (1 : Int)) : Int)) rfl) rfl ?_
                              refine .nil ?_
                              exact QN.thenJ ⟨(iadd t78 (1 : Int)), ⟨_, setl_eq ⟨rfl, ⟨rfl, ⟨rfl, ⟨rfl, ⟨rfl, ⟨rfl, ⟨rfl, ⟨rfl, ⟨rfl, ⟨rfl, ⟨rfl, ⟨rfl, ⟨rfl, ⟨rfl, trivial⟩⟩⟩⟩⟩⟩⟩⟩⟩⟩⟩⟩⟩⟩⟩, hh⟩
                    · have hh := hh.2 hb_6
                      refine CW.exit ?_
                      refine QN.thenExit ?_
                      refine QN.thenExit ?_
                      refine QN.blockExit ?_
                      exact QN.thenJ ⟨_, setl_eq ⟨rfl, ⟨rfl, ⟨rfl, ⟨rfl, ⟨rfl, ⟨rfl, ⟨rfl, ⟨rfl, ⟨rfl, ⟨rfl, trivial⟩⟩⟩⟩⟩⟩⟩⟩⟩⟩, hh⟩
                  · rintro ρ h ⟨ρ', rfl, hh⟩
                    unfold law19_RoundNone.j5 at hh
                    refine CW.seq ?_
                    refine CW.region ?_
                    refine .val (v_move (v := reg (t59 : Pt)) rfl) rfl ?_
                    refine .e (e_callP fn_36 rfl rfl hh ?_)
                    intro h t136 hh
                    refine .val (v_move (v := reg (t136 : T2 Cx Int)) rfl) rfl ?_
                    refine .val (v_extract (v := reg (t136.a : Cx)) rfl rfl) rfl ?_
                    refine .val (v_extract (v := reg (t136.b : Int)) rfl rfl) rfl ?_
                    refine .val (v_assign (v := reg (t136.a : Cx)) rfl) rfl ?_
                    refine .val (v_assign (v := reg (t136.b : Int)) rfl) rfl ?_
                    refine .nil ?_
                    refine QN.then_ ?_
                    refine CW.join (fun ρ h => ∃ (ρ' : Env) (t153 : Bool), ρ = setl ρ' [(0, reg (n : Int)), (1, reg (height : Int)), (2, reg (rounds : Int)), (7, reg (t44 : Pt)), (8, reg (r : Int)), (53, reg (t53 : Sl)), (54, reg ((t53.len : Int) : Int)), (55, reg (t55 : Int)), (153, reg (t153 : Bool))] ∧ (law19_RoundNone.j8 (law19_RoundNone.j3 s2) k) n height rounds t44 r t53 (t53.len : Int) t55 t153 h) ?_ ?_
                    · refine CW.region ?_
                      refine .val (v_move (v := reg (t75 : Sl)) rfl) rfl ?_
                      refine .val (v_len_sl (sl_68).1 rfl) rfl ?_
                      refine .val (v_ilss rfl rfl) rfl ?_
                      refine .val (v_move (v := reg ((decide ((t75.len : Int) < (2 : Int))) : Bool)) rfl) rfl ?_
                      refine ifb_cases hh (fun hb_13 hh => ?_) (fun hb_13 hh => ?_)
                      · refine .no 142 rfl (congrArg Value.bool hb_13) rfl rfl ?_
                        refine .no 142 rfl (congrArg Value.bool hb_13) rfl rfl ?_
                        refine .no 142 rfl (congrArg Value.bool hb_13) rfl rfl ?_
                        refine .no 142 rfl (congrArg Value.bool hb_13) rfl rfl ?_
                        refine .no 142 rfl (congrArg Value.bool hb_13) rfl rfl ?_
                        refine .no 142 rfl (congrArg Value.bool hb_13) rfl rfl ?_
                        refine .val (v_pickT (v := reg (true : Bool)) rfl hb_13 rfl) rfl ?_
                        refine .val (v_move (v := reg (true : Bool)) rfl) rfl ?_
                        refine .no 150 rfl rfl rfl rfl ?_
                        refine .no 150 rfl rfl rfl rfl ?_
                        refine .val (v_pickT (v := reg (true : Bool)) rfl rfl rfl) rfl ?_
                        refine .nil ?_
                        exact QN.thenJ ⟨_, true, setl_eq ⟨rfl, ⟨rfl, ⟨rfl, ⟨rfl, ⟨rfl, ⟨rfl, ⟨rfl, ⟨rfl, ⟨rfl, trivial⟩⟩⟩⟩⟩⟩⟩⟩⟩, hh⟩
                      · refine .yv 142 rfl (congrArg Value.bool hb_13) rfl (v_move (v := reg (t136.a : Cx)) rfl) rfl ?_
                        refine .yv 142 rfl (congrArg Value.bool hb_13) rfl (v_move (v := reg (height : Int)) rfl) rfl ?_
                        refine .yv 142 rfl (congrArg Value.bool hb_13) rfl (v_move (v := reg (r : Int)) rfl) rfl ?_
                        refine .yv 142 rfl (congrArg Value.bool hb_13) rfl (v_iadd rfl rfl) rfl ?_
                        refine .ye 142 rfl (congrArg Value.bool hb_13) rfl (e_callP fn_30 rfl rfl hh ?_)
                        intro h t147 hh
                        refine .yv 142 rfl (congrArg Value.bool hb_13) rfl (v_cne rfl rfl) rfl ?_
                        refine .val (v_pickF (v := reg ((!ceq t136.a t147) : Bool)) rfl hb_13 rfl) rfl ?_
                        refine .val (v_move (v := reg ((!ceq t136.a t147) : Bool)) rfl) rfl ?_
                        refine .fv 150 rfl rfl rfl (fun hb => v_move (v := reg (t136.b : Int)) rfl) rfl ?_
                        refine .fv 150 rfl rfl rfl (fun hb => v_ineq (gf hb) rfl) rfl ?_
                        refine .val (v_pick_or rfl rfl (fun hb => gf hb)) rfl ?_
                        refine .nil ?_
                        exact QN.thenJ ⟨_, ((!ceq t136.a t147) || (t136.b != (1 : Int))), setl_eq ⟨rfl, ⟨rfl, ⟨rfl, ⟨rfl, ⟨rfl, ⟨rfl, ⟨rfl, ⟨rfl, ⟨rfl, trivial⟩⟩⟩⟩⟩⟩⟩⟩⟩, hh⟩
                    · rintro ρ h ⟨ρ', t153, rfl, hh⟩
                      unfold law19_RoundNone.j8 at hh
                      refine CW.cond t153 rfl (fun hb_14 => ?_) (fun hb_14 => ?_)
                      · have hh := hh.1 hb_14
                        refine CW.seq ?_
                        refine CW.region ?_
                        refine .val (v_assign (v := reg (false : Bool)) rfl) rfl ?_
                        refine .nil ?_
                        refine QN.then_ ?_
                        refine CW.ret ?_
                        refine QN.blockRet ?_
                        refine QN.thenRet ?_
                        refine QN.thenRet ?_
                        refine QN.blockRet ?_
                        refine QN.blockRet ?_
                        refine QN.thenRet ?_
                        refine QN.thenRet ?_
                        refine QN.blockRet ?_
                        refine QN.thenRet ?_
                        exact ret1 rfl rfl ⟨(false : Bool), rfl, hh⟩
                      · have hh := hh.2 hb_14
                        refine CW.skip ?_
                        refine QN.blockN ?_
                        exact QN.thenJ ⟨_, setl_eq ⟨rfl, ⟨rfl, ⟨rfl, ⟨rfl, ⟨rfl, ⟨rfl, ⟨rfl, ⟨rfl, trivial⟩⟩⟩⟩⟩⟩⟩⟩, hh⟩
              · rintro ρ h ⟨ρ', rfl, hh⟩
                unfold law19_RoundNone.j3 at hh
                refine CW.region ?_
                refine .val (v_iadd rfl rfl) rfl ?_
                refine .val (v_move (v := reg ((iadd t55 (1 : Int)) : Int)) rfl) rfl ?_
                refine .nil ?_
                exact QN.thenJ ⟨(iadd t55 (1 : Int)), ⟨_, setl_eq ⟨rfl, ⟨rfl, ⟨rfl, ⟨rfl, ⟨rfl, ⟨rfl, ⟨rfl, ⟨rfl, trivial⟩⟩⟩⟩⟩⟩⟩⟩⟩, hh⟩
            · have hh := hh.2 hb_3
              refine CW.exit ?_
              refine QN.thenExit ?_
              refine QN.thenExit ?_
              refine QN.blockExit ?_
              refine QN.blockN ?_
              exact QN.thenJ ⟨_, setl_eq ⟨rfl, ⟨rfl, ⟨rfl, ⟨rfl, ⟨rfl, trivial⟩⟩⟩⟩⟩, hh⟩
          · rintro ρ h ⟨ρ', rfl, hh⟩
            unfold law19_RoundNone.j2 at hh
            refine CW.region ?_
            refine .val (v_move (v := reg (r : Int)) rfl) rfl ?_
            refine .val (v_iadd rfl rfl) rfl ?_
            refine .val (v_assign (v := reg ((iadd r (1 : Int)) : Int)) rfl) rfl ?_
            refine .nil ?_
            exact QN.thenJ ⟨(iadd r (1 : Int)), ⟨_, setl_eq ⟨rfl, ⟨rfl, ⟨rfl, ⟨rfl, ⟨rfl, trivial⟩⟩⟩⟩⟩⟩, hh⟩
        · have hh := hh.2 hb_2
          refine CW.exit ?_
          refine QN.thenExit ?_
          refine QN.thenExit ?_
          refine QN.blockExit ?_
          exact QN.thenJ ⟨_, setl_eq trivial, hh⟩
      · rintro ρ h ⟨ρ', rfl, hh⟩
        unfold law19_RoundNone.j1 at hh
        refine CW.seq ?_
        refine CW.region ?_
        refine .val (v_assign (v := reg (true : Bool)) rfl) rfl ?_
        refine .nil ?_
        refine QN.then_ ?_
        refine CW.ret ?_
        exact ret1 rfl rfl ⟨(true : Bool), rfl, hh⟩
end Go.Proofs.YtimmoekliphobaaDoor
namespace Go.Proofs.YtimmoekliphobaaDoor
open Go Go.Sh
open Go.Sh.Ty (reg)
set_option linter.unusedVariables false
set_option maxRecDepth 100000

theorem MV.p_eq {c c' : CS} {b : Bool} (h : MV c c' b) : c'.p = c.p := by
  cases h <;> first | rfl | (unfold enterC; split <;> rfl) | (unfold votesC; split <;> rfl)
theorem Mvs.p_eq {c c' : CS} (h : Mvs c c') : c'.p = c.p := by
  induction h with
  | last h => exact h.p_eq
  | more h _ ih => exact ih.trans h.p_eq
section
variable {h0 h : H} {S : List Nat} {L G : List En}
/-- one core of several is taken out -/
theorem pick {cs : List CS} {i : Nat} {c : CS} (hs : Sat h0 S h (G ++ (cs.flatMap core ++ L))) (hi : cs[i]? = some c) : Sat h0 S h (core c ++ (G ++ ((cs.take i ++ cs.drop (i + 1)).flatMap core ++ L))) := by
  refine hs.perm ?_
  have hlt : i < cs.length := by rw [List.getElem?_eq_some_iff] at hi; exact hi.1
  have e : cs = cs.take i ++ c :: cs.drop (i + 1) := by
    have h1 : cs.drop i = c :: cs.drop (i + 1) := by
      rw [List.getElem?_eq_some_iff] at hi
      rw [← hi.2]; exact List.drop_eq_getElem_cons hlt
    rw [← h1, List.take_append_drop]
  have e2 : cs.flatMap core = (cs.take i).flatMap core ++ (core c ++ (cs.drop (i + 1)).flatMap core) := by
    conv => lhs; rw [e]
    rw [List.flatMap_append, List.flatMap_cons]
  rw [e2, List.flatMap_append]
  have := List.perm_append_comm_assoc (G ++ (cs.take i).flatMap core) (core c) ((cs.drop (i + 1)).flatMap core ++ L)
  simpa only [List.append_assoc] using this
/-- and put back -/
theorem unpick {cs : List CS} {i : Nat} {c : CS} (hs : Sat h0 S h (core c ++ (G ++ ((cs.take i ++ cs.drop (i + 1)).flatMap core ++ L)))) (hi : i < cs.length) : Sat h0 S h (G ++ ((cs.set i c).flatMap core ++ L)) := by
  refine hs.perm ?_
  rw [List.set_eq_take_append_cons_drop, if_pos hi, List.flatMap_append, List.flatMap_append, List.flatMap_cons]
  have := (List.perm_append_comm_assoc (G ++ (cs.take i).flatMap core) (core c) ((cs.drop (i + 1)).flatMap core ++ L)).symm
  simpa only [List.append_assoc] using this
end
/-- a core in a game in which nothing is heard, at the beginning of round r -/
structure NS (c : CS) (n : Nat) (ht : Int) (i r : Nat) : Prop where
  ok : Cok c
  ms : c.ms = memN n
  me : c.x.me = ((i + 1 : Nat) : Int)
  ht : c.ht = ht
  rd : c.rd = r
  base : c.x.base = 1
  vts : c.vts = []
  pl : c.pl = []
  dec : c.x.decided = false
  acts : c.acts = []
  st : (r = 0 ∧ c.x.step = 0) ∨ (c.x.step = 1 ∧ c.x.ticks = 0)
theorem New1.ns {c : CS} {n : Nat} {ht : Int} {i : Nat} (h : New1 c n ht i) : NS c n ht i 0 := ⟨h.ok, h.ms, h.me, h.ht, h.rd, h.base, h.vts, h.pl, h.dec, h.acts, .inl ⟨rfl, h.step⟩⟩
theorem isMem_N {c : CS} {n i : Nat} (h1 : c.ms = memN n) (h2 : c.x.me = ((i + 1 : Nat) : Int)) (hi : i < n) : isMem c = true := by
  unfold isMem; rw [h1, h2]; exact findF_N n i hi
theorem idAt_N {c : CS} {n : Nat} (h1 : c.ms = memN n) (hn : 1 ≤ n) (a b : Int) : idAt c a b = (a + b) % n + 1 := by
  unfold idAt
  rw [h1, memN_len]
  have h2 : 0 ≤ (a + b) % (n : Int) := Int.emod_nonneg _ (by omega)
  have h3 : (a + b) % (n : Int) < n := Int.emod_lt_of_pos _ (by omega)
  rw [memAt_N n _ (by omega)]
  show ((((a + b) % (n : Int)).toNat + 1 : Nat) : Int) = _
  omega
/-- a start where nothing was heard -/
theorem ns_start {c c1 c' : CS} {n : Nat} {ht : Int} {i r : Nat} (hn : NS c n ht i r) (hst : StartR c c1) (hm : Mvs c1 c') : NS (clrC c') n ht i r ∧ c'.x.step = 1 ∧ c'.x.ticks = 0 ∧ (∀ e ∈ c'.acts, e.1.Act = 1) := by
  rcases hst with ⟨h0, rr, o, rfl⟩ | ⟨h0, rfl⟩
  · have hr : r = 0 := by rcases hn.st with h | h; exact h.1; omega
    subst hr
    obtain ⟨a, KA, out, he, ha⟩ := enterC_eq c 0 rr o
    have hc1 := (hn.ok.enter (rd := 0) (by rw [hn.acts]; decide) (by decide) rr o).1
    have hq := mvs_quiet hm (by rw [he]; exact Int.le_refl _) (by rw [he]; exact hn.vts) (by rw [he]; exact hn.pl)
    subst hq
    rw [he] at hc1 ⊢
    refine ⟨⟨hc1.clr, hn.ms, hn.me, hn.ht, rfl, hn.base, hn.vts, hn.pl, hn.dec, rfl, .inr ⟨rfl, rfl⟩⟩, rfl, rfl, ?_⟩
    intro e hee
    have : e ∈ a := hee
    rw [ha, hn.acts] at this
    split at this
    · simp at this; subst this; rfl
    · simp at this
  · have hq := mvs_quiet hm (by rw [hn.rd]; omega) hn.vts hn.pl
    subst hq
    have h1 : c'.x.step = 1 ∧ c'.x.ticks = 0 := by rcases hn.st with h | h; exact absurd h.2 h0; exact h
    refine ⟨⟨hn.ok.clr, hn.ms, hn.me, hn.ht, hn.rd, hn.base, hn.vts, hn.pl, hn.dec, rfl, .inr h1⟩, h1.1, h1.2, ?_⟩
    intro e hee; rw [hn.acts] at hee; cases hee
theorem pats : ∀ r, r < 9 → patF 1 (r : Nat) = ((2 ^ r : Nat) : Int) ∧ ishl 3 (toU64 ((r : Nat) : Int)).toNat = ((3 * 2 ^ r : Nat) : Int) := by decide +kernel
theorem stp_ticks {c : CS} {n : Int} (h0 : c.x.ticks = 0) (h1 : 0 ≤ n) (h2 : n < 1099511627776) : (tickC c n).x.ticks = n := by
  show imin (iadd c.x.ticks (imin n 1099511627776)) 1099511627776 = n
  have e1 : imin n 1099511627776 = n := by unfold imin; split <;> omega
  rw [h0, e1, iadd_eq (by omega) (by omega)]
  unfold imin; split <;> omega
/-- three phases of time where nothing was heard -/
theorem ns_tick {c c4 c' : CS} {n : Nat} {ht : Int} {i r : Nat} (hn : NS c n ht i r) (hi : i < n) (hr : r < 8) (h1 : c.x.step = 1) (h2 : c.x.ticks = 0) (hT : TickR c ((3 * 2 ^ r : Nat) : Int) c4) :
    c4.x.fresh = true ∧ (Mvs c4 c' → NS (clrC c') n ht i (r + 1) ∧ c'.x.step = 1 ∧ c'.rd = ((r + 1 : Nat) : Int) ∧ c'.ht = ht ∧ ∃ A1 A2 rest, c'.acts.map (·.1) = A1 :: A2 :: rest ∧
      (A1.Act = 2 ∧ A1.Kind = 1 ∧ A1.Digest = dz ∧ A1.Round = r) ∧ (A2.Act = 2 ∧ A2.Kind = 2 ∧ A2.Digest = dz ∧ A2.Round = r) ∧ ∀ A ∈ rest, A.Act = 1 ∧ A.Round = ((r + 1 : Nat) : Int) ∧ (ht + ((r + 1 : Nat) : Int)) % n = i) := by
  obtain ⟨r1, o1, r2, o2, r3, o3, c2, c3, e2, e3, e4⟩ := hT
  have hpat : patF c.x.base c.rd = ((2 ^ r : Nat) : Int) := by rw [hn.base, hn.rd]; exact (pats r (by omega)).1
  rw [hpat] at e2 e3 e4
  have hpow : 1 ≤ 2 ^ r ∧ 2 ^ r ≤ 256 := ⟨Nat.one_le_two_pow, Nat.pow_le_pow_right (by decide) (show r ≤ 8 by omega)⟩
  have htk : (tickC c ((3 * 2 ^ r : Nat) : Int)).x.ticks = ((3 * 2 ^ r : Nat) : Int) := stp_ticks h2 (by omega) (by omega)
  have hs1 : (tickC c ((3 * 2 ^ r : Nat) : Int)).x.step = 1 := h1
  rw [if_pos ⟨hs1, by rw [htk]; omega⟩] at e2
  have hk1 : Cok (tickC c ((3 * 2 ^ r : Nat) : Int)) := { hn.ok with }
  obtain ⟨a1, KA1, out1, f1, g1⟩ := votesC_eq (tickC c ((3 * 2 ^ r : Nat) : Int)) 1 dz r1 o1
  have hk2 := (hk1.votes (kind := 1) (by show c.acts.length + 1 < _; rw [hn.acts]; decide) (by decide) dz r1 o1).1
  have hm : isMem (tickC c ((3 * 2 ^ r : Nat) : Int)) = true := isMem_N hn.ms hn.me hi
  rw [hm, if_pos rfl, show (tickC c ((3 * 2 ^ r : Nat) : Int)).acts = [] from hn.acts, List.nil_append] at g1
  rw [f1] at e2 hk2
  have hs2 : c2.x.step = 2 := by rw [e2]; rfl
  have ht2 : c2.x.ticks = ((3 * 2 ^ r : Nat) : Int) := by rw [e2]; exact htk
  rw [if_pos ⟨hs2, by rw [ht2]; omega⟩] at e3
  rw [← e2] at hk2
  obtain ⟨a2, KA2, out2, f2, g2⟩ := votesC_eq c2 2 dz r2 o2
  have hac2 : c2.acts = a1 := by rw [e2]
  have hk3 := (hk2.votes (kind := 2) (by rw [hac2, g1]; show (1 : Nat) + 1 < 2 ^ 19; decide) (by decide) dz r2 o2).1
  have hm2 : isMem c2 = true := isMem_N (by rw [e2]; exact hn.ms) (by rw [e2]; exact hn.me) hi
  rw [hm2, if_pos rfl, hac2, g1] at g2
  rw [f2] at e3 hk3
  have hs3 : c3.x.step = 3 := by rw [e3]; rfl
  have ht3 : c3.x.ticks = ((3 * 2 ^ r : Nat) : Int) := by rw [e3]; exact ht2
  have hrd2 : c2.rd = r := by rw [e2]; exact hn.rd
  have hrd3 : c3.rd = r := by rw [e3]; exact hrd2
  rw [if_pos ⟨hs3, by rw [ht3]; omega, by rw [hrd3]; omega⟩, hrd3] at e4
  rw [← e3] at hk3
  obtain ⟨a3, KA3, out3, f3, g3⟩ := enterC_eq c3 ((r : Int) + 1) r3 o3
  have hac3 : c3.acts = a2 := by rw [e3]
  have hk4 := (hk3.enter (rd := (r : Int) + 1) (by rw [hac3, g2]; show (2 : Nat) + 1 < 2 ^ 19; decide) (by omega) r3 o3).1
  have hms3 : c3.ms = memN n := by rw [e3]; show c2.ms = _; rw [e2]; exact hn.ms
  have hme3 : c3.x.me = ((i + 1 : Nat) : Int) := by rw [e3]; show c2.x.me = _; rw [e2]; exact hn.me
  have hht3 : c3.ht = ht := by rw [e3]; show c2.ht = _; rw [e2]; exact hn.ht
  have hv3 : c3.vts = [] := by rw [e3]; show c2.vts = _; rw [e2]; exact hn.vts
  have hp3 : c3.pl = [] := by rw [e3]; show c2.pl = _; rw [e2]; exact hn.pl
  have hd3 : c3.x.decided = false := by rw [e3]; show c2.x.decided = _; rw [e2]; exact hn.dec
  have hb3 : c3.x.base = 1 := by rw [e3]; show c2.x.base = _; rw [e2]; exact hn.base
  rw [f3] at e4 hk4
  rw [← e4] at hk4
  have erd : ((r + 1 : Nat) : Int) = (r : Int) + 1 := by omega
  refine ⟨by rw [e4]; rfl, fun hmv => ?_⟩
  have hq := mvs_quiet hmv (by rw [e4]; show 0 ≤ (r : Int) + 1; omega) (by rw [e4]; exact hv3) (by rw [e4]; exact hp3)
  subst hq
  refine ⟨⟨hk4.clr, by rw [e4]; exact hms3, by rw [e4]; exact hme3, by rw [e4]; exact hht3, by rw [e4]; exact erd.symm, by rw [e4]; exact hb3, by rw [e4]; exact hv3, by rw [e4]; exact hp3, by rw [e4]; exact hd3, rfl, .inr ⟨by rw [e4]; rfl, by rw [e4]; rfl⟩⟩, by rw [e4]; rfl, by rw [e4]; exact erd.symm, by rw [e4]; exact hht3, ?_⟩
  have hact : c'.acts = a3 := by rw [e4]
  rw [hact]
  by_cases hl : (isMem c3 && (idAt c3 c3.ht ((r : Int) + 1) == c3.x.me)) = true
  · rw [if_pos hl, hac3, g2] at g3
    rw [g3]
    refine ⟨_, _, _, rfl, ⟨rfl, rfl, rfl, hn.rd⟩, ⟨rfl, rfl, rfl, hrd2⟩, ?_⟩
    intro A hA
    have hA' : A = { api_Act.zero with Act := 1, Round := (r : Int) + 1, Valid := c3.x.valid.round, Block := { c3.x.valid.block with Requests := r3 } } := by simpa using hA
    rw [Bool.and_eq_true] at hl
    have hl2 := hl.2
    rw [idAt_N hms3 (by omega), hht3, hme3] at hl2
    have hl3 : (ht + ((r : Int) + 1)) % n + 1 = ((i + 1 : Nat) : Int) := by simpa using hl2
    rw [hA']
    refine ⟨rfl, erd.symm, ?_⟩
    rw [erd]; omega
  · rw [if_neg hl, hac3, g2, List.append_nil] at g3
    rw [g3]
    exact ⟨_, _, _, rfl, ⟨rfl, rfl, rfl, hn.rd⟩, ⟨rfl, rfl, rfl, hrd2⟩, fun A hA => by cases hA⟩
theorem hok_acts {c c1 c' : CS} {n : Nat} {ht : Int} {i r : Nat} (hn : NS c n ht i r) (hst : StartR c c1) (hm : Mvs c1 c') : c'.acts.length < 2 ^ 19 := by
  have hmu := mu_ub hn.ok
  rcases hst with ⟨h0, rr, o, rfl⟩ | ⟨h0, rfl⟩
  · obtain ⟨a1, a2, a3⟩ := hn.ok.enter (rd := 0) (by rw [hn.acts]; decide) (by decide) rr o
    have := mu_ub a1
    exact (hm.ok a1 (by rw [enterC_dec]; exact hn.dec) (by rw [hn.acts] at a2; simp at a2; omega)).na
  · exact (hm.ok hn.ok hn.dec (by rw [hn.acts]; simp; omega)).na
theorem hok_tick {c c4 c' : CS} {n : Nat} {ht : Int} {i r : Nat} (hn : NS c n ht i r) {t : Int} (hT : TickR c t c4) (hm : Mvs c4 c') (hi : i < n) : c'.acts.length < 2 ^ 19 := by
  obtain ⟨r1, o1, r2, o2, r3, o3, c2, c3, e2, e3, e4⟩ := hT
  have k1 : Cok (tickC c t) := { hn.ok with }
  have k2 : Cok c2 ∧ c2.acts.length ≤ 1 ∧ c2.x.decided = false := by
    rw [e2]; split
    · have := k1.votes (kind := 1) (by show c.acts.length + 1 < _; rw [hn.acts]; decide) (by decide) dz r1 o1
      have h2 : (votesC (tickC c t) 1 dz r1 o1).acts.length ≤ c.acts.length + 1 := this.2.1
      rw [hn.acts] at h2
      exact ⟨this.1, h2, by rw [votesC_dec]; exact hn.dec⟩
    · exact ⟨k1, by show c.acts.length ≤ 1; rw [hn.acts]; decide, hn.dec⟩
  have k3 : Cok c3 ∧ c3.acts.length ≤ 2 ∧ c3.x.decided = false := by
    rw [e3]; split
    · have := k2.1.votes (kind := 2) (by have := k2.2.1; omega) (by decide) dz r2 o2
      exact ⟨this.1, by have := k2.2.1; omega, by rw [votesC_dec]; exact k2.2.2⟩
    · exact ⟨k2.1, by have := k2.2.1; omega, k2.2.2⟩
  have k4 : Cok c4 ∧ c4.acts.length ≤ 3 ∧ c4.x.decided = false := by
    rw [e4]; split
    · rename_i hc
      have := k3.1.enter (rd := c3.rd + 1) (by have := k3.2.1; omega) (by have := k3.1.plc.2; omega) r3 o3
      exact ⟨this.1, by have := k3.2.1; omega, by rw [enterC_dec]; exact k3.2.2⟩
    · exact ⟨k3.1, by have := k3.2.1; omega, k3.2.2⟩
  have := mu_ub k4.1
  exact (hm.ok k4.1 k4.2.2 (by have := k4.2.1; omega)).na
end Go.Proofs.YtimmoekliphobaaDoor
namespace Go.Proofs.YtimmoekliphobaaDoor
open Go Go.Sh
open Go.Sh.Ty (reg)
set_option linter.unusedVariables false
set_option maxRecDepth 100000
set_option maxHeartbeats 1000000

theorem ceq_cxI {a b : Int} (hp : Plc a b) : ceq (cxI a b) (cxI a b) = true := by
  obtain ⟨⟨h1, h2⟩, h3, h4⟩ := hp
  obtain ⟨a, rfl⟩ := Int.eq_ofNat_of_zero_le (show 0 ≤ a by omega)
  obtain ⟨b, rfl⟩ := Int.eq_ofNat_of_zero_le h3
  have fa := fnear_is a (by omega); have fb := fnear_is b (by omega)
  show (feq (fnear (a : Int)) (fnear (a : Int)) && feq (fnear (b : Int)) (fnear (b : Int))) = true
  rw [feq_is fa fa, feq_is fb fb]; simp
theorem RoundNone_spec (n ht rounds : Int) {k : Bool → H → Prop} {h : H} (hT : Tb h) (hk : ∀ h', Ext h h' → k true h') : law19_RoundNone.b n ht rounds k h := by
  unfold law19_RoundNone.b
  refine law19_alive.ok _ _ (alive19_spec hT (fun h1 hx1 => ?_))
  refine ifb_i (fun e => by cases e) (fun _ => ?_)
  refine ifb_i (fun _ => hk h1 hx1) (fun hg => ?_)
  simp only [Bool.or_eq_false_iff, decide_eq_false_iff_not] at hg
  obtain ⟨N, rfl⟩ := Int.eq_ofNat_of_zero_le (show 0 ≤ n by omega)
  obtain ⟨RR, rfl⟩ := Int.eq_ofNat_of_zero_le (show 0 ≤ rounds by omega)
  have hN : 2 ≤ N ∧ N ≤ 10 := by omega
  have hh : 1 ≤ ht ∧ ht ≤ 1024 := by omega
  have hRR : RR ≤ 8 := by omega
  clear hg
  refine game_spec N ht (by omega) hN.2 hh ((Sat.init h).ext hx1) (fun g x cs0 h2 x1 x2 x3 x4 x5 x6 x7 hlen hcs hs2 => ?_)
  generalize hM : N - (N - 1) / 3 = M at *
  have hMN : M ≤ N := by omega
  unfold law19_RoundNone.l1
  refine ⟨fun (t : Int) h' => ∃ (R : Nat) (cs : List CS), t = R ∧ R ≤ RR ∧ cs.length = M ∧ (∀ (i : Nat) c, cs[i]? = some c → NS c N ht i R) ∧ Sat h [] h' (gmE g x (memN N) cs (List.replicate M Sl.nil) (List.replicate M dz) ++ (cs.flatMap core ++ [])), fun t _ => (RR - t).toNat, ⟨0, cs0, rfl, Nat.zero_le _, hlen, fun i c hi => (hcs i c hi).ns, hs2⟩, ?_⟩
  clear hcs hs2 hlen
  rintro t h3 ⟨R, cs, rfl, hR, hlen, hcs, hs3⟩
  refine ifb_i (fun hc => ?_) (fun hc => hk h3 hs3.fr)
  have hR' : R < RR := by have : (R : Int) < RR := by simpa using hc
                          omega
  refine nn_i (hs3.ld_ 0 rfl ?_)
  have hcl : x.cores.len = M := by
    have := (hs3.ownSV 2 rfl (fun _ => rfl) : SV 1 h3 x.cores (cs.map fun c => (some c.p : Pt))).2.1
    rw [this, List.length_map, hlen]
  rw [hcl]
  unfold law19_RoundNone.l2
  refine ⟨fun (t : Int) h' => ∃ (I : Nat) (cs : List CS), t = I ∧ I ≤ M ∧ cs.length = M ∧ (∀ (i : Nat) c, cs[i]? = some c → NS c N ht i (if i < I then R + 1 else R)) ∧ Sat h [] h' (gmE g x (memN N) cs (List.replicate M Sl.nil) (List.replicate M dz) ++ (cs.flatMap core ++ [])), fun t _ => (M - t).toNat, ⟨0, cs, rfl, Nat.zero_le _, hlen, fun i c hi => by rw [if_neg (by omega)]; exact hcs i c hi, hs3⟩, ?_⟩
  clear hcs hs3 hlen cs hc
  rintro t h4 ⟨I, cs, rfl, hI, hlen, hcs, hs4⟩
  refine ifb_i (fun hc => ?_) (fun hc => ?_)
  · have hI' : I < M := by have : (I : Int) < (M : Int) := by simpa using hc
                           omega
    have hci : cs[I]? = some cs[I] := List.getElem?_eq_getElem (by omega)
    generalize hcc : cs[I] = c at hci
    have hn := hcs I c hci
    rw [if_neg (Nat.lt_irrefl _)] at hn
    have hsv : SV 1 h4 x.cores (cs.map fun c => (some c.p : Pt)) := hs4.ownSV 2 rfl (fun _ => rfl)
    refine sidx_ld (n := 1) (x := (some c.p : Pt)) (fun _ => rfl) hsv (Int.natCast_nonneg _) (by rw [Int.toNat_natCast, List.getElem?_map, hci]; rfl) ?_
    have hs5 := pick hs4 hci
    generalize hrest : gmE g x (memN N) cs (List.replicate M Sl.nil) (List.replicate M dz) ++ ((cs.take I ++ cs.drop (I + 1)).flatMap core ++ []) = rest at hs5
    have hmu := mu_ub hn.ok
    refine Start_spec c hT (by simp) hn.ok (by rw [hn.acts]; simp; omega) hs5 (fun hd => by rw [hn.dec] at hd; cases hd) (fun c1 c' h5 hd hst hmv hs6 => ?_)
    obtain ⟨n1, n2, n3, n4⟩ := ns_start hn hst hmv
    have hp1 : c'.p = c.p := by
      rw [hmv.p_eq]
      rcases hst with ⟨_, r, o, rfl⟩ | ⟨_, rfl⟩
      · exact enterC_p _ _ _ _
      · rfl
    have hsv6 : SV 135 h5 c'.x.out (c'.acts.map (·.1)) := outSV hs6
    have hl6 : c'.x.out.len = c'.acts.length := by rw [hsv6.2.1, List.length_map]
    rw [hl6]
    unfold law19_RoundNone.l3
    refine ⟨fun (t : Int) h' => ∃ A : Nat, t = A ∧ A ≤ c'.acts.length ∧ Sat h [] h' (core (clrC c') ++ (hand c' ++ rest)), fun t _ => (c'.acts.length - t).toNat, ⟨0, rfl, Nat.zero_le _, hs6⟩, ?_⟩
    clear hs6 hs5 hsv hsv6
    rintro t h6 ⟨A, rfl, hA, hs7⟩
    refine ifb_i (fun hc1 => ?_) (fun hc1 => ?_)
    · have hA' : A < c'.acts.length := by have : (A : Int) < (c'.acts.length : Int) := by simpa using hc1
                                          omega
      have hsv7 : SV 135 h6 c'.x.out (c'.acts.map (·.1)) := outSV hs7
      refine sidx_ld len_api_Act hsv7 (Int.natCast_nonneg _) (x := (c'.acts[A]).1) (by rw [Int.toNat_natCast, List.getElem?_map, List.getElem?_eq_getElem hA']; rfl) ?_
      refine hs7.box_ (fun a h7 hs8 _ _ => ?_)
      refine hs8.st_ 0 rfl len_api_Act (fun h8 hs9 _ => ?_)
      refine hs9.ld_ 0 rfl ?_
      have hact := n4 _ (List.getElem_mem hA')
      refine ifb_i (fun hb => by rw [hact] at hb; simp at hb) (fun _ => ?_)
      have e : iadd (A : Int) 1 = ((A + 1 : Nat) : Int) := by
        have := hsv7.2.1
        have h9 := n1.ok.na
        have : c'.acts.length < 2 ^ 30 := by
          by_cases hlt : c'.acts.length < 2 ^ 30
          · exact hlt
          · exfalso
            have hc9 : Cok c' ∨ True := .inr trivial
            have := hok_acts hn hst hmv
            omega
        rw [iadd_eq (by omega) (by omega)]; omega
      rw [e]
      exact ⟨⟨A + 1, rfl, hA', hs9.drop (List.sublist_cons_self _ _)⟩, by dsimp only; omega⟩
    · -- time goes by
      unfold law19_RoundNone.j4
      have hs8 : Sat h [] h6 (core (clrC c') ++ rest) := hs7.sel 10 [0, 1, 2, 3, 4, 5, 6, 7] (by decide) (by decide)
      have hpat := (pats R (by omega)).2
      rw [hpat]
      have hcp : (some c.p : Pt) = some (clrC c').p := by show _ = some c'.p; rw [hp1]
      rw [hcp]
      have hpow : 1 ≤ 2 ^ R := Nat.one_le_two_pow
      have htick := fun c4 c'' => @ns_tick (clrC c') c4 c'' N ht I R n1 (by omega) (by omega) n2 n3
      refine Tick_spec (clrC c') _ hT (by simp) n1.ok (show (0 : Nat) < 2 ^ 18 by decide) hs8 (fun hx => ?_) (fun c4 h7 _ _ _ hR4 hf _ => ?_) (fun c4 c'' h7 _ _ _ hR4 hf hmv2 hs9 => ?_)
      · rcases hx with hx | hx | hx
        · have : c'.x.decided = false := n1.dec
          rw [show (clrC c').x.decided = c'.x.decided from rfl, this] at hx; cases hx
        · rw [show (clrC c').x.step = c'.x.step from rfl, n2] at hx; omega
        · omega
      · have := (htick c4 c4 hR4).1; rw [this] at hf; cases hf
      obtain ⟨t1, t2, t3, t4, A1, A2, rs, t5, t6, t7, t8⟩ := (htick c4 c'' hR4).2 hmv2
      have hp2 : c''.p = c.p := by
        rw [hmv2.p_eq]
        obtain ⟨r1, o1, r2, o2, r3, o3, c2, c3, e2, e3, e4⟩ := hR4
        rw [e4]
        have p2 : c2.p = c'.p := by rw [e2]; split; exact (votesC_f _ _ _ _ _).1; rfl
        have p3 : c3.p = c'.p := by rw [e3]; split; rw [(votesC_f _ _ _ _ _).1, p2]; exact p2
        split
        · rw [enterC_p, p3, hp1]
        · rw [p3, hp1]
      have hsv9 : SV 135 h7 c''.x.out (c''.acts.map (·.1)) := outSV hs9
      have hl9 : c''.x.out.len = 2 + rs.length := by rw [hsv9.2.1, t5]; simp; omega
      rw [hl9]
      have hbig : 2 + rs.length < 2 ^ 40 := by
        have h1 := hok_tick n1 hR4 hmv2 (by omega)
        have h2 := congrArg List.length t5
        simp at h2
        omega
      unfold law19_RoundNone.l4
      refine ⟨fun (t : Int) h' => ∃ A : Nat, t = A ∧ A ≤ 2 + rs.length ∧ Sat h [] h' (core (clrC c'') ++ (hand c'' ++ rest)), fun t _ => (2 + rs.length - t).toNat, ⟨0, rfl, Nat.zero_le _, hs9⟩, ?_⟩
      clear hs9 hs8 hs7 hsv9
      rintro t h8 ⟨A, rfl, hA, hs9⟩
      refine ifb_i (fun hc2 => ?_) (fun hc2 => ?_)
      · have hA' : A < 2 + rs.length := by have : (A : Int) < ((2 + rs.length : Nat) : Int) := by simpa using hc2
                                           omega
        have hsv9 : SV 135 h8 c''.x.out (A1 :: A2 :: rs) := by rw [← t5]; exact outSV hs9
        have e : iadd (A : Int) 1 = ((A + 1 : Nat) : Int) := by rw [iadd_eq (by omega) (by omega)]; omega
        have hgA : (A1 :: A2 :: rs)[A]? = some ((A1 :: A2 :: rs).getD A api_Act.zero) := by
          rw [List.getD_eq_getElem?_getD, List.getElem?_eq_getElem (by simp; omega)]; rfl
        refine sidx_ld len_api_Act hsv9 (Int.natCast_nonneg _) (x := (A1 :: A2 :: rs).getD A api_Act.zero) (by rw [Int.toNat_natCast]; exact hgA) ?_
        generalize hAct : (A1 :: A2 :: rs).getD A api_Act.zero = X at *
        refine hs9.box_ (fun a h9 hs10 _ _ => ?_)
        refine hs10.st_ 0 rfl len_api_Act (fun h10 hs11 _ => ?_)
        have hX01 : A < 2 → X.Act = 2 ∧ X.Kind = ((A + 1 : Nat) : Int) ∧ X.Digest = dz ∧ X.Round = R := by
          intro hlt
          have : A = 0 ∨ A = 1 := by omega
          rcases this with rfl | rfl
          · rw [← hAct]; exact t6
          · rw [← hAct]; exact t7
        have hX2 : 2 ≤ A → X.Act = 1 ∧ X.Round = ((R + 1 : Nat) : Int) ∧ (ht + ((R + 1 : Nat) : Int)) % N = I := by
          intro hge
          refine t8 X ?_
          obtain ⟨B, rfl⟩ : ∃ B, A = B + 2 := ⟨A - 2, by omega⟩
          rw [← hAct]
          show rs.getD B api_Act.zero ∈ rs
          rw [List.getD_eq_getElem?_getD, List.getElem?_eq_getElem (by omega)]
          exact List.getElem_mem _
        unfold law19_RoundNone.j6 law19_RoundNone.j7
        refine ifb_i (fun h01 => ?_) (fun h01 => ?_)
        · have hlt : A < 2 := by have : (A : Int) < 2 := by simpa using h01
                                 omega
          obtain ⟨y1, y2, y3, y4⟩ := hX01 hlt
          refine hs11.ld_ 0 rfl (hs11.ld_ 0 rfl ?_)
          rw [e, y1, y2]
          refine ifb_i (fun hb => by simp at hb) (fun _ => ?_)
          refine hs11.ld_ 0 rfl (hs11.ld_ 0 rfl ?_)
          rw [y3, y4, zero32']
          refine ifb_i (fun hb => by simp at hb) (fun _ => ?_)
          refine ifb_i (fun hb => by have : (2 : Int) ≤ A := by simpa using hb
                                     omega) (fun _ => ?_)
          refine ifb_i (fun hb => by cases hb) (fun _ => ?_)
          exact ⟨⟨A + 1, rfl, hA', hs11.drop (List.sublist_cons_self _ _)⟩, by dsimp only; omega⟩
        · have hge : 2 ≤ A := by have : ¬ (A : Int) < 2 := by simpa using h01
                                 omega
          obtain ⟨y1, y2, y3⟩ := hX2 hge
          refine ifb_i (fun hb => by cases hb) (fun _ => ?_)
          refine ifb_i (fun _ => ?_) (fun hb => by have : ¬ (2 : Int) ≤ A := by simpa using hb
                                                   omega)
          refine hs11.ld_ 0 rfl (hs11.ld_ 0 rfl ?_)
          have eR : iadd (R : Int) 1 = ((R + 1 : Nat) : Int) := by rw [iadd_eq (by omega) (by omega)]; omega
          rw [eR, y1, y2]
          refine ifb_i (fun hb => by simp at hb) (fun _ => ?_)
          refine At_spec _ _ ?_
          refine Leader_spec (a := ht) (b := ((R + 1 : Nat) : Int)) ⟨hh, by omega⟩ (by omega) ?_
          rw [y3]
          refine ifb_i (fun hb => by simp at hb) (fun _ => ?_)
          rw [e]
          exact ⟨⟨A + 1, rfl, hA', hs11.drop (List.sublist_cons_self _ _)⟩, by dsimp only; omega⟩
      · -- where it stands
        unfold law19_RoundNone.j5
        have hs10 : Sat h [] h8 (core (clrC c'') ++ rest) := hs9.sel 10 [0, 1, 2, 3, 4, 5, 6, 7] (by decide) (by decide)
        have hcp2 : (some (clrC c').p : Pt) = some (clrC c'').p := by show some c'.p = some c''.p; rw [hp1, hp2]
        rw [hcp2]
        refine At_spec19 (clrC c'') t1.ok hs10 ?_
        have eR : iadd (R : Int) 1 = ((R + 1 : Nat) : Int) := by rw [iadd_eq (by omega) (by omega)]; omega
        unfold law19_RoundNone.j8 law19_RoundNone.j3
        refine ifb_i (fun hb => ?_) (fun _ => ?_)
        · have : ((2 + rs.length : Nat) : Int) < 2 := by
            have h9 := hb; rw [hl9] at h9; simpa using h9
          omega
        refine At_spec _ _ ?_
        rw [eR, show (clrC c'').ht = ht from t4, show (clrC c'').rd = ((R + 1 : Nat) : Int) from t3, show (clrC c'').x.step = 1 from t2, ceq_cxI ⟨hh, by omega⟩]
        refine ifb_i (fun hb => by simp at hb) (fun _ => ?_)
        have e : iadd (I : Int) 1 = ((I + 1 : Nat) : Int) := by rw [iadd_eq (by omega) (by omega)]; omega
        rw [e]
        rw [← hrest] at hs10
        have hs11 := unpick hs10 (by omega)
        have hmap : (cs.set I (clrC c'')).map (fun c => (some c.p : Pt)) = cs.map (fun c => (some c.p : Pt)) := by
          apply List.ext_getElem?
          intro j
          rw [List.getElem?_map, List.getElem?_map, List.getElem?_set]
          by_cases hj : I = j
          · subst hj
            rw [if_pos rfl, if_pos (by omega), hci]
            show some (some c''.p) = some (some c.p)
            rw [hp2]
          · rw [if_neg hj]
        refine ⟨⟨I + 1, cs.set I (clrC c''), rfl, hI', by simp [hlen], fun i c2 hi2 => ?_, ?_⟩, by dsimp only; omega⟩
        · rw [List.getElem?_set] at hi2
          by_cases hj : I = i
          · subst hj
            rw [if_pos rfl, if_pos (by omega)] at hi2
            obtain rfl := Option.some.inj hi2
            rw [if_pos (by omega)]
            exact t1
          · rw [if_neg hj] at hi2
            have := hcs i c2 hi2
            by_cases hlt : i < I
            · rw [if_pos hlt] at this; rw [if_pos (by omega)]; exact this
            · rw [if_neg hlt] at this; rw [if_neg (by omega)]; exact this
        · unfold gmE
          rw [hmap]
          exact hs11
  · have hI' : I = M := by have : ¬ (I : Int) < (M : Int) := by simpa using hc
                           omega
    subst hI'
    unfold law19_RoundNone.j2
    have e : iadd (R : Int) 1 = ((R + 1 : Nat) : Int) := by rw [iadd_eq (by omega) (by omega)]; omega
    rw [e]
    refine ⟨⟨R + 1, cs, rfl, hR', hlen, fun i c hi => ?_, hs4⟩, by dsimp only; omega⟩
    have hlt : i < cs.length := by rw [List.getElem?_eq_some_iff] at hi; exact hi.1
    have := hcs i c hi
    rw [if_pos (by omega)] at this
    exact this
end Go.Proofs.YtimmoekliphobaaDoor
namespace Go.Proofs.YtimmoekliphobaaDoor
open Go Go.Sh Go.ChangeShapes Go.WideShapes Go.ChangeAt Go.RowKit
open Go.Sh.Ty (reg)
set_option linter.unusedVariables false
set_option maxRecDepth 100000

theorem roundNone_contract (HT : Type) (en : TypeId × Value → HT) (W : World) (base : Nat) (args : Array Value) (ds gs : List (DataW HT)) (before : List MemPlace)
    (hval : ∀ (j : Nat) t v, Tryd.f5.params[j]? = some t → args[j]? = some v → Value.okWide Tryd.prog W .any base t v)
    (hW : DataW.Whole en Tryd.prog Tryd.f5.params.toList Rows.roundNoneSpec.vars false W args.toList ds gs before) (hL : laidMetH Tryd.prog Rows.roundNoneRow.laid W) :
    Calls Tryd.prog 5 args W fun e W' => ∃ v, e = .returned v ∧ Rows.roundNoneSpec.post en Tryd.prog Tryd.f5 false true false false W args v W' := by
  have hW' := hW
  obtain ⟨p, q, hA0, hV, rfl, hfz, hnd⟩ := hW
  have hA : DataW.TrodAll en Tryd.prog W 0 (fun _ => true) true Tryd.f5.params.toList args.toList ds p := hA0
  rw [Tryd.params5] at hA hval
  obtain ⟨v0, vs0, d0, ds0, p0, q0, hargs, rfl, rfl, h0, r0⟩ := trodAll_cons hA
  obtain ⟨v1, vs1, d1, ds1, p1, q1, rfl, rfl, rfl, h1, r1⟩ := trodAll_cons r0
  obtain ⟨v2, vs2, d2, ds2, p2, q2, rfl, rfl, rfl, h2, r2⟩ := trodAll_cons r1
  obtain ⟨rfl, rfl, rfl⟩ := trodAll_nil r2
  obtain rfl : args = #[v0, v1, v2] := by cases args; simp_all
  obtain ⟨rfl, _⟩ := trodVars_none hV
  obtain ⟨n0, rfl, i0⟩ := arg_int Tryd.underlying3 (hval 0 3 v0 rfl rfl) h0
  obtain ⟨n1, rfl, i1⟩ := arg_int Tryd.underlying3 (hval 1 3 v1 rfl rfl) h1
  obtain ⟨n2, rfl, i2⟩ := arg_int Tryd.underlying3 (hval 2 3 v2 rfl rfl) h2
  refine (law19_RoundNone.ok n0 n1 n2 (fun r h' => r = true ∧ Ext W.heap h') W.heap (RoundNone_spec n0 n1 n2 (tb_of_laid hL) (fun h' hx => ⟨rfl, hx⟩)) W rfl).mono ?_
  rintro e W' ⟨v, rfl, _, ho, hu, r, rfl, rfl, hx⟩
  exact ⟨_, rfl, post_ext rfl rfl (by decide +kernel) hW' rfl rfl rfl hx ho hu⟩
noncomputable def roundNone_world (os : Os) : World :=
  { World.holding Tryd.prog os ⟨#[], #[], []⟩ with heap := (World.holding Tryd.prog os ⟨#[], #[], []⟩).heap.modify 0 fun
      | .cells _ t frozen => .cells (tabZ.map (Value.int .u32)).toArray t frozen
      | o => o }
noncomputable def roundNone_wit : Array Value := #[.int .i64 0, .int .i64 0, .int .i64 0]
theorem roundNone_met (os : Os) : laidMet Tryd.prog Rows.roundNoneRow.laid ((roundNone_world os).forCall (fun _ _ => 0) ⟨#[], roundNone_wit, []⟩).memory :=
  laidMet_of_run' 8 (by kernel_rfl) (by kernel_rfl)
theorem roundNone_reads (os : Os) {HT : Type} (en : TypeId × Value → HT) : ∃ places, DataW.whole en Tryd.prog ((roundNone_world os).forCall (fun _ _ => 0) ⟨#[], roundNone_wit, []⟩).memory Tryd.f5.params.toList Rows.roundNoneSpec.vars false roundNone_wit.toList 8 = some ([.lit (.int .i64 0), .lit (.int .i64 0), .lit (.int .i64 0)], [], places) :=
  ⟨[], by kernel_rfl⟩
theorem roundNone_lifted (os : Os) (started : os.Started) (HT : Type) (en : TypeId × Value → HT) (F : Stop.Interp) :
    ReturnsInHanded {} Tryd.checked os 5 .any ((OpenSpec.ofChange Rows.roundNoneSpec).preRow en Tryd.prog Tryd.f5 Rows.roundNoneRow.domain false Rows.roundNoneRow.laid) (((OpenSpec.ofChange Rows.roundNoneSpec).at F).post en Tryd.prog Tryd.f5 false true false false) := by
  obtain ⟨places, hx⟩ := roundNone_reads os en
  refine returnsInHanded_of_row (C := Tryd.checked) (s := OpenSpec.ofChange Rows.roundNoneSpec) ownKnob0 started (by kernel_rfl) Tryd.func5
    (witness_row_at (enc := en) (C := Tryd.checked) false (roundNone_world os) roundNone_wit rfl (by kernel_rfl) (by kernel_rfl) (by kernel_rfl)
      (OpenSpec.preRow_of_cond 8 hx (by kernel_rfl) (fun k hk => by cases hk) (by kernel_rfl) (roundNone_met os))) ?_
  intro W base args ds gs before hval hW _ _ _ hL _ _
  exact roundNone_contract HT en W base args ds gs before hval hW hL
theorem roundNone_said : Rows.RoundNoneSaid :=
  OpenClaim.holds_of_cond 5 Tryd.f5 rfl rfl rfl rfl rfl rfl rfl ⟨rfl, rfl, rfl, rfl, rfl⟩ rfl rfl rfl rfl rfl (by kernel_rfl) Tryd.func5 (by kernel_rfl)
    (of_decide_eq_true (by kernel_rfl)) (by unfold Func.isWrapper; first | (rw [if_pos (by decide +kernel)]; kernel_rfl) | (rw [if_neg (by decide +kernel)]; exact ⟨rfl, rfl⟩))
    (fun os started H enc _ F => by rw [OpenClaim.pre_eq_preRow]; exact roundNone_lifted os started H enc F)
theorem roundNone_plain (f : FuncId) (fn : Func) (hf : Tryd.pinned.checked.prog.funcNamed "wapentake/wapentakelaw19.RoundNone" = some f) (hfn : Tryd.pinned.checked.prog.funcs[f]? = some fn) :
    false = Tryd.pinned.checked.prog.looks [] ∧ ∀ (j : Nat) t, fn.params[j]? = some t → Tryd.pinned.checked.prog.wantsStandIn t = false := by
  obtain rfl : f = 5 := Option.some.inj ((show Tryd.prog.funcNamed "wapentake/wapentakelaw19.RoundNone" = some 5 by kernel_rfl).symm.trans hf) |>.symm
  obtain rfl : fn = Tryd.f5 := (Option.some.inj (Tryd.func5.symm.trans hfn)).symm
  refine ⟨by kernel_rfl, fun j t ht => ?_⟩
  rw [Tryd.params5] at ht
  have hm := Array.mem_of_getElem? ht
  simp only [List.mem_toArray, List.mem_cons, List.not_mem_nil, or_false] at hm
  rcases hm with rfl | rfl | rfl
  · exact (show Tryd.prog.wantsStandIn 3 = false by kernel_rfl)
  · exact (show Tryd.prog.wantsStandIn 3 = false by kernel_rfl)
  · exact (show Tryd.prog.wantsStandIn 3 = false by kernel_rfl)
theorem roundNone_card : Rows.RoundNoneCardSaid :=
  Claim7.holds_tied_plain_at .later [] _ _ _ _ roundNone_said (fun _ h => by cases h) (by kernel_rfl) (fun _ h => by cases h) roundNone_row_tie rfl ⟨rfl, rfl⟩ (by kernel_rfl) rfl roundNone_plain (by kernel_rfl)
end Go.Proofs.YtimmoekliphobaaDoor

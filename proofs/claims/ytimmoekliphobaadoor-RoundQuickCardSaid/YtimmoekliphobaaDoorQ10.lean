/-
  THE CARD OF wapentakelaw19.RoundQuick: for every input that the row lets in, RoundQuick returns true and its arguments read as they did. Part 10 of 14. No condition stands ahead of the statement. Parts of this text were printed by a program of ours.
-/
import Derived.Test.YtimmoekliphobaaDoorQ09
set_option linter.all false
set_option maxRecDepth 100000
set_option maxHeartbeats 4000000
namespace Go.Proofs.YtimmoekliphobaaDoor
open Go Go.Sh
open Go.Sh.Ty (reg)
section
variable {h0 h : H} {S : List Nat} {L G : List En}
/-- one core of several is taken out -/
theorem pick {cs : List CS} {i : Nat} {c : CS} (hs : Sat h0 S h (G ++ (cs.flatMap core ++ L))) (hi : cs[i]? = some c) : Sat h0 S h (core c ++ (G ++ ((cs.take i ++ cs.drop (i + 1)).flatMap core ++ L))) := by
  refine hs.perm ?_
  have hlt : i < cs.length := by rw [List.getElem?_eq_some_iff] at hi; exact hi.1
  have e : cs = cs.take i ++ c :: cs.drop (i + 1) := by
    have h1 : cs.drop i = c :: cs.drop (i + 1) := by
      rw [List.getElem?_eq_some_iff] at hi
      rw [← hi.2]; exact List.drop_eq_getElem_cons hlt
    rw [← h1, List.take_append_drop]
  have e2 : cs.flatMap core = (cs.take i).flatMap core ++ (core c ++ (cs.drop (i + 1)).flatMap core) := by
    conv => lhs; rw [e]
    rw [List.flatMap_append, List.flatMap_cons]
  rw [e2, List.flatMap_append]
  have := List.perm_append_comm_assoc (G ++ (cs.take i).flatMap core) (core c) ((cs.drop (i + 1)).flatMap core ++ L)
  simpa only [List.append_assoc] using this
/-- and put back -/
theorem unpick {cs : List CS} {i : Nat} {c : CS} (hs : Sat h0 S h (core c ++ (G ++ ((cs.take i ++ cs.drop (i + 1)).flatMap core ++ L)))) (hi : i < cs.length) : Sat h0 S h (G ++ ((cs.set i c).flatMap core ++ L)) := by
  refine hs.perm ?_
  rw [List.set_eq_take_append_cons_drop, if_pos hi, List.flatMap_append, List.flatMap_append, List.flatMap_cons]
  have := (List.perm_append_comm_assoc (G ++ (cs.take i).flatMap core) (core c) ((cs.drop (i + 1)).flatMap core ++ L)).symm
  simpa only [List.append_assoc] using this
end
/-- a core in a game in which nothing is heard, at the beginning of round r -/
structure NS (c : CS) (n : Nat) (ht : Int) (i r : Nat) : Prop where
  ok : Cok c
  ms : c.ms = memN n
  me : c.x.me = ((i + 1 : Nat) : Int)
  ht : c.ht = ht
  rd : c.rd = r
  base : c.x.base = 1
  vts : c.vts = []
  pl : c.pl = []
  dec : c.x.decided = false
  acts : c.acts = []
  st : (r = 0 ∧ c.x.step = 0) ∨ (c.x.step = 1 ∧ c.x.ticks = 0)
theorem New1.ns {c : CS} {n : Nat} {ht : Int} {i : Nat} (h : New1 c n ht i) : NS c n ht i 0 := ⟨h.ok, h.ms, h.me, h.ht, h.rd, h.base, h.vts, h.pl, h.dec, h.acts, .inl ⟨rfl, h.step⟩⟩
theorem isMem_N {c : CS} {n i : Nat} (h1 : c.ms = memN n) (h2 : c.x.me = ((i + 1 : Nat) : Int)) (hi : i < n) : isMem c = true := by
  unfold isMem; rw [h1, h2]; exact findF_N n i hi
theorem idAt_N {c : CS} {n : Nat} (h1 : c.ms = memN n) (hn : 1 ≤ n) (a b : Int) : idAt c a b = (a + b) % n + 1 := by
  unfold idAt
  rw [h1, memN_len]
  have h2 : 0 ≤ (a + b) % (n : Int) := Int.emod_nonneg _ (by omega)
  have h3 : (a + b) % (n : Int) < n := Int.emod_lt_of_pos _ (by omega)
  rw [memAt_N n _ (by omega)]
  show ((((a + b) % (n : Int)).toNat + 1 : Nat) : Int) = _
  omega
def updS (S : Said) (i : Nat) (l : List VV) : Said := fun j => if j = i then l else S j
theorem updS_self (S : Said) (i : Nat) (l : List VV) : updS S i l i = l := if_pos rfl
theorem updS_ne (S : Said) {i j : Nat} (l : List VV) (h : j ≠ i) : updS S i l j = S j := if_neg h
theorem updS_eq (S : Said) (i : Nat) : updS S i (S i) = S := by
  funext j; unfold updS; split
  · rename_i h; rw [h]
  · rfl
theorem updS_le (S : Said) (i : Nat) (e : List VV) : SaidLe S (updS S i (S i ++ e)) := by
  intro j v hv
  unfold updS
  split
  · rename_i h; subst h; exact List.mem_append_left _ hv
  · exact hv
/-- an act, among what is said -/
structure ActS (S : Said) (n M : Nat) (a : api_Act) : Prop where
  dec : a.Act = 3 → a.Digest ≠ dz ∧ ∃ r, QS S n M (2, r, a.Digest)
  vote : a.Act = 2 → (a.Kind = 1 ∨ a.Kind = 2) ∧ 0 ≤ a.Round ∧ a.Round ≤ 1024
  plan : a.Act = 1 → 0 ≤ a.Round ∧ a.Round ≤ 1024 ∧ a.Valid < a.Round
theorem ActS.mono {S S' : Said} {n M : Nat} {a : api_Act} (h : SaidLe S S') (ha : ActS S n M a) : ActS S' n M a :=
  ⟨fun e => ⟨(ha.dec e).1, (ha.dec e).2.imp fun _ hq => hq.mono h⟩, ha.vote, ha.plan⟩
section
variable {S S' : Said} {n M : Nat} {DD DD' : Dig → Prop} {ht : Int} {i : Nat} {c : CS}
theorem CI.mono (hc : CI S n M DD ht i c) (h : SaidLe S S') (hi : S' i = S i) (hD : ∀ d, DD d → DD' d) : CI S' n M DD' ht i c :=
  { hc with
    box := fun q hq => ⟨(hc.box q hq).1, (hc.box q hq).2.1, fun j hj e => h j _ ((hc.box q hq).2.2 j hj e)⟩
    nn := by rw [hi]; exact hc.nn
    bel := by rw [hi]; exact hc.bel
    lk1 := by rw [hi]; exact hc.lk1
    lk2 := fun h0 => (hc.lk2 h0).mono h
    pv := fun e he => ⟨(hc.pv e he).1, hD _ (hc.pv e he).2⟩ }
theorem GoodS.dd (hg : GoodS S n M DD) (hD : ∀ d, DD d → DD' d) : GoodS S n M DD' :=
  ⟨hg.ord, fun i hi r d h hd => ⟨(hg.lock i hi r d h hd).1, hD _ (hg.lock i hi r d h hd).2⟩, hg.just⟩
theorem GoodS.add (hg : GoodS S n M DD) (hc : CI S n M DD ht i c) (hi : i < M) {kd : Int} {d : Dig} (hk : c.x.step = kd) (hkd : kd = 1 ∨ kd = 2)
    (h2 : kd = 2 → d ≠ dz → QS S n M (1, c.rd, d) ∧ DD d) (h1 : kd = 1 → d ≠ dz → ∀ r0 d0, (2, r0, d0) ∈ S i → r0 < c.rd → d0 ≠ dz → d = d0 ∨ ∃ r1, r0 ≤ r1 ∧ r1 < c.rd ∧ QS S n M (1, r1, d)) :
    GoodS (updS S i (S i ++ [(kd, c.rd, d)])) n M DD := by
  have hle := updS_le S i [(kd, c.rd, d)]
  have hself := updS_self S i (S i ++ [(kd, c.rd, d)])
  have hbef : ∀ v ∈ S i, Bef v (kd, c.rd, d) := by
    intro v hv
    rcases hc.bel v hv with h | ⟨h, h'⟩
    · exact .inl h
    · exact .inr ⟨h, by show v.1 < kd; omega⟩
  refine ⟨fun j hj => ?_, fun j hj r d' hm hd' => ?_, fun j hj r d' hm hd' r0 d0 hm0 hlt hd0 => ?_⟩
  · by_cases hji : j = i
    · subst hji
      rw [hself, List.pairwise_append]
      refine ⟨hg.ord j hj, List.pairwise_singleton _ _, fun a ha b hb => ?_⟩
      rw [List.mem_singleton] at hb; subst hb
      exact hbef a ha
    · rw [updS_ne S _ hji]; exact hg.ord j hj
  · have old : (2, r, d') ∈ S j → QS (updS S i (S i ++ [(kd, c.rd, d)])) n M (1, r, d') ∧ DD d' := fun h => ⟨(hg.lock j hj r d' h hd').1.mono hle, (hg.lock j hj r d' h hd').2⟩
    by_cases hji : j = i
    · subst hji
      rw [hself] at hm
      rcases List.mem_append.1 hm with hm | hm
      · exact old hm
      · rw [List.mem_singleton] at hm
        have e1 : (2 : Int) = kd := congrArg (fun x : VV => x.1) hm
        have e2 : r = c.rd := congrArg (fun x : VV => x.2.1) hm
        have e3 : d' = d := congrArg (fun x : VV => x.2.2) hm
        subst e2; subst e3
        exact ⟨(h2 e1.symm hd').1.mono hle, (h2 e1.symm hd').2⟩
    · rw [updS_ne S _ hji] at hm; exact old hm
  · have mono : (∃ r1, r0 ≤ r1 ∧ r1 < r ∧ QS S n M (1, r1, d')) → ∃ r1, r0 ≤ r1 ∧ r1 < r ∧ QS (updS S i (S i ++ [(kd, c.rd, d)])) n M (1, r1, d') := fun ⟨r1, a, b, q⟩ => ⟨r1, a, b, q.mono hle⟩
    by_cases hji : j = i
    · subst hji
      rw [hself] at hm hm0
      have key : (2, r0, d0) ∈ S j := by
        rcases List.mem_append.1 hm0 with hm0 | hm0
        · exact hm0
        · exfalso
          rw [List.mem_singleton] at hm0
          have e2 : r0 = c.rd := congrArg (fun x : VV => x.2.1) hm0
          rcases List.mem_append.1 hm with hm | hm
          · rcases hc.bel _ hm with h | ⟨h, _⟩ <;> simp only at h <;> omega
          · rw [List.mem_singleton] at hm
            have e3 : r = c.rd := congrArg (fun x : VV => x.2.1) hm
            omega
      rcases List.mem_append.1 hm with hm | hm
      · exact (hg.just j hj r d' hm hd' r0 d0 key hlt hd0).imp id mono
      · rw [List.mem_singleton] at hm
        have e1 : (1 : Int) = kd := congrArg (fun x : VV => x.1) hm
        have e2 : r = c.rd := congrArg (fun x : VV => x.2.1) hm
        have e3 : d' = d := congrArg (fun x : VV => x.2.2) hm
        subst e2; subst e3
        exact (h1 e1.symm hd' r0 d0 key hlt hd0).imp id mono
    · rw [updS_ne S _ hji] at hm hm0
      exact (hg.just j hj r d' hm hd' r0 d0 hm0 hlt hd0).imp id mono
structure PI (S : Said) (n M : Nat) (DD : Dig → Prop) (ht : Int) (i : Nat) (c : CS) : Prop where
  gd : GoodS S n M DD
  ci : CI S n M DD ht i c
  ak : ∀ a ∈ acts1 c, ActS S n M a
/-- a vote is said -/
theorem PI.vote {c c0 : CS} {pre : List VV} (hp : PI S n M DD ht i c) (hMn : M ≤ n) (hi : i < M) (hS : S i = pre ++ vvs (acts1 c)) {kd : Int} {d : Dig} (hk : c.x.step = kd) (hkd : kd = 1 ∨ kd = 2) (r o : Sl)
    (hok : Cok (votesC c0 kd d r o)) (e1 : c0.ms = c.ms ∧ c0.x.me = c.x.me ∧ c0.ht = c.ht ∧ c0.vts = c.vts ∧ c0.rd = c.rd ∧ c0.pl = c.pl ∧ c0.acts = c.acts)
    (hl : (c0.x.locked = c.x.locked ∧ c0.lq = c.lq ∧ c0.x.valid = c.x.valid ∧ (kd = 2 → d = dz)) ∨ (kd = 2 ∧ c0.x.locked.round = c.rd ∧ c0.x.valid.round = c.rd ∧ digB c0.x.locked.block c0.lq = d ∧ QS S n M (1, c.rd, d)))
    (h2 : kd = 2 → d ≠ dz → QS S n M (1, c.rd, d) ∧ DD d) (h1 : kd = 1 → d ≠ dz → ∀ r0 d0, (2, r0, d0) ∈ S i → r0 < c.rd → d0 ≠ dz → d = d0 ∨ ∃ r1, r0 ≤ r1 ∧ r1 < c.rd ∧ QS S n M (1, r1, d)) :
    PI (updS S i (pre ++ vvs (acts1 (votesC c0 kd d r o)))) n M DD ht i (votesC c0 kd d r o) ∧ vvs (acts1 (votesC c0 kd d r o)) = vvs (acts1 c) ++ [(kd, c.rd, d)] := by
  obtain ⟨hg, hc, hak⟩ := hp
  obtain ⟨f1, f2, f3, f4, f5, f6, f7⟩ := e1
  have hmem : isMem c0 = true := isMem_N (f1.trans hc.ms) (f2.trans hc.me) (by omega)
  obtain ⟨acts, KA, out, he, hacts⟩ := votesC_eq c0 kd d r o
  rw [hmem, f7] at hacts
  simp only [if_true] at hacts
  have hac : acts1 (votesC c0 kd d r o) = acts1 c ++ [{ api_Act.zero with Act := 2, Round := c0.rd, Kind := kd, Digest := d, Block := { api_Block.zero with Requests := r } }] := by
    rw [he]; show acts.map (·.1) = _; rw [hacts, List.map_append]; rfl
  have hvv : vvs (acts1 (votesC c0 kd d r o)) = vvs (acts1 c) ++ [(kd, c.rd, d)] := by
    rw [hac, vvs_app, f5]; rfl
  refine ⟨?_, hvv⟩
  rw [hvv, ← List.append_assoc, ← hS]
  have hle := updS_le S i [(kd, c.rd, d)]
  have hself := updS_self S i (S i ++ [(kd, c.rd, d)])
  have hstep : (votesC c0 kd d r o).x.step = kd + 1 := by rw [he]; rfl
  have hx : (votesC c0 kd d r o).x.locked = c0.x.locked ∧ (votesC c0 kd d r o).lq = c0.lq ∧ (votesC c0 kd d r o).x.valid = c0.x.valid ∧ (votesC c0 kd d r o).rd = c0.rd ∧ (votesC c0 kd d r o).vts = c0.vts ∧ (votesC c0 kd d r o).pl = c0.pl ∧ (votesC c0 kd d r o).ms = c0.ms ∧ (votesC c0 kd d r o).x.me = c0.x.me ∧ (votesC c0 kd d r o).ht = c0.ht := by
    rw [he]; exact ⟨rfl, rfl, rfl, rfl, rfl, rfl, rfl, rfl, rfl⟩
  obtain ⟨x1, x2, x3, x4, x5, x6, x7, x8, x9⟩ := hx
  refine ⟨hg.add hc hi hk hkd h2 h1, ⟨hok, x7.trans (f1.trans hc.ms), x8.trans (f2.trans hc.me), x9.trans (f3.trans hc.ht), by rw [x5, f4]; exact hc.nd, ?_, ?_, ?_, ?_, ?_, ?_, ?_, ?_⟩, ?_⟩
  · rw [x5, f4]
    intro q hq
    obtain ⟨b1, b2, b3⟩ := hc.box q hq
    exact ⟨b1, b2, fun j hj e => hle j _ (b3 j hj e)⟩
  · rw [hself]
    intro v hv
    rcases List.mem_append.1 hv with hv | hv
    · exact hc.nn v hv
    · rw [List.mem_singleton] at hv; subst hv
      exact hc.ok.plc.2.1
  · rw [hself, x4, f5, hstep]
    intro v hv
    rcases List.mem_append.1 hv with hv | hv
    · rcases hc.bel v hv with h | ⟨h, h'⟩
      · exact .inl h
      · exact .inr ⟨h, by omega⟩
    · rw [List.mem_singleton] at hv; subst hv
      exact .inr ⟨rfl, by show kd < kd + 1; omega⟩
  · rw [hself, x1, x2]
    intro r' d' hm hd'
    rcases List.mem_append.1 hm with hm | hm
    · rcases hl with ⟨a1, a2, _⟩ | ⟨a0, a1, a2, a3, a4⟩
      · rw [a1, a2]; exact hc.lk1 r' d' hm hd'
      · have hb := hc.bel _ hm
        simp only at hb
        rw [a1]
        have : r' < c.rd := by rcases hb with hb | ⟨_, hb⟩ <;> omega
        exact ⟨by omega, fun e => by omega⟩
    · rw [List.mem_singleton] at hm
      have e1 : (2 : Int) = kd := congrArg (fun x : VV => x.1) hm
      have e2 : r' = c.rd := congrArg (fun x : VV => x.2.1) hm
      have e3 : d' = d := congrArg (fun x : VV => x.2.2) hm
      rcases hl with ⟨_, _, _, a4⟩ | ⟨a0, a1, a2, a3, a4⟩
      · exact absurd (e3.trans (a4 e1.symm)) hd'
      · exact ⟨by omega, fun _ => by rw [a3, e3]⟩
  · rw [x1, x2]
    rcases hl with ⟨a1, a2, _⟩ | ⟨a0, a1, a2, a3, a4⟩
    · rw [a1, a2]; exact fun h0 => (hc.lk2 h0).mono hle
    · rw [a1, a3]; exact fun _ => a4.mono hle
  · rw [x1, x4, f5, hstep]
    rcases hl with ⟨a1, a2, _⟩ | ⟨a0, a1, a2, a3, a4⟩
    · rw [a1]
      refine ⟨hc.lk3.1, fun e => ?_⟩
      have := hc.lk3.2 e
      omega
    · rw [a1]; exact ⟨Int.le_refl _, fun _ => by omega⟩
  · rw [x3, x4, f5, hstep]
    rcases hl with ⟨_, _, a1, _⟩ | ⟨a0, a1, a2, a3, a4⟩
    · rw [a1]
      refine ⟨hc.vl3.1, fun e => ?_⟩
      have := hc.vl3.2 e
      omega
    · rw [a2]; exact ⟨Int.le_refl _, fun _ => by omega⟩
  · rw [x6, f6]; exact hc.pv
  · rw [hac]
    intro a ha
    rcases List.mem_append.1 ha with ha | ha
    · exact (hak a ha).mono hle
    · rw [List.mem_singleton] at ha; subst ha
      have hp := hc.ok.plc.2
      exact ⟨fun h => (by cases h), fun _ => ⟨hkd, by show 0 ≤ c0.rd; omega, by show c0.rd ≤ 1024; omega⟩, fun h => (by cases h)⟩
/-- a round begins -/
theorem PI.enter {c : CS} {pre : List VV} (hp : PI S n M DD ht i c) (hS : S i = pre ++ vvs (acts1 c)) (rd : Int) (r o : Sl) (hok : Cok (enterC c rd r o)) (hrd : 0 ≤ rd ∧ rd ≤ 1024) (hgt : c.rd < rd ∨ (c.rd = rd ∧ c.x.step = 0)) :
    PI (updS S i (pre ++ vvs (acts1 (enterC c rd r o)))) n M DD ht i (enterC c rd r o) ∧ vvs (acts1 (enterC c rd r o)) = vvs (acts1 c) := by
  obtain ⟨hg, hc, hak⟩ := hp
  obtain ⟨acts, KA, out, he, hacts⟩ := enterC_eq c rd r o
  have hac : ∃ e, acts1 (enterC c rd r o) = acts1 c ++ e ∧ ∀ a ∈ e, a.Act = 1 ∧ a.Round = rd ∧ a.Valid = c.x.valid.round := by
    rw [he]
    show ∃ e, acts.map (·.1) = _ ∧ _
    rw [hacts, List.map_append]
    refine ⟨_, rfl, fun x hx => ?_⟩
    split at hx
    · have hx' : x = { api_Act.zero with Act := 1, Round := rd, Valid := c.x.valid.round, Block := { c.x.valid.block with Requests := r } } := by simpa using hx
      rw [hx']; exact ⟨rfl, rfl, rfl⟩
    · simp at hx
  obtain ⟨e, hac, hae⟩ := hac
  have hvv : vvs (acts1 (enterC c rd r o)) = vvs (acts1 c) := by
    rw [hac, vvs_app]
    have : vvs e = [] := by
      unfold vvs
      rw [List.filterMap_eq_nil_iff]
      intro a ha
      unfold vvA
      rw [(hae a ha).1]; rfl
    rw [this, List.append_nil]
  refine ⟨?_, hvv⟩
  rw [hvv, ← hS, updS_eq]
  have hx : (enterC c rd r o).x.locked = c.x.locked ∧ (enterC c rd r o).lq = c.lq ∧ (enterC c rd r o).x.valid = c.x.valid ∧ (enterC c rd r o).rd = rd ∧ (enterC c rd r o).vts = c.vts ∧ (enterC c rd r o).pl = c.pl ∧ (enterC c rd r o).ms = c.ms ∧ (enterC c rd r o).x.me = c.x.me ∧ (enterC c rd r o).ht = c.ht ∧ (enterC c rd r o).x.step = 1 := by
    rw [he]; exact ⟨rfl, rfl, rfl, rfl, rfl, rfl, rfl, rfl, rfl, rfl⟩
  obtain ⟨x1, x2, x3, x4, x5, x6, x7, x8, x9, x10⟩ := hx
  have hv3 := hc.vl3
  have hl3 := hc.lk3
  refine ⟨hg, ⟨hok, x7.trans hc.ms, x8.trans hc.me, x9.trans hc.ht, by rw [x5]; exact hc.nd, by rw [x5]; exact hc.box, hc.nn, ?_, by rw [x1, x2]; exact hc.lk1, by rw [x1, x2]; exact hc.lk2, ?_, ?_, by rw [x6]; exact hc.pv⟩, ?_⟩
  · rw [x4, x10]
    intro v hv
    rcases hc.bel v hv with h | ⟨h, h'⟩
    · left; omega
    · rcases hgt with hgt | ⟨hgt, hs⟩
      · left; omega
      · right; omega
  · rw [x1, x4, x10]
    refine ⟨by omega, fun e => ?_⟩
    rcases hgt with hgt | ⟨hgt, hs⟩
    · omega
    · have := hl3.2 (by omega); omega
  · rw [x3, x4, x10]
    refine ⟨by omega, fun e => ?_⟩
    rcases hgt with hgt | ⟨hgt, hs⟩
    · omega
    · have := hv3.2 (by omega); omega
  · rw [hac]
    intro a ha
    rcases List.mem_append.1 ha with ha | ha
    · exact hak a ha
    · obtain ⟨y1, y2, y3⟩ := hae a ha
      refine ⟨fun h => (by rw [y1] at h; cases h), fun h => (by rw [y1] at h; cases h), fun _ => ⟨by omega, by omega, ?_⟩⟩
      rw [y2, y3]
      rcases hgt with hgt | ⟨hgt, hs⟩
      · omega
      · by_cases e : c.x.valid.round = c.rd
        · have := hv3.2 e; omega
        · omega
end
end Go.Proofs.YtimmoekliphobaaDoor
namespace Go.Sh
open Go
open Go.Sh.Ty (reg)
theorem flat_set {α : Type} [Ty α] {n : Nat} (hn : ∀ y : α, (enc y).length = n) (y : α) : ∀ (l : List α) (j : Nat), j < l.length → ((l.set j y).map enc).flatten = ((l.map enc).flatten).take (j * n) ++ enc y ++ ((l.map enc).flatten).drop (j * n + n)
  | [], j, h => by simp at h
  | a :: l, 0, h => by
    simp only [List.set_cons_zero, List.map_cons, List.flatten_cons, Nat.zero_mul, List.take_zero, List.nil_append, Nat.zero_add]
    rw [List.drop_left' (hn a)]
  | a :: l, j + 1, h => by
    have ih := flat_set hn y l j (by simpa using h)
    simp only [List.set_cons_succ, List.map_cons, List.flatten_cons]
    have e1 : (j + 1) * n = n + j * n := by rw [Nat.succ_mul]; omega
    have e2 : (j + 1) * n + n = n + (j * n + n) := by omega
    rw [e2, e1, ih, List.take_append, List.drop_append, hn a]
    have e3 : (enc a).take (n + j * n) = enc a := List.take_of_length_le (by rw [hn a]; omega)
    have e4 : (enc a).drop (n + (j * n + n)) = [] := List.drop_of_length_le (by rw [hn a]; omega)
    rw [e3, e4]
    have e5 : n + j * n - n = j * n := by omega
    have e6 : n + (j * n + n) - n = j * n + n := by omega
    rw [e5, e6]; simp
/-- a slice with whole room behind it, whose row may begin ahead of it -/
def OwnO {α : Type} [Ty α] (T n : Nat) (s : Sl) (l : List α) (h : H) : Prop :=
  (s.a = none ∧ s.len = 0 ∧ s.cap = 0 ∧ l = []) ∨ ∃ b pre spare, s.a = some ⟨b, pre.length, none⟩ ∧ Cel T ⟨b, 0, none⟩ (pre ++ (l.map enc).flatten ++ spare) h ∧ s.len = l.length ∧ l.length ≤ s.cap ∧ (s.cap - l.length) * n ≤ spare.length
def ownO {α : Type} [Ty α] (T n : Nat) (s : Sl) (l : List α) : En := ⟨blk s, OwnO T n s l⟩
theorem ownO_loc {α : Type} [Ty α] (T n : Nat) (s : Sl) (l : List α) : Loc (ownO T n s l) := by
  intro h h' hb H
  rcases H with H | ⟨b, pre, spare, ha, hc, h1⟩
  · exact .inl H
  · refine .inr ⟨b, pre, spare, ha, ⟨rfl, ?_⟩, h1⟩
    rw [hb b (by simp only [ownO]; rw [blk_some ha]; simp)]; exact hc.2
theorem OwnA.o {α : Type} [Ty α] {T n : Nat} {s : Sl} {l : List α} {h : H} (H : OwnA T n s l h) : OwnO T n s l h := by
  rcases H with H | ⟨b, spare, ha, hc, h1, h2, h3⟩
  · exact .inl H
  · exact .inr ⟨b, [], spare, ha, by simpa using hc, h1, h2, by omega⟩
theorem OwnO.sv {α : Type} [Ty α] {T n : Nat} {s : Sl} {l : List α} {h : H} (hn : ∀ y : α, (enc y).length = n) (H : OwnO T n s l h) : SV n h s l := by
  rcases H with ⟨h1, h2, h3, h4⟩ | ⟨b, pre, spare, ha, hc, h1, h2, h3⟩
  · subst h4; exact ⟨.inl ⟨h1, h2, rfl⟩, h2, by omega⟩
  · refine ⟨.inr ⟨_, ha, ?_, by rw [enc_flat_len hn, h1]⟩, h1, by omega⟩
    have := hc.at_.sub pre.length (l.map enc).flatten.length
    rw [List.append_assoc, List.drop_left, List.take_left, add_spot rfl] at this
    simpa using this
theorem OwnO.lt {α : Type} [Ty α] {T n : Nat} {s : Sl} {l : List α} {h : H} (H : OwnO T n s l h) : ∀ b ∈ blk s, b < h.size := by
  rcases H with ⟨h1, _⟩ | ⟨b, pre, spare, ha, hc, _⟩
  · rw [blk_none h1]; simp
  · rw [blk_some ha]; intro b' hb'; simp only [List.mem_singleton] at hb'; subst hb'; exact hc.lt
section
variable {h0 h h' : H} {S : List Nat} {L : List En} {α : Type} [Ty α] {T n : Nat}
theorem set_same {L : List En} {i : Nat} {e : En} (h : L[i]? = some e) : L.set i e = L := by
  apply List.ext_getElem?
  intro j
  rw [List.getElem?_set]
  split
  · rename_i h1; subst h1; split <;> simp_all
  · rfl
/-- an element is changed -/
theorem Sat.els_ {s : Sl} {l : List α} {j : Int} {x : α} {u : α → α} {k : H → Prop} (i : Nat) (hs : Sat h0 S h L) (hi : L[i]? = some (own T n s l)) (hn : ∀ y : α, (enc y).length = n) (h0j : 0 ≤ j) (hx : l[j.toNat]? = some x)
    (hk : ∀ h', Sat h0 S h' (L.set i (own T n s (l.set j.toNat (u x)))) → k h') : sidx s j n (fun p => st p u k) h := by
  have ho : OwnA T n s l h := hs.at_ hi
  obtain ⟨a, ha, hat, hlt⟩ := (ho.sv hn).elem hn h0j hx
  have hjl : j.toNat < l.length := by rw [List.getElem?_eq_some_iff] at hx; exact hx.1
  refine ⟨_, ⟨⟨a, ha, rfl⟩, h0j, hlt⟩, x, hat, ?_⟩
  rcases ho with ⟨h1, _⟩ | ⟨b, spare, ha', hc, h2, h3, h4⟩
  · rw [h1] at ha; cases ha
  · rw [ha'] at ha
    obtain rfl := Option.some.inj ha
    have hle : j.toNat * n + n ≤ l.length * n := by rw [← Nat.succ_mul]; exact Nat.mul_le_mul_right _ hjl
    obtain ⟨p1, p2, p3⟩ := hc.put (j.toNat * n) (enc (u x)) (by rw [List.length_append, enc_flat_len hn, hn]; omega)
    rw [hn] at p3
    refine ⟨by rw [hn]; exact p3, hk _ (hs.upd hi (by simp only [own]; rw [blk_some ha']; exact p2) (.inr ⟨b, spare, ha', ?_, by rw [List.length_set]; exact h2, by rw [List.length_set]; exact h3, by rw [List.length_set]; exact h4⟩) (own_loc _ _ _ _) ?_)⟩
    · rw [flat_set hn _ _ _ hjl]
      rw [hn] at p1
      rw [List.take_append_of_le_length (by rw [enc_flat_len hn]; omega), List.drop_append_of_le_length (by rw [enc_flat_len hn]; omega)] at p1
      simpa using p1
    · intro b' hb'
      simp only [own] at hb' ⊢
      refine ⟨?_, .inl hb'⟩
      rw [blk_some ha'] at hb'
      simp only [List.mem_singleton] at hb'
      subst hb'
      exact Nat.lt_of_lt_of_le hc.lt p2.size
theorem Sat.toO {s : Sl} {l : List α} (i : Nat) (hs : Sat h0 S h L) (hi : L[i]? = some (own T n s l)) : Sat h0 S h (L.set i (ownO T n s l)) :=
  hs.upd hi (Fr.refl _ _) (OwnA.o (hs.at_ hi)) (ownO_loc _ _ _ _) (fun b hb => ⟨(OwnA.lt (hs.at_ hi)) b hb, .inl hb⟩)
/-- the first element is left -/
theorem Sat.tl_ {s : Sl} {a : α} {l : List α} (i : Nat) (hs : Sat h0 S h L) (hi : L[i]? = some (ownO T n s (a :: l))) (hn : ∀ y : α, (enc y).length = n) : Sat h0 S h (L.set i (ownO T n (s.cut n 1 s.len s.cap) l)) := by
  have ho : OwnO T n s (a :: l) h := hs.at_ hi
  have hA : OwnO T n (s.cut n 1 s.len s.cap) l h ∧ blk (s.cut n 1 s.len s.cap) = blk s := by
    rcases ho with ⟨_, _, _, h4⟩ | ⟨b, pre, spare, ha, hc, h1, h2, h3⟩
    · cases h4
    · simp only [List.length_cons] at h1 h2 h3
      by_cases hcap : s.cap = 1
      · have hl0 : l = [] := List.eq_nil_of_length_eq_zero (by omega)
        subst hl0
        have e : s.cut n 1 s.len s.cap = ⟨s.a, 0, 0⟩ := by unfold Sl.cut; rw [if_pos hcap, h1, hcap]; rfl
        rw [e]
        refine ⟨.inr ⟨b, pre, enc a ++ spare, ha, by simpa using hc, rfl, Nat.le_refl _, by simp⟩, rfl⟩
      · have e : s.cut n 1 s.len s.cap = ⟨some ⟨b, pre.length + n, none⟩, l.length, s.cap - 1⟩ := by
          unfold Sl.cut; rw [if_neg hcap, ha]
          simp only [Option.map_some, Nat.one_mul, h1]
          rw [add_spot rfl]; rfl
        rw [e]
        refine ⟨.inr ⟨b, pre ++ enc a, spare, by rw [List.length_append, hn], by simpa using hc, rfl, by show l.length ≤ s.cap - 1; omega, by
          show (s.cap - 1 - l.length) * n ≤ spare.length
          have : s.cap - 1 - l.length = s.cap - (l.length + 1) := by omega
          rw [this]; exact h3⟩, ?_⟩
        rw [blk_some ha]; rfl
  refine hs.upd hi (Fr.refl _ _) hA.1 (ownO_loc _ _ _ _) (fun x hx => ⟨hA.1.lt x hx, .inl ?_⟩)
  simp only [ownO] at hx ⊢
  rw [hA.2] at hx; exact hx
theorem Sat.appO_ {s x : Sl} {l xl : List α} {bytes : Nat} {z : List Value} {k : Sl → H → Prop} (i : Nat) (hs : Sat h0 S h L) (hi : L[i]? = some (ownO T n s l)) (hx : SV n h x xl) (hn : ∀ y : α, (enc y).length = n) (h1 : ∀ y : α, (enc y).all (·.oneCell') = true) (hz : z.length = n)
    (hbig : (l.length + xl.length) * bytes ≤ maxBytes) (hlen : l.length + xl.length ≤ 9223372036854775807) (hk : ∀ r h', Sat h0 S h' (L.set i (ownO T n r (l ++ xl))) → r.len = l.length + xl.length → k r h') : app T n bytes z s x k h := by
  have ho : OwnO T n s l h := hs.at_ hi
  have hsl : s.len = l.length := (ho.sv hn).2.1
  have hxl : x.len = xl.length := hx.2.1
  have hone : ((xl.map enc).flatten).all (·.oneCell') = true := by
    rw [List.all_eq_true]; intro v hv
    simp only [List.mem_flatten, List.mem_map] at hv
    obtain ⟨_, ⟨y, _, rfl⟩, hv⟩ := hv
    exact List.all_eq_true.1 (h1 y) v hv
  refine ⟨(l.map enc).flatten, (xl.map enc).flatten, (ho.sv hn).1, .inl hx.1, hone, fun hroom => ?_, fun hgrow => ⟨by rw [hsl, hxl]; exact hbig, by omega, fun p cap r hp hcap hr => ?_⟩⟩
  · rcases ho with ⟨ha, hl0, hc0, hl⟩ | ⟨b, pre, spare, ha, hc, h2, h3, h4⟩
    · have hx0 : xl = [] := List.eq_nil_of_length_eq_zero (by omega)
      subst hx0; subst hl
      refine ⟨fun a h => (by rw [ha] at h; cases h), fun r hr => ?_⟩
      rw [ha]
      refine hk r h ?_ (by subst hr; simp only; omega)
      have : ownO T n r (([] : List α) ++ []) = ownO T n s ([] : List α) := by
        have : r = s := by subst hr; cases s; simp only at hl0 hc0 ha hxl ⊢; simp_all
        rw [this]; rfl
      rw [this, set_same hi]; exact hs
    · have hroom2 : xl.length * n ≤ spare.length := Nat.le_trans (Nat.mul_le_mul_right _ (by omega)) h4
      have hput := hc.put (pre.length + s.len * n) (xl.map enc).flatten (by
        rw [List.length_append, List.length_append, enc_flat_len hn, enc_flat_len hn, hsl]; omega)
      obtain ⟨p1, p2, p3⟩ := hput
      have eadd : (⟨b, pre.length, none⟩ : Addr).add (s.len * n) = (⟨b, 0, none⟩ : Addr).add (pre.length + s.len * n) := by
        rw [add_spot rfl, add_spot rfl]; simp
      refine ⟨fun a h => (by rw [ha] at h; obtain rfl := Option.some.inj h; rw [eadd]; exact p3), fun r hr => ?_⟩
      rw [ha]
      simp only
      rw [eadd]
      refine hk r _ (hs.upd hi (by simp only [ownO]; rw [blk_some ha]; exact p2) (.inr ⟨b, pre, spare.drop (xl.length * n), by subst hr; exact ha, ?_, by subst hr; simp [hsl, hxl], by subst hr; simp; omega, ?_⟩) (ownO_loc _ _ _ _) ?_) (by subst hr; simp [hsl, hxl])
      · have e1 : (pre ++ (l.map enc).flatten ++ spare).take (pre.length + s.len * n) = pre ++ (l.map enc).flatten := List.take_left' (by rw [List.length_append, enc_flat_len hn, hsl])
        have e2 : (pre ++ (l.map enc).flatten ++ spare).drop (pre.length + s.len * n + (xl.map enc).flatten.length) = spare.drop (xl.length * n) := by
          rw [← List.drop_drop, List.drop_left' (by rw [List.length_append, enc_flat_len hn, hsl]), enc_flat_len hn]
        rw [e1, e2] at p1
        simpa using p1
      · subst hr
        simp only [List.length_drop, List.length_append]
        have e : (s.cap - (l.length + xl.length)) * n = (s.cap - l.length) * n - xl.length * n := by rw [← Nat.sub_mul]; congr 1; omega
        rw [e]; omega
      · subst hr
        intro b' hb'
        simp only [ownO] at hb' ⊢
        have e : blk (⟨s.a, s.len + x.len, s.cap⟩ : Sl) = blk s := rfl
        rw [e] at hb'
        refine ⟨?_, .inl hb'⟩
        rw [blk_some ha] at hb'
        simp only [List.mem_singleton] at hb'
        subst hb'
        exact Nat.lt_of_lt_of_le hc.lt p2.size
  · subst hp
    have hnew := Cel.new h T ((l.map enc).flatten ++ (xl.map enc).flatten ++ (List.replicate (cap - (s.len + x.len)) z).flatten)
    refine hk r _ (hs.upd hi ((Fr.push _ _).mono (by simp)) (.inr ⟨h.size, [], (List.replicate (cap - (s.len + x.len)) z).flatten, by subst hr; rfl, ?_, by subst hr; simp [hsl, hxl], by subst hr; simp; omega, ?_⟩) (ownO_loc _ _ _ _) ?_) (by subst hr; simp [hsl, hxl])
    · simpa using hnew
    · subst hr
      rw [flatten_len n _ (by intro y hy; simp only [List.mem_replicate] at hy; rw [hy.2]; exact hz)]
      simp only [List.length_replicate, List.length_append, hsl, hxl]
      exact Nat.le_refl _
    · subst hr
      intro b' hb'
      simp only [ownO, blk, List.mem_singleton] at hb'
      subst hb'
      exact ⟨by simp [newC], .inr (Nat.le_refl _)⟩
end
end Go.Sh
namespace Go.Proofs.YtimmoekliphobaaDoor
open Go Go.Sh
open Go.Sh.Ty (reg)
theorem Mvs.p_eq' {c c' : CS} (h : Mvs c c') : c'.p = c.p := by
  have step : ∀ {c c' : CS} {b : Bool}, MV c c' b → c'.p = c.p := by
    intro c c' b h
    cases h <;> first | rfl | (unfold enterC; split <;> rfl) | (unfold votesC; split <;> rfl)
  induction h with
  | last h => exact step h
  | more h _ ih => exact ih.trans (step h)
theorem Mvs.vts_eq {c c' : CS} (h : Mvs c c') : c'.vts = c.vts ∧ c'.ht = c.ht := by
  have step : ∀ {c c' : CS} {b : Bool}, MV c c' b → c'.vts = c.vts ∧ c'.ht = c.ht := by
    intro c c' b h
    cases h <;> first | exact ⟨rfl, rfl⟩ | (unfold enterC; split <;> exact ⟨rfl, rfl⟩) | (unfold votesC; split <;> exact ⟨rfl, rfl⟩)
  induction h with
  | last h => exact step h
  | more h _ ih => exact ⟨ih.1.trans (step h).1, ih.2.trans (step h).2⟩
theorem planC_v (c : CS) (pl : api_Plan) (qs : List api_Request) (r : Sl) : (planC c pl qs r).vts = c.vts ∧ (planC c pl qs r).ht = c.ht ∧ (planC c pl qs r).p = c.p ∧ (planC c pl qs r).acts = c.acts ∧ (planC c pl qs r).rd = c.rd ∧ (planC c pl qs r).x = c.x := by unfold planC; split <;> exact ⟨rfl, rfl, rfl, rfl, rfl, rfl⟩
theorem voteC_v (c : CS) (v : api_Vote) : (voteC c v).vts.length ≤ c.vts.length + 1 ∧ (voteC c v).ht = c.ht ∧ (voteC c v).p = c.p ∧ (voteC c v).acts = c.acts ∧ (voteC c v).rd = c.rd ∧ (voteC c v).x = c.x := by
  unfold voteC; split
  · exact ⟨mins_len _ _ _, rfl, rfl, rfl, rfl, rfl⟩
  · exact ⟨Nat.le_succ _, rfl, rfl, rfl, rfl, rfl⟩
abbrev PA := api_Act × List api_Request
/-- how much a core can still do -/
def nu (c : CS) : Nat := mu c + (if c.x.decided = true then 0 else 1)
theorem MV.nu {c c' : CS} {b : Bool} (hm : MV c c' b) (hc : Cok c) (hd : c.x.decided = false) (hn : c.acts.length + 1 < 2 ^ 19) : c'.acts.length + nu c' ≤ c.acts.length + nu c := by
  obtain ⟨a1, a2, a3⟩ := hm.ok hc hd hn
  unfold Go.Proofs.YtimmoekliphobaaDoor.nu
  rw [hd]
  cases b with
  | true =>
    obtain ⟨a4, a5⟩ := a3 rfl
    rw [a5]; simp only [Bool.false_eq_true, if_false]; omega
  | false =>
    cases hm with
    | dec d r bb qs rr o hw hf =>
      have e1 : (sayC (decC c) { api_Act.zero with Act := 3, Round := r, Digest := d, Block := bb } qs rr o).acts.length = c.acts.length + 1 := by simp [sayC, decC]
      have e2 : mu (sayC (decC c) { api_Act.zero with Act := 3, Round := r, Digest := d, Block := bb } qs rr o) = mu c := rfl
      have e3 : (sayC (decC c) { api_Act.zero with Act := 3, Round := r, Digest := d, Block := bb } qs rr o).x.decided = true := rfl
      rw [e1, e2, e3]; simp only [if_true, Bool.false_eq_true, if_false]; omega
    | wait p qs _ _ _ _ _ => rw [hd]; exact Nat.le_refl _
    | stop _ _ _ => rw [hd]; exact Nat.le_refl _
theorem Mvs.nu {c c' : CS} (hm : Mvs c c') : Cok c → c.x.decided = false → c.acts.length + mu c + 2 < 2 ^ 19 → c'.acts.length + nu c' ≤ c.acts.length + nu c := by
  induction hm with
  | last h => intro hc hd hn; exact h.nu hc hd (by omega)
  | more h _ ih =>
    intro hc hd hn
    obtain ⟨a1, a2, a3⟩ := h.ok hc hd (by omega)
    obtain ⟨a4, a5⟩ := a3 rfl
    have := h.nu hc hd (by omega)
    have := ih a1 a5 (by omega)
    omega
/-- what is known of acts -/
def ActK (KA : Kn) (acts : List PA) : Prop := ∀ e ∈ acts, (e.1.Block.Requests, e.2) ∈ KA ∧ reqsN e.2 < 2 ^ 30 ∧ (e.1.Act ≠ 3 → 0 ≤ e.1.Round ∧ e.1.Round ≤ 1024)
theorem ActK.say {c : CS} (h : ActK c.KA c.acts) (a : api_Act) (qs : List api_Request) (r o : Sl) (hq : reqsN qs < 2 ^ 30) (hr : a.Act ≠ 3 → 0 ≤ a.Round ∧ a.Round ≤ 1024) : ActK (sayC c a qs r o).KA (sayC c a qs r o).acts := by
  intro e he
  have he' : e ∈ c.acts ++ [({ a with Block := { a.Block with Requests := r } }, qs)] := he
  show (e.1.Block.Requests, e.2) ∈ c.KA ++ [(r, qs)] ∧ _
  rcases List.mem_append.1 he' with h1 | h1
  · obtain ⟨x1, x2, x3⟩ := h e h1
    exact ⟨List.mem_append_left _ x1, x2, x3⟩
  · simp only [List.mem_singleton] at h1
    subst h1
    exact ⟨by simp, hq, hr⟩
theorem ActK.votes {c : CS} (h : ActK c.KA c.acts) (hc : Cok c) (kd : Int) (d : Dig) (r o : Sl) : ActK (votesC c kd d r o).KA (votesC c kd d r o).acts := by
  unfold votesC
  split
  · exact ActK.say (c := stpC c kd) h _ [] r o (by decide) (fun _ => hc.plc.2)
  · exact h
theorem ActK.enter {c : CS} (h : ActK c.KA c.acts) (hc : Cok c) {rd : Int} (hrd : 0 ≤ rd ∧ rd ≤ 1024) (r o : Sl) : ActK (enterC c rd r o).KA (enterC c rd r o).acts := by
  unfold enterC
  split
  · exact ActK.say (c := rdC c rd) h _ c.vq r o hc.vl.1 (fun _ => hrd)
  · exact h
theorem ActK.mv {c c' : CS} {b : Bool} (h : ActK c.KA c.acts) (hc : Cok c) (hm : MV c c' b) : ActK c'.KA c'.acts := by
  cases hm with
  | dec d r bb qs rr o hw hf => exact ActK.say (c := decC c) h _ qs rr o (hc.bc _ (mfind_mem hf)).1 (fun hne => absurd rfl hne)
  | next ks rr o h1 h2 h3 => exact h.enter hc ⟨h3, later_le hc h2⟩ rr o
  | start rr o h1 h2 h3 h4 => exact h.enter hc (by decide) rr o
  | wait p qs _ _ _ _ _ => exact h
  | first p qs rr o h1 h2 h3 h4 h5 => exact h.votes hc _ _ rr o
  | lock p qs rr o h1 h2 h3 h4 h5 =>
    have hcv := hc.pc _ (mfind_mem h4)
    exact ActK.votes (c := lockC c p.Block qs) h { hc with lk := hcv, vl := hcv } _ _ rr o
  | nil rr o h1 h2 h3 h4 h5 => exact h.votes hc _ _ rr o
  | val p qs h1 h2 h3 h4 h5 h6 => exact h
  | stop _ _ _ => exact h
theorem ActK.mvs {c c' : CS} (hm : Mvs c c') : ActK c.KA c.acts → Cok c → c.x.decided = false → c.acts.length + mu c + 2 < 2 ^ 19 → ActK c'.KA c'.acts := by
  induction hm with
  | last h => intro ha hc hd hn; exact ha.mv hc h
  | more h _ ih =>
    intro ha hc hd hn
    obtain ⟨a1, a2, a3⟩ := h.ok hc hd (by omega)
    obtain ⟨a4, a5⟩ := a3 rfl
    exact ih (ha.mv hc h) a1 a5 (by omega)
/-! what may come of a call -/
def PlanO (c : CS) (pl : api_Plan) (qs : List api_Request) (c' : CS) (out : List PA) : Prop :=
  ((c.x.decided = true ∨ pl.Height ≠ c.ht) ∧ c' = c ∧ out = []) ∨ (c.x.decided = false ∧ pl.Height = c.ht ∧ ∃ r c1, Mvs (planC c pl qs r) c1 ∧ c' = clrC c1 ∧ out = c1.acts)
def VoteO (c : CS) (v : api_Vote) (c' : CS) (out : List PA) : Prop :=
  ((c.x.decided = true ∨ v.Height ≠ c.ht) ∧ c' = c ∧ out = []) ∨ (c.x.decided = false ∧ v.Height = c.ht ∧ ∃ c1, Mvs (voteC c v) c1 ∧ c' = clrC c1 ∧ out = c1.acts)
def StartO (c : CS) (c' : CS) (out : List PA) : Prop :=
  (c.x.decided = true ∧ c' = c ∧ out = []) ∨ (c.x.decided = false ∧ ∃ c0 c1, StartR c c0 ∧ Mvs c0 c1 ∧ c' = clrC c1 ∧ out = c1.acts)
theorem nu_clr (c : CS) : nu (clrC c) = nu c := rfl
theorem mu_same {c c' : CS} (h1 : c'.rd = c.rd) (h2 : c'.x = c.x) : mu c' = mu c := by unfold mu; rw [h1, h2]
theorem nu_same {c c' : CS} (h1 : c'.rd = c.rd) (h2 : c'.x = c.x) : nu c' = nu c := by unfold nu; rw [mu_same h1 h2, h2]
section
variable {h0 h : H} {S : List Nat} {L : List En}
theorem outX {c1 : CS} (hs : Sat h0 S h (core (clrC c1) ++ (hand c1 ++ L))) : Sat h0 S h (core (clrC c1) ++ (own 80 135 c1.x.out (c1.acts.map (·.1)) :: kE c1.KA :: L)) := hs
theorem idleX {c : CS} (hs : Sat h0 S h (core c ++ L)) : Sat h0 S h (core c ++ (own 80 135 Sl.nil ([] : List api_Act) :: kE [] :: L)) :=
  ((hs.add0 (e := kE []) (by intro q hq; cases hq) (kE_loc _) rfl).nilOwn (T := 80) (n := 135) (α := api_Act)).sel 10 [2, 3, 4, 5, 6, 7, 8, 9, 0, 1] (by decide) (by decide)
theorem PlanX (c : CS) (pl : api_Plan) (qs : List api_Request) {k : Sl → H → Prop} (hT : Tb h0) (hS : 0 ∉ S) (hc : Cok c) (ha : c.acts = []) (hr : 0 ≤ pl.Round ∧ pl.Round ≤ 1024) (hq : reqsN qs < 2 ^ 30) (hs : Sat h0 S h (core c ++ L)) (hv : SVz 42 h pl.Block.Requests qs)
    (hk : ∀ c' out sl KA h', PlanO c pl qs c' out → c'.p = c.p → out.length + nu c' ≤ nu c → ActK KA out → Sat h0 S h' (core c' ++ (own 80 135 sl (out.map (·.1)) :: kE KA :: L)) → k sl h') :
    call (β := Sl) Prog 38 [reg ((some c.p : Pt) : Pt), reg (pl : api_Plan)] k h := by
  refine Plan_spec c pl qs hT hS hc hr hq (by rw [ha]; decide) hs hv (fun h' hx hs' => ?_) (fun r c1 h' hd hh hm hs' => ?_)
  · exact hk c [] Sl.nil [] h' (.inl ⟨hx, rfl, rfl⟩) rfl (by simp) (by intro e he; cases he) (idleX hs')
  · obtain ⟨p1, p2, p3, p4, p5, p6⟩ := planC_v c pl qs r
    have hc1 := hc.plan pl qs r hq
    have hmu := mu_ub hc1
    have hn : (planC c pl qs r).acts.length + mu (planC c pl qs r) + 2 < 2 ^ 19 := by rw [p4, ha]; simp; omega
    have hd1 : (planC c pl qs r).x.decided = false := by rw [p6]; exact hd
    have h1 := hm.nu hc1 hd1 hn
    rw [p4, ha, nu_same p5 p6] at h1
    refine hk (clrC c1) c1.acts c1.x.out c1.KA h' (.inr ⟨hd, hh, r, c1, hm, rfl, rfl⟩) (hm.p_eq'.trans p3) (by rw [nu_clr]; simpa using h1) (ActK.mvs hm (by rw [p4, ha]; intro e he; cases he) hc1 hd1 hn) (outX hs')
theorem VoteX (c : CS) (v : api_Vote) {k : Sl → H → Prop} (hT : Tb h0) (hS : 0 ∉ S) (hc : Cok c) (ha : c.acts = []) (hr : 0 ≤ v.Round ∧ v.Round ≤ 1024) (hv : c.vts.length + 1 < 2 ^ 19) (hs : Sat h0 S h (core c ++ L))
    (hk : ∀ c' out sl KA h', VoteO c v c' out → c'.p = c.p → out.length + nu c' ≤ nu c → ActK KA out → Sat h0 S h' (core c' ++ (own 80 135 sl (out.map (·.1)) :: kE KA :: L)) → k sl h') :
    call (β := Sl) Prog 39 [reg ((some c.p : Pt) : Pt), reg (v : api_Vote)] k h := by
  have hmu0 := mu_ub hc
  refine Vote_spec c v hT hS hc hr hv (by rw [ha]; simp; omega) hs (fun h' hx hs' => ?_) (fun c1 h' hd hh hm hs' => ?_)
  · exact hk c [] Sl.nil [] h' (.inl ⟨hx, rfl, rfl⟩) rfl (by simp) (by intro e he; cases he) (idleX hs')
  · obtain ⟨p1, p2, p3, p4, p5, p6⟩ := voteC_v c v
    have hc1 := hc.vote hr hv
    have hmu := mu_ub hc1
    have hn : (voteC c v).acts.length + mu (voteC c v) + 2 < 2 ^ 19 := by rw [p4, ha]; simp; omega
    have hd1 : (voteC c v).x.decided = false := by rw [p6]; exact hd
    have h1 := hm.nu hc1 hd1 hn
    rw [p4, ha, nu_same p5 p6] at h1
    refine hk (clrC c1) c1.acts c1.x.out c1.KA h' (.inr ⟨hd, hh, c1, hm, rfl, rfl⟩) (hm.p_eq'.trans p3) (by rw [nu_clr]; simpa using h1) (ActK.mvs hm (by rw [p4, ha]; intro e he; cases he) hc1 hd1 hn) (outX hs')
theorem StartX (c : CS) {k : Sl → H → Prop} (hT : Tb h0) (hS : 0 ∉ S) (hc : Cok c) (ha : c.acts = []) (hs : Sat h0 S h (core c ++ L))
    (hk : ∀ c' out sl KA h', StartO c c' out → c'.p = c.p → out.length + nu c' ≤ nu c → ActK KA out → Sat h0 S h' (core c' ++ (own 80 135 sl (out.map (·.1)) :: kE KA :: L)) → k sl h') :
    call (β := Sl) Prog 32 [reg ((some c.p : Pt) : Pt)] k h := by
  have hmu0 := mu_ub hc
  refine Start_spec c hT hS hc (by rw [ha]; simp; omega) hs (fun hd => ?_) (fun c0 c1 h' hd hst hm hs' => ?_)
  · exact hk c [] Sl.nil [] h (.inl ⟨hd, rfl, rfl⟩) rfl (by simp) (by intro e he; cases he) (idleX hs)
  · have key : Cok c0 ∧ c0.x.decided = false ∧ c0.acts.length + mu c0 ≤ mu c ∧ c0.p = c.p ∧ ActK c0.KA c0.acts := by
      rcases hst with ⟨h0', r, o, rfl⟩ | ⟨h0', rfl⟩
      · obtain ⟨a1, a2, a3⟩ := hc.enter (rd := 0) (by rw [ha]; decide) (by decide) r o
        have h3 := mu_rd c hc 0 (by decide) (.inr ⟨h0', by rw [hc.s0 h0']; decide⟩)
        rw [ha] at a2
        simp only [List.length_nil] at a2
        exact ⟨a1, (enterC_dec _ _ _ _).trans hd, by omega, enterC_p _ _ _ _, ActK.enter (by rw [ha]; intro e he; cases he) hc (by decide) r o⟩
      · exact ⟨hc, hd, by rw [ha]; simp, rfl, by rw [ha]; intro e he; cases he⟩
    obtain ⟨b1, b2, b3, b4, b5⟩ := key
    have hn : c0.acts.length + mu c0 + 2 < 2 ^ 19 := by omega
    have h1 := hm.nu b1 b2 hn
    refine hk (clrC c1) c1.acts c1.x.out c1.KA h' (.inr ⟨hd, c0, c1, hst, hm, rfl, rfl⟩) (hm.p_eq'.trans b4) ?_ (ActK.mvs hm b5 b1 b2 hn) (outX hs')
    rw [nu_clr]
    have : nu c = mu c + 1 := by unfold nu; rw [hd]; rfl
    have : nu c0 = mu c0 + 1 := by unfold nu; rw [b2]; rfl
    omega
end
section
variable {S : Said} {n M : Nat} {DD : Dig → Prop} {ht : Int} {i : Nat}
theorem PI.same {c c' : CS} {pre : List VV} (hp : PI S n M DD ht i c) (hS : S i = pre ++ vvs (acts1 c)) (hv : vvs (acts1 c') = vvs (acts1 c)) (hc : CI S n M DD ht i c') (ha : ∀ a ∈ acts1 c', ActS S n M a) : PI (updS S i (pre ++ vvs (acts1 c'))) n M DD ht i c' := by
  rw [hv, ← hS, updS_eq]
  exact ⟨hp.gd, hc, ha⟩
theorem PI.mv {c c' : CS} {b : Bool} {pre : List VV} (hp : PI S n M DD ht i c) (hMn : M ≤ n) (h10 : n ≤ 10) (hi : i < M) (hS : S i = pre ++ vvs (acts1 c)) (hd : c.x.decided = false) (hn : c.acts.length + 1 < 2 ^ 19) (hm : MV c c' b) :
    PI (updS S i (pre ++ vvs (acts1 c'))) n M DD ht i c' := by
  have hok := (hm.ok hp.ci.ok hd hn).1
  have hc := hp.ci
  cases hm with
  | dec d r bb qs rr o hw hf =>
    have hac : acts1 (sayC (decC c) { api_Act.zero with Act := 3, Round := r, Digest := d, Block := bb } qs rr o) = acts1 c ++ [{ api_Act.zero with Act := 3, Round := r, Digest := d, Block := { bb with Requests := rr } }] := by
      show (c.acts ++ [_]).map _ = _; rw [List.map_append]; rfl
    refine hp.same hS ?_ { hc with ok := hok } ?_
    · rw [hac, vvs_app]; exact List.append_nil _
    · rw [hac]
      intro a ha
      rcases List.mem_append.1 ha with ha | ha
      · exact hp.ak a ha
      · rw [List.mem_singleton] at ha; subst ha
        obtain ⟨w1, w2⟩ := hc.win hMn hw
        exact ⟨fun _ => ⟨w1, r, w2⟩, fun h => (by cases h), fun h => (by cases h)⟩
  | next ks rr o h1 h2 h3 =>
    have hgt := later_gt h3
    have hle := later_le hc.ok h2
    refine (hp.enter hS _ rr o hok ⟨h3, hle⟩ ?_).1
    unfold nowL at hgt
    split at hgt
    · rename_i hs
      have hs' : c.x.step = 0 := by simpa using hs
      have := hc.ok.s0 hs'
      by_cases he : c.rd = laterV c ks
      · exact .inr ⟨he, hs'⟩
      · left; omega
    · exact .inl hgt
  | start rr o h1 h2 h3 h4 => exact (hp.enter hS 0 rr o hok (by decide) (.inr ⟨hc.ok.s0 h3, h3⟩)).1
  | wait p qs _ _ _ _ _ => exact hp.same hS rfl hc hp.ak
  | first p qs rr o h1 h2 h3 h4 h5 =>
    refine (hp.vote hMn hi hS (kd := 1) h3 (.inl rfl) rr o hok ⟨rfl, rfl, rfl, rfl, rfl, rfl, rfl⟩ (.inl ⟨rfl, rfl, rfl, fun h => (by cases h)⟩) (fun h => by cases h) (fun _ hne r0 d0 hm0 hlt hd0 => ?_)).1
    obtain ⟨l1, l2⟩ := hc.lk1 r0 d0 hm0 hd0
    have hnn := hc.nn _ hm0
    have hl3 := hc.lk3
    have hlt3 : c.x.locked.round < c.rd := by
      by_cases e : c.x.locked.round = c.rd
      · have := hl3.2 e; omega
      · omega
    have hpv := (hc.pv _ (mfind_mem h4)).1
    simp only at hnn hpv
    have isb : isB c.x.locked c.lq (digB p.Block qs) = true → digB p.Block qs = d0 ∨ ∃ r1, r0 ≤ r1 ∧ r1 < c.rd ∧ QS S n M (1, r1, digB p.Block qs) := by
      intro hb
      unfold isB at hb
      simp only [Bool.and_eq_true, decide_eq_true_eq] at hb
      by_cases e : r0 = c.x.locked.round
      · left; rw [← hb.2]; exact l2 e
      · right
        have := hc.lk2 hb.1
        rw [hb.2] at this
        exact ⟨_, l1, hlt3, this⟩
    unfold planF at h5 hne ⊢
    by_cases hv : 0 ≤ p.Valid
    · rw [if_pos hv] at h5 hne ⊢
      by_cases hf : firstB c p.Valid (digB p.Block qs) = true
      · rw [if_pos hf] at hne ⊢
        simp only at hne ⊢
        by_cases hcd : ((decide (c.x.locked.round < 0) || isB c.x.locked c.lq (digB p.Block qs)) || decide (c.x.locked.round ≤ p.Valid)) = true
        · rw [if_pos hcd]
          simp only [Bool.or_eq_true, decide_eq_true_eq] at hcd
          rcases hcd with (h | h) | h
          · omega
          · exact isb h
          · exact .inr ⟨p.Valid, by omega, hpv, hc.first hMn h10 hf⟩
        · rw [if_neg hcd] at hne; exact absurd rfl hne
      · rw [if_neg hf] at h5; cases h5
    · rw [if_neg hv] at hne ⊢
      simp only at hne ⊢
      by_cases hcd : (decide (c.x.locked.round < 0) || isB c.x.locked c.lq (digB p.Block qs)) = true
      · rw [if_pos hcd]
        simp only [Bool.or_eq_true, decide_eq_true_eq] at hcd
        rcases hcd with h | h
        · omega
        · exact isb h
      · rw [if_neg hcd] at hne; exact absurd rfl hne
  | lock p qs rr o h1 h2 h3 h4 h5 =>
    have hq := hc.first hMn h10 h5
    have hpv := (hc.pv _ (mfind_mem h4)).2
    exact (hp.vote hMn hi hS (kd := 2) (c0 := lockC c p.Block qs) h3 (.inr rfl) rr o hok ⟨rfl, rfl, rfl, rfl, rfl, rfl, rfl⟩ (.inr ⟨rfl, rfl, rfl, rfl, hq⟩) (fun _ _ => ⟨hq, hpv⟩) (fun h => by cases h)).1
  | nil rr o h1 h2 h3 h4 h5 =>
    exact (hp.vote hMn hi hS (kd := 2) h3 (.inr rfl) rr o hok ⟨rfl, rfl, rfl, rfl, rfl, rfl, rfl⟩ (.inl ⟨rfl, rfl, rfl, fun _ => rfl⟩) (fun _ hne => absurd rfl hne) (fun h => by cases h)).1
  | val p qs h1 h2 h3 h4 h5 h6 => exact hp.same hS rfl { hc with ok := hok, vl3 := ⟨Int.le_refl _, fun _ => h3⟩ } hp.ak
  | stop _ _ _ => exact hp.same hS rfl hc hp.ak
theorem updS_upd (S : Said) (i : Nat) (l l' : List VV) : updS (updS S i l) i l' = updS S i l' := by
  funext j; unfold updS; split <;> rfl
theorem PI.mvs {c c' : CS} {pre : List VV} (hm : Mvs c c') : ∀ {S : Said}, PI S n M DD ht i c → M ≤ n → n ≤ 10 → i < M → S i = pre ++ vvs (acts1 c) → c.x.decided = false → c.acts.length + mu c + 2 < 2 ^ 19 → PI (updS S i (pre ++ vvs (acts1 c'))) n M DD ht i c' := by
  induction hm with
  | last h => intro S hp hMn h10 hi hS hd hn; exact hp.mv hMn h10 hi hS hd (by omega) h
  | more h _ ih =>
    intro S hp hMn h10 hi hS hd hn
    have h1 := hp.mv hMn h10 hi hS hd (by omega) h
    obtain ⟨a1, a2, a3⟩ := h.ok hp.ci.ok hd (by omega)
    obtain ⟨a4, a5⟩ := a3 rfl
    have h2 := ih h1 hMn h10 hi (updS_self _ _ _) a5 (by omega)
    rwa [updS_upd] at h2
theorem PI.clr {c : CS} (hp : PI S n M DD ht i c) : CI S n M DD ht i (clrC c) := { hp.ci with ok := hp.ci.ok.clr }
/-- a core at rest, that a vote reaches -/
theorem CI.voteC {c : CS} (hc : CI S n M DD ht i c) {v : api_Vote} (hr : 0 ≤ v.Round ∧ v.Round ≤ 1024) (hn : c.vts.length + 1 < 2 ^ 19) (hf : 1 ≤ v.From ∧ v.From ≤ n) (hs : ∀ j : Nat, j < M → v.From = ((j + 1 : Nat) : Int) → (v.Kind, v.Round, v.Digest) ∈ S j) : CI S n M DD ht i (voteC c v) := by
  have hok := hc.ok.vote hr hn
  unfold Go.Proofs.YtimmoekliphobaaDoor.voteC at hok ⊢
  split
  · rename_i h
    rw [if_pos h] at hok
    refine { hc with ok := hok, nd := mins_nodup _ _ _ hc.nd, box := fun q hq => ?_ }
    rcases mins_in hq with h | h
    · exact hc.box q h
    · subst h; exact ⟨hf.1, hf.2, hs⟩
  · exact hc
theorem CI.planC {c : CS} (hc : CI S n M DD ht i c) {pl : api_Plan} {qs : List api_Request} (r : Sl) (hq : reqsN qs < 2 ^ 30) (hv : pl.Valid < pl.Round) (hD : DD (digB pl.Block qs)) : CI S n M DD ht i (planC c pl qs r) := by
  have hok := hc.ok.plan pl qs r hq
  unfold Go.Proofs.YtimmoekliphobaaDoor.planC at hok ⊢
  split
  · rename_i h
    rw [if_pos h] at hok
    refine { hc with ok := hok, pv := fun e he => ?_ }
    rcases mins_in he with h | h
    · exact hc.pv e h
    · subst h; exact ⟨hv, hD⟩
  · rename_i h
    rw [if_neg h] at hok
    exact { hc with ok := hok }
/-- what a core at rest says at a call -/
def Stepped (S : Said) (n M : Nat) (DD : Dig → Prop) (ht : Int) (i : Nat) (c' : CS) (out : List PA) : Prop :=
  let S' := updS S i (S i ++ vvs (out.map (·.1)))
  GoodS S' n M DD ∧ CI S' n M DD ht i c' ∧ c'.acts = [] ∧ ∀ e ∈ out, ActS S' n M e.1
theorem stepped_idle {c : CS} (hg : GoodS S n M DD) (hc : CI S n M DD ht i c) (ha : c.acts = []) : Stepped S n M DD ht i c [] := by
  unfold Stepped
  have : updS S i (S i ++ vvs (([] : List PA).map (·.1))) = S := by show updS S i (S i ++ []) = S; rw [List.append_nil, updS_eq]
  rw [this]
  exact ⟨hg, hc, ha, by intro e he; cases he⟩
theorem stepped_mvs {c c0 c1 : CS} (hp : PI (updS S i (S i ++ vvs (acts1 c0))) n M DD ht i c0) (hMn : M ≤ n) (h10 : n ≤ 10) (hi : i < M) (hd : c0.x.decided = false) (hn : c0.acts.length + mu c0 + 2 < 2 ^ 19) (hm : Mvs c0 c1) : Stepped S n M DD ht i (clrC c1) c1.acts := by
  have h1 := PI.mvs hm hp hMn h10 hi (updS_self _ _ _) hd hn
  rw [updS_upd] at h1
  exact ⟨h1.gd, h1.clr, rfl, fun e he => h1.ak e.1 (List.mem_map.2 ⟨e, he, rfl⟩)⟩
theorem rest_pi {c : CS} (hg : GoodS S n M DD) (hc : CI S n M DD ht i c) (ha : c.acts = []) : PI (updS S i (S i ++ vvs (acts1 c))) n M DD ht i c ∧ PI S n M DD ht i c ∧ acts1 c = [] := by
  have e : acts1 c = [] := by unfold acts1; rw [ha]; rfl
  have h : PI S n M DD ht i c := ⟨hg, hc, by rw [e]; intro a h; cases h⟩
  refine ⟨?_, h, e⟩
  rw [e]
  show PI (updS S i (S i ++ [])) n M DD ht i c
  rw [List.append_nil, updS_eq]; exact h
theorem stepped_vote {c c' : CS} {v : api_Vote} {out : List PA} (hg : GoodS S n M DD) (hc : CI S n M DD ht i c) (ha : c.acts = []) (hMn : M ≤ n) (h10 : n ≤ 10) (hi : i < M) (hr : 0 ≤ v.Round ∧ v.Round ≤ 1024) (hn : c.vts.length + 1 < 2 ^ 19) (hf : 1 ≤ v.From ∧ v.From ≤ n) (hs : ∀ j : Nat, j < M → v.From = ((j + 1 : Nat) : Int) → (v.Kind, v.Round, v.Digest) ∈ S j) (hO : VoteO c v c' out) : Stepped S n M DD ht i c' out := by
  rcases hO with ⟨_, rfl, rfl⟩ | ⟨hd, hh, c1, hm, rfl, rfl⟩
  · exact stepped_idle hg hc ha
  · have hc1 := hc.voteC hr hn hf hs
    obtain ⟨p1, p2, p3, p4, p5, p6⟩ := voteC_v c v
    have ha1 : (voteC c v).acts = [] := p4.trans ha
    have hmu := mu_ub hc1.ok
    exact stepped_mvs (c := c) (rest_pi hg hc1 ha1).1 hMn h10 hi (by rw [p6]; exact hd) (by rw [ha1]; simp; omega) hm
theorem stepped_plan {c c' : CS} {pl : api_Plan} {qs : List api_Request} {out : List PA} (hg : GoodS S n M DD) (hc : CI S n M DD ht i c) (ha : c.acts = []) (hMn : M ≤ n) (h10 : n ≤ 10) (hi : i < M) (hq : reqsN qs < 2 ^ 30) (hv : pl.Valid < pl.Round) (hD : DD (digB pl.Block qs)) (hO : PlanO c pl qs c' out) : Stepped S n M DD ht i c' out := by
  rcases hO with ⟨_, rfl, rfl⟩ | ⟨hd, hh, r, c1, hm, rfl, rfl⟩
  · exact stepped_idle hg hc ha
  · have hc1 := hc.planC r hq hv hD
    obtain ⟨p1, p2, p3, p4, p5, p6⟩ := planC_v c pl qs r
    have ha1 : (planC c pl qs r).acts = [] := p4.trans ha
    have hmu := mu_ub hc1.ok
    exact stepped_mvs (c := c) (rest_pi hg hc1 ha1).1 hMn h10 hi (by rw [p6]; exact hd) (by rw [ha1]; simp; omega) hm
end
/-! where all is well: a core in round 0, that hears nothing but one plan, and votes for it -/
structure QC (D : Dig) (n : Nat) (ht : Int) (lead j : Nat) (c : CS) : Prop where
  rd : c.rd = 0
  vt : ∀ q ∈ c.vts, q.1.round = 0 ∧ q.2.Digest = D
  pl : ∀ e ∈ c.pl, (e.2.1.Valid < 0 ∧ digB e.2.1.Block e.2.2 = D) ∧ e.1 = 0
  pb : c.pl ≠ [] → ∃ e, mfind c.bl D = some e
  ld : j = lead → c.x.step ≠ 0
  lk : c.x.step ≤ 2 → c.x.locked.round < 0
  ms : c.ms = memN n
  me : c.x.me = ((j + 1 : Nat) : Int)
  ht : c.ht = ht
  ok : Cok c
/-- what it says -/
structure QA (D : Dig) (pre : List VV) (c : CS) : Prop where
  act : ∀ a ∈ acts1 c, a.Act ≠ 1 ∧ (a.Act = 2 → a.Round = 0 ∧ a.Digest = D) ∧ (a.Act = 3 → a.Digest = D)
  s1 : 2 ≤ c.x.step → (1, 0, D) ∈ pre ++ vvs (acts1 c)
  s2 : c.x.step = 3 → (2, 0, D) ∈ pre ++ vvs (acts1 c)
  dd : c.x.decided = true → ∃ a ∈ acts1 c, a.Act = 3
section
variable {D : Dig} {n : Nat} {ht : Int} {lead j : Nat} {pre : List VV}
theorem qc_enter {c : CS} (h : QC D n ht lead j c) (hq : QA D pre c) (hj : j < n) (hl : (ht % n) = (lead : Int)) (hs : c.x.step = 0) (r o : Sl) (hd : c.x.decided = false) (hok : Cok (enterC c 0 r o)) : QC D n ht lead j (enterC c 0 r o) ∧ QA D pre (enterC c 0 r o) := by
  obtain ⟨a, KA, out, he, ha⟩ := enterC_eq c 0 r o
  have hne : j ≠ lead := fun e => h.ld e hs
  have hid : (idAt c c.ht 0 == c.x.me) = false := by
    rw [idAt_N h.ms (by omega), h.me, h.ht]
    have : (ht + 0) % (n : Int) = (lead : Int) := by rw [Int.add_zero]; exact hl
    rw [this]
    have : ¬ ((lead : Int) + 1 = ((j + 1 : Nat) : Int)) := by omega
    simpa using this
  rw [hid, Bool.and_false] at ha
  simp only [Bool.false_eq_true, if_false, List.append_nil] at ha
  have hac : acts1 (enterC c 0 r o) = acts1 c := by rw [he]; show a.map (·.1) = _; rw [ha]; rfl
  have hx : (enterC c 0 r o).rd = 0 ∧ (enterC c 0 r o).vts = c.vts ∧ (enterC c 0 r o).pl = c.pl ∧ (enterC c 0 r o).bl = c.bl ∧ (enterC c 0 r o).x.step = 1 ∧ (enterC c 0 r o).x.locked = c.x.locked ∧ (enterC c 0 r o).ms = c.ms ∧ (enterC c 0 r o).x.me = c.x.me ∧ (enterC c 0 r o).ht = c.ht ∧ (enterC c 0 r o).x.decided = c.x.decided := by
    rw [he]; exact ⟨rfl, rfl, rfl, rfl, rfl, rfl, rfl, rfl, rfl, rfl⟩
  obtain ⟨x1, x2, x3, x4, x5, x6, x7, x8, x9, x10⟩ := hx
  exact ⟨⟨x1, by rw [x2]; exact h.vt, by rw [x3]; exact h.pl, by rw [x3, x4]; exact h.pb, fun _ => by rw [x5]; decide, fun _ => by rw [x6]; exact h.lk (by omega), x7.trans h.ms, x8.trans h.me, x9.trans h.ht, hok⟩, ⟨by rw [hac]; exact hq.act, by rw [x5]; intro h9; omega, by rw [x5]; intro h9; omega, by rw [x10, hd]; intro h9; cases h9⟩⟩
theorem qc_votes {c c0 : CS} (h : QC D n ht lead j c) (hq : QA D pre c) (hj : j < n) (kd : Int) (hk : c.x.step = kd) (hkd : kd = 1 ∨ kd = 2) (r o : Sl) (hd : c.x.decided = false) (hok : Cok (votesC c0 kd D r o))
    (e1 : c0.ms = c.ms ∧ c0.x.me = c.x.me ∧ c0.ht = c.ht ∧ c0.vts = c.vts ∧ c0.rd = c.rd ∧ c0.pl = c.pl ∧ c0.acts = c.acts ∧ c0.bl = c.bl ∧ c0.x.decided = c.x.decided) (hl : kd = 1 → c0.x.locked = c.x.locked) : QC D n ht lead j (votesC c0 kd D r o) ∧ QA D pre (votesC c0 kd D r o) := by
  obtain ⟨f1, f2, f3, f4, f5, f6, f7, f8, f9⟩ := e1
  have hmem : isMem c0 = true := isMem_N (f1.trans h.ms) (f2.trans h.me) hj
  obtain ⟨a, KA, out, he, ha⟩ := votesC_eq c0 kd D r o
  rw [hmem, f7] at ha
  simp only [if_true] at ha
  have hac : acts1 (votesC c0 kd D r o) = acts1 c ++ [{ api_Act.zero with Act := 2, Round := c0.rd, Kind := kd, Digest := D, Block := { api_Block.zero with Requests := r } }] := by
    rw [he]; show a.map (·.1) = _; rw [ha, List.map_append]; rfl
  have hvv : vvs (acts1 (votesC c0 kd D r o)) = vvs (acts1 c) ++ [(kd, 0, D)] := by
    rw [hac, vvs_app, f5, h.rd]; rfl
  have hx : (votesC c0 kd D r o).rd = c0.rd ∧ (votesC c0 kd D r o).vts = c0.vts ∧ (votesC c0 kd D r o).pl = c0.pl ∧ (votesC c0 kd D r o).bl = c0.bl ∧ (votesC c0 kd D r o).x.step = kd + 1 ∧ (votesC c0 kd D r o).x.locked = c0.x.locked ∧ (votesC c0 kd D r o).ms = c0.ms ∧ (votesC c0 kd D r o).x.me = c0.x.me ∧ (votesC c0 kd D r o).ht = c0.ht ∧ (votesC c0 kd D r o).x.decided = c0.x.decided := by
    rw [he]; exact ⟨rfl, rfl, rfl, rfl, rfl, rfl, rfl, rfl, rfl, rfl⟩
  obtain ⟨x1, x2, x3, x4, x5, x6, x7, x8, x9, x10⟩ := hx
  refine ⟨⟨x1.trans (f5.trans h.rd), by rw [x2, f4]; exact h.vt, by rw [x3, f6]; exact h.pl, by rw [x3, x4, f6, f8]; exact h.pb, fun _ => by rw [x5]; omega, fun h9 => ?_, x7.trans (f1.trans h.ms), x8.trans (f2.trans h.me), x9.trans (f3.trans h.ht), hok⟩, ⟨fun b hb => ?_, fun h9 => ?_, fun h9 => ?_, fun h9 => ?_⟩⟩
  · rw [x5] at h9
    have hk1 : kd = 1 := by omega
    rw [x6, hl hk1]; exact h.lk (by omega)
  · rw [hac] at hb
    rcases List.mem_append.1 hb with hb | hb
    · exact hq.act b hb
    · rw [List.mem_singleton] at hb; subst hb
      exact ⟨by show (2 : Int) ≠ 1; decide, fun _ => ⟨f5.trans h.rd, rfl⟩, fun e => (by cases e)⟩
  · rw [hvv, ← List.append_assoc]
    rcases hkd with e | e
    · rw [e]; simp
    · exact List.mem_append_left _ (hq.s1 (by omega))
  · rw [hvv, ← List.append_assoc]
    rw [x5] at h9
    have : kd = 2 := by omega
    rw [this]; simp
  · rw [x10, f9, hd] at h9; cases h9
theorem qc_mv {c c' : CS} {b : Bool} (h : QC D n ht lead j c) (hq : QA D pre c) (hj : j < n) (hl : (ht % n) = (lead : Int)) (hd : c.x.decided = false) (hn : c.acts.length + 1 < 2 ^ 19) (hm : MV c c' b) :
    QC D n ht lead j c' ∧ QA D pre c' ∧ (b = false → c'.x.decided = true ∨ (NW c' ∧ Stp c')) := by
  have hok := (hm.ok h.ok hd hn).1
  cases hm with
  | dec d r bb qs rr o hw hf =>
    have hac : acts1 (sayC (decC c) { api_Act.zero with Act := 3, Round := r, Digest := d, Block := bb } qs rr o) = acts1 c ++ [{ api_Act.zero with Act := 3, Round := r, Digest := d, Block := { bb with Requests := rr } }] := by
      show (c.acts ++ [_]).map _ = _; rw [List.map_append]; rfl
    have hvv : vvs (acts1 (sayC (decC c) { api_Act.zero with Act := 3, Round := r, Digest := d, Block := bb } qs rr o)) = vvs (acts1 c) := by rw [hac, vvs_app]; exact List.append_nil _
    have hdD : d = D := by
      obtain ⟨q, hq', _, _, e⟩ := cnt_pos (Nat.le_trans (quo_pos _) (win_cnt hw))
      have e2 : q.2.Digest = d := congrArg vote_choice.digest e
      rw [← e2]; exact (h.vt q hq').2
    refine ⟨{ h with ok := hok }, ⟨fun a ha => ?_, by rw [hvv]; exact hq.s1, by rw [hvv]; exact hq.s2, fun _ => ⟨_, by rw [hac]; exact List.mem_append_right _ (List.mem_singleton.2 rfl), rfl⟩⟩, fun _ => .inl rfl⟩
    rw [hac] at ha
    rcases List.mem_append.1 ha with ha | ha
    · exact hq.act a ha
    · rw [List.mem_singleton] at ha; subst ha
      exact ⟨by show (3 : Int) ≠ 1; decide, fun e => (by cases e), fun _ => hdD⟩
  | next ks rr o h1 h2 h3 =>
    have hgt := later_gt h3
    have key : laterV c ks = 0 ∧ c.x.step = 0 := by
      have hlv : laterV c ks ≤ 0 := by
        unfold laterV
        split
        · rcases reached_le h2 (n := (((c.ms.length - 1) / 3 + 1 : Nat) : Int)) (by omega) with e | ⟨q, hq', e⟩
          · rw [e]; omega
          · rw [← e, (h.vt q hq').1]; omega
        · omega
      have e0 : laterV c ks = 0 := by omega
      rw [e0] at hgt
      unfold nowL at hgt
      split at hgt
      · rename_i hs; exact ⟨e0, by simpa using hs⟩
      · rw [h.rd] at hgt; omega
    rw [key.1] at hok ⊢
    obtain ⟨a1, a2⟩ := qc_enter h hq hj hl key.2 rr o hd hok
    exact ⟨a1, a2, fun e => by cases e⟩
  | start rr o h1 h2 h3 h4 =>
    obtain ⟨a1, a2⟩ := qc_enter h hq hj hl h3 rr o hd hok
    exact ⟨a1, a2, fun e => by cases e⟩
  | wait p qs h1 h2 h3 h4 h5 =>
    exfalso
    have hp := (h.pl _ (mfind_mem h4)).1
    rw [planF_free hp.1 (h.lk (by omega))] at h5; cases h5
  | first p qs rr o h1 h2 h3 h4 h5 =>
    have hp := (h.pl _ (mfind_mem h4)).1
    have e : planF c p qs = ⟨D, true⟩ := by rw [planF_free hp.1 (h.lk (by omega))]; simp only; rw [hp.2]
    rw [e] at hok ⊢
    obtain ⟨a1, a2⟩ := qc_votes h hq hj 1 h3 (.inl rfl) rr o hd hok ⟨rfl, rfl, rfl, rfl, rfl, rfl, rfl, rfl, rfl⟩ (fun _ => rfl)
    exact ⟨a1, a2, fun e => by cases e⟩
  | lock p qs rr o h1 h2 h3 h4 h5 =>
    have hp := (h.pl _ (mfind_mem h4)).1
    have e : digB p.Block qs = D := hp.2
    rw [e] at hok ⊢
    obtain ⟨a1, a2⟩ := qc_votes (c0 := lockC c p.Block qs) h hq hj 2 h3 (.inr rfl) rr o hd hok ⟨rfl, rfl, rfl, rfl, rfl, rfl, rfl, rfl, rfl⟩ (fun e => by cases e)
    exact ⟨a1, a2, fun e => by cases e⟩
  | nil rr o h1 h2 h3 h4 h5 =>
    have hz : dz = D := by
      unfold firstB at h5
      have hpos := quo_pos c.ms.length
      have h6 : (quoN c.ms.length : Int) ≤ ((forF c.vts 1 c.rd dz 63).length : Int) := by simpa using h5
      obtain ⟨v, hv⟩ := List.exists_mem_of_length_pos (show 0 < (forF c.vts 1 c.rd dz 63).length by omega)
      unfold forF at hv
      rw [List.mem_flatMap] at hv
      obtain ⟨i, _, hi⟩ := hv
      unfold pick1 at hi
      cases hm : mfind c.vts ⟨1, c.rd, ((i + 1 : Nat) : Int)⟩ with
      | none => rw [hm] at hi; cases hi
      | some u =>
        rw [hm] at hi
        simp only at hi
        split at hi
        · rename_i hdg
          have hdg' : u.Digest = dz := by simpa using hdg
          rw [← hdg']; exact (h.vt _ (mfind_mem hm)).2
        · cases hi
    have hok' : Cok (votesC c 2 D rr o) := by rw [← hz]; exact hok
    obtain ⟨a1, a2⟩ := qc_votes h hq hj 2 h3 (.inr rfl) rr o hd hok' ⟨rfl, rfl, rfl, rfl, rfl, rfl, rfl, rfl, rfl⟩ (fun e => by cases e)
    rw [← hz] at a1 a2
    rw [← hz]
    exact ⟨a1, a2, fun e => by cases e⟩
  | val p qs h1 h2 h3 h4 h5 h6 => exact ⟨{ h with ok := hok }, ⟨hq.act, hq.s1, hq.s2, hq.dd⟩, fun e => by cases e⟩
  | stop h1 h2 h3 => exact ⟨h, hq, fun _ => .inr ⟨h1, h3⟩⟩
theorem qc_mvs {c c' : CS} (hm : Mvs c c') : QC D n ht lead j c → QA D pre c → j < n → (ht % n) = (lead : Int) → c.x.decided = false → c.acts.length + mu c + 2 < 2 ^ 19 → QC D n ht lead j c' ∧ QA D pre c' ∧ (c'.x.decided = true ∨ (NW c' ∧ Stp c')) := by
  induction hm with
  | last h => intro h1 h2 hj hl hd hn; obtain ⟨a, b, e⟩ := qc_mv h1 h2 hj hl hd (by omega) h; exact ⟨a, b, e rfl⟩
  | more h _ ih =>
    intro h1 h2 hj hl hd hn
    obtain ⟨a, b, _⟩ := qc_mv h1 h2 hj hl hd (by omega) h
    obtain ⟨a1, a2, a3⟩ := h.ok h1.ok hd (by omega)
    obtain ⟨a4, a5⟩ := a3 rfl
    exact ih a b hj hl a5 (by omega)
theorem QC.clr {c : CS} (h : QC D n ht lead j c) : QC D n ht lead j (clrC c) := { h with ok := h.ok.clr }
theorem QC.vote {c : CS} (h : QC D n ht lead j c) {v : api_Vote} (h1 : v.Round = 0) (h2 : v.Digest = D) (hn : c.vts.length + 1 < 2 ^ 19) : QC D n ht lead j (voteC c v) := by
  have hok := h.ok.vote (v := v) (by omega) hn
  unfold voteC at hok ⊢
  split
  · rename_i hx
    rw [if_pos hx] at hok
    refine { h with ok := hok, vt := fun q hq => ?_ }
    rcases mins_in hq with h9 | h9
    · exact h.vt q h9
    · subst h9; exact ⟨h1, h2⟩
  · exact h
theorem QC.plan {c : CS} (h : QC D n ht lead j c) {pl : api_Plan} {qs : List api_Request} (r : Sl) (hv : pl.Valid < 0) (hr0 : pl.Round = 0) (hD : digB pl.Block qs = D) (hq : reqsN qs < 2 ^ 30) : QC D n ht lead j (planC c pl qs r) := by
  have hok := h.ok.plan pl qs r hq
  have hb : ∃ e, mfind (mins c.bl (digB pl.Block qs) ({ pl.Block with Requests := r }, qs)) D = some e := ⟨_, by rw [mfind_mins, if_pos hD.symm]⟩
  unfold planC at hok ⊢
  split
  · rename_i hx
    rw [if_pos hx] at hok
    refine { h with ok := hok, pl := fun e he => ?_, pb := fun _ => hb }
    rcases mins_in he with h9 | h9
    · exact h.pl e h9
    · subst h9; exact ⟨⟨hv, hD⟩, hr0⟩
  · rename_i hx
    rw [if_neg hx] at hok
    exact { h with ok := hok, pb := fun _ => hb }
/-- a core that knows the plan and a quorum's second votes has decided -/
theorem nw_no {c : CS} (h : QC D n ht lead j c) (hp : c.pl ≠ []) (hw : NW c) (hD : D ≠ dz) : ¬ quoN c.ms.length ≤ cntF c.vts 2 ⟨0, D⟩ := by
  intro hq
  obtain ⟨d, r, is, hw, hno⟩ := hw
  have hi := win_tt hq hw
  subst hi
  obtain ⟨q, hq', _, _, e⟩ := cnt_pos (Nat.le_trans (quo_pos _) (win_cnt hw))
  have e2 : q.2.Digest = d := congrArg vote_choice.digest e
  have hdD : d = D := by rw [← e2]; exact (h.vt q hq').2
  obtain ⟨e, he⟩ := h.pb hp
  rw [← hdD, hno rfl] at he; cases he
end
theorem law19_Game_acts.ok (g : Pt) (i : Int) (list : Sl) (k : Bool → H → Prop) (h : H) (hh : law19_Game_acts.b g i list k h) : CallsH Prog 31 [reg g, reg i, reg list].toArray h fun v h' => ∃ r : Bool, v = reg r ∧ k r h' := by
 unfold law19_Game_acts.b at hh
 refine CallsH.of 188 Tryd.func31 rfl Tryd.ntmps31 rfl (fun w0 => ?_)
 refine .sr (.A (reg false) (.nx ?_))
 refine CW.join (fun ρ h => ∃ (ρ' : Env), ρ = setl ρ' [] ∧ (law19_Game_acts.j1 k)  h) ?_ ?_
 ·refine CW.block ?_
  unfold law19_Game_acts.l1 at hh
  refine CW.loop (fun (σ0 : Sl) ρ => match σ0 with | list_1 => ∃ ρ' : Env, ρ = setl ρ' [(0, reg g), (1, reg i), (2, reg list_1)]) hh ⟨_, setl_eq ⟨rfl, ⟨rfl, ⟨rfl, trivial⟩⟩⟩⟩ ?_
  clear hh
  rintro s1 list_1 ρ h ⟨ρ', rfl⟩ hh
  refine CW.seq ?_
  refine .sr (.M (reg list_1) (.V (v_len_sl (sl_68).1 rfl) (.V (v_igtr rfl rfl) (.nx ?_))))
  refine CW.cond (decide ((0 : Int) < (list_1.len : Int))) rfl (fun hb => ?_) (fun hb => ?_)
  ·have hh := hh.1 hb
   refine CW.skip ?_
   refine QN.then_ ?_
   refine CW.block ?_
   refine .sr (.M (reg list_1) ?_)
   obtain ⟨t15, ht15, hh⟩ := hh
   refine .V (v_idx_slP sl_68 rfl rfl ht15.1 ht15.2.1 ht15.2.2) (.LA 0 ag_80 get_80_all (fun _ => (len_api_Act _)) hh rfl (fun t16 hh => ?_))
   refine box_elim hh (fun a ha hh => ?_)
   refine .e (e_allocP ha zo_80 rfl ?_)
   refine .S (t16 : api_Act) 0 sz_80 (one_api_Act _) len_api_Act (len_api_Act _) (fun x => set_80_all x (t16 : api_Act)) hh rfl rfl (fun _ hh => .nx (.sr (.M (reg list_1) ?_)))
   obtain ⟨hm, hh⟩ := hh
   refine .V (v_slice_ll sl_68 rfl rfl hm.1 hm.2) (.A (reg ((list_1.cut 135 (1 : Int).toNat list_1.len list_1.cap) : Sl)) (.nx (.sr (.V (v_fieldAddr fl_80_0 rfl) (.L 0 na_3 get_80_Act hh rfl (fun t20 hh => .nx ?_))))))
   refine CW.block ?_
   refine .sr (.V (v_ieql rfl rfl) (.A (reg ((t20 == (1 : Int)) : Bool)) (.nx ?_)))
   refine CW.cond (t20 == (1 : Int)) rfl (fun hb_1 => ?_) (fun hb_1 => ?_)
   ·have hh := hh.1 hb_1
    refine .sr (.V (v_fieldAddr fl_80_5 rfl) (.LA 36 ag_75 get_80_Block (fun _ => (len_api_Block _)) hh rfl (fun t24 hh => ?_)))
    refine box_elim hh (fun b hb hh => ?_)
    refine .e (e_allocP hb zo_75 rfl ?_)
    refine .S (t24 : api_Block) 0 sz_75 (one_api_Block _) len_api_Block (len_api_Block _) (fun x => set_75_all x (t24 : api_Block)) hh rfl rfl (fun _ hh => .nx ?_)
    refine CW.join (fun ρ h => ∃ (ρ' : Env), ρ = setl ρ' [(0, reg g), (1, reg i), (2, reg ((list_1.cut 135 (1 : Int).toNat list_1.len list_1.cap) : Sl)), (7, .pointer (some a)), (8, .pointer (some b))] ∧ (law19_Game_acts.j2 s1) g i (list_1.cut 135 (1 : Int).toNat list_1.len list_1.cap) a b h) ?_ ?_
    ·refine .sr (.V (v_fieldAddr fl_80_4 rfl) (.L 35 na_3 get_80_Valid hh rfl (fun t26 hh => .V (v_ilss rfl rfl) (.nx ?_))))
     refine CW.cond (decide (t26 < (0 : Int))) rfl (fun hb_2 => ?_) (fun hb_2 => ?_)
     ·have hh := hh.1 hb_2
      refine .sr (.M (reg g) ?_)
      obtain ⟨p, hp, hh⟩ := hh
      refine .V (v_nilCheck (congrArg Value.pointer hp)) (.V (v_fieldAddr fl_61_9 rfl) (.L 10 na_3 get_61_made hh rfl (fun t31 hh => .V (v_iadd rfl rfl) (.V (v_nilCheck (congrArg Value.pointer hp)) (.V (v_fieldAddr fl_61_9 rfl) (.S ((iadd t31 (1 : Int)) : Int) 10 sz_3 (one_i _) len_law19_Game (len_i _) (fun x => set_61_made x ((iadd t31 (1 : Int)) : Int)) hh rfl rfl (fun _ hh => .nx ?_)))))))
      refine CW.drawN 20 rfl follows_mixed [0, 1, 2, 3, 4, 5, 6, 7, 8, 9, 10, 11, 12, 13, 14, 15, 16, 17, 18] ?_
      refine .P 0 rfl (v_move (v := reg g) rfl) (.P 1 rfl (v_nilCheck (congrArg Value.pointer hp)) (.P 2 rfl (v_fieldAddr fl_61_1 rfl) (.KL 3 2 na_3 get_61_height rfl hh rfl (fun t38 hh => .P 4 rfl (v_move (v := reg g) rfl) (.P 5 rfl (v_nilCheck (congrArg Value.pointer hp)) (.P 6 rfl (v_fieldAddr fl_61_9 rfl) (.KL 7 10 na_3 get_61_made rfl hh rfl (fun t42 hh => .P 8 rfl (v_conv_u8 un_3 un_5 rfl) (.P 9 rfl (v_move (v := reg g) rfl) ?_)))))))))
      refine .P 10 rfl (v_nilCheck (congrArg Value.pointer hp)) (.P 11 rfl (v_fieldAddr fl_61_9 rfl) (.KL 12 10 na_3 get_61_made rfl hh rfl (fun t47 hh => .P 13 rfl (v_ishr (a := t47) (b := 8) rfl rfl (by decide)) (.P 14 rfl (v_conv_u8 un_3 un_5 rfl) (.P 15 rfl (v_move (v := reg i) rfl) (.P 16 rfl (v_conv_u8 un_3 un_5 rfl) (.P 17 rfl (v_buildAT (arrOf [(toU8 t42), (toU8 (ishr t47 8)), (toU8 i), 0, 0, 0, 0, 0, 0, 0, 0, 0, 0, 0, 0, 0, 0, 0, 0, 0, 0, 0, 0, 0, 0, 0, 0, 0, 0, 0, 0, 0] : Arr 32 UInt8) zo_24 ar_24 rfl rfl rfl) (.P 18 rfl (v_buildT ({ api_Block.zero with Height := t38, Prev := (arrOf [(toU8 t42), (toU8 (ishr t47 8)), (toU8 i), 0, 0, 0, 0, 0, 0, 0, 0, 0, 0, 0, 0, 0, 0, 0, 0, 0, 0, 0, 0, 0, 0, 0, 0, 0, 0, 0, 0, 0] : Arr 32 UInt8) } : api_Block) zo_75 pl_75 rfl (fill_step rfl rfl (len_i _) (len_api_Block _) rfl (set_75_Height _ _) (fill_step rfl rfl (arr_len (n := 32) _) (len_api_Block _) rfl (set_75_Prev _ _) (rfl))) rfl) ?_))))))))
      obtain ⟨xw_3, hxw_3, hwxw_3, hh⟩ := hh
      refine .w 19 (by kernel_rfl) rfl (by kernel_rfl) (.e (e_storeN (p := b) (nv := enc (({ api_Block.zero with Height := t38, Prev := (arrOf [(toU8 t42), (toU8 (ishr t47 8)), (toU8 i), 0, 0, 0, 0, 0, 0, 0, 0, 0, 0, 0, 0, 0, 0, 0, 0, 0, 0, 0, 0, 0, 0, 0, 0, 0, 0, 0, 0, 0] : Arr 32 UInt8) } : api_Block) : api_Block)) 0 rfl rfl rfl sz_75 (one_api_Block _) hxw_3 hwxw_3 (len_api_Block _) (len_api_Block _) rfl (set_75_all xw_3 (({ api_Block.zero with Height := t38, Prev := (arrOf [(toU8 t42), (toU8 (ishr t47 8)), (toU8 i), 0, 0, 0, 0, 0, 0, 0, 0, 0, 0, 0, 0, 0, 0, 0, 0, 0, 0, 0, 0, 0, 0, 0, 0, 0, 0, 0, 0, 0] : Arr 32 UInt8) } : api_Block) : api_Block)) ?_))
      refine ⟨⟨⟨⟨trivial, .inl (by kernel_rfl)⟩, .inl (by kernel_rfl)⟩, .inl (by kernel_rfl)⟩, ?_⟩
      refine .done (by kernel_rfl) ?_
      exact QN.thenJ ⟨_, setl_eq ⟨rfl, ⟨rfl, ⟨rfl, ⟨rfl, ⟨rfl, trivial⟩⟩⟩⟩⟩, hh⟩
     ·have hh := hh.2 hb_2
      refine CW.skip ?_
      exact QN.thenJ ⟨_, setl_eq ⟨rfl, ⟨rfl, ⟨rfl, ⟨rfl, ⟨rfl, trivial⟩⟩⟩⟩⟩, hh⟩
    ·rintro ρ h ⟨ρ', rfl, hh⟩
     unfold law19_Game_acts.j2 at hh
     refine CW.seq ?_
     refine CW.drawN 14 rfl follows_mixed [0, 1, 2, 3, 4, 5, 6, 7, 8, 9, 10, 11] ?_
     refine .P 0 rfl (v_move (v := reg g) rfl) ?_
     obtain ⟨p_1, hp_1, hh⟩ := hh
     refine .P 1 rfl (v_nilCheck (congrArg Value.pointer hp_1)) (.P 2 rfl (v_fieldAddr fl_61_1 rfl) (.KL 3 2 na_3 get_61_height rfl hh rfl (fun t57 hh => .P 4 rfl (v_fieldAddr fl_80_1 rfl) (.KL 5 1 na_3 get_80_Round rfl hh rfl (fun t59 hh => .P 6 rfl (v_fieldAddr fl_80_4 rfl) (.KL 7 35 na_3 get_80_Valid rfl hh rfl (fun t61 hh => .KA 8 0 ag_75 get_75_all (fun _ => (len_api_Block _)) rfl hh rfl (fun t62 hh => .P 9 rfl (v_move (v := reg i) rfl) (.P 10 rfl (v_iadd rfl rfl) ?_)))))))))
     refine .P 11 rfl (v_buildT ({ api_Plan.zero with Height := t57, Round := t59, Valid := t61, Block := t62, From := (iadd i (1 : Int)) } : api_Plan) zo_77 pl_77 rfl (fill_step rfl rfl (len_i _) (len_api_Plan _) rfl (set_77_Height _ _) (fill_step rfl rfl (len_i _) (len_api_Plan _) rfl (set_77_Round _ _) (fill_step rfl rfl (len_i _) (len_api_Plan _) rfl (set_77_Valid _ _) (fill_step rfl rfl (len_api_Block _) (len_api_Plan _) rfl (set_77_Block _ _) (fill_step rfl rfl (len_i _) (len_api_Plan _) rfl (set_77_From _ _) (rfl)))))) rfl) ?_
     refine box_elim hh (fun p_2 hp_2 hh => ?_)
     refine .w 12 (by kernel_rfl) rfl (by kernel_rfl) (.e (e_allocP hp_2 zo_77 rfl ?_))
     obtain ⟨hc, hh⟩ := hh
     obtain ⟨hc_1, hh⟩ := hh
     obtain ⟨hc_2, hh⟩ := hh
     obtain ⟨hc_3, hh⟩ := hh
     refine ⟨⟨⟨⟨⟨trivial, .inr hc⟩, .inr hc_1⟩, .inr hc_2⟩, .inr hc_3⟩, ?_⟩
     obtain ⟨xw_4, hxw_4, hwxw_4, hh⟩ := hh
     refine .w 13 (by kernel_rfl) rfl (by kernel_rfl) (.e (e_storeN (p := p_2) (nv := enc (({ api_Plan.zero with Height := t57, Round := t59, Valid := t61, Block := t62, From := (iadd i (1 : Int)) } : api_Plan) : api_Plan)) 0 rfl rfl rfl sz_77 (one_api_Plan _) hxw_4 hwxw_4 (len_api_Plan _) (len_api_Plan _) rfl (set_77_all xw_4 (({ api_Plan.zero with Height := t57, Round := t59, Valid := t61, Block := t62, From := (iadd i (1 : Int)) } : api_Plan) : api_Plan)) ?_))
     refine ⟨⟨⟨⟨⟨trivial, .inl (by kernel_rfl)⟩, .inl (by kernel_rfl)⟩, .inl (by kernel_rfl)⟩, .inl (by kernel_rfl)⟩, ?_⟩
     refine .done (by kernel_rfl) ?_
     refine QN.then_ ?_
     refine CW.seq ?_
     refine CW.drawN 11 rfl follows_mixed [0, 1, 2, 3, 4, 5, 8, 9] ?_
     refine .P 0 rfl (v_move (v := reg g) rfl) (.P 1 rfl (v_move (v := reg g) rfl) (.P 2 rfl (v_nilCheck (congrArg Value.pointer hp_1)) (.P 3 rfl (v_fieldAddr fl_61_3 rfl) (.KL 4 4 na_56 get_61_plans rfl hh rfl (fun t70 hh => .KA 5 0 ag_77 get_77_all (fun _ => (len_api_Plan _)) rfl hh rfl (fun t71 hh => ?_))))))
     refine mks_elim hh (fun pt72 t72 hpt72 ht72 hh => ?_)
     refine .w 6 (by kernel_rfl) rfl (by kernel_rfl) (.e (e_mks [(t71 : api_Plan)] hpt72 ht72 zo_77 sl_56 rfl rfl rfl rfl rfl ?_))
     obtain ⟨hc_4, hh⟩ := hh
     refine ⟨⟨⟨trivial, .inr hc_4⟩, .inl (by kernel_rfl)⟩, ?_⟩
     refine .w 7 (by kernel_rfl) rfl (by kernel_rfl) (.e (e_app sl_56 zo_77 by_77 rfl rfl rfl hh ?_))
     intro h t73 hh
     refine ⟨⟨⟨trivial, .inl (by kernel_rfl)⟩, .inl (by kernel_rfl)⟩, ?_⟩
     refine .P 8 rfl (v_nilCheck (congrArg Value.pointer hp_1)) (.P 9 rfl (v_fieldAddr fl_61_3 rfl) ?_)
     obtain ⟨xw_5, hxw_5, hwxw_5, hh⟩ := hh
     refine .w 10 (by kernel_rfl) rfl (by kernel_rfl) (.e (e_storeN (p := p_1) (nv := enc (t73 : Sl)) 4 rfl rfl rfl sz_56 (one_sl _) hxw_5 hwxw_5 (len_law19_Game _) (len_sl _) rfl (set_61_plans xw_5 (t73 : Sl)) ?_))
     refine ⟨⟨⟨trivial, .inl (by kernel_rfl)⟩, .inl (by kernel_rfl)⟩, ?_⟩
     refine .done (by kernel_rfl) ?_
     refine QN.then_ ?_
     refine .sr (.M (reg g) (.M (reg g) (.V (v_nilCheck (congrArg Value.pointer hp_1)) (.V (v_fieldAddr fl_61_5 rfl) (.L 6 na_57 get_61_order hh rfl (fun t80 hh => ?_))))))
     refine mks_elim hh (fun pt81 t81 hpt81 ht81 hh => ?_)
     refine .e (e_mks [(true : Bool)] hpt81 ht81 zo_4 sl_57 rfl rfl rfl rfl rfl ?_)
     refine .e (e_app sl_57 zo_4 by_4 rfl rfl rfl hh ?_)
     intro h t82 hh
     refine .V (v_nilCheck (congrArg Value.pointer hp_1)) (.V (v_fieldAddr fl_61_5 rfl) (.S (t82 : Sl) 6 sz_57 (one_sl _) len_law19_Game (len_sl _) (fun x => set_61_order x (t82 : Sl)) hh rfl rfl (fun _ hh => .nx ?_)))
     refine CW.drawN 12 rfl follows_mixed [0, 1, 2, 3, 4, 5, 6, 7, 8, 11] ?_
     refine .P 0 rfl (v_move (v := reg ((list_1.cut 135 (1 : Int).toNat list_1.len list_1.cap) : Sl)) rfl) (.P 1 rfl (v_move (v := reg g) rfl) (.P 2 rfl (v_nilCheck (congrArg Value.pointer hp_1)) (.P 3 rfl (v_fieldAddr fl_61_2 rfl) (.KL 4 3 na_55 get_61_cores rfl hh rfl (fun t89 hh => .P 5 rfl (v_move (v := reg i) rfl) ?_)))))
     obtain ⟨t91, ht91, hh⟩ := hh
     refine .P 6 rfl (v_idx_slP sl_55 rfl rfl ht91.1 ht91.2.1 ht91.2.2) (.KL 7 0 na_62 get_62_all rfl hh rfl (fun t92 hh => .KA 8 0 ag_77 get_77_all (fun _ => (len_api_Plan _)) rfl hh rfl (fun t93 hh => ?_)))
     refine .w 9 (by kernel_rfl) rfl (by kernel_rfl) (.e (e_callP fn_38 rfl rfl hh ?_))
     intro h t94 hh
     refine ⟨⟨⟨⟨trivial, .inl (by kernel_rfl)⟩, .inl (by kernel_rfl)⟩, .inl (by kernel_rfl)⟩, ?_⟩
     refine .w 10 (by kernel_rfl) rfl (by kernel_rfl) (.e (e_app sl_68 zo_80 by_80 rfl rfl rfl hh ?_))
     intro h t95 hh
     refine ⟨⟨⟨⟨trivial, .inl (by kernel_rfl)⟩, .inl (by kernel_rfl)⟩, .inl (by kernel_rfl)⟩, ?_⟩
     refine .P 11 rfl (v_assign (v := reg t95) rfl) ?_
     refine .done (by kernel_rfl) ?_
     refine QN.blockN ?_
     refine QN.blockN ?_
     exact QN.thenJ ⟨t95, ⟨_, setl_eq ⟨rfl, ⟨rfl, ⟨rfl, trivial⟩⟩⟩⟩, hh⟩
   ·have hh := hh.2 hb_1
    refine .sr (.V (v_ieql rfl rfl) (.A (reg ((t20 == (2 : Int)) : Bool)) (.nx ?_)))
    refine CW.cond (t20 == (2 : Int)) rfl (fun hb_3 => ?_) (fun hb_3 => ?_)
    ·have hh := hh.1 hb_3
     refine CW.seq ?_
     refine CW.drawN 15 rfl follows_mixed [0, 1, 2, 3, 4, 5, 6, 7, 8, 9, 10, 11, 12] ?_
     refine .P 0 rfl (v_fieldAddr fl_80_2 rfl) (.KL 1 2 na_3 get_80_Kind rfl hh rfl (fun t99 hh => .P 2 rfl (v_move (v := reg g) rfl) ?_))
     obtain ⟨p_3, hp_3, hh⟩ := hh
     refine .P 3 rfl (v_nilCheck (congrArg Value.pointer hp_3)) (.P 4 rfl (v_fieldAddr fl_61_1 rfl) (.KL 5 2 na_3 get_61_height rfl hh rfl (fun t103 hh => .P 6 rfl (v_fieldAddr fl_80_1 rfl) (.KL 7 1 na_3 get_80_Round rfl hh rfl (fun t105 hh => .P 8 rfl (v_fieldAddr fl_80_3 rfl) (.KA 9 3 ag_24 get_80_Digest (fun _ => (arr_len (n := 32) _)) rfl hh rfl (fun t107 hh => .P 10 rfl (v_move (v := reg i) rfl) (.P 11 rfl (v_iadd rfl rfl) (.P 12 rfl (v_buildT ({ api_Vote.zero with Kind := t99, Height := t103, Round := t105, Digest := t107, From := (iadd i (1 : Int)) } : api_Vote) zo_37 pl_37 rfl (fill_step rfl rfl (len_i _) (len_api_Vote _) rfl (set_37_Kind _ _) (fill_step rfl rfl (len_i _) (len_api_Vote _) rfl (set_37_Height _ _) (fill_step rfl rfl (len_i _) (len_api_Vote _) rfl (set_37_Round _ _) (fill_step rfl rfl (arr_len (n := 32) _) (len_api_Vote _) rfl (set_37_Digest _ _) (fill_step rfl rfl (len_i _) (len_api_Vote _) rfl (set_37_From _ _) (rfl)))))) rfl) ?_)))))))))
     refine box_elim hh (fun v hv hh => ?_)
     refine .w 13 (by kernel_rfl) rfl (by kernel_rfl) (.e (e_allocP hv zo_37 rfl ?_))
     obtain ⟨hc_5, hh⟩ := hh
     obtain ⟨hc_6, hh⟩ := hh
     obtain ⟨hc_7, hh⟩ := hh
     obtain ⟨hc_8, hh⟩ := hh
     refine ⟨⟨⟨⟨⟨trivial, .inr hc_5⟩, .inr hc_6⟩, .inr hc_7⟩, .inr hc_8⟩, ?_⟩
     obtain ⟨xw_7, hxw_7, hwxw_7, hh⟩ := hh
     refine .w 14 (by kernel_rfl) rfl (by kernel_rfl) (.e (e_storeN (p := v) (nv := enc (({ api_Vote.zero with Kind := t99, Height := t103, Round := t105, Digest := t107, From := (iadd i (1 : Int)) } : api_Vote) : api_Vote)) 0 rfl rfl rfl sz_37 (one_api_Vote _) hxw_7 hwxw_7 (len_api_Vote _) (len_api_Vote _) rfl (set_37_all xw_7 (({ api_Vote.zero with Kind := t99, Height := t103, Round := t105, Digest := t107, From := (iadd i (1 : Int)) } : api_Vote) : api_Vote)) ?_))
     refine ⟨⟨⟨⟨⟨trivial, .inl (by kernel_rfl)⟩, .inl (by kernel_rfl)⟩, .inl (by kernel_rfl)⟩, .inl (by kernel_rfl)⟩, ?_⟩
     refine .done (by kernel_rfl) ?_
     refine QN.then_ ?_
     refine CW.seq ?_
     refine CW.drawN 11 rfl follows_mixed [0, 1, 2, 3, 4, 5, 8, 9] ?_
     refine .P 0 rfl (v_move (v := reg g) rfl) (.P 1 rfl (v_move (v := reg g) rfl) (.P 2 rfl (v_nilCheck (congrArg Value.pointer hp_3)) (.P 3 rfl (v_fieldAddr fl_61_4 rfl) (.KL 4 5 na_22 get_61_votes rfl hh rfl (fun t115 hh => .KA 5 0 ag_37 get_37_all (fun _ => (len_api_Vote _)) rfl hh rfl (fun t116 hh => ?_))))))
     refine mks_elim hh (fun pt117 t117 hpt117 ht117 hh => ?_)
     refine .w 6 (by kernel_rfl) rfl (by kernel_rfl) (.e (e_mks [(t116 : api_Vote)] hpt117 ht117 zo_37 sl_22 rfl rfl rfl rfl rfl ?_))
     obtain ⟨hc_9, hh⟩ := hh
     refine ⟨⟨⟨trivial, .inr hc_9⟩, .inl (by kernel_rfl)⟩, ?_⟩
     refine .w 7 (by kernel_rfl) rfl (by kernel_rfl) (.e (e_app sl_22 zo_37 by_37 rfl rfl rfl hh ?_))
     intro h t118 hh
     refine ⟨⟨⟨trivial, .inl (by kernel_rfl)⟩, .inl (by kernel_rfl)⟩, ?_⟩
     refine .P 8 rfl (v_nilCheck (congrArg Value.pointer hp_3)) (.P 9 rfl (v_fieldAddr fl_61_4 rfl) ?_)
     obtain ⟨xw_8, hxw_8, hwxw_8, hh⟩ := hh
     refine .w 10 (by kernel_rfl) rfl (by kernel_rfl) (.e (e_storeN (p := p_3) (nv := enc (t118 : Sl)) 5 rfl rfl rfl sz_22 (one_sl _) hxw_8 hwxw_8 (len_law19_Game _) (len_sl _) rfl (set_61_votes xw_8 (t118 : Sl)) ?_))
     refine ⟨⟨⟨trivial, .inl (by kernel_rfl)⟩, .inl (by kernel_rfl)⟩, ?_⟩
     refine .done (by kernel_rfl) ?_
     refine QN.then_ ?_
     refine .sr (.M (reg g) (.M (reg g) (.V (v_nilCheck (congrArg Value.pointer hp_3)) (.V (v_fieldAddr fl_61_5 rfl) (.L 6 na_57 get_61_order hh rfl (fun t125 hh => ?_))))))
     refine mks_elim hh (fun pt126 t126 hpt126 ht126 hh => ?_)
     refine .e (e_mks [(false : Bool)] hpt126 ht126 zo_4 sl_57 rfl rfl rfl rfl rfl ?_)
     refine .e (e_app sl_57 zo_4 by_4 rfl rfl rfl hh ?_)
     intro h t127 hh
     refine .V (v_nilCheck (congrArg Value.pointer hp_3)) (.V (v_fieldAddr fl_61_5 rfl) (.S (t127 : Sl) 6 sz_57 (one_sl _) len_law19_Game (len_sl _) (fun x => set_61_order x (t127 : Sl)) hh rfl rfl (fun _ hh => .nx (.seq ?_))))
     refine CW.drawN 17 rfl follows_mixed [0, 1, 2, 3, 4, 5, 6, 7, 8, 9, 10, 11, 12, 15] ?_
     refine .P 0 rfl (v_move (v := reg g) rfl) (.P 1 rfl (v_nilCheck (congrArg Value.pointer hp_3)) (.P 2 rfl (v_fieldAddr fl_61_6 rfl) (.KL 3 7 na_58 get_61_own rfl hh rfl (fun t133 hh => .P 4 rfl (v_move (v := reg i) rfl) (.P 5 rfl (v_move (v := reg g) rfl) (.P 6 rfl (v_nilCheck (congrArg Value.pointer hp_3)) (.P 7 rfl (v_fieldAddr fl_61_6 rfl) (.KL 8 7 na_58 get_61_own rfl hh rfl (fun t138 hh => .P 9 rfl (v_move (v := reg i) rfl) ?_)))))))))
     obtain ⟨t140, ht140, hh⟩ := hh
     refine .P 10 rfl (v_idx_slP sl_58 rfl rfl ht140.1 ht140.2.1 ht140.2.2) (.KL 11 0 na_22 get_22_all rfl hh rfl (fun t141 hh => .KA 12 0 ag_37 get_37_all (fun _ => (len_api_Vote _)) rfl hh rfl (fun t142 hh => ?_)))
     refine mks_elim hh (fun pt143 t143 hpt143 ht143 hh => ?_)
     refine .w 13 (by kernel_rfl) rfl (by kernel_rfl) (.e (e_mks [(t142 : api_Vote)] hpt143 ht143 zo_37 sl_22 rfl rfl rfl rfl rfl ?_))
     obtain ⟨hc_10, hh⟩ := hh
     obtain ⟨hc_11, hh⟩ := hh
     obtain ⟨hc_12, hh⟩ := hh
     refine ⟨⟨⟨⟨⟨trivial, .inr hc_10⟩, .inr hc_11⟩, .inr hc_12⟩, .inl (by kernel_rfl)⟩, ?_⟩
     refine .w 14 (by kernel_rfl) rfl (by kernel_rfl) (.e (e_app sl_22 zo_37 by_37 rfl rfl rfl hh ?_))
     intro h t144 hh
     obtain ⟨hc_13, hh⟩ := hh
     refine ⟨⟨⟨⟨⟨trivial, .inr hc_13⟩, .inl (by kernel_rfl)⟩, .inl (by kernel_rfl)⟩, .inl (by kernel_rfl)⟩, ?_⟩
     obtain ⟨t145, ht145, hh⟩ := hh
     refine .P 15 rfl (v_idx_slP sl_58 rfl rfl ht145.1 ht145.2.1 ht145.2.2) ?_
     obtain ⟨xw_10, hxw_10, hwxw_10, hh⟩ := hh
     refine .w 16 (by kernel_rfl) rfl (by kernel_rfl) (.e (e_storeN (p := t145) (nv := enc (t144 : Sl)) 0 rfl rfl rfl sz_22 (one_sl _) hxw_10 hwxw_10 (len_sl _) (len_sl _) rfl (set_22_all xw_10 (t144 : Sl)) ?_))
     refine ⟨⟨⟨⟨⟨trivial, .inl (by kernel_rfl)⟩, .inl (by kernel_rfl)⟩, .inl (by kernel_rfl)⟩, .inl (by kernel_rfl)⟩, ?_⟩
     refine .done (by kernel_rfl) ?_
     refine QN.then_ ?_
     refine CW.drawN 12 rfl follows_mixed [0, 1, 2, 3, 4, 5, 6, 7, 8, 11] ?_
     refine .P 0 rfl (v_move (v := reg ((list_1.cut 135 (1 : Int).toNat list_1.len list_1.cap) : Sl)) rfl) (.P 1 rfl (v_move (v := reg g) rfl) (.P 2 rfl (v_nilCheck (congrArg Value.pointer hp_3)) (.P 3 rfl (v_fieldAddr fl_61_2 rfl) (.KL 4 3 na_55 get_61_cores rfl hh rfl (fun t150 hh => .P 5 rfl (v_move (v := reg i) rfl) ?_)))))
     obtain ⟨t152, ht152, hh⟩ := hh
     refine .P 6 rfl (v_idx_slP sl_55 rfl rfl ht152.1 ht152.2.1 ht152.2.2) (.KL 7 0 na_62 get_62_all rfl hh rfl (fun t153 hh => .KA 8 0 ag_37 get_37_all (fun _ => (len_api_Vote _)) rfl hh rfl (fun t154 hh => ?_)))
     refine .w 9 (by kernel_rfl) rfl (by kernel_rfl) (.e (e_callP fn_39 rfl rfl hh ?_))
     intro h t155 hh
     refine ⟨⟨⟨⟨trivial, .inl (by kernel_rfl)⟩, .inl (by kernel_rfl)⟩, .inl (by kernel_rfl)⟩, ?_⟩
     refine .w 10 (by kernel_rfl) rfl (by kernel_rfl) (.e (e_app sl_68 zo_80 by_80 rfl rfl rfl hh ?_))
     intro h t156 hh
     refine ⟨⟨⟨⟨trivial, .inl (by kernel_rfl)⟩, .inl (by kernel_rfl)⟩, .inl (by kernel_rfl)⟩, ?_⟩
     refine .P 11 rfl (v_assign (v := reg t156) rfl) ?_
     refine .done (by kernel_rfl) ?_
     refine QN.blockN ?_
     refine QN.blockN ?_
     exact QN.thenJ ⟨t156, ⟨_, setl_eq ⟨rfl, ⟨rfl, ⟨rfl, trivial⟩⟩⟩⟩, hh⟩
    ·have hh := hh.2 hb_3
     refine .sr (.V (v_ieql rfl rfl) (.A (reg ((t20 == (3 : Int)) : Bool)) (.nx ?_)))
     refine CW.cond (t20 == (3 : Int)) rfl (fun hb_4 => ?_) (fun hb_4 => ?_)
     ·have hh := hh.1 hb_4
      refine CW.seq ?_
      refine CW.join (fun ρ h => ∃ (ρ' : Env) (t179 : Bool), ρ = setl ρ' [(0, reg g), (1, reg i), (2, reg ((list_1.cut 135 (1 : Int).toNat list_1.len list_1.cap) : Sl)), (7, .pointer (some a)), (179, reg t179)] ∧ (law19_Game_acts.j3 k s1) g i (list_1.cut 135 (1 : Int).toNat list_1.len list_1.cap) a t179 h) ?_ ?_
      ·refine CW.drawN 21 rfl follows_mixed [0, 1, 2, 3, 4, 5, 6, 7, 8, 9, 10, 11, 12, 13, 14, 15, 16, 17, 18, 19, 20] ?_
       refine .P 0 rfl (v_move (v := reg g) rfl) ?_
       obtain ⟨p_4, hp_4, hh⟩ := hh
       refine .P 1 rfl (v_nilCheck (congrArg Value.pointer hp_4)) (.P 2 rfl (v_fieldAddr fl_61_7 rfl) (.KL 3 8 na_31 get_61_decided rfl hh rfl (fun t162 hh => .P 4 rfl (v_move (v := reg i) rfl) ?_)))
       obtain ⟨t164, ht164, hh⟩ := hh
       refine .P 5 rfl (v_idx_slP sl_31 rfl rfl ht164.1 ht164.2.1 ht164.2.2) (.KA 6 0 ag_24 get_24_all (fun _ => (arr_len (n := 32) _)) rfl hh rfl (fun t165 hh => .P 7 rfl (v_buildAT (arrOf [0, 0, 0, 0, 0, 0, 0, 0, 0, 0, 0, 0, 0, 0, 0, 0, 0, 0, 0, 0, 0, 0, 0, 0, 0, 0, 0, 0, 0, 0, 0, 0] : Arr 32 UInt8) zo_24 ar_24 rfl rfl rfl) (.P 8 rfl (v_ne_arr8 bt_24 rfl rfl) (.P 9 rfl (v_move (v := reg ((!decide (t165 = (arrOf [0, 0, 0, 0, 0, 0, 0, 0, 0, 0, 0, 0, 0, 0, 0, 0, 0, 0, 0, 0, 0, 0, 0, 0, 0, 0, 0, 0, 0, 0, 0, 0] : Arr 32 UInt8))) : Bool)) rfl) ?_))))
       refine ifb_cases hh (fun hb_5 hh => ?_) (fun hb_5 hh => ?_)
       ·refine .Y 10 168 rfl (cb hb_5) (v_move (v := reg g) rfl) (.Y 11 168 rfl (cb hb_5) (v_nilCheck (congrArg Value.pointer hp_4)) (.Y 12 168 rfl (cb hb_5) (v_fieldAddr fl_61_7 rfl) (.YL 13 168 8 na_31 get_61_decided rfl (cb hb_5) hh rfl (fun t172 hh => .Y 14 168 rfl (cb hb_5) (v_move (v := reg i) rfl) ?_))))
        obtain ⟨t174, ht174, hh⟩ := hh
        refine .Y 15 168 rfl (cb hb_5) (v_idx_slP sl_31 rfl rfl ht174.1 ht174.2.1 ht174.2.2) ?_
        obtain ⟨t175, ⟨xt175, hxt175, hgt175⟩, hh⟩ := hh
        refine .YK 16 168 (fun h' => ∃ x : Arr 32 UInt8, AtH h' t174 (enc x) ∧ ((fun (x : Arr 32 UInt8) => x) : Arr 32 UInt8 → Arr 32 UInt8) x = t175) rfl (cb hb_5) ⟨xt175, hxt175, hgt175⟩ (fun h' hS => hS.elim fun _ hS => v_ldA (p := t174) 0 ag_24 rfl hS.1 hS.2 get_24_all (fun _ => (arr_len (n := 32) _)) (fun _ => rfl)) (.Y 17 168 rfl (cb hb_5) (v_fieldAddr fl_80_3 rfl) ?_)
        obtain ⟨t177, ⟨xt177, hxt177, hgt177⟩, hh⟩ := hh
        refine .YK 18 168 (fun h' => ∃ x : api_Act, AtH h' a (enc x) ∧ ((fun (x : api_Act) => x.Digest) : api_Act → Arr 32 UInt8) x = t177) rfl (cb hb_5) ⟨xt177, hxt177, hgt177⟩ (fun h' hS => hS.elim fun _ hS => v_ldA (p := a) 3 ag_24 rfl hS.1 hS.2 get_80_Digest (fun _ => (arr_len (n := 32) _)) (fun _ => rfl)) (.Y 19 168 rfl (cb hb_5) (v_ne_arr8 bt_24 rfl rfl) (.P 20 rfl (v_pickT (v := reg ((!decide (t175 = t177)) : Bool)) rfl hb_5 rfl) ?_))
        refine .done (by kernel_rfl) ?_
        exact QN.thenJ ⟨_, (!decide (t175 = t177)), setl_eq ⟨rfl, ⟨rfl, ⟨rfl, ⟨rfl, ⟨rfl, trivial⟩⟩⟩⟩⟩, hh⟩
       ·refine .N 10 168 rfl (cb hb_5) (.N 11 168 rfl (cb hb_5) (.N 12 168 rfl (cb hb_5) (.N 13 168 rfl (cb hb_5) (.N 14 168 rfl (cb hb_5) (.N 15 168 rfl (cb hb_5) (.N 16 168 rfl (cb hb_5) (.N 17 168 rfl (cb hb_5) (.N 18 168 rfl (cb hb_5) (.N 19 168 rfl (cb hb_5) ?_)))))))))
        refine .P 20 rfl (v_pickF (v := reg false) rfl hb_5 rfl) ?_
        refine .done (by kernel_rfl) ?_
        exact QN.thenJ ⟨_, false, setl_eq ⟨rfl, ⟨rfl, ⟨rfl, ⟨rfl, ⟨rfl, trivial⟩⟩⟩⟩⟩, hh⟩
      ·rintro ρ h ⟨ρ', t179, rfl, hh⟩
       unfold law19_Game_acts.j3 at hh
       refine CW.cond t179 rfl (fun hb_6 => ?_) (fun hb_6 => ?_)
       ·have hh := hh.1 hb_6
        refine .sr (.A (reg false) (.nx ?_))
        refine CW.ret ?_
        refine QN.thenRet ?_
        refine QN.blockRet ?_
        refine QN.blockRet ?_
        refine QN.thenRet ?_
        refine QN.blockRet ?_
        refine QN.thenRet ?_
        exact ret1 rfl rfl ⟨(false : Bool), rfl, hh⟩
       ·have hh := hh.2 hb_6
        refine CW.skip ?_
        refine QN.then_ ?_
        refine CW.drawN 9 rfl follows_mixed [0, 1, 2, 3, 4, 5, 6, 7] ?_
        refine .P 0 rfl (v_move (v := reg g) rfl) ?_
        obtain ⟨p_5, hp_5, hh⟩ := hh
        refine .P 1 rfl (v_nilCheck (congrArg Value.pointer hp_5)) (.P 2 rfl (v_fieldAddr fl_61_7 rfl) (.KL 3 8 na_31 get_61_decided rfl hh rfl (fun t183 hh => .P 4 rfl (v_move (v := reg i) rfl) (.P 5 rfl (v_fieldAddr fl_80_3 rfl) (.KA 6 3 ag_24 get_80_Digest (fun _ => (arr_len (n := 32) _)) rfl hh rfl (fun t186 hh => ?_))))))
        obtain ⟨t187, ht187, hh⟩ := hh
        refine .P 7 rfl (v_idx_slP sl_31 rfl rfl ht187.1 ht187.2.1 ht187.2.2) ?_
        obtain ⟨xw_11, hxw_11, hwxw_11, hh⟩ := hh
        refine .w 8 (by kernel_rfl) rfl (by kernel_rfl) (.e (e_storeN (p := t187) (nv := enc (t186 : Arr 32 UInt8)) 0 rfl rfl rfl sz_24 (one_arr (n := 32) (fun _ => rfl) _) hxw_11 hwxw_11 (arr_len (n := 32) _) (arr_len (n := 32) _) rfl (set_24_all xw_11 (t186 : Arr 32 UInt8)) ?_))
        refine ⟨⟨⟨trivial, .inl (by kernel_rfl)⟩, .inl (by kernel_rfl)⟩, ?_⟩
        refine .done (by kernel_rfl) ?_
        refine QN.blockN ?_
        refine QN.blockN ?_
        exact QN.thenJ ⟨(list_1.cut 135 (1 : Int).toNat list_1.len list_1.cap), ⟨_, setl_eq ⟨rfl, ⟨rfl, ⟨rfl, trivial⟩⟩⟩⟩, hh⟩
     ·have hh := hh.2 hb_4
      refine CW.skip ?_
      refine QN.blockN ?_
      refine QN.blockN ?_
      exact QN.thenJ ⟨(list_1.cut 135 (1 : Int).toNat list_1.len list_1.cap), ⟨_, setl_eq ⟨rfl, ⟨rfl, ⟨rfl, trivial⟩⟩⟩⟩, hh⟩
  ·have hh := hh.2 hb
   refine CW.exit ?_
   refine QN.thenExit ?_
   refine QN.thenExit ?_
   refine QN.blockExit ?_
   exact QN.thenJ ⟨_, setl_eq trivial, hh⟩
 ·rintro ρ h ⟨ρ', rfl, hh⟩
  unfold law19_Game_acts.j1 at hh
  refine .sr (.A (reg true) (.nx ?_))
  refine CW.ret ?_
  exact ret1 rfl rfl ⟨(true : Bool), rfl, hh⟩
/-! a game, and all that it owns -/
structure GG where
  x : law19_Game
  cs : List CS
  pls : List (api_Plan × List api_Request)
  vts : List api_Vote
  ord : List Bool
  ows : List (Sl × List api_Vote)
  dc : List Dig
  oth : List (api_Block × List api_Request)
  KG : Kn
/-- what of a game can be told without places -/
structure AG where
  cs : List CS
  pls : List (api_Plan × List api_Request)
  vts : List api_Vote
  ord : List Bool
  own : List (List api_Vote)
  dc : List Dig
  oth : List (api_Block × List api_Request)
def GG.ab (G : GG) : AG := ⟨G.cs, G.pls, G.vts, G.ord, G.ows.map (·.2), G.dc, G.oth⟩
def owE (e : Sl × List api_Vote) : En := own 37 41 e.1 e.2
@[reducible] def gpre (g : Addr) (n : Nat) (G : GG) : List En := [cel 61 g (enc G.x), own 110 34 G.x.config.Members (memN n), own 62 1 G.x.cores (G.cs.map fun c => (some c.p : Pt)), own 22 1 G.x.own (G.ows.map (·.1)), own 24 32 G.x.decided G.dc, own 77 108 G.x.plans (G.pls.map (·.1)), own 37 41 G.x.votes G.vts, own 4 1 G.x.order G.ord, own 75 99 G.x.others (G.oth.map (·.1)), kE G.KG]
@[reducible] def gmX (g : Addr) (n : Nat) (G : GG) (L : List En) : List En := (gpre g n G ++ G.ows.map owE) ++ (G.cs.flatMap core ++ L)
def CovG (KG : Kn) (h0 : H) (b : api_Block) (qs : List api_Request) : Prop := reqsN qs < 2 ^ 30 ∧ ((b.Requests, qs) ∈ KG ∨ SVz 42 h0 b.Requests qs)
theorem CovG.mono {KG KG' : Kn} {h0 : H} {b : api_Block} {qs : List api_Request} (h : CovG KG h0 b qs) (hk : ∀ q ∈ KG, q ∈ KG') : CovG KG' h0 b qs := ⟨h.1, h.2.imp (hk _) id⟩
theorem CovG.svz {KG : Kn} {h0 h : H} {b : api_Block} {qs : List api_Request} (hc : CovG KG h0 b qs) (hk : (kE KG).A h) (hx : Ext h0 h) : SVz 42 h b.Requests qs := by
  rcases hc.2 with h1 | h1
  · exact SV.z (hk _ h1)
  · exact h1.ext hx
structure RawOk (h0 : H) (ht : Int) (G : GG) : Prop where
  ht : G.x.height = ht
  ep : G.x.config.Epoch = 0
  pl : ∀ e ∈ G.pls, CovG G.KG h0 e.1.Block e.2
  ot : ∀ e ∈ G.oth, CovG G.KG h0 e.1 e.2
def PendOk (h0 : H) (KG : Kn) (pend : List PA) : Prop := ∀ e ∈ pend, CovG KG h0 e.1.Block e.2 ∧ (e.1.Act ≠ 3 → 0 ≤ e.1.Round ∧ e.1.Round ≤ 1024)
theorem ActK.pend {KA KG : Kn} {h0 : H} {out : List PA} (h : ActK KA out) : PendOk h0 (KG ++ KA) out := fun e he => by
  obtain ⟨a, b, c⟩ := h e he
  exact ⟨⟨b, .inl (by simp [a])⟩, c⟩
theorem PendOk.mono {KG KG' : Kn} {h0 : H} {out : List PA} (h : PendOk h0 KG out) (hk : ∀ q ∈ KG, q ∈ KG') : PendOk h0 KG' out := fun e he => ⟨(h e he).1.mono hk, (h e he).2⟩
def nuAt (G : GG) (i : Nat) : Nat := match G.cs[i]? with | some c => nu c | none => 0
def votA (ht : Int) (i : Nat) (a : api_Act) : api_Vote := { api_Vote.zero with Kind := a.Kind, Height := ht, Round := a.Round, Digest := a.Digest, From := ((i + 1 : Nat) : Int) }
/-- what must hold of a game while its acts are done, that all goes well -/
structure GI (n : Nat) (ht : Int) (I : AG → Nat → List PA → Prop) : Prop where
  adm : ∀ A i pend, I A i pend → i < A.cs.length ∧ A.own.length = A.cs.length ∧ A.dc.length = A.cs.length ∧ A.cs.length ≤ 10 ∧ (∀ (j : Nat) c, A.cs[j]? = some c → Cok c ∧ c.acts = [] ∧ c.ht = ht ∧ c.vts.length + 1 < 2 ^ 19) ∧ A.pls.length < 2 ^ 30 ∧ A.vts.length < 2 ^ 30 ∧ A.ord.length < 2 ^ 30 ∧ A.oth.length < 2 ^ 30 ∧ (∀ l ∈ A.own, l.length < 2 ^ 30) ∧ pend.length < 2 ^ 30
  plan : ∀ A i a qs pend c c' out p qs', I A i ((a, qs) :: pend) → a.Act = 1 → A.cs[i]? = some c → p.Height = ht → p.Round = a.Round → p.Valid = a.Valid → p.From = ((i + 1 : Nat) : Int) → (0 ≤ a.Valid → p.Block = a.Block ∧ qs' = qs) → reqsN qs' < 2 ^ 30 → PlanO c p qs' c' out → out.length + nu c' ≤ nu c →
    I { A with pls := A.pls ++ [(p, qs')], ord := A.ord ++ [true], cs := A.cs.set i c' } i (pend ++ out)
  vote : ∀ A i a qs pend c c' out l, I A i ((a, qs) :: pend) → a.Act = 2 → A.cs[i]? = some c → A.own[i]? = some l → VoteO c (votA ht i a) c' out → out.length + nu c' ≤ nu c →
    I { A with vts := A.vts ++ [votA ht i a], ord := A.ord ++ [false], own := A.own.set i (l ++ [votA ht i a]), cs := A.cs.set i c' } i (pend ++ out)
  dec : ∀ A i a qs pend d, I A i ((a, qs) :: pend) → a.Act = 3 → A.dc[i]? = some d → (d = dz ∨ d = a.Digest) ∧ I { A with dc := A.dc.set i a.Digest } i pend
  oth : ∀ A i a qs pend, I A i ((a, qs) :: pend) → a.Act ≠ 1 → a.Act ≠ 2 → a.Act ≠ 3 → I A i pend
theorem kE_merge {h0 h : H} {S : List Nat} {L : List En} {K KA : Kn} (hs : Sat h0 S h (kE KA :: kE K :: L)) : Sat h0 S h (kE (K ++ KA) :: L) := by
  refine hs.merge (fun b hb => ?_) (fun h1 h2 q hq => ?_) (kE_loc _)
  · simp only [kE, List.flatMap_append, List.mem_append] at hb
    exact hb.symm
  · rcases List.mem_append.1 hq with hq | hq
    · exact h2 q hq
    · exact h1 q hq
section
variable {h0 h : H} {S : List Nat} {L : List En}
/-- a core is put back after a call -/
theorem back {g : Addr} {n i : Nat} {G : GG} {c c' : CS} {KA : Kn} {m : En} (hs : Sat h0 S h (core c' ++ (kE KA :: m :: ((gpre g n G ++ G.ows.map owE) ++ ((G.cs.take i ++ G.cs.drop (i + 1)).flatMap core ++ L))))) (hi : G.cs[i]? = some c) (hp : c'.p = c.p) :
    Sat h0 S h (m :: gmX g n { G with cs := G.cs.set i c', KG := G.KG ++ KA } L) := by
  have h1 := hs.sel 20 [8, 19, 0, 1, 2, 3, 4, 5, 6, 7, 9, 10, 11, 12, 13, 14, 15, 16, 17, 18] (by decide) (by decide)
  have h2 := kE_merge h1
  have h3 := h2.sel 19 [1, 2, 3, 4, 5, 6, 7, 8, 9, 10, 11, 12, 13, 14, 15, 16, 17, 18, 0] (by decide) (by decide)
  have hlt : i < G.cs.length := by rw [List.getElem?_eq_some_iff] at hi; exact hi.1
  have hmap : (G.cs.set i c').map (fun c => (some c.p : Pt)) = G.cs.map (fun c => (some c.p : Pt)) := by
    apply List.ext_getElem?
    intro j
    rw [List.getElem?_map, List.getElem?_map, List.getElem?_set]
    by_cases hj : i = j
    · subst hj
      rw [if_pos rfl, if_pos hlt, hi]
      show some (some c'.p) = some (some c.p)
      rw [hp]
    · rw [if_neg hj]
  have h4 : Sat h0 S h (core c' ++ ((m :: (gpre g n { G with cs := G.cs.set i c', KG := G.KG ++ KA } ++ G.ows.map owE)) ++ ((G.cs.take i ++ G.cs.drop (i + 1)).flatMap core ++ L))) := by
    unfold gpre
    rw [hmap]
    exact h3
  exact unpick h4 hlt
/-- one core is taken out -/
theorem forth {g : Addr} {n i : Nat} {G : GG} {c : CS} {ms : List En} (hs : Sat h0 S h (ms ++ gmX g n G L)) (hi : G.cs[i]? = some c) : Sat h0 S h (core c ++ ((ms ++ (gpre g n G ++ G.ows.map owE)) ++ ((G.cs.take i ++ G.cs.drop (i + 1)).flatMap core ++ L))) := by
  refine pick (G := ms ++ (gpre g n G ++ G.ows.map owE)) ?_ hi
  rw [List.append_assoc]; exact hs
theorem pickO {ows : List (Sl × List api_Vote)} {A R : List En} {i : Nat} {e : Sl × List api_Vote} (hs : Sat h0 S h (A ++ (ows.map owE ++ R))) (hi : ows[i]? = some e) : Sat h0 S h (owE e :: (A ++ ((ows.take i ++ ows.drop (i + 1)).map owE ++ R))) := by
  refine hs.perm ?_
  have hlt : i < ows.length := by rw [List.getElem?_eq_some_iff] at hi; exact hi.1
  have e1 : ows = ows.take i ++ e :: ows.drop (i + 1) := by
    have h1 : ows.drop i = e :: ows.drop (i + 1) := by
      rw [List.getElem?_eq_some_iff] at hi
      rw [← hi.2]; exact List.drop_eq_getElem_cons hlt
    rw [← h1, List.take_append_drop]
  have e2 : ows.map owE = (ows.take i).map owE ++ (owE e :: (ows.drop (i + 1)).map owE) := by
    conv => lhs; rw [e1]
    rw [List.map_append, List.map_cons]
  rw [e2, List.map_append]
  have := List.perm_middle (a := owE e) (l₁ := A ++ (ows.take i).map owE) (l₂ := (ows.drop (i + 1)).map owE ++ R)
  simpa only [List.append_assoc, List.cons_append] using this
theorem unpickO {ows : List (Sl × List api_Vote)} {A R : List En} {i : Nat} {e : Sl × List api_Vote} (hs : Sat h0 S h (owE e :: (A ++ ((ows.take i ++ ows.drop (i + 1)).map owE ++ R)))) (hi : i < ows.length) : Sat h0 S h (A ++ ((ows.set i e).map owE ++ R)) := by
  refine hs.perm ?_
  rw [List.set_eq_take_append_cons_drop, if_pos hi, List.map_append, List.map_append, List.map_cons]
  have := (List.perm_middle (a := owE e) (l₁ := A ++ (ows.take i).map owE) (l₂ := (ows.drop (i + 1)).map owE ++ R)).symm
  simpa only [List.append_assoc, List.cons_append] using this
end
theorem set_nu {G : GG} {i : Nat} {c c' : CS} (hi : G.cs[i]? = some c) (KG : Kn) (x : law19_Game) (pls : List (api_Plan × List api_Request)) (vts : List api_Vote) (ord : List Bool) (ows : List (Sl × List api_Vote)) (dc : List Dig) (oth : List (api_Block × List api_Request)) : nuAt ⟨x, G.cs.set i c', pls, vts, ord, ows, dc, oth, KG⟩ i = nu c' ∧ nuAt G i = nu c := by
  have hlt : i < G.cs.length := by rw [List.getElem?_eq_some_iff] at hi; exact hi.1
  constructor
  · unfold nuAt
    simp only
    rw [List.getElem?_set_self hlt]
  · unfold nuAt; rw [hi]
section
variable {h0 h : H} {L : List En}
/-- acts of a call are put behind those that are to be done -/
theorem acts_end {n : Nat} {ht : Int} {I : AG → Nat → List PA → Prop} {g : Addr} {G : GG} {i : Nat} {c c' : CS} {rest out : List PA} {s2 sl : Sl} {KA : Kn} {N : Nat} {s1 : Sl → H → Prop} (hI : GI n ht I)
    (hs : Sat h0 [] h (core c' ++ (own 80 135 sl (out.map (·.1)) :: kE KA :: ownO 80 135 s2 (rest.map (·.1)) :: ((gpre g n G ++ G.ows.map owE) ++ ((G.cs.take i ++ G.cs.drop (i + 1)).flatMap core ++ L))))) (hi : G.cs[i]? = some c) (hp : c'.p = c.p)
    (hR : RawOk h0 ht G) (hK : ActK KA out) (hP : PendOk h0 G.KG rest) (hA : I { G.ab with cs := G.cs.set i c' } i (rest ++ out)) (hnu : out.length + nu c' ≤ nu c) (hN : rest.length + nu c < N)
    (hQ : ∀ G' pend' s' h' N', N' < N → RawOk h0 ht G' → I G'.ab i pend' → PendOk h0 G'.KG pend' → Sat h0 [] h' (ownO 80 135 s' (pend'.map (·.1)) :: gmX g n G' L) → N' = pend'.length + nuAt G' i → s1 s' h') :
    app 80 135 200 (enc (api_Act.zero : api_Act)) s2 sl s1 h := by
  have hlen := (hI.adm _ _ _ hA).2.2.2.2.2.2.2.2.2.2
  rw [List.length_append] at hlen
  refine hs.appO_ 10 rfl (hs.ownSV 8 rfl len_api_Act) len_api_Act one_api_Act (len_api_Act _) ?_ ?_ (fun r h1 hs1 _ => ?_)
  · simp only [List.length_map, maxBytes]; omega
  · simp only [List.length_map]; omega
  have hs2 : Sat h0 [] h1 (core c' ++ (kE KA :: ownO 80 135 r ((rest ++ out).map (·.1)) :: ((gpre g n G ++ G.ows.map owE) ++ ((G.cs.take i ++ G.cs.drop (i + 1)).flatMap core ++ L)))) := by
    rw [List.map_append]
    exact hs1.sel 11 [0, 1, 2, 3, 4, 5, 6, 7, 9, 10] (by decide) (by decide)
  have hs3 := back hs2 hi hp
  have hnu2 := set_nu (c' := c') hi (G.KG ++ KA) G.x G.pls G.vts G.ord G.ows G.dc G.oth
  have hmono : ∀ q ∈ G.KG, q ∈ G.KG ++ KA := fun q hq => List.mem_append_left _ hq
  refine hQ { G with cs := G.cs.set i c', KG := G.KG ++ KA } (rest ++ out) r h1 _ ?_ ⟨hR.ht, hR.ep, fun e he => (hR.pl e he).mono hmono, fun e he => (hR.ot e he).mono hmono⟩ hA ?_ hs3 rfl
  · rw [hnu2.1, List.length_append]; omega
  · intro e he
    rcases List.mem_append.1 he with he | he
    · exact hP.mono hmono e he
    · exact hK.pend e he
theorem acts_j2 {n : Nat} {ht : Int} {I : AG → Nat → List PA → Prop} {g : Addr} {G : GG} {i : Nat} {c : CS} {a : api_Act} {qs qs' : List api_Request} {bk : api_Block} {rest : List PA} {s2 : Sl} {a1 b1 : Addr} {N : Nat} {s1 : Sl → H → Prop} (hI : GI n ht I) (hT : Tb h0)
    (hs : Sat h0 [] h (cel 75 b1 (enc bk) :: cel 80 a1 (enc a) :: ownO 80 135 s2 (rest.map (·.1)) :: gmX g n G L)) (hi : G.cs[i]? = some c)
    (hR : RawOk h0 ht G) (hP : PendOk h0 G.KG rest) (hA : I G.ab i ((a, qs) :: rest)) (ha : a.Act = 1) (hr : 0 ≤ a.Round ∧ a.Round ≤ 1024) (hb : CovG G.KG h0 bk qs') (hbv : 0 ≤ a.Valid → bk = a.Block ∧ qs' = qs) (hN : rest.length + nu c < N)
    (hQ : ∀ G' pend' s' h' N', N' < N → RawOk h0 ht G' → I G'.ab i pend' → PendOk h0 G'.KG pend' → Sat h0 [] h' (ownO 80 135 s' (pend'.map (·.1)) :: gmX g n G' L) → N' = pend'.length + nuAt G' i → s1 s' h') :
    law19_Game_acts.j2 s1 (some g) (i : Int) s2 a1 b1 h := by
  unfold law19_Game_acts.j2
  obtain ⟨d1, d2, d3, d4, d5, d6, d7, d8, d9, d10, d11⟩ := hI.adm _ _ _ hA
  have d6' : G.pls.length < 2 ^ 30 := d6
  have d8' : G.ord.length < 2 ^ 30 := d8
  refine nn_i (hs.ld_ 3 rfl (hs.ld_ 1 rfl (hs.ld_ 1 rfl (hs.ld_ 0 rfl ?_))))
  refine hs.box_ (fun p2 h1 hs1 _ _ => ?_)
  refine hs1.chk_ 4 rfl rfl (hs1.chk_ 2 rfl rfl (hs1.chk_ 2 rfl rfl (hs1.chk_ 1 rfl rfl ?_)))
  have ei : iadd (i : Int) 1 = ((i + 1 : Nat) : Int) := by
    have : i < 10 := Nat.lt_of_lt_of_le d1 d4
    rw [iadd_eq (by omega) (by omega)]; omega
  rw [ei]
  refine hs1.st_ 0 rfl len_api_Plan (fun h2 hs2 _ => ?_)
  generalize hp : ({ api_Plan.zero with Height := G.x.height, Round := a.Round, Valid := a.Valid, Block := bk, From := ((i + 1 : Nat) : Int) } : api_Plan) = p at hs2
  have hp1 : p.Height = ht := by rw [← hp]; exact hR.ht
  have hp2 : p.Round = a.Round := by rw [← hp]
  have hp3 : p.Valid = a.Valid := by rw [← hp]
  have hp4 : p.From = ((i + 1 : Nat) : Int) := by rw [← hp]
  have hp5 : p.Block = bk := by rw [← hp]
  refine hs2.ld_ 4 rfl (hs2.ld_ 0 rfl ?_)
  refine hs2.mks_ (n := 108) (fun t72 h3 hs3 _ _ => ?_)
  refine hs3.chk_ 5 rfl rfl ?_
  refine hs3.app_ 10 rfl (hs3.ownSV 0 rfl len_api_Plan) len_api_Plan one_api_Plan (len_api_Plan _) ?_ ?_ (fun r h4 hs4 _ => ?_)
  · simp only [List.length_map, List.length_cons, List.length_nil, maxBytes]; omega
  · simp only [List.length_map, List.length_cons, List.length_nil]; omega
  refine hs4.st_ 5 rfl len_game (fun h5 hs5 _ => ?_)
  refine hs5.ld_ 5 rfl ?_
  refine hs5.mks_ (n := 1) (fun t81 h6 hs6 _ _ => ?_)
  refine hs6.app_ 13 rfl (hs6.ownSV 0 rfl len_b) len_b one_b rfl ?_ ?_ (fun r2 h7 hs7 _ => ?_)
  · simp only [List.length_cons, List.length_nil, maxBytes]; omega
  · simp only [List.length_cons, List.length_nil]; omega
  refine hs7.st_ 6 rfl len_game (fun h8 hs8 _ => ?_)
  refine hs8.ld_ 6 rfl ?_
  have hsv : SV 1 h8 G.x.cores (G.cs.map fun c => (some c.p : Pt)) := hs8.ownSV 8 rfl (fun _ => rfl)
  refine sidx_ld (n := 1) (x := (some c.p : Pt)) (fun _ => rfl) hsv (Int.natCast_nonneg _) (by rw [Int.toNat_natCast, List.getElem?_map, hi]; rfl) ?_
  refine hs8.ld_ 2 rfl ?_
  -- the call
  have hs9 : Sat h0 [] h8 ([ownO 80 135 s2 (rest.map (·.1))] ++ gmX g n { G with x := { G.x with plans := r, order := r2 }, pls := G.pls ++ [(p, qs')], ord := G.ord ++ [true] } L) := by
    unfold gmX gpre
    rw [List.map_append]
    exact hs8.sel 16 [5, 6, 7, 8, 9, 10, 11, 12, 13, 14, 15] (by decide) (by decide)
  generalize hG2 : ({ G with x := { G.x with plans := r, order := r2 }, pls := G.pls ++ [(p, qs')], ord := G.ord ++ [true] } : GG) = G2 at hs9
  have hi2 : G2.cs[i]? = some c := by rw [← hG2]; exact hi
  have hKG : G2.KG = G.KG := by rw [← hG2]
  have hs10 := forth hs9 hi2
  have hk : (kE G2.KG).A h8 := hs9.at_ (i := 10) rfl
  have hcov : CovG G2.KG h0 p.Block qs' := by rw [hp5, hKG]; exact hb
  obtain ⟨c1, c2, c3, c4⟩ := d5 i c hi
  refine PlanX c p qs' hT (by simp) c1 c2 (by rw [hp2]; exact hr) hcov.1 hs10 (hcov.svz hk hs10.fr) (fun c' out sl KA h9 hO hpp hnu hK hs11 => ?_)
  have hR2 : RawOk h0 ht G2 := by
    rw [← hG2]
    refine ⟨hR.ht, hR.ep, fun e he => ?_, hR.ot⟩
    rcases List.mem_append.1 he with he | he
    · exact hR.pl e he
    · rw [List.mem_singleton] at he; subst he; show CovG G.KG h0 p.Block qs'; rw [hp5]; exact hb
  have hA2 := hI.plan _ _ _ _ _ _ _ _ p qs' hA ha (show G.ab.cs[i]? = some c from hi) hp1 hp2 hp3 hp4 (fun hv => by rw [hp5]; exact hbv hv) hcov.1 hO hnu
  refine acts_end hI (G := G2) (c := c) hs11 hi2 hpp hR2 hK (by rw [hKG]; exact hP) ?_ hnu hN hQ
  rw [← hG2]
  have e : (⟨G.cs.set i c', G.pls ++ [(p, qs')], G.vts, G.ord ++ [true], G.ows.map (·.2), G.dc, G.oth⟩ : AG) = { ({ G with x := { G.x with plans := r, order := r2 }, pls := G.pls ++ [(p, qs')], ord := G.ord ++ [true] } : GG).ab with cs := G.cs.set i c' } := rfl
  exact hA2
end
section
variable {h0 h : H} {L : List En}
theorem Gacts_spec {n : Nat} {ht : Int} {I : AG → Nat → List PA → Prop} {g : Addr} {G : GG} {i : Nat} {pend : List PA} {list : Sl} {k : Bool → H → Prop} (hI : GI n ht I) (hT : Tb h0)
    (hR : RawOk h0 ht G) (hP : PendOk h0 G.KG pend) (hA : I G.ab i pend) (hs : Sat h0 [] h (ownO 80 135 list (pend.map (·.1)) :: gmX g n G L))
    (hk : ∀ G' h', RawOk h0 ht G' → I G'.ab i [] → Sat h0 [] h' (gmX g n G' L) → k true h') :
    call (β := Bool) Prog 31 [reg ((some g : Pt) : Pt), reg ((i : Int) : Int), reg (list : Sl)] k h := by
  refine law19_Game_acts.ok _ _ _ _ _ ?_
  unfold law19_Game_acts.b law19_Game_acts.l1
  refine Lp_rank (fun N (s : Sl) h' => ∃ G' pend', RawOk h0 ht G' ∧ I G'.ab i pend' ∧ PendOk h0 G'.KG pend' ∧ Sat h0 [] h' (ownO 80 135 s (pend'.map (·.1)) :: gmX g n G' L) ∧ N = pend'.length + nuAt G' i) ⟨G, pend, hR, hA, hP, hs, rfl⟩ ?_
  clear hs hR hP hA
  rintro N s h1 Q ⟨G, pend, hR, hA, hP, hs, hN⟩ hQ0
  have hQ : ∀ G' pend' s' h' N', N' < N → RawOk h0 ht G' → I G'.ab i pend' → PendOk h0 G'.KG pend' → Sat h0 [] h' (ownO 80 135 s' (pend'.map (·.1)) :: gmX g n G' L) → N' = pend'.length + nuAt G' i → Q s' h' :=
    fun G' pend' s' h' N' a1 a2 a3 a4 a5 a6 => hQ0 N' s' h' a1 ⟨G', pend', a2, a3, a4, a5, a6⟩
  clear hQ0
  have hsv : SV 135 h1 s (pend.map (·.1)) := OwnO.sv len_api_Act (hs.at_ (i := 0) rfl)
  have hsl : s.len = pend.length := by have := hsv.2.1; simpa using this
  refine ifb_i (fun hc => ?_) (fun hc => ?_)
  · have hpos : 0 < pend.length := by have : (0 : Int) < (s.len : Int) := by simpa using hc
                                      omega
    obtain ⟨⟨a, qs⟩, rest, rfl⟩ : ∃ e rest, pend = e :: rest := by
      cases pend with
      | nil => simp at hpos
      | cons e rest => exact ⟨e, rest, rfl⟩
    obtain ⟨d1, d2, d3, d4, d5, d6, d7, d8, d9, d10, d11⟩ := hI.adm _ _ _ hA
    have d1' : i < G.cs.length := d1
    have d2' : G.ows.length = G.cs.length := by have : (G.ows.map (·.2)).length = G.cs.length := d2
                                                simpa using this
    have d3' : G.dc.length = G.cs.length := d3
    have d7' : G.vts.length < 2 ^ 30 := d7
    have d8' : G.ord.length < 2 ^ 30 := d8
    obtain ⟨c, hi⟩ : ∃ c, G.cs[i]? = some c := ⟨_, List.getElem?_eq_getElem d1'⟩
    have hnuc : nuAt G i = nu c := by unfold nuAt; rw [hi]
    have hN2 : rest.length + nu c < N := by rw [hN, hnuc]; simp only [List.length_cons]; omega
    have hP2 : PendOk h0 G.KG rest := fun e he => hP e (List.mem_cons_of_mem _ he)
    obtain ⟨hPa, hPr⟩ := hP (a, qs) (by simp)
    simp only at hPa hPr
    refine sidx_ld len_api_Act hsv (j := 0) (by decide) (x := a) rfl ?_
    refine hs.box_ (fun a1 h2 hs2 _ _ => ?_)
    refine hs2.st_ 0 rfl len_api_Act (fun h3 hs3 _ => ?_)
    refine ⟨⟨by decide, by omega⟩, ?_⟩
    refine hs3.ld_ 0 rfl ?_
    have hs4 := hs3.tl_ (a := a) (l := rest.map (·.1)) 1 rfl len_api_Act
    have ecut : s.cut 135 (1 : Int).toNat s.len s.cap = s.cut 135 1 s.len s.cap := rfl
    rw [ecut]
    generalize s.cut 135 1 s.len s.cap = s2 at hs4
    have hs5 : Sat h0 [] h3 (cel 80 a1 (enc a) :: ownO 80 135 s2 (rest.map (·.1)) :: gmX g n G L) := hs4
    clear hs hs2 hs3 hs4
    have ei : iadd (i : Int) 1 = ((i + 1 : Nat) : Int) := by
      have : i < 10 := Nat.lt_of_lt_of_le d1 d4
      rw [iadd_eq (by omega) (by omega)]; omega
    refine ifb_i (fun hact => ?_) (fun hact => ?_)
    · -- a plan
      have ha : a.Act = 1 := by simpa using hact
      have hr := hPr (by rw [ha]; decide)
      refine hs5.ld_ 0 rfl ?_
      refine hs5.box_ (fun b h4 hs6 _ _ => ?_)
      refine hs6.st_ 0 rfl len_api_Block (fun h5 hs7 _ => ?_)
      refine hs7.ld_ 1 rfl ?_
      refine ifb_i (fun hv => ?_) (fun hv => ?_)
      · have hv' : a.Valid < 0 := by simpa using hv
        refine nn_i (hs7.ld_ 3 rfl ?_)
        refine hs7.st_ 3 rfl len_game (fun h6 hs8 _ => ?_)
        refine hs8.ld_ 3 rfl (hs8.ld_ 3 rfl (hs8.ld_ 3 rfl ?_))
        refine hs8.st_ 0 rfl len_api_Block (fun h7 hs9 _ => ?_)
        generalize hbk : ({ api_Block.zero with Height := G.x.height, Prev := _ } : api_Block) = bk at hs9
        have hbq : bk.Requests = Sl.nil := by rw [← hbk]; rfl
        have hs10 : Sat h0 [] h7 (cel 75 b (enc bk) :: cel 80 a1 (enc a) :: ownO 80 135 s2 (rest.map (·.1)) :: gmX g n { G with x := { G.x with made := iadd G.x.made 1 } } L) := hs9
        refine acts_j2 (qs := qs) (qs' := []) hI hT hs10 hi ⟨hR.ht, hR.ep, hR.pl, hR.ot⟩ hP2 hA ha hr ⟨by decide, .inr ?_⟩ (fun hx => by omega) hN2 hQ
        rw [hbq]; exact ⟨rfl, fun hne => absurd rfl hne⟩
      · exact acts_j2 (qs := qs) (qs' := qs) hI hT hs7 hi hR hP2 hA ha hr hPa (fun _ => ⟨rfl, rfl⟩) hN2 hQ
    have ha1 : a.Act ≠ 1 := by simpa using hact
    refine ifb_i (fun hact2 => ?_) (fun hact2 => ?_)
    · -- a vote
      have ha : a.Act = 2 := by simpa using hact2
      have hr := hPr (by rw [ha]; decide)
      refine hs5.ld_ 0 rfl (nn_i (hs5.ld_ 2 rfl (hs5.ld_ 0 rfl (hs5.ld_ 0 rfl ?_))))
      refine hs5.box_ (fun v h4 hs6 _ _ => ?_)
      refine hs6.chk_ 1 rfl rfl (hs6.chk_ 3 rfl rfl (hs6.chk_ 1 rfl rfl (hs6.chk_ 1 rfl rfl ?_)))
      rw [ei]
      refine hs6.st_ 0 rfl len_api_Vote (fun h5 hs7 _ => ?_)
      have ev : ({ api_Vote.zero with Kind := a.Kind, Height := G.x.height, Round := a.Round, Digest := a.Digest, From := ((i + 1 : Nat) : Int) } : api_Vote) = votA ht i a := by unfold votA; rw [hR.ht]
      rw [ev] at hs7
      generalize hvv : votA ht i a = vv at hs7
      have hvr : 0 ≤ vv.Round ∧ vv.Round ≤ 1024 := by rw [← hvv]; exact hr
      refine hs7.ld_ 3 rfl (hs7.ld_ 0 rfl ?_)
      refine hs7.mks_ (n := 41) (fun t117 h6 hs8 _ _ => ?_)
      refine hs8.chk_ 4 rfl rfl ?_
      refine hs8.app_ 10 rfl (hs8.ownSV 0 rfl len_api_Vote) len_api_Vote one_api_Vote (len_api_Vote _) ?_ ?_ (fun r h7 hs9 _ => ?_)
      · simp only [List.length_cons, List.length_nil, maxBytes]; omega
      · simp only [List.length_cons, List.length_nil]; omega
      refine hs9.st_ 4 rfl len_game (fun h8 hs10 _ => ?_)
      refine hs10.ld_ 4 rfl ?_
      refine hs10.mks_ (n := 1) (fun t126 h9 hs11 _ _ => ?_)
      refine hs11.app_ 12 rfl (hs11.ownSV 0 rfl len_b) len_b one_b rfl ?_ ?_ (fun r2 h10 hs12 _ => ?_)
      · simp only [List.length_cons, List.length_nil, maxBytes]; omega
      · simp only [List.length_cons, List.length_nil]; omega
      refine hs12.st_ 5 rfl len_game (fun h11 hs13 _ => ?_)
      refine hs13.ld_ 5 rfl (hs13.ld_ 5 rfl ?_)
      -- its own votes
      obtain ⟨⟨os, ol⟩, hoi⟩ : ∃ e, G.ows[i]? = some e := ⟨_, List.getElem?_eq_getElem (by omega)⟩
      have hol : ol.length < 2 ^ 30 := d10 ol (by
        show ol ∈ G.ows.map (·.2)
        exact List.mem_map.2 ⟨_, List.mem_of_getElem? hoi, rfl⟩)
      have hosv : SV 1 h11 G.x.own (G.ows.map (·.1)) := hs13.ownSV 8 rfl (fun _ => rfl)
      obtain ⟨aa, haa, hat, hlt⟩ := hosv.elem (fun _ => rfl) (j := (i : Int)) (x := os) (Int.natCast_nonneg _) (by rw [Int.toNat_natCast, List.getElem?_map, hoi]; rfl)
      refine ⟨_, ⟨⟨aa, haa, rfl⟩, Int.natCast_nonneg _, hlt⟩, ld_old hat ?_⟩
      refine hs13.ld_ 2 rfl ?_
      refine hs13.mks_ (n := 41) (fun t143 h12 hs14 _ hx14 => ?_)
      refine hs14.chk_ 6 rfl rfl (hs14.chk_ 6 rfl rfl ?_)
      refine ⟨⟨_, hat.ext hx14, rfl⟩, ?_⟩
      have hs15 : Sat h0 [] h12 ([own 37 41 t143 [vv], own 4 1 t126 [false], own 37 41 t117 [vv], cel 37 v (enc vv), cel 80 a1 (enc a), ownO 80 135 s2 (rest.map (·.1)), cel 61 g (enc { G.x with votes := r, order := r2 }), own 110 34 G.x.config.Members (memN n), own 62 1 G.x.cores (G.cs.map fun c => (some c.p : Pt)), own 22 1 G.x.own (G.ows.map (·.1)), own 24 32 G.x.decided G.dc, own 77 108 G.x.plans (G.pls.map (·.1)), own 37 41 r (G.vts ++ [vv]), own 4 1 r2 (G.ord ++ [false]), own 75 99 G.x.others (G.oth.map (·.1)), kE G.KG] ++ (G.ows.map owE ++ (G.cs.flatMap core ++ L))) := hs14
      have hs16 := pickO hs15 hoi
      refine hs16.app_ 0 rfl (hs16.ownSV 1 rfl len_api_Vote) len_api_Vote one_api_Vote (len_api_Vote _) ?_ ?_ (fun r3 h13 hs17 _ => ?_)
      · simp only [List.length_cons, List.length_nil, maxBytes]; omega
      · simp only [List.length_cons, List.length_nil]; omega
      refine hs17.chk_ 7 rfl rfl ?_
      refine hs17.els_ (x := os) (u := fun _ => r3) 10 rfl (fun _ => rfl) (Int.natCast_nonneg _) (by rw [Int.toNat_natCast, List.getElem?_map, hoi]; rfl) (fun h14 hs18 => ?_)
      rw [Int.toNat_natCast] at hs18
      have hs19 := unpickO (e := (r3, ol ++ [vv])) (A := [own 37 41 t143 [vv], own 4 1 t126 [false], own 37 41 t117 [vv], cel 37 v (enc vv), cel 80 a1 (enc a), ownO 80 135 s2 (rest.map (·.1)), cel 61 g (enc { G.x with votes := r, order := r2 }), own 110 34 G.x.config.Members (memN n), own 62 1 G.x.cores (G.cs.map fun c => (some c.p : Pt)), own 22 1 G.x.own ((G.ows.map (·.1)).set i r3), own 24 32 G.x.decided G.dc, own 77 108 G.x.plans (G.pls.map (·.1)), own 37 41 r (G.vts ++ [vv]), own 4 1 r2 (G.ord ++ [false]), own 75 99 G.x.others (G.oth.map (·.1)), kE G.KG]) (R := G.cs.flatMap core ++ L) (i := i) hs18 (by omega)
      have eow : (G.ows.map (·.1)).set i r3 = (G.ows.set i (r3, ol ++ [vv])).map (·.1) := by rw [List.map_set]
      rw [eow] at hs19
      refine hs19.ld_ 6 rfl ?_
      have hcsv : SV 1 h14 G.x.cores (G.cs.map fun c => (some c.p : Pt)) := hs19.ownSV 8 rfl (fun _ => rfl)
      refine sidx_ld (n := 1) (x := (some c.p : Pt)) (fun _ => rfl) hcsv (Int.natCast_nonneg _) (by rw [Int.toNat_natCast, List.getElem?_map, hi]; rfl) ?_
      refine hs19.ld_ 3 rfl ?_
      have hs20 : Sat h0 [] h14 ([ownO 80 135 s2 (rest.map (·.1))] ++ gmX g n { G with x := { G.x with votes := r, order := r2 }, vts := G.vts ++ [vv], ord := G.ord ++ [false], ows := G.ows.set i (r3, ol ++ [vv]) } L) :=
        hs19.sel 16 [5, 6, 7, 8, 9, 10, 11, 12, 13, 14, 15] (by decide) (by decide)
      generalize hG2 : ({ G with x := { G.x with votes := r, order := r2 }, vts := G.vts ++ [vv], ord := G.ord ++ [false], ows := G.ows.set i (r3, ol ++ [vv]) } : GG) = G2 at hs20
      have hi2 : G2.cs[i]? = some c := by rw [← hG2]; exact hi
      have hKG : G2.KG = G.KG := by rw [← hG2]
      have hs21 := forth hs20 hi2
      obtain ⟨c1, c2, c3, c4⟩ := d5 i c hi
      refine VoteX c vv hT (by simp) c1 c2 hvr c4 hs21 (fun c' out sl KA h15 hO hpp hnu hK hs22 => ?_)
      have hR2 : RawOk h0 ht G2 := by rw [← hG2]; exact ⟨hR.ht, hR.ep, hR.pl, hR.ot⟩
      have hA2 := hI.vote _ _ _ _ _ c c' out ol hA ha (show G.ab.cs[i]? = some c from hi) (by show (G.ows.map (·.2))[i]? = some ol; rw [List.getElem?_map, hoi]; rfl) (by rw [hvv]; exact hO) hnu
      rw [hvv] at hA2
      refine acts_end hI (G := G2) (c := c) hs22 hi2 hpp hR2 hK (by rw [hKG]; exact hP2) ?_ hnu hN2 hQ
      rw [← hG2]
      have e : (G.ows.map (·.2)).set i (ol ++ [vv]) = (G.ows.set i (r3, ol ++ [vv])).map (·.2) := by rw [List.map_set]
      have hA3 : I ⟨G.cs.set i c', G.pls, G.vts ++ [vv], G.ord ++ [false], (G.ows.map (·.2)).set i (ol ++ [vv]), G.dc, G.oth⟩ i (rest ++ out) := hA2
      rw [e] at hA3
      exact hA3
    have ha2 : a.Act ≠ 2 := by simpa using hact2
    have fin : Sat h0 [] h3 (ownO 80 135 s2 (rest.map (·.1)) :: gmX g n G L) := hs5.drop (List.sublist_cons_self _ _)
    refine ifb_i (fun hact3 => ?_) (fun hact3 => ?_)
    · -- a decision
      have ha : a.Act = 3 := by simpa using hact3
      obtain ⟨d, hdi⟩ : ∃ d, G.dc[i]? = some d := ⟨_, List.getElem?_eq_getElem (by omega)⟩
      obtain ⟨hdd, hA2⟩ := hI.dec _ _ _ _ _ d hA ha hdi
      have hdsv : SV 32 h3 G.x.decided G.dc := hs5.ownSV 6 rfl arr_len
      have j3 : law19_Game_acts.j3 k Q (some g) (i : Int) s2 a1 false h3 := by
        unfold law19_Game_acts.j3
        refine ifb_i (fun hb => by cases hb) (fun _ => ?_)
        refine nn_i (hs5.ld_ 2 rfl (hs5.ld_ 0 rfl ?_))
        refine hs5.els_ (x := d) (u := fun _ => a.Digest) 6 rfl arr_len (Int.natCast_nonneg _) (by rw [Int.toNat_natCast]; exact hdi) (fun h4 hs6 => ?_)
        rw [Int.toNat_natCast] at hs6
        have hs7 : Sat h0 [] h4 (ownO 80 135 s2 (rest.map (·.1)) :: gmX g n { G with dc := G.dc.set i a.Digest } L) := hs6.drop (List.sublist_cons_self _ _)
        exact hQ { G with dc := G.dc.set i a.Digest } rest s2 h4 _ hN2 ⟨hR.ht, hR.ep, hR.pl, hR.ot⟩ hA2 hP2 hs7 (by rw [← hnuc] <;> rfl)
      refine nn_i (hs5.ld_ 2 rfl ?_)
      refine sidx_ld arr_len hdsv (Int.natCast_nonneg _) (by rw [Int.toNat_natCast]; exact hdi) ?_
      rw [zero32']
      refine ifb_i (fun hb => ?_) (fun hb => ?_)
      · have hne : d ≠ dz := by simpa using hb
        have hda : d = a.Digest := hdd.resolve_left hne
        refine hs5.ld_ 2 rfl ?_
        refine sidx_ld arr_len hdsv (Int.natCast_nonneg _) (by rw [Int.toNat_natCast]; exact hdi) ?_
        refine hs5.ld_ 0 rfl ?_
        have e : (!decide (d = a.Digest)) = false := by rw [decide_eq_true hda]; rfl
        rw [e]
        exact j3
      · exact j3
    · -- nothing
      have ha3 : a.Act ≠ 3 := by simpa using hact3
      have hA2 := hI.oth _ _ _ _ _ hA ha1 ha2 ha3
      exact hQ _ rest s2 h3 _ hN2 hR hA2 hP2 fin (by rw [← hnuc])
  · have hp0 : pend = [] := List.eq_nil_of_length_eq_zero (by have : ¬ (0 : Int) < (s.len : Int) := by simpa using hc
                                                              omega)
    subst hp0
    unfold law19_Game_acts.j1
    exact hk G h1 hR hA (hs.drop (List.sublist_cons_self _ _))
end
theorem law19_Game_hear.ok (g : Pt) (i : Int) (n : Int) (k : Bool → H → Prop) (h : H) (hh : law19_Game_hear.b g i n k h) : CallsH Prog 33 [reg g, reg i, reg n].toArray h fun v h' => ∃ r : Bool, v = reg r ∧ k r h' := by
 unfold law19_Game_hear.b at hh
 refine CallsH.of 72 Tryd.func33 rfl Tryd.ntmps33 rfl (fun w0 => ?_)
 refine .sr (.A (reg false) (.nx (.sr (.A (reg ((0 : Int) : Int)) (.A (reg ((0 : Int) : Int)) (.nx ?_))))))
 refine CW.join (fun ρ h => ∃ (ρ' : Env), ρ = setl ρ' [] ∧ (law19_Game_hear.j1 k)  h) ?_ ?_
 ·refine .sr (.M (reg g) ?_)
  obtain ⟨p, hp, hh⟩ := hh
  refine .V (v_nilCheck (congrArg Value.pointer hp)) (.V (v_fieldAddr fl_61_5 rfl) (.L 6 na_57 get_61_order hh rfl (fun t14 hh => .V (v_len_sl (sl_57).1 rfl) (.M (reg ((0 : Int) : Int)) (.nx ?_)))))
  refine CW.block ?_
  unfold law19_Game_hear.l1 at hh
  refine CW.loop (fun (σ0 : Int × Int × Int) ρ => match σ0 with | (plans, votes, t16) => ∃ ρ' : Env, ρ = setl ρ' [(0, reg g), (1, reg i), (2, reg n), (14, reg t14), (15, reg ((t14.len : Int) : Int)), (7, reg plans), (8, reg votes), (16, reg t16)]) hh ⟨_, setl_eq ⟨rfl, ⟨rfl, ⟨rfl, ⟨rfl, ⟨rfl, ⟨rfl, ⟨rfl, ⟨rfl, trivial⟩⟩⟩⟩⟩⟩⟩⟩⟩ ?_
  clear hh
  rintro s1 ⟨plans, votes, t16⟩ ρ h ⟨ρ', rfl⟩ hh
  refine .sr (.V (v_ilss rfl rfl) (.nx (.seq ?_)))
  refine CW.cond (decide (t16 < (t14.len : Int))) rfl (fun hb => ?_) (fun hb => ?_)
  ·have hh := hh.1 hb
   refine CW.skip ?_
   refine QN.then_ ?_
   refine CW.join (fun ρ h => ∃ (ρ' : Env) (plans_1 : Int) (votes_1 : Int), ρ = setl ρ' [(0, reg g), (1, reg i), (2, reg n), (7, reg plans_1), (8, reg votes_1), (14, reg t14), (15, reg ((t14.len : Int) : Int)), (16, reg t16)] ∧ (law19_Game_hear.j2 s1) g i n plans_1 votes_1 t14 (t14.len : Int) t16 h) ?_ ?_
   ·refine CW.block ?_
    refine .sr (.M (reg t16) ?_)
    obtain ⟨t19, ht19, hh⟩ := hh
    refine .V (v_idx_slP sl_57 rfl rfl ht19.1 ht19.2.1 ht19.2.2) (.L 0 na_4 get_4_all hh rfl (fun t20 hh => .A (reg t16) (.A (reg t20) (.nx (.seq (.sr (.M (reg t16) (.M (reg n) (.V (v_ieql rfl rfl) (.M (reg ((t16 == n) : Bool)) ?_))))))))))
    refine .tv 24 rfl rfl rfl (fun hb => v_move (v := reg (t20 : Bool)) rfl) rfl (.V (v_pick_and rfl (fun hb => gt hb) rfl) (.nx ?_))
    refine CW.cond ((t16 == n) && t20) rfl (fun hb_1 => ?_) (fun hb_1 => ?_)
    ·have hh := hh.1 hb_1
     refine CW.seq ?_
     refine CW.drawN 19 rfl follows_mixed [0, 1, 2, 3, 4, 5, 6, 7, 8, 9, 10, 11, 12, 13, 14, 15, 18] ?_
     refine .P 0 rfl (v_move (v := reg g) rfl) (.P 1 rfl (v_move (v := reg i) rfl) (.P 2 rfl (v_move (v := reg g) rfl) ?_))
     obtain ⟨p_1, hp_1, hh⟩ := hh
     refine .P 3 rfl (v_nilCheck (congrArg Value.pointer hp_1)) (.P 4 rfl (v_fieldAddr fl_61_2 rfl) (.KL 5 3 na_55 get_61_cores rfl hh rfl (fun t32 hh => .P 6 rfl (v_move (v := reg i) rfl) ?_)))
     obtain ⟨t34, ht34, hh⟩ := hh
     refine .P 7 rfl (v_idx_slP sl_55 rfl rfl ht34.1 ht34.2.1 ht34.2.2) (.KL 8 0 na_62 get_62_all rfl hh rfl (fun t35 hh => .P 9 rfl (v_move (v := reg g) rfl) (.P 10 rfl (v_nilCheck (congrArg Value.pointer hp_1)) (.P 11 rfl (v_fieldAddr fl_61_3 rfl) (.KL 12 4 na_56 get_61_plans rfl hh rfl (fun t39 hh => .P 13 rfl (v_move (v := reg plans) rfl) ?_))))))
     obtain ⟨t41, ht41, hh⟩ := hh
     refine .P 14 rfl (v_idx_slP sl_56 rfl rfl ht41.1 ht41.2.1 ht41.2.2) (.KA 15 0 ag_77 get_77_all (fun _ => (len_api_Plan _)) rfl hh rfl (fun t42 hh => ?_))
     refine .w 16 (by kernel_rfl) rfl (by kernel_rfl) (.e (e_callP fn_38 rfl rfl hh ?_))
     intro h t43 hh
     refine ⟨⟨⟨⟨⟨trivial, .inl (by kernel_rfl)⟩, .inl (by kernel_rfl)⟩, .inl (by kernel_rfl)⟩, .inl (by kernel_rfl)⟩, ?_⟩
     refine .w 17 (by kernel_rfl) rfl (by kernel_rfl) (.e (e_callP fn_31 rfl rfl hh ?_))
     intro h t44 hh
     refine ⟨⟨⟨⟨⟨trivial, .inl (by kernel_rfl)⟩, .inl (by kernel_rfl)⟩, .inl (by kernel_rfl)⟩, .inl (by kernel_rfl)⟩, ?_⟩
     refine .P 18 rfl (v_assign (v := reg t44) rfl) ?_
     refine .done (by kernel_rfl) ?_
     refine QN.then_ ?_
     refine CW.ret ?_
     refine QN.thenRet ?_
     refine QN.blockRet ?_
     refine QN.thenRet ?_
     refine QN.thenRet ?_
     refine QN.blockRet ?_
     refine QN.thenRet ?_
     exact ret1 rfl rfl ⟨(t44 : Bool), rfl, hh⟩
    ·have hh := hh.2 hb_1
     refine CW.skip ?_
     refine QN.then_ ?_
     refine CW.seq ?_
     refine .sr (.M (reg t16) (.M (reg n) (.V (v_ieql rfl rfl) (.nx ?_))))
     refine CW.cond (t16 == n) rfl (fun hb_2 => ?_) (fun hb_2 => ?_)
     ·have hh := hh.1 hb_2
      refine CW.seq ?_
      refine CW.drawN 19 rfl follows_mixed [0, 1, 2, 3, 4, 5, 6, 7, 8, 9, 10, 11, 12, 13, 14, 15, 18] ?_
      refine .P 0 rfl (v_move (v := reg g) rfl) (.P 1 rfl (v_move (v := reg i) rfl) (.P 2 rfl (v_move (v := reg g) rfl) ?_))
      obtain ⟨p_2, hp_2, hh⟩ := hh
      refine .P 3 rfl (v_nilCheck (congrArg Value.pointer hp_2)) (.P 4 rfl (v_fieldAddr fl_61_2 rfl) (.KL 5 3 na_55 get_61_cores rfl hh rfl (fun t53 hh => .P 6 rfl (v_move (v := reg i) rfl) ?_)))
      obtain ⟨t55, ht55, hh⟩ := hh
      refine .P 7 rfl (v_idx_slP sl_55 rfl rfl ht55.1 ht55.2.1 ht55.2.2) (.KL 8 0 na_62 get_62_all rfl hh rfl (fun t56 hh => .P 9 rfl (v_move (v := reg g) rfl) (.P 10 rfl (v_nilCheck (congrArg Value.pointer hp_2)) (.P 11 rfl (v_fieldAddr fl_61_4 rfl) (.KL 12 5 na_22 get_61_votes rfl hh rfl (fun t60 hh => .P 13 rfl (v_move (v := reg votes) rfl) ?_))))))
      obtain ⟨t62, ht62, hh⟩ := hh
      refine .P 14 rfl (v_idx_slP sl_22 rfl rfl ht62.1 ht62.2.1 ht62.2.2) (.KA 15 0 ag_37 get_37_all (fun _ => (len_api_Vote _)) rfl hh rfl (fun t63 hh => ?_))
      refine .w 16 (by kernel_rfl) rfl (by kernel_rfl) (.e (e_callP fn_39 rfl rfl hh ?_))
      intro h t64 hh
      refine ⟨⟨⟨⟨⟨trivial, .inl (by kernel_rfl)⟩, .inl (by kernel_rfl)⟩, .inl (by kernel_rfl)⟩, .inl (by kernel_rfl)⟩, ?_⟩
      refine .w 17 (by kernel_rfl) rfl (by kernel_rfl) (.e (e_callP fn_31 rfl rfl hh ?_))
      intro h t65 hh
      refine ⟨⟨⟨⟨⟨trivial, .inl (by kernel_rfl)⟩, .inl (by kernel_rfl)⟩, .inl (by kernel_rfl)⟩, .inl (by kernel_rfl)⟩, ?_⟩
      refine .P 18 rfl (v_assign (v := reg t65) rfl) ?_
      refine .done (by kernel_rfl) ?_
      refine QN.then_ ?_
      refine CW.ret ?_
      refine QN.thenRet ?_
      refine QN.blockRet ?_
      refine QN.thenRet ?_
      refine QN.thenRet ?_
      refine QN.blockRet ?_
      refine QN.thenRet ?_
      exact ret1 rfl rfl ⟨(t65 : Bool), rfl, hh⟩
     ·have hh := hh.2 hb_2
      refine CW.skip ?_
      refine QN.then_ ?_
      refine .sr (.M (reg t20) (.nx ?_))
      refine CW.cond t20 rfl (fun hb_3 => ?_) (fun hb_3 => ?_)
      ·have hh := hh.1 hb_3
       refine CW.region ?_
       refine .M (reg plans) (.V (v_iadd rfl rfl) (.A (reg ((iadd plans (1 : Int)) : Int)) ?_))
       refine .nil ?_
       refine QN.blockN ?_
       exact QN.thenJ ⟨_, (iadd plans (1 : Int)), votes, setl_eq ⟨rfl, ⟨rfl, ⟨rfl, ⟨rfl, ⟨rfl, ⟨rfl, ⟨rfl, ⟨rfl, trivial⟩⟩⟩⟩⟩⟩⟩⟩, hh⟩
      ·have hh := hh.2 hb_3
       refine CW.region ?_
       refine .M (reg votes) (.V (v_iadd rfl rfl) (.A (reg ((iadd votes (1 : Int)) : Int)) ?_))
       refine .nil ?_
       refine QN.blockN ?_
       exact QN.thenJ ⟨_, plans, (iadd votes (1 : Int)), setl_eq ⟨rfl, ⟨rfl, ⟨rfl, ⟨rfl, ⟨rfl, ⟨rfl, ⟨rfl, ⟨rfl, trivial⟩⟩⟩⟩⟩⟩⟩⟩, hh⟩
   ·rintro ρ h ⟨ρ', plans_1, votes_1, rfl, hh⟩
    unfold law19_Game_hear.j2 at hh
    refine CW.region ?_
    refine .V (v_iadd rfl rfl) (.M (reg ((iadd t16 (1 : Int)) : Int)) ?_)
    refine .nil ?_
    exact QN.thenJ ⟨(plans_1, votes_1, (iadd t16 (1 : Int))), ⟨_, setl_eq ⟨rfl, ⟨rfl, ⟨rfl, ⟨rfl, ⟨rfl, ⟨rfl, ⟨rfl, ⟨rfl, trivial⟩⟩⟩⟩⟩⟩⟩⟩⟩, hh⟩
  ·have hh := hh.2 hb
   refine CW.exit ?_
   refine QN.thenExit ?_
   refine QN.thenExit ?_
   refine QN.blockExit ?_
   exact QN.thenJ ⟨_, setl_eq trivial, hh⟩
 ·rintro ρ h ⟨ρ', rfl, hh⟩
  unfold law19_Game_hear.j1 at hh
  refine .sr (.A (reg true) (.nx ?_))
  refine CW.ret ?_
  exact ret1 rfl rfl ⟨(true : Bool), rfl, hh⟩
def cT (l : List Bool) : Nat := (l.filter fun b => b).length
def cF (l : List Bool) : Nat := (l.filter fun b => !b).length
theorem cT_take (l : List Bool) (k : Nat) (b : Bool) (h : l[k]? = some b) : cT (l.take (k + 1)) = cT (l.take k) + (if b = true then 1 else 0) ∧ cF (l.take (k + 1)) = cF (l.take k) + (if b = true then 0 else 1) := by
  rw [List.take_add_one, h]
  unfold cT cF
  cases b <;> simp
theorem cT_le (l : List Bool) (k : Nat) : cT (l.take k) ≤ cT l ∧ cF (l.take k) ≤ cF l := ⟨((List.take_sublist k l).filter _).length_le, ((List.take_sublist k l).filter _).length_le⟩
/-- as many plans, and as many votes, as the order says -/
def OrdOk (A : AG) : Prop := cT A.ord = A.pls.length ∧ cF A.ord = A.vts.length
/-- the k-th thing that was said -/
def PlanAt (A : AG) (k : Nat) (e : api_Plan × List api_Request) : Prop := A.ord[k]? = some true ∧ A.pls[cT (A.ord.take k)]? = some e
def VoteAt (A : AG) (k : Nat) (v : api_Vote) : Prop := A.ord[k]? = some false ∧ A.vts[cF (A.ord.take k)]? = some v
section
variable {h0 h : H} {L : List En}
/-- a call of a core, and its acts -/
theorem first_acts {n : Nat} {ht : Int} {I : AG → Nat → List PA → Prop} {g : Addr} {G : GG} {i : Nat} {c c' : CS} {out : List PA} {sl : Sl} {KA : Kn} {k : Bool → H → Prop} (hI : GI n ht I) (hT : Tb h0)
    (hs : Sat h0 [] h (core c' ++ (own 80 135 sl (out.map (·.1)) :: kE KA :: ((gpre g n G ++ G.ows.map owE) ++ ((G.cs.take i ++ G.cs.drop (i + 1)).flatMap core ++ L))))) (hi : G.cs[i]? = some c) (hp : c'.p = c.p)
    (hR : RawOk h0 ht G) (hK : ActK KA out) (hA : I { G.ab with cs := G.cs.set i c' } i out)
    (hk : ∀ G' h', RawOk h0 ht G' → I G'.ab i [] → Sat h0 [] h' (gmX g n G' L) → k true h') :
    call (β := Bool) Prog 31 [reg ((some g : Pt) : Pt), reg ((i : Int) : Int), reg (sl : Sl)] k h := by
  have hs1 := hs.toO 8 rfl
  have hs2 : Sat h0 [] h (core c' ++ (kE KA :: ownO 80 135 sl (out.map (·.1)) :: ((gpre g n G ++ G.ows.map owE) ++ ((G.cs.take i ++ G.cs.drop (i + 1)).flatMap core ++ L)))) :=
    hs1.sel 10 [0, 1, 2, 3, 4, 5, 6, 7, 9, 8] (by decide) (by decide)
  have hs3 := back hs2 hi hp
  have hmono : ∀ q ∈ G.KG, q ∈ G.KG ++ KA := fun q hq => List.mem_append_left _ hq
  exact Gacts_spec (G := { G with cs := G.cs.set i c', KG := G.KG ++ KA }) hI hT ⟨hR.ht, hR.ep, fun e he => (hR.pl e he).mono hmono, fun e he => (hR.ot e he).mono hmono⟩ hK.pend hA hs3 hk
end
def vvV (v : api_Vote) : VV := (v.Kind, v.Round, v.Digest)
/-- digests of what was planned -/
def DDA (A : AG) (d : Dig) : Prop := (∃ e ∈ A.pls, digB e.1.Block e.2 = d) ∨ (∃ e ∈ A.oth, digB e.1 e.2 = d)
/-- a core that begins anew, behind some of its votes -/
structure RI (S : Said) (n M : Nat) (ht : Int) (i : Nat) (P : List VV) (c : CS) : Prop where
  ok : Cok c
  ms : c.ms = memN n
  me : c.x.me = ((i + 1 : Nat) : Int)
  ht : c.ht = ht
  nd : (c.vts.map (·.1)).Nodup
  box : ∀ q ∈ c.vts, 1 ≤ q.1.from_ ∧ q.1.from_ ≤ n ∧ ∀ j : Nat, j < M → q.1.from_ = ((j + 1 : Nat) : Int) → (q.1.kind, q.1.round, q.2.Digest) ∈ S j
  nn : ∀ v ∈ P, 0 ≤ v.2.1
  bel : ∀ v ∈ P, v.2.1 < c.rd ∨ (v.2.1 = c.rd ∧ v.1 < c.x.step)
  lk1 : ∀ r d, (2, r, d) ∈ P → d ≠ dz → r ≤ c.x.locked.round ∧ (r = c.x.locked.round → digB c.x.locked.block c.lq = d)
  lk2 : 0 ≤ c.x.locked.round → QS S n M (1, c.x.locked.round, digB c.x.locked.block c.lq)
  lk3 : c.x.locked.round ≤ c.rd ∧ (c.x.locked.round = c.rd → c.x.step = 3)
  vl3 : c.x.valid.round ≤ c.rd ∧ (c.x.valid.round = c.rd → c.x.step = 3)
  pl : c.pl = []
  dec : c.x.decided = false
  acts : c.acts = []
  len : c.vts.length ≤ P.length
  lst : (P = [] ∧ c.rd = 0 ∧ c.x.step = 0) ∨ ∃ w ∈ P, w.2.1 = c.rd ∧ c.x.step = w.1 + 1
section
variable {S : Said} {n M : Nat} {ht : Int} {i : Nat} {P : List VV} {c : CS}
theorem RI.ci (h : RI S n M ht i (S i) c) (DD : Dig → Prop) : CI S n M DD ht i c :=
  ⟨h.ok, h.ms, h.me, h.ht, h.nd, h.box, h.nn, h.bel, h.lk1, h.lk2, h.lk3, h.vl3, by rw [h.pl]; intro e he; cases he⟩
theorem RI.new {mm : Sl} {e : Int} {base : Int} (hf : Fresh c e mm (memN n) ((i + 1 : Nat) : Int) ht base) (hg : goodC e (memN n) = true) (hp : Plc ht 0) : RI S n M ht i [] c := by
  have hok := hf.ok hg hp
  obtain ⟨fx, f1, f2, f3, f4, f5, f6, f7, f8, f9, f10, f11⟩ := hf
  have l1 : c.x.locked.round = -1 := by rw [fx]
  have l2 : c.x.valid.round = -1 := by rw [fx]
  exact ⟨hok, f9, (by rw [fx]), f1, (by rw [f3]; exact .nil), (by rw [f3]; intro q h; cases h), (by intro v h; cases h), (by intro v h; cases h), (by intro r d h; cases h), (by rw [l1]; intro h; omega), (by rw [l1, f2]; omega), (by rw [l2, f2]; omega), f4, (by rw [fx]; rfl), f8, (by rw [f3]; exact Nat.le_refl _), .inl ⟨rfl, f2, (by rw [fx]; rfl)⟩⟩
end
section
variable {h0 h : H} {L : List En}
end
theorem asc_len : ∀ (l : List Int) (lo hi : Int), l.Pairwise (· < ·) → (∀ x ∈ l, lo ≤ x ∧ x ≤ hi) → (l.length : Int) ≤ max 0 (hi - lo + 1)
  | [], lo, hi, _, _ => by simp; omega
  | a :: l, lo, hi, hp, hb => by
    rw [List.pairwise_cons] at hp
    have h1 := asc_len l (a + 1) hi hp.2 (fun x hx => ⟨by have := hp.1 x hx; omega, (hb x (by simp [hx])).2⟩)
    have h2 := hb a (by simp)
    simp only [List.length_cons]
    omega
def VOk (ht : Int) (j : Nat) (v : api_Vote) : Prop := v.Height = ht ∧ (0 ≤ v.Round ∧ v.Round ≤ 1024) ∧ (1 ≤ v.Kind ∧ v.Kind ≤ 2) ∧ v.From = ((j + 1 : Nat) : Int)
theorem own_len {ht : Int} {j : Nat} {l : List api_Vote} (hp : (l.map vvV).Pairwise Bef) (ho : ∀ v ∈ l, VOk ht j v) : l.length ≤ 2050 := by
  have h1 : (l.map fun v : api_Vote => 2 * v.Round + v.Kind).Pairwise (· < ·) := by
    rw [List.pairwise_map] at hp ⊢
    refine List.Pairwise.imp_of_mem ?_ hp
    intro a b ha hb hab
    obtain ⟨_, a2, a3, _⟩ := ho a ha
    obtain ⟨_, b2, b3, _⟩ := ho b hb
    have hab' : a.Round < b.Round ∨ (a.Round = b.Round ∧ a.Kind < b.Kind) := hab
    omega
  have h2 := asc_len _ 1 2050 h1 (fun x hx => by
    obtain ⟨v, hv, rfl⟩ := List.mem_map.1 hx
    obtain ⟨_, a2, a3, _⟩ := ho v hv
    omega)
  rw [List.length_map] at h2
  omega
def saidA (A : AG) (i : Nat) (pend : List PA) : Said := fun j => (A.own.getD j []).map vvV ++ (if j = i then vvs (pend.map (·.1)) else [])
theorem saidA_rest (A : AG) (i i' : Nat) : saidA A i [] = saidA A i' [] := by
  funext j
  unfold saidA
  have : vvs (([] : List PA).map (·.1)) = [] := rfl
  rw [this]
  split <;> split <;> rfl
structure AI0 (n M : Nat) (ht : Int) (T : Nat) (A : AG) (i : Nat) (pend : List PA) : Prop where
  il : i < M
  csl : A.cs.length = M
  owl : A.own.length = M
  dcl : A.dc.length = M
  gd : GoodS (saidA A i pend) n M (DDA A)
  ci : ∀ (j : Nat) c, A.cs[j]? = some c → CI (saidA A i pend) n M (DDA A) ht j c ∧ c.acts = [] ∧ c.vts.length ≤ (A.own.getD j []).length + T
  pk : ∀ e ∈ pend, ActS (saidA A i pend) n M e.1
  ow : ∀ (j : Nat) l, A.own[j]? = some l → ∀ v ∈ l, VOk ht j v
  vt : ∀ v ∈ A.vts, ∃ (j : Nat) (l : List api_Vote), A.own[j]? = some l ∧ v ∈ l
  pl : ∀ e ∈ A.pls, e.1.Valid < e.1.Round ∧ 0 ≤ e.1.Round ∧ e.1.Round ≤ 1024
  ot : A.oth.length ≤ T
  od : OrdOk A
  dc : ∀ d ∈ A.dc, d = dz ∨ ∃ r, QS (saidA A i pend) n M (2, r, d)
def AI (n M : Nat) (ht : Int) (T : Nat) (A : AG) (i : Nat) (pend : List PA) : Prop :=
  AI0 n M ht T A i pend ∧ ∀ c, A.cs[i]? = some c → A.ord.length + pend.length + nu c ≤ (T + 1) * 20000
section
variable {n M : Nat} {ht : Int} {T T' : Nat} {A A' : AG} {i : Nat} {pend pend1 out : List PA}
theorem AI0.at (h : AI0 n M ht T A i []) {i' : Nat} (hi : i' < M) : AI0 n M ht T A i' [] := by
  obtain ⟨a1, a2, a3, a4, a5, a6, a7, a8, a9, a10, a11, a12, a13⟩ := h
  rw [saidA_rest A i i'] at a5 a6 a7 a13
  exact ⟨hi, a2, a3, a4, a5, a6, a7, a8, a9, a10, a11, a12, a13⟩
theorem getD_of {l : List (List api_Vote)} {j : Nat} {x : List api_Vote} (h : l[j]? = some x) : l.getD j [] = x := by rw [List.getD_eq_getElem?_getD, h]; rfl
theorem AI0.own (h : AI0 n M ht T A i pend) {j : Nat} {l : List api_Vote} (hj : A.own[j]? = some l) : l.length ≤ 2050 := by
  have hjM : j < M := by rw [← h.owl]; rw [List.getElem?_eq_some_iff] at hj; exact hj.1
  have h1 := h.gd.ord j hjM
  unfold saidA at h1
  rw [getD_of hj, List.pairwise_append] at h1
  exact own_len h1.1 (h.ow j l hj)
theorem AI0.ownD (h : AI0 n M ht T A i pend) (j : Nat) : (A.own.getD j []).length ≤ 2050 := by
  cases hj : A.own[j]? with
  | none => rw [List.getD_eq_getElem?_getD, hj]; decide
  | some l => rw [getD_of hj]; exact h.own hj
theorem AI0.step {c' : CS} (h : AI0 n M ht T A i pend) (hst : Stepped (saidA A i pend) n M (DDA A') ht i c' out)
    (hsd : saidA A' i (pend1 ++ out) = updS (saidA A i pend) i (saidA A i pend i ++ vvs (out.map (·.1)))) (h1 : A'.cs = A.cs.set i c') (h2 : A'.own.length = A.own.length) (h3 : A'.dc = A.dc) (hD : ∀ d, DDA A d → DDA A' d) (hp : ∀ e ∈ pend1, e ∈ pend)
    (how : ∀ (j : Nat) l, A'.own[j]? = some l → ∀ v ∈ l, VOk ht j v) (hol : ∀ j, (A.own.getD j []).length ≤ (A'.own.getD j []).length) (hvl : c'.vts.length ≤ (A'.own.getD i []).length + T') (hT : T ≤ T')
    (hvt : ∀ v ∈ A'.vts, ∃ (j : Nat) (l : List api_Vote), A'.own[j]? = some l ∧ v ∈ l) (hpl : ∀ e ∈ A'.pls, e.1.Valid < e.1.Round ∧ 0 ≤ e.1.Round ∧ e.1.Round ≤ 1024) (hot : A'.oth.length ≤ T') (hod : OrdOk A') : AI0 n M ht T' A' i (pend1 ++ out) := by
  obtain ⟨s1, s2, s3, s4⟩ := hst
  have hle : SaidLe (saidA A i pend) (updS (saidA A i pend) i (saidA A i pend i ++ vvs (out.map (·.1)))) := updS_le _ _ _
  refine ⟨h.il, by rw [h1, List.length_set]; exact h.csl, h2.trans h.owl, by rw [h3]; exact h.dcl, by rw [hsd]; exact s1, ?_, ?_, how, hvt, hpl, hot, hod, ?_⟩
  · rw [hsd]
    intro j cj hj
    rw [h1, List.getElem?_set] at hj
    by_cases hij : i = j
    · subst hij
      rw [if_pos rfl] at hj
      split at hj
      · obtain rfl := Option.some.inj hj
        exact ⟨s2, s3, hvl⟩
      · cases hj
    · rw [if_neg hij] at hj
      obtain ⟨a1, a2, a3⟩ := h.ci j cj hj
      refine ⟨a1.mono hle (updS_ne _ _ (Ne.symm hij)) hD, a2, ?_⟩
      have := hol j
      omega
  · rw [hsd]
    intro e he
    rcases List.mem_append.1 he with he | he
    · exact (h.pk e (hp e he)).mono hle
    · exact s4 e he
  · rw [hsd, h3]
    intro d hd
    exact (h.dc d hd).imp id (fun ⟨r, hq⟩ => ⟨r, hq.mono hle⟩)
theorem plan_vts {c c' : CS} {pl : api_Plan} {qs : List api_Request} (h : PlanO c pl qs c' out) : c'.vts = c.vts := by
  rcases h with ⟨_, rfl, _⟩ | ⟨_, _, r, c1, hm, rfl, _⟩
  · rfl
  · exact hm.vts_eq.1.trans (planC_v c pl qs r).1
theorem vote_vts {c c' : CS} {v : api_Vote} (h : VoteO c v c' out) : c'.vts.length ≤ c.vts.length + 1 := by
  rcases h with ⟨_, rfl, _⟩ | ⟨_, _, c1, hm, rfl, _⟩
  · exact Nat.le_succ _
  · show c1.vts.length ≤ _
    rw [hm.vts_eq.1]; exact (voteC_v c v).1
theorem cT_snoc (l : List Bool) (b : Bool) : cT (l ++ [b]) = cT l + (if b = true then 1 else 0) ∧ cF (l ++ [b]) = cF l + (if b = true then 0 else 1) := by
  unfold cT cF; cases b <;> simp
theorem ord_le {A : AG} (h : OrdOk A) : A.pls.length ≤ A.ord.length ∧ A.vts.length ≤ A.ord.length := by
  rw [← h.1, ← h.2]; exact ⟨List.length_filter_le _ _, List.length_filter_le _ _⟩
theorem vvs_not {a : api_Act} (h : a.Act ≠ 2) (l : List api_Act) : vvs (a :: l) = vvs l := by
  unfold vvs; rw [List.filterMap_cons]
  have : vvA a = none := if_neg h
  rw [this]
theorem vvs_vote {a : api_Act} (h : a.Act = 2) (l : List api_Act) : vvs (a :: l) = (a.Kind, a.Round, a.Digest) :: vvs l := by
  unfold vvs; rw [List.filterMap_cons]
  have : vvA a = some (a.Kind, a.Round, a.Digest) := if_pos h
  rw [this]
theorem said_skip {a : api_Act} {qs : List api_Request} (h : a.Act ≠ 2) : saidA A i ((a, qs) :: pend) = saidA A i pend := by
  funext j; unfold saidA
  rw [List.map_cons, vvs_not h]
theorem said_out (A : AG) (i : Nat) (pend out : List PA) : saidA A i (pend ++ out) = updS (saidA A i pend) i (saidA A i pend i ++ vvs (out.map (·.1))) := by
  funext j; unfold saidA updS
  by_cases h : j = i
  · subst h; simp [vvs_app]
  · simp [h]
theorem AI.gi (hM : M = n - (n - 1) / 3) (h1 : 1 ≤ n) (h10 : n ≤ 10) (hT : T ≤ 200) : GI n ht (AI n M ht T) := by
  have hMn : M ≤ n := by omega
  refine ⟨?_, ?_, ?_, ?_, ?_⟩
  · rintro A i pend ⟨h, hsz⟩
    have hi := h.il
    obtain ⟨c, hc⟩ : ∃ c, A.cs[i]? = some c := ⟨_, List.getElem?_eq_getElem (by rw [h.csl]; exact hi)⟩
    have hs := hsz c hc
    have hT2 : (T + 1) * 20000 ≤ 201 * 20000 := Nat.mul_le_mul_right _ (by omega)
    obtain ⟨o1, o2⟩ := ord_le h.od
    refine ⟨by rw [h.csl]; exact hi, by rw [h.owl, h.csl], by rw [h.dcl, h.csl], by rw [h.csl]; omega, fun j cj hj => ?_, by omega, by omega, by omega, by have := h.ot; omega, fun l hl => ?_, by omega⟩
    · obtain ⟨a1, a2, a3⟩ := h.ci j cj hj
      have := h.ownD j
      exact ⟨a1.ok, a2, a1.ht, by omega⟩
    · obtain ⟨j, hj⟩ := List.mem_iff_getElem?.1 hl
      have := h.own hj; omega
  · rintro A i a qs pend c c' out p qs' ⟨h, hsz⟩ ha hc hp1 hp2 hp3 hp4 hp5 hq hO hnu
    obtain ⟨a1, a2, a3⟩ := h.ci i c hc
    have hact := (h.pk (a, qs) (by simp)).plan ha
    simp only at hact
    have hne : a.Act ≠ 2 := by rw [ha]; decide
    have hDD : ∀ d, DDA A d → DDA { A with pls := A.pls ++ [(p, qs')], ord := A.ord ++ [true], cs := A.cs.set i c' } d := by
      rintro d (⟨e, he, hd⟩ | ⟨e, he, hd⟩)
      · exact .inl ⟨e, List.mem_append_left _ he, hd⟩
      · exact .inr ⟨e, he, hd⟩
    have hst : Stepped (saidA A i ((a, qs) :: pend)) n M (DDA { A with pls := A.pls ++ [(p, qs')], ord := A.ord ++ [true], cs := A.cs.set i c' }) ht i c' out :=
      stepped_plan (h.gd.dd hDD) (a1.mono (fun _ _ hv => hv) rfl hDD) a2 hMn h10 h.il hq (show p.Valid < p.Round by omega) (.inl ⟨(p, qs'), by simp, rfl⟩) hO
    obtain ⟨t1, t2⟩ := cT_snoc A.ord true
    simp only [if_true] at t1 t2
    refine ⟨h.step hst ?_ rfl rfl rfl hDD (fun e he => by simp [he]) h.ow (fun _ => Nat.le_refl _) (by rw [plan_vts hO]; exact a3) (Nat.le_refl _) h.vt (fun e he => ?_) h.ot ⟨?_, ?_⟩, fun cc hcc => ?_⟩
    · have e1 : saidA { A with pls := A.pls ++ [(p, qs')], ord := A.ord ++ [true], cs := A.cs.set i c' } i (pend ++ out) = saidA A i (pend ++ out) := rfl
      rw [e1, said_out, said_skip hne]
    · rcases List.mem_append.1 he with he | he
      · exact h.pl e he
      · rw [List.mem_singleton] at he; subst he; show p.Valid < p.Round ∧ 0 ≤ p.Round ∧ p.Round ≤ 1024; omega
    · show cT (A.ord ++ [true]) = (A.pls ++ [(p, qs')]).length
      rw [t1, h.od.1]; simp
    · show cF (A.ord ++ [true]) = A.vts.length
      rw [t2, h.od.2]; rfl
    · have hcc' : (A.cs.set i c')[i]? = some cc := hcc
      rw [List.getElem?_set_self (by rw [h.csl]; exact h.il)] at hcc'
      obtain rfl := Option.some.inj hcc'
      have := hsz c hc
      show (A.ord ++ [true]).length + (pend ++ out).length + nu c' ≤ _
      simp only [List.length_append, List.length_cons, List.length_nil] at this ⊢
      omega
  · rintro A i a qs pend c c' out l ⟨h, hsz⟩ ha hc hl hO hnu
    obtain ⟨a1, a2, a3⟩ := h.ci i c hc
    have hact := (h.pk (a, qs) (by simp)).vote ha
    simp only at hact
    have hvv : vvV (votA ht i a) = (a.Kind, a.Round, a.Digest) := rfl
    have hSi : saidA A i ((a, qs) :: pend) i = l.map vvV ++ (a.Kind, a.Round, a.Digest) :: vvs (pend.map (·.1)) := by
      unfold saidA
      rw [getD_of hl, if_pos rfl, List.map_cons, vvs_vote ha]
    have hmem : (a.Kind, a.Round, a.Digest) ∈ saidA A i ((a, qs) :: pend) i := by rw [hSi]; simp
    have hown := h.ownD i
    rw [getD_of hl] at hown a3
    have hst : Stepped (saidA A i ((a, qs) :: pend)) n M (DDA { A with vts := A.vts ++ [votA ht i a], ord := A.ord ++ [false], own := A.own.set i (l ++ [votA ht i a]), cs := A.cs.set i c' }) ht i c' out := by
      refine stepped_vote h.gd a1 a2 hMn h10 h.il hact.2 (by omega) ?_ (fun j hj e => ?_) hO
      · have := h.il
        show (1 : Int) ≤ ((i + 1 : Nat) : Int) ∧ ((i + 1 : Nat) : Int) ≤ n
        omega
      · have e' : ((i + 1 : Nat) : Int) = ((j + 1 : Nat) : Int) := e
        have : j = i := by omega
        subst this
        exact hmem
    obtain ⟨t1, t2⟩ := cT_snoc A.ord false
    simp only [Bool.false_eq_true, if_false] at t1 t2
    have hil : i < A.own.length := by rw [h.owl]; exact h.il
    have hgi : (A.own.set i (l ++ [votA ht i a]))[i]? = some (l ++ [votA ht i a]) := List.getElem?_set_self hil
    have hgne : ∀ j, j ≠ i → (A.own.set i (l ++ [votA ht i a]))[j]? = A.own[j]? := fun j hj => List.getElem?_set_ne (Ne.symm hj)
    refine ⟨h.step hst ?_ rfl (by show (A.own.set i _).length = _; rw [List.length_set]) rfl (fun d hd => hd) (fun e he => by simp [he]) ?_ (fun j => ?_) ?_ (Nat.le_refl _) ?_ h.pl h.ot ⟨?_, ?_⟩, fun cc hcc => ?_⟩
    · funext j
      by_cases hj : j = i
      · subst hj
        rw [updS_self, hSi]
        unfold saidA
        show ((A.own.set j (l ++ [votA ht j a])).getD j []).map vvV ++ _ = _
        rw [getD_of hgi, if_pos rfl, List.map_append]
        show (l.map vvV ++ [vvV (votA ht j a)]) ++ vvs ((pend ++ out).map (·.1)) = _
        rw [hvv, List.map_append, vvs_app]; simp
      · rw [updS_ne _ _ hj]
        unfold saidA
        show ((A.own.set i (l ++ [votA ht i a])).getD j []).map vvV ++ _ = _
        rw [List.getD_eq_getElem?_getD, hgne j hj, ← List.getD_eq_getElem?_getD, if_neg hj, if_neg hj]
    · intro j l' hj v hv
      have hj' : (A.own.set i (l ++ [votA ht i a]))[j]? = some l' := hj
      by_cases hji : j = i
      · subst hji
        rw [hgi] at hj'
        obtain rfl := Option.some.inj hj'
        rcases List.mem_append.1 hv with hv | hv
        · exact h.ow j l hl v hv
        · rw [List.mem_singleton] at hv; subst hv
          exact ⟨rfl, hact.2, by show 1 ≤ a.Kind ∧ a.Kind ≤ 2; rcases hact.1 with e | e <;> omega, rfl⟩
      · rw [hgne j hji] at hj'
        exact h.ow j l' hj' v hv
    · show _ ≤ ((A.own.set i (l ++ [votA ht i a])).getD j []).length
      by_cases hji : j = i
      · subst hji; rw [getD_of hgi, getD_of hl]; simp
      · rw [List.getD_eq_getElem?_getD, List.getD_eq_getElem?_getD, hgne j hji]; exact Nat.le_refl _
    · show c'.vts.length ≤ ((A.own.set i (l ++ [votA ht i a])).getD i []).length + T
      rw [getD_of hgi]
      have := vote_vts hO
      rw [List.length_append]; simp only [List.length_cons, List.length_nil]; omega
    · intro v hv
      have hv' : v ∈ A.vts ++ [votA ht i a] := hv
      show ∃ (j : Nat) (l' : List api_Vote), (A.own.set i (l ++ [votA ht i a]))[j]? = some l' ∧ v ∈ l'
      rcases List.mem_append.1 hv' with hv' | hv'
      · obtain ⟨j, l', hj, hvl⟩ := h.vt v hv'
        by_cases hji : j = i
        · subst hji
          rw [hl] at hj
          obtain rfl := Option.some.inj hj
          exact ⟨j, _, hgi, List.mem_append_left _ hvl⟩
        · exact ⟨j, l', by rw [hgne j hji]; exact hj, hvl⟩
      · exact ⟨i, _, hgi, List.mem_append_right _ hv'⟩
    · show cT (A.ord ++ [false]) = A.pls.length
      rw [t1, h.od.1]; rfl
    · show cF (A.ord ++ [false]) = (A.vts ++ [votA ht i a]).length
      rw [t2, h.od.2]; simp
    · have hcc' : (A.cs.set i c')[i]? = some cc := hcc
      rw [List.getElem?_set_self (by rw [h.csl]; exact h.il)] at hcc'
      obtain rfl := Option.some.inj hcc'
      have := hsz c hc
      show (A.ord ++ [false]).length + (pend ++ out).length + nu c' ≤ _
      simp only [List.length_append, List.length_cons, List.length_nil] at this ⊢
      omega
  · rintro A i a qs pend d ⟨h, hsz⟩ ha hd
    have hact := (h.pk (a, qs) (by simp)).dec ha
    simp only at hact
    have hne : a.Act ≠ 2 := by rw [ha]; decide
    obtain ⟨r, hq⟩ := hact.2
    refine ⟨?_, ⟨⟨h.il, h.csl, h.owl, by show (A.dc.set i _).length = M; rw [List.length_set]; exact h.dcl, ?_, ?_, ?_, h.ow, h.vt, h.pl, h.ot, h.od, ?_⟩, fun c hc => ?_⟩⟩
    · rcases h.dc d (List.mem_of_getElem? hd) with h9 | ⟨r', hq'⟩
      · exact .inl h9
      · by_cases hdz : d = dz
        · exact .inl hdz
        · exact .inr (h.gd.agree hM h1 hq' hq hdz hact.1)
    · have := h.gd; rw [said_skip hne] at this; exact this
    · have := h.ci; rw [said_skip hne] at this; exact this
    · have := h.pk; rw [said_skip hne] at this; exact fun e he => this e (List.mem_cons_of_mem _ he)
    · have h9 := h.dc
      rw [said_skip hne] at h9 hq
      intro d' hd'
      have hd2 : d' ∈ A.dc.set i a.Digest := hd'
      rcases List.mem_or_eq_of_mem_set hd2 with hd2 | rfl
      · exact h9 d' hd2
      · exact .inr ⟨r, hq⟩
    · have := hsz c hc
      simp only [List.length_cons] at this
      show A.ord.length + pend.length + nu c ≤ _
      omega
  · rintro A i a qs pend ⟨h, hsz⟩ ha1 ha2 ha3
    refine ⟨⟨h.il, h.csl, h.owl, h.dcl, ?_, ?_, ?_, h.ow, h.vt, h.pl, h.ot, h.od, ?_⟩, fun c hc => ?_⟩
    · have := h.gd; rw [said_skip ha2] at this; exact this
    · have := h.ci; rw [said_skip ha2] at this; exact this
    · have := h.pk; rw [said_skip ha2] at this; exact fun e he => this e (List.mem_cons_of_mem _ he)
    · have := h.dc; rw [said_skip ha2] at this; exact this
    · have := hsz c hc
      simp only [List.length_cons] at this
      omega
/-- a core is called while all rest -/
theorem AI.call {i0 : Nat} {c c' : CS} (hM : M = n - (n - 1) / 3) (h : AI n M ht T A i0 []) (hi : i < M) (hc : A.cs[i]? = some c) (h1 : A'.cs = A.cs.set i c') (h2 : A'.own = A.own) (h3 : A'.dc = A.dc) (h4 : A'.vts = A.vts) (h5 : A'.pls = A.pls) (h6 : A'.ord = A.ord)
    (hD : ∀ d, DDA A d → DDA A' d) (hot : A'.oth.length ≤ T + 1) (hst : Stepped (saidA A i []) n M (DDA A') ht i c' out) (hvl : c'.vts.length ≤ c.vts.length + 1) (hnu : out.length + nu c' ≤ nu c) : AI n M ht (T + 1) A' i out := by
  obtain ⟨h0, hsz⟩ := h
  have hi' := h0.at hi
  obtain ⟨c0, hc0⟩ : ∃ c, A.cs[i0]? = some c := ⟨_, List.getElem?_eq_getElem (by rw [h0.csl]; exact h0.il)⟩
  have hs0 := hsz c0 hc0
  have hci := hi'.ci i c hc
  have hnuc : nu c ≤ 16401 := by
    have := mu_ub hci.1.ok
    unfold nu; split <;> omega
  refine ⟨?_, fun cc hcc => ?_⟩
  · have := hi'.step (A' := A') (pend1 := []) (T' := T + 1) hst ?_ h1 (by rw [h2]) h3 hD (by simp) (by rw [h2]; exact hi'.ow) (fun j => by rw [h2]; exact Nat.le_refl _) (by rw [h2]; have := hci.2.2; omega) (Nat.le_succ _) (by rw [h4, h2]; exact hi'.vt) (by rw [h5]; exact hi'.pl) hot ⟨by rw [h6, h5]; exact hi'.od.1, by rw [h6, h4]; exact hi'.od.2⟩
    · exact this
    · have e : saidA A' i ([] ++ out) = saidA A i ([] ++ out) := by unfold saidA; rw [h2]
      rw [e, said_out]
  · rw [h1, List.getElem?_set_self (by rw [h0.csl]; exact hi)] at hcc
    obtain rfl := Option.some.inj hcc
    rw [h6]
    simp only [List.length_nil] at hs0
    have : (T + 1 + 1) * 20000 = (T + 1) * 20000 + 20000 := by omega
    omega
end
theorem nw_nil {c : CS} (h : c.vts = []) : NW c := by
  refine ⟨dz, 0, false, ⟨[], ⟨by simp, fun ch => by rw [h]; rfl⟩, .inl ⟨rfl, rfl, rfl, by simp⟩⟩, fun e => by cases e⟩
/-- what comes of a call, where all is well -/
structure QS2 (S : Said) (D : Dig) (n : Nat) (ht : Int) (lead i : Nat) (c c' : CS) (out : List PA) : Prop where
  qc : QC D n ht lead i c'
  act : ∀ e ∈ out, e.1.Act ≠ 1 ∧ (e.1.Act = 2 → e.1.Round = 0 ∧ e.1.Digest = D) ∧ (e.1.Act = 3 → e.1.Digest = D)
  s1 : 2 ≤ c'.x.step → (1, 0, D) ∈ S i ++ vvs (out.map (·.1))
  s2 : c'.x.step = 3 → (2, 0, D) ∈ S i ++ vvs (out.map (·.1))
  dd : c'.x.decided = true → (c.x.decided = true ∧ c' = c) ∨ ∃ e ∈ out, e.1.Act = 3
  st : c'.x.decided = false → NW c' ∧ Stp c'
  mo : c.x.decided = true → c'.x.decided = true
  mp : c.pl ≠ [] → c'.pl ≠ []
  mv : ∀ k, mfind c.vts k ≠ none → mfind c'.vts k ≠ none
section
variable {S : Said} {D : Dig} {n : Nat} {ht : Int} {lead i : Nat} {c c' : CS} {out : List PA}
theorem qs2_idle (h : QC D n ht lead i c) (h1 : 2 ≤ c.x.step → (1, 0, D) ∈ S i) (h2 : c.x.step = 3 → (2, 0, D) ∈ S i) (hst : c.x.decided = false → NW c ∧ Stp c) (hd : c.x.decided = true) : QS2 S D n ht lead i c c [] :=
  ⟨h, by simp, fun e => List.mem_append_left _ (h1 e), fun e => List.mem_append_left _ (h2 e), fun _ => .inl ⟨hd, rfl⟩, hst, fun e => e, fun e => e, fun _ e => e⟩
theorem Mvs.same {c c' : CS} (hm : Mvs c c') : c'.pl = c.pl ∧ c'.vts = c.vts := by
  have one : ∀ {c c' : CS} {b : Bool}, MV c c' b → c'.pl = c.pl ∧ c'.vts = c.vts := by
    intro c c' b hm
    cases hm <;> first | exact ⟨rfl, rfl⟩ | (unfold enterC; split <;> exact ⟨rfl, rfl⟩) | (unfold votesC; split <;> exact ⟨rfl, rfl⟩)
  induction hm with
  | last h => exact one h
  | more h _ ih => have := one h; exact ⟨ih.1.trans this.1, ih.2.trans this.2⟩
theorem qs2_mvs {c0 c1 : CS} (h : QC D n ht lead i c0) (hi : i < n) (hl : (ht % n) = (lead : Int)) (ha : c0.acts = []) (hd : c0.x.decided = false) (h1 : 2 ≤ c0.x.step → (1, 0, D) ∈ S i) (h2 : c0.x.step = 3 → (2, 0, D) ∈ S i) (hm : Mvs c0 c1)
    (hcd : c.x.decided = false) (hp : c.pl ≠ [] → c0.pl ≠ []) (hv : ∀ k, mfind c.vts k ≠ none → mfind c0.vts k ≠ none) : QS2 S D n ht lead i c (clrC c1) c1.acts := by
  have e : acts1 c0 = [] := by unfold acts1; rw [ha]; rfl
  have hq : QA D (S i) c0 := ⟨by rw [e]; simp, by rw [e]; exact fun x => List.mem_append_left _ (h1 x), by rw [e]; exact fun x => List.mem_append_left _ (h2 x), by rw [hd]; intro x; cases x⟩
  have hmu := mu_ub h.ok
  obtain ⟨a1, a2, a3⟩ := qc_mvs hm h hq hi hl hd (by rw [ha]; simp; omega)
  obtain ⟨m1, m2⟩ := hm.same
  refine ⟨a1.clr, fun e he => a2.act e.1 (List.mem_map.2 ⟨e, he, rfl⟩), a2.s1, a2.s2, fun hx => .inr ?_, fun hx => ?_, fun hx => (by rw [hcd] at hx; cases hx), fun hx => ?_, fun k hk => ?_⟩
  · obtain ⟨a, ham, h3⟩ := a2.dd hx
    obtain ⟨e, he, rfl⟩ := List.mem_map.1 ham
    exact ⟨e, he, h3⟩
  · rcases a3 with h9 | h9
    · have hx' : c1.x.decided = false := hx
      rw [h9] at hx'; cases hx'
    · exact h9
  · show c1.pl ≠ []; rw [m1]; exact hp hx
  · show mfind c1.vts k ≠ none; rw [m2]; exact hv k hk
theorem qs2_vote {v : api_Vote} (h : QC D n ht lead i c) (hi : i < n) (hl : (ht % n) = (lead : Int)) (ha : c.acts = []) (h1 : 2 ≤ c.x.step → (1, 0, D) ∈ S i) (h2 : c.x.step = 3 → (2, 0, D) ∈ S i) (hst : c.x.decided = false → NW c ∧ Stp c) (hv0 : v.Round = 0) (hvD : v.Digest = D) (hvh : v.Height = ht) (hn : c.vts.length + 1 < 2 ^ 19) (hO : VoteO c v c' out) :
    QS2 S D n ht lead i c c' out ∧ (c'.x.decided = true ∨ mfind c'.vts (placeOf v) ≠ none) := by
  rcases hO with ⟨hx, rfl, rfl⟩ | ⟨hd, hh, c1, hm, rfl, rfl⟩
  · rcases hx with hx | hx
    · exact ⟨qs2_idle h h1 h2 hst hx, .inl hx⟩
    · exact absurd (hvh.trans h.ht.symm) hx
  · obtain ⟨p1, p2, p3, p4, p5, p6⟩ := voteC_v c v
    have hk : mfind (voteC c v).vts (placeOf v) ≠ none := by
      unfold voteC
      split
      · show mfind (mins _ _ _) _ ≠ none; rw [mfind_mins, if_pos rfl]; simp
      · rename_i hx; exact hx
    refine ⟨qs2_mvs (h.vote hv0 hvD hn) hi hl (p4.trans ha) (by rw [p6]; exact hd) (by rw [p6]; exact h1) (by rw [p6]; exact h2) hm hd ?_ ?_, .inr ?_⟩
    · have : (voteC c v).pl = c.pl := by unfold voteC; split <;> rfl
      rw [this]; exact fun e => e
    · intro k hk
      unfold voteC
      split
      · show mfind (mins _ _ _) _ ≠ none; rw [mfind_mins]; split
        · simp
        · exact hk
      · exact hk
    · show mfind c1.vts _ ≠ none; rw [hm.same.2]; exact hk
theorem qs2_plan {pl : api_Plan} {qs : List api_Request} (h : QC D n ht lead i c) (hi : i < n) (hl : (ht % n) = (lead : Int)) (ha : c.acts = []) (h1 : 2 ≤ c.x.step → (1, 0, D) ∈ S i) (h2 : c.x.step = 3 → (2, 0, D) ∈ S i) (hst : c.x.decided = false → NW c ∧ Stp c) (hp0 : pl.Round = 0) (hpv : pl.Valid < 0) (hpD : digB pl.Block qs = D) (hph : pl.Height = ht) (hpf : pl.From = ((lead + 1 : Nat) : Int)) (hq : reqsN qs < 2 ^ 30) (hO : PlanO c pl qs c' out) :
    QS2 S D n ht lead i c c' out ∧ (c'.x.decided = true ∨ c'.pl ≠ []) := by
  rcases hO with ⟨hx, rfl, rfl⟩ | ⟨hd, hh, r, c1, hm, rfl, rfl⟩
  · rcases hx with hx | hx
    · exact ⟨qs2_idle h h1 h2 hst hx, .inl hx⟩
    · exact absurd (hph.trans h.ht.symm) hx
  · obtain ⟨p1, p2, p3, p4, p5, p6⟩ := planC_v c pl qs r
    have hne : (planC c pl qs r).pl ≠ [] := by
      unfold planC
      split
      · show mins _ _ _ ≠ []
        intro e
        have := mfind_mins pl.Round ({ pl with Block := { pl.Block with Requests := r } }, qs) c.pl pl.Round
        rw [e, if_pos rfl] at this; cases this
      · rename_i hx
        show c.pl ≠ []
        intro e
        apply hx
        refine ⟨by rw [e]; rfl, ?_⟩
        rw [idAt_N h.ms (by omega), hp0, hpf, h.ht, Int.add_zero, hl]; omega
    refine ⟨qs2_mvs (h.plan r hpv hp0 hpD hq) hi hl (p4.trans ha) (by rw [p6]; exact hd) (by rw [p6]; exact h1) (by rw [p6]; exact h2) hm hd (fun _ => hne) (by rw [p1]; exact fun _ e => e), .inr ?_⟩
    show c1.pl ≠ []; rw [hm.same.1]; exact hne
end
/-- the m-th thing was heard by core k, or it needs it no more -/
def HS (A : AG) (k m : Nat) : Prop := ∀ c, A.cs[k]? = some c → c.x.decided = true ∨ ((∀ e, PlanAt A m e → c.pl ≠ []) ∧ ∀ v, VoteAt A m v → mfind c.vts (placeOf v) ≠ none)
structure QI (n : Nat) (ht : Int) (lead : Nat) (D : Dig) (Hs : Nat → Nat → Prop) (A : AG) (i : Nat) (pend : List PA) : Prop where
  il : i < n
  csl : A.cs.length = n
  owl : A.own.length = n
  dcl : A.dc.length = n
  ot : A.oth = []
  pls : ∃ p qs, A.pls = [(p, qs)] ∧ p.Height = ht ∧ p.Round = 0 ∧ p.Valid = -1 ∧ p.From = ((lead + 1 : Nat) : Int) ∧ reqsN qs < 2 ^ 30 ∧ digB p.Block qs = D
  gd : GoodS (saidA A i pend) n n (DDA A)
  ci : ∀ (j : Nat) c, A.cs[j]? = some c → CI (saidA A i pend) n n (DDA A) ht j c ∧ c.acts = [] ∧ QC D n ht lead j c ∧ (c.x.decided = false → NW c ∧ Stp c) ∧ (2 ≤ c.x.step → (1, 0, D) ∈ saidA A i pend j) ∧ (c.x.step = 3 → (2, 0, D) ∈ saidA A i pend j)
  pk : ∀ e ∈ pend, ActS (saidA A i pend) n n e.1 ∧ e.1.Act ≠ 1 ∧ (e.1.Act = 2 → e.1.Round = 0 ∧ e.1.Digest = D) ∧ (e.1.Act = 3 → e.1.Digest = D)
  ow : ∀ (j : Nat) l, A.own[j]? = some l → ∀ v ∈ l, VOk ht j v ∧ v.Round = 0 ∧ v.Digest = D
  vt : ∀ v ∈ A.vts, ∃ (j : Nat) (l : List api_Vote), A.own[j]? = some l ∧ v ∈ l
  wv : ∀ (j : Nat) (l : List api_Vote), A.own[j]? = some l → ∀ v ∈ l, v ∈ A.vts
  vs : A.vts.length = (A.own.map List.length).sum
  od : OrdOk A
  dv : ∀ d ∈ A.dc, d = dz ∨ d = D
  dd : ∀ (j : Nat) c d, A.cs[j]? = some c → A.dc[j]? = some d → c.x.decided = true → (D ≠ dz ∧ ∃ r, QS (saidA A i pend) n n (2, r, D)) ∧ (d = D ∨ (j = i ∧ ∃ e ∈ pend, e.1.Act = 3))
  sz : ∀ c, A.cs[i]? = some c → pend.length + nu c ≤ 16402
  hd : ∀ k m, Hs k m → m < A.ord.length ∧ HS A k m
theorem sum_le {b : Nat} : ∀ l : List (List api_Vote), (∀ x ∈ l, x.length ≤ b) → (l.map List.length).sum ≤ b * l.length
  | [], _ => by simp
  | a :: l, h => by
    have h1 := sum_le (b := b) l (fun x hx => h x (by simp [hx]))
    have h2 := h a (by simp)
    simp only [List.map_cons, List.sum_cons, List.length_cons, Nat.mul_succ]
    omega
theorem sum_set (l : List (List api_Vote)) (i : Nat) (x : List api_Vote) (v : api_Vote) (h : l[i]? = some x) : ((l.set i (x ++ [v])).map List.length).sum = (l.map List.length).sum + 1 := by
  induction l generalizing i with
  | nil => simp at h
  | cons a l ih =>
    cases i with
    | zero => simp at h; subst h; simp; omega
    | succ i =>
      have := ih i (by simpa using h)
      simp only [List.set_cons_succ, List.map_cons, List.sum_cons, this]; omega
section
variable {n : Nat} {ht : Int} {lead : Nat} {D : Dig} {Hs Hs' : Nat → Nat → Prop} {A A' : AG} {i : Nat} {pend pend1 out : List PA}
theorem QI.said (h : QI n ht lead D Hs A i pend) : ∀ j v, v ∈ saidA A i pend j → v.2.1 = 0 ∧ v.2.2 = D ∧ (v.1 = 1 ∨ v.1 = 2) := by
  intro j v hv
  unfold saidA at hv
  rcases List.mem_append.1 hv with hv | hv
  · obtain ⟨u, hu, rfl⟩ := List.mem_map.1 hv
    cases hj : A.own[j]? with
    | none => rw [List.getD_eq_getElem?_getD, hj] at hu; cases hu
    | some l =>
      rw [getD_of hj] at hu
      obtain ⟨⟨o1, o2, o3, o4⟩, o5, o6⟩ := h.ow j l hj u hu
      exact ⟨o5, o6, by show u.Kind = 1 ∨ u.Kind = 2; omega⟩
  · split at hv
    · unfold vvs at hv
      rw [List.mem_filterMap] at hv
      obtain ⟨a, ha, hav⟩ := hv
      obtain ⟨e, he, rfl⟩ := List.mem_map.1 ha
      unfold vvA at hav
      split at hav
      · rename_i h2
        obtain ⟨p1, p2, p3, p4⟩ := h.pk e he
        obtain rfl := Option.some.inj hav
        exact ⟨(p3 h2).1, (p3 h2).2, (p1.vote h2).1⟩
      · cases hav
    · cases hv
theorem QI.own (h : QI n ht lead D Hs A i pend) {j : Nat} {l : List api_Vote} (hj : A.own[j]? = some l) : l.length ≤ 2 := by
  have hjn : j < n := by rw [← h.owl]; rw [List.getElem?_eq_some_iff] at hj; exact hj.1
  have h1 := h.gd.ord j hjn
  unfold saidA at h1
  rw [getD_of hj, List.pairwise_append] at h1
  have h2 : (l.map fun v : api_Vote => v.Kind).Pairwise (· < ·) := by
    have h1' := h1.1
    rw [List.pairwise_map] at h1' ⊢
    refine List.Pairwise.imp_of_mem ?_ h1'
    intro a b ha hb hab
    have a2 := (h.ow j l hj a ha).2.1
    have b2 := (h.ow j l hj b hb).2.1
    have hab' : a.Round < b.Round ∨ (a.Round = b.Round ∧ a.Kind < b.Kind) := hab
    omega
  have h3 := asc_len _ 1 2 h2 (fun x hx => by
    obtain ⟨v, hv, rfl⟩ := List.mem_map.1 hx
    obtain ⟨⟨_, _, a3, _⟩, _⟩ := h.ow j l hj v hv
    omega)
  rw [List.length_map] at h3
  omega
theorem QI.vlen (h : QI n ht lead D Hs A i pend) : A.vts.length ≤ 2 * n := by
  rw [h.vs]
  have := sum_le (b := 2) A.own (fun x hx => by
    obtain ⟨j, hj⟩ := List.mem_iff_getElem?.1 hx
    exact h.own hj)
  rw [h.owl] at this; exact this
theorem QI.ordl (h : QI n ht lead D Hs A i pend) : A.ord.length ≤ 1 + 2 * n := by
  have h1 := h.od.1; have h2 := h.od.2
  obtain ⟨p, qs, hp, _⟩ := h.pls
  rw [hp] at h1
  have h3 : A.ord.length = cT A.ord + cF A.ord := by
    unfold cT cF
    generalize A.ord = l
    induction l with
    | nil => rfl
    | cons b l ih => cases b <;> simp at ih ⊢ <;> omega
  have := h.vlen
  simp only [List.length_cons, List.length_nil] at h1
  omega
theorem QI.box (h : QI n ht lead D Hs A i pend) (h10 : n ≤ 10) {j : Nat} {c : CS} (hj : A.cs[j]? = some c) : c.vts.length ≤ 40 := by
  obtain ⟨a1, _, a3, _⟩ := h.ci j c hj
  have hkey : ∀ q ∈ c.vts, (1 ≤ q.1.from_ ∧ q.1.from_ ≤ 10) ∧ q.1.round = 0 ∧ (q.1.kind = 1 ∨ q.1.kind = 2) := by
    intro q hq
    obtain ⟨b1, b2, b3⟩ := a1.box q hq
    have := b3 (q.1.from_ - 1).toNat (by omega) (by omega)
    have h9 := h.said _ _ this
    exact ⟨by omega, (a3.vt q hq).1, h9.2.2⟩
  have hnd : (c.vts.map fun q => (q.1.from_ * 3 + q.1.kind).toNat).Nodup := by
    have := a1.nd
    rw [List.Nodup, List.pairwise_map] at this ⊢
    refine List.Pairwise.imp_of_mem ?_ this
    intro a b ha hb hne e
    apply hne
    obtain ⟨x1, x2, x3⟩ := hkey a ha
    obtain ⟨y1, y2, y3⟩ := hkey b hb
    cases h5 : a.1 with
    | mk k1 r1 f1 =>
      cases h6 : b.1 with
      | mk k2 r2 f2 =>
        rw [h5] at x1 x2 x3 e; rw [h6] at y1 y2 y3 e
        simp only at x1 x2 x3 y1 y2 y3 e
        have e1 : f1 = f2 := by omega
        have e2 : k1 = k2 := by omega
        rw [e1, e2, x2, y2]
  have hl := nodup_len hnd (l' := List.range 40) (fun x hx => by
    obtain ⟨q, hq, rfl⟩ := List.mem_map.1 hx
    obtain ⟨x1, x2, x3⟩ := hkey q hq
    rw [List.mem_range]; omega)
  rw [List.length_map, List.length_range] at hl
  exact hl
theorem QI.step {c c' : CS} (h : QI n ht lead D Hs A i pend) (hc : A.cs[i]? = some c) (hst : Stepped (saidA A i pend) n n (DDA A') ht i c' out) (hq : QS2 (saidA A i pend) D n ht lead i c c' out)
    (hsd : saidA A' i (pend1 ++ out) = updS (saidA A i pend) i (saidA A i pend i ++ vvs (out.map (·.1)))) (h1 : A'.cs = A.cs.set i c') (h2 : A'.own.length = A.own.length) (h3 : A'.dc = A.dc) (hD : ∀ d, DDA A d → DDA A' d) (hp : ∀ e ∈ pend1, e ∈ pend) (hp3 : ∀ e ∈ pend, e.1.Act = 3 → e ∈ pend1)
    (hot : A'.oth = []) (hpl : A'.pls = A.pls) (how : ∀ (j : Nat) l, A'.own[j]? = some l → ∀ v ∈ l, VOk ht j v ∧ v.Round = 0 ∧ v.Digest = D) (hvt : ∀ v ∈ A'.vts, ∃ (j : Nat) (l : List api_Vote), A'.own[j]? = some l ∧ v ∈ l) (hwv : ∀ (j : Nat) (l : List api_Vote), A'.own[j]? = some l → ∀ v ∈ l, v ∈ A'.vts)
    (hvs : A'.vts.length = (A'.own.map List.length).sum) (hod : OrdOk A') (hsz : (pend1 ++ out).length + nu c' ≤ 16402) (hhd : ∀ k m, Hs' k m → m < A'.ord.length ∧ HS A' k m) : QI n ht lead D Hs' A' i (pend1 ++ out) := by
  obtain ⟨s1, s2, s3, s4⟩ := hst
  have hle : SaidLe (saidA A i pend) (updS (saidA A i pend) i (saidA A i pend i ++ vvs (out.map (·.1)))) := updS_le _ _ _
  have hil : i < A.cs.length := by rw [h.csl]; exact h.il
  refine ⟨h.il, by rw [h1, List.length_set]; exact h.csl, h2.trans h.owl, by rw [h3]; exact h.dcl, hot, by rw [hpl]; exact h.pls, by rw [hsd]; exact s1, ?_, ?_, how, hvt, hwv, hvs, hod, by rw [h3]; exact h.dv, ?_, fun cc hcc => ?_, hhd⟩
  · rw [hsd]
    intro j cj hj
    rw [h1, List.getElem?_set] at hj
    by_cases hij : i = j
    · subst hij
      rw [if_pos rfl, if_pos hil] at hj
      obtain rfl := Option.some.inj hj
      rw [updS_self]
      exact ⟨s2, s3, hq.qc, hq.st, hq.s1, hq.s2⟩
    · rw [if_neg hij] at hj
      obtain ⟨a1, a2, a3, a4, a5, a6⟩ := h.ci j cj hj
      rw [updS_ne _ _ (Ne.symm hij)]
      exact ⟨a1.mono hle (updS_ne _ _ (Ne.symm hij)) hD, a2, a3, a4, a5, a6⟩
  · rw [hsd]
    intro e he
    rcases List.mem_append.1 he with he | he
    · obtain ⟨b1, b2⟩ := h.pk e (hp e he)
      exact ⟨b1.mono hle, b2⟩
    · exact ⟨s4 e he, hq.act e he⟩
  · rw [hsd, h3]
    intro j cj d hj hd hdec
    rw [h1, List.getElem?_set] at hj
    by_cases hij : i = j
    · subst hij
      rw [if_pos rfl, if_pos hil] at hj
      obtain rfl := Option.some.inj hj
      rcases hq.dd hdec with ⟨hcd, rfl⟩ | ⟨e, he, h3e⟩
      · obtain ⟨⟨g1, r, g2⟩, g3⟩ := h.dd i c' d hc hd hcd
        refine ⟨⟨g1, r, g2.mono hle⟩, g3.imp id (fun ⟨e1, e, he, h9⟩ => ⟨e1, e, List.mem_append_left _ (hp3 e he h9), h9⟩)⟩
      · have hS := (s4 e he).dec h3e
        have hdg := (hq.act e he).2.2 h3e
        rw [hdg] at hS
        exact ⟨hS, .inr ⟨rfl, e, List.mem_append_right _ he, h3e⟩⟩
    · rw [if_neg hij] at hj
      obtain ⟨⟨g1, r, g2⟩, g3⟩ := h.dd j cj d hj hd hdec
      exact ⟨⟨g1, r, g2.mono hle⟩, .inl (g3.resolve_right (fun hx => hij hx.1.symm))⟩
  · rw [h1, List.getElem?_set_self hil] at hcc
    obtain rfl := Option.some.inj hcc
    exact hsz
theorem HS.mono {k m : Nat} {c c' : CS} {S : Said} (h : HS A k m) (hm : m < A.ord.length) (hO : OrdOk A) (hc : A.cs[i]? = some c) (h1 : A'.cs = A.cs.set i c') (hq : QS2 S D n ht lead i c c' out) (x : List Bool) (y : List api_Vote) (ho : A'.ord = A.ord ++ x) (hp : A'.pls = A.pls) (hv : A'.vts = A.vts ++ y) : HS A' k m := by
  intro cj hj
  have hP : ∀ e, PlanAt A' m e → PlanAt A m e := by
    rintro e ⟨p1, p2⟩
    rw [ho, List.getElem?_append_left hm] at p1
    rw [ho, List.take_append_of_le_length (by omega), hp] at p2
    exact ⟨p1, p2⟩
  have hV : ∀ v, VoteAt A' m v → VoteAt A m v := by
    rintro v ⟨p1, p2⟩
    rw [ho, List.getElem?_append_left hm] at p1
    rw [ho, List.take_append_of_le_length (by omega), hv] at p2
    have hlt : cF (A.ord.take m) < A.vts.length := by
      obtain ⟨_, t2⟩ := cT_take A.ord m false p1
      simp only [Bool.false_eq_true, if_false] at t2
      have := (cT_le A.ord (m + 1)).2
      have := hO.2
      omega
    rw [List.getElem?_append_left hlt] at p2
    exact ⟨p1, p2⟩
  rw [h1, List.getElem?_set] at hj
  by_cases hik : i = k
  · subst hik
    rw [if_pos rfl] at hj
    split at hj
    · obtain rfl := Option.some.inj hj
      rcases h c hc with h9 | ⟨h9, h10⟩
      · exact .inl (hq.mo h9)
      · exact .inr ⟨fun e he => hq.mp (h9 e (hP e he)), fun v hv => hq.mv _ (h10 v (hV v hv))⟩
    · cases hj
  · rw [if_neg hik] at hj
    rcases h cj hj with h9 | ⟨h9, h10⟩
    · exact .inl h9
    · exact .inr ⟨fun e he => h9 e (hP e he), fun v hv => h10 v (hV v hv)⟩
end
section
variable {n : Nat} {ht : Int} {lead : Nat} {D : Dig} {Hs Hs' : Nat → Nat → Prop} {A A' : AG} {i : Nat} {pend pend1 out : List PA}
theorem QI.adm (h10 : n ≤ 10) (h : QI n ht lead D Hs A i pend) : i < A.cs.length ∧ A.own.length = A.cs.length ∧ A.dc.length = A.cs.length ∧ A.cs.length ≤ 10 ∧ (∀ (j : Nat) c, A.cs[j]? = some c → Cok c ∧ c.acts = [] ∧ c.ht = ht ∧ c.vts.length + 1 < 2 ^ 19) ∧ A.pls.length < 2 ^ 30 ∧ A.vts.length < 2 ^ 30 ∧ A.ord.length < 2 ^ 30 ∧ A.oth.length < 2 ^ 30 ∧ (∀ l ∈ A.own, l.length < 2 ^ 30) ∧ pend.length < 2 ^ 30 := by
  have hi := h.il
  obtain ⟨c, hc⟩ : ∃ c, A.cs[i]? = some c := ⟨_, List.getElem?_eq_getElem (by rw [h.csl]; exact hi)⟩
  have hs := h.sz c hc
  obtain ⟨p, qs, hp, _⟩ := h.pls
  have h1 := h.vlen
  have h2 := h.ordl
  refine ⟨by rw [h.csl]; exact hi, by rw [h.owl, h.csl], by rw [h.dcl, h.csl], by rw [h.csl]; exact h10, fun j cj hj => ?_, by rw [hp]; simp, by omega, by omega, by rw [h.ot]; simp, fun l hl => ?_, by omega⟩
  · obtain ⟨a1, a2, a3, _⟩ := h.ci j cj hj
    have := h.box h10 hj
    exact ⟨a1.ok, a2, a1.ht, by omega⟩
  · obtain ⟨j, hj⟩ := List.mem_iff_getElem?.1 hl
    have := h.own hj; omega
theorem QI.gi (h1 : 1 ≤ n) (h10 : n ≤ 10) (hl : (ht % n) = (lead : Int)) : GI n ht (QI n ht lead D Hs) := by
  refine ⟨fun A i pend h => h.adm h10, ?_, ?_, ?_, ?_⟩
  · intro A i a qs pend c c' out p qs' h ha
    exact absurd ha (h.pk (a, qs) (by simp)).2.1
  · intro A i a qs pend c c' out l h ha hc hl' hO hnu
    obtain ⟨a1, a2, a3, a4, a5, a6⟩ := h.ci i c hc
    obtain ⟨hA, _, hpk, _⟩ := h.pk (a, qs) (by simp)
    have hact := hA.vote ha
    obtain ⟨hr0, hdD⟩ := hpk ha
    simp only at hact hr0 hdD
    have hvv : vvV (votA ht i a) = (a.Kind, a.Round, a.Digest) := rfl
    have hSi : saidA A i ((a, qs) :: pend) i = l.map vvV ++ (a.Kind, a.Round, a.Digest) :: vvs (pend.map (·.1)) := by
      unfold saidA
      rw [getD_of hl', if_pos rfl, List.map_cons, vvs_vote ha]
    have hmem : (a.Kind, a.Round, a.Digest) ∈ saidA A i ((a, qs) :: pend) i := by rw [hSi]; simp
    have hbx := h.box h10 hc
    have hil : i < A.own.length := by rw [h.owl]; exact h.il
    have hgi : (A.own.set i (l ++ [votA ht i a]))[i]? = some (l ++ [votA ht i a]) := List.getElem?_set_self hil
    have hgne : ∀ j, j ≠ i → (A.own.set i (l ++ [votA ht i a]))[j]? = A.own[j]? := fun j hj => List.getElem?_set_ne (Ne.symm hj)
    have hst : Stepped (saidA A i ((a, qs) :: pend)) n n (DDA { A with vts := A.vts ++ [votA ht i a], ord := A.ord ++ [false], own := A.own.set i (l ++ [votA ht i a]), cs := A.cs.set i c' }) ht i c' out := by
      refine stepped_vote h.gd a1 a2 (Nat.le_refl _) h10 h.il hact.2 (by omega) ?_ (fun j hj e => ?_) hO
      · have := h.il
        show (1 : Int) ≤ ((i + 1 : Nat) : Int) ∧ ((i + 1 : Nat) : Int) ≤ n
        omega
      · have e' : ((i + 1 : Nat) : Int) = ((j + 1 : Nat) : Int) := e
        have : j = i := by omega
        subst this
        exact hmem
    obtain ⟨hq, _⟩ := qs2_vote (S := saidA A i ((a, qs) :: pend)) a3 h.il hl a2 a5 a6 a4 (v := votA ht i a) hr0 hdD rfl (by omega) hO
    obtain ⟨t1, t2⟩ := cT_snoc A.ord false
    simp only [Bool.false_eq_true, if_false] at t1 t2
    have hod' : OrdOk { A with vts := A.vts ++ [votA ht i a], ord := A.ord ++ [false], own := A.own.set i (l ++ [votA ht i a]), cs := A.cs.set i c' } := by
      refine ⟨?_, ?_⟩
      · show cT (A.ord ++ [false]) = A.pls.length
        rw [t1, h.od.1]; rfl
      · show cF (A.ord ++ [false]) = (A.vts ++ [votA ht i a]).length
        rw [t2, h.od.2]; simp
    refine h.step hc hst hq ?_ rfl (by show (A.own.set i _).length = _; rw [List.length_set]) rfl (fun d hd => hd) (fun e he => by simp [he]) (fun e he h3 => ?_) h.ot rfl ?_ ?_ ?_ ?_ hod' ?_ (fun k m hk => ?_)
    · funext j
      by_cases hj : j = i
      · subst hj
        rw [updS_self, hSi]
        unfold saidA
        show ((A.own.set j (l ++ [votA ht j a])).getD j []).map vvV ++ _ = _
        rw [getD_of hgi, if_pos rfl, List.map_append]
        show (l.map vvV ++ [vvV (votA ht j a)]) ++ vvs ((pend ++ out).map (·.1)) = _
        rw [hvv, List.map_append, vvs_app]; simp
      · rw [updS_ne _ _ hj]
        unfold saidA
        show ((A.own.set i (l ++ [votA ht i a])).getD j []).map vvV ++ _ = _
        rw [List.getD_eq_getElem?_getD, hgne j hj, ← List.getD_eq_getElem?_getD, if_neg hj, if_neg hj]
    · rcases List.mem_cons.1 he with rfl | he
      · rw [ha] at h3; cases h3
      · exact he
    · intro j l' hj v hv
      have hj' : (A.own.set i (l ++ [votA ht i a]))[j]? = some l' := hj
      by_cases hji : j = i
      · subst hji
        rw [hgi] at hj'
        obtain rfl := Option.some.inj hj'
        rcases List.mem_append.1 hv with hv | hv
        · exact h.ow j l hl' v hv
        · rw [List.mem_singleton] at hv; subst hv
          exact ⟨⟨rfl, hact.2, by show 1 ≤ a.Kind ∧ a.Kind ≤ 2; rcases hact.1 with e | e <;> omega, rfl⟩, hr0, hdD⟩
      · rw [hgne j hji] at hj'
        exact h.ow j l' hj' v hv
    · intro v hv
      have hv' : v ∈ A.vts ++ [votA ht i a] := hv
      show ∃ (j : Nat) (l' : List api_Vote), (A.own.set i (l ++ [votA ht i a]))[j]? = some l' ∧ v ∈ l'
      rcases List.mem_append.1 hv' with hv' | hv'
      · obtain ⟨j, l', hj, hvl⟩ := h.vt v hv'
        by_cases hji : j = i
        · subst hji
          rw [hl'] at hj
          obtain rfl := Option.some.inj hj
          exact ⟨j, _, hgi, List.mem_append_left _ hvl⟩
        · exact ⟨j, l', by rw [hgne j hji]; exact hj, hvl⟩
      · exact ⟨i, _, hgi, List.mem_append_right _ hv'⟩
    · intro j l' hj v hv
      have hj' : (A.own.set i (l ++ [votA ht i a]))[j]? = some l' := hj
      show v ∈ A.vts ++ [votA ht i a]
      by_cases hji : j = i
      · subst hji
        rw [hgi] at hj'
        obtain rfl := Option.some.inj hj'
        rcases List.mem_append.1 hv with hv | hv
        · exact List.mem_append_left _ (h.wv j l hl' v hv)
        · exact List.mem_append_right _ hv
      · rw [hgne j hji] at hj'
        exact List.mem_append_left _ (h.wv j l' hj' v hv)
    · show (A.vts ++ [votA ht i a]).length = ((A.own.set i (l ++ [votA ht i a])).map List.length).sum
      rw [sum_set _ _ _ _ hl', ← h.vs]; simp
    · have := h.sz c hc
      simp only [List.length_append, List.length_cons] at this ⊢
      omega
    · obtain ⟨m1, m2⟩ := h.hd k m hk
      refine ⟨by show m < (A.ord ++ [false]).length; rw [List.length_append]; omega, ?_⟩
      exact m2.mono m1 h.od hc rfl hq [false] [votA ht i a] rfl rfl rfl
  · intro A i a qs pend d h ha hd
    obtain ⟨hA, _, _, hpk⟩ := h.pk (a, qs) (by simp)
    have hdD := hpk ha
    simp only at hdD
    have hne : a.Act ≠ 2 := by rw [ha]; decide
    refine ⟨?_, ⟨h.il, h.csl, h.owl, by show (A.dc.set i _).length = n; rw [List.length_set]; exact h.dcl, h.ot, h.pls, ?_, ?_, ?_, h.ow, h.vt, h.wv, h.vs, h.od, ?_, ?_, fun c hc => ?_, h.hd⟩⟩
    · rcases h.dv d (List.mem_of_getElem? hd) with h9 | h9
      · exact .inl h9
      · exact .inr (h9.trans hdD.symm)
    · have := h.gd; rw [said_skip hne] at this; exact this
    · have := h.ci; rw [said_skip hne] at this; exact this
    · have := h.pk; rw [said_skip hne] at this; exact fun e he => this e (List.mem_cons_of_mem _ he)
    · intro d' hd'
      have hd2 : d' ∈ A.dc.set i a.Digest := hd'
      rcases List.mem_or_eq_of_mem_set hd2 with hd2 | rfl
      · exact h.dv d' hd2
      · exact .inr hdD
    · have h9 := h.dd
      rw [said_skip hne] at h9
      intro j c d' hj hd' hdec
      have hd2 : (A.dc.set i a.Digest)[j]? = some d' := hd'
      by_cases hji : j = i
      · subst hji
        obtain ⟨g1, _⟩ := h9 j c d hj hd hdec
        rw [List.getElem?_set_self (by rw [h.dcl]; exact h.il)] at hd2
        exact ⟨g1, .inl ((Option.some.inj hd2).symm.trans hdD)⟩
      · rw [List.getElem?_set_ne (Ne.symm hji)] at hd2
        obtain ⟨g1, g2⟩ := h9 j c d' hj hd2 hdec
        exact ⟨g1, .inl (g2.resolve_right (fun hx => hji hx.1))⟩
    · have := h.sz c hc
      simp only [List.length_cons] at this
      show pend.length + nu c ≤ _
      omega
  · intro A i a qs pend h ha1 ha2 ha3
    refine ⟨h.il, h.csl, h.owl, h.dcl, h.ot, h.pls, ?_, ?_, ?_, h.ow, h.vt, h.wv, h.vs, h.od, h.dv, ?_, fun c hc => ?_, h.hd⟩
    · have := h.gd; rw [said_skip ha2] at this; exact this
    · have := h.ci; rw [said_skip ha2] at this; exact this
    · have := h.pk; rw [said_skip ha2] at this; exact fun e he => this e (List.mem_cons_of_mem _ he)
    · have h9 := h.dd
      rw [said_skip ha2] at h9
      intro j c d hj hd hdec
      obtain ⟨g1, g2⟩ := h9 j c d hj hd hdec
      refine ⟨g1, g2.imp id (fun ⟨e1, e, he, h3⟩ => ⟨e1, e, ?_, h3⟩)⟩
      rcases List.mem_cons.1 he with rfl | he
      · exact absurd h3 ha3
      · exact he
    · have := h.sz c hc
      simp only [List.length_cons] at this
      omega
/-- where all rest, any core may be called next -/
theorem QI.at (h : QI n ht lead D Hs A i []) {j : Nat} (hj : j < n) (hH : ∀ k m, Hs' k m → Hs k m) : QI n ht lead D Hs' A j [] := by
  obtain ⟨a1, a2, a3, a4, a5, a6, a7, a8, a9, a10, a11, a12, a13, a14, a15, a16, a17, a18⟩ := h
  rw [saidA_rest A i j] at a7 a8 a9 a16
  refine ⟨hj, a2, a3, a4, a5, a6, a7, a8, by simp, a10, a11, a12, a13, a14, a15, fun k c d hk hd hdec => ?_, fun c hc => ?_, fun k m hk => a18 k m (hH k m hk)⟩
  · obtain ⟨g1, g2⟩ := a16 k c d hk hd hdec
    exact ⟨g1, .inl (g2.resolve_right (fun ⟨_, e, he, _⟩ => by cases he))⟩
  · have := mu_ub (a8 j c hc).1.ok
    have : nu c ≤ 16401 := by unfold nu; split <;> omega
    simp only [List.length_nil]; omega
end
theorem idx_mod (x : Int) (M : Nat) (h : 1 ≤ M ∧ M ≤ 1000000) : ∃ j : Nat, j < M ∧ toI64 (((toU64 x) % (toU64 (M : Int))).toNat : Int) = (j : Int) := by
  have e : (toU64 (M : Int)).toNat = M := by
    unfold toU64
    rw [UInt64.toNat_ofNat']
    have : (((M : Int) % 18446744073709551616).toNat) = M := by omega
    rw [this]
    exact Nat.mod_eq_of_lt (by omega)
  refine ⟨((toU64 x) % (toU64 (M : Int))).toNat, ?_, ?_⟩
  · rw [UInt64.toNat_mod, e]; exact Nat.mod_lt _ (by omega)
  · have : ((toU64 x) % (toU64 (M : Int))).toNat < M := by rw [UInt64.toNat_mod, e]; exact Nat.mod_lt _ (by omega)
    exact wrap_eq (by omega) (by omega)
theorem u64_ne (M : Nat) (h : 1 ≤ M ∧ M ≤ 1000000) : toU64 (M : Int) ≠ 0 := by
  intro h0
  have e : (toU64 (M : Int)).toNat = M := by
    unfold toU64
    rw [UInt64.toNat_ofNat']
    have : (((M : Int) % 18446744073709551616).toNat) = M := by omega
    rw [this]
    exact Nat.mod_eq_of_lt (by omega)
  rw [h0] at e
  have : (0 : UInt64).toNat = 0 := rfl
  omega
section
variable {h0 h : H} {L : List En} {n M : Nat} {ht : Int} {T : Nat}
theorem AI.up {A : AG} {i0 j : Nat} (h : AI n M ht T A i0 []) (hj : j < M) : AI n M ht (T + 1) A j [] := by
  obtain ⟨hA, hsz⟩ := h
  have h1 := hA.at hj
  obtain ⟨c0, hc0⟩ : ∃ c, A.cs[i0]? = some c := ⟨_, List.getElem?_eq_getElem (by rw [hA.csl]; exact hA.il)⟩
  have hs0 := hsz c0 hc0
  refine ⟨{ h1 with ci := fun k c hk => ⟨(h1.ci k c hk).1, (h1.ci k c hk).2.1, by have := (h1.ci k c hk).2.2; omega⟩, ot := by have := h1.ot; omega }, fun c hc => ?_⟩
  have := mu_ub (h1.ci j c hc).1.ok
  have hnuc : nu c ≤ 16401 := by unfold nu; split <;> omega
  simp only [List.length_nil] at hs0 ⊢
  have : (T + 1 + 1) * 20000 = (T + 1) * 20000 + 20000 := by omega
  omega
end
section
variable {h0 h : H} {S : List Nat} {L : List En}
theorem add_ows (M : Nat) (hs : Sat h0 S h L) : Sat h0 S h ((List.replicate M ((Sl.nil, []) : Sl × List api_Vote)).map owE ++ L) := by
  induction M with
  | zero => exact hs
  | succ M ih =>
    rw [List.replicate_succ, List.map_cons]
    exact ih.nilOwn (T := 37) (n := 41) (α := api_Vote)
/-- a new game, with lists that are empty -/
theorem init_gm {g : Addr} {x : law19_Game} {n M : Nat} {cs : List CS} (x3 : x.plans = Sl.nil) (x4 : x.votes = Sl.nil) (x5 : x.order = Sl.nil) (x6 : x.others = Sl.nil)
    (hs : Sat h0 S h (gmE g x (memN n) cs (List.replicate M Sl.nil) (List.replicate M dz) ++ (cs.flatMap core ++ L))) :
    Sat h0 S h (gmX g n ⟨x, cs, [], [], [], List.replicate M (Sl.nil, []), List.replicate M dz, [], []⟩ L) := by
  have h1 := (((((hs.add0 (e := kE []) (by intro q hq; cases hq) (kE_loc _) rfl).nilOwn (T := 75) (n := 99) (α := api_Block)).nilOwn (T := 4) (n := 1) (α := Bool)).nilOwn (T := 37) (n := 41) (α := api_Vote)).nilOwn (T := 77) (n := 108) (α := api_Plan))
  have h2 := add_ows M h1
  have h3 : Sat h0 S h ((List.replicate M ((Sl.nil, []) : Sl × List api_Vote)).map owE ++ (([own 77 108 Sl.nil ([] : List api_Plan), own 37 41 Sl.nil ([] : List api_Vote), own 4 1 Sl.nil ([] : List Bool), own 75 99 Sl.nil ([] : List api_Block), kE []] ++ gmE g x (memN n) cs (List.replicate M Sl.nil) (List.replicate M dz)) ++ (cs.flatMap core ++ L))) := h2
  have h4 := h3.perm (L' := ((gmE g x (memN n) cs (List.replicate M Sl.nil) (List.replicate M dz) ++ [own 77 108 Sl.nil ([] : List api_Plan), own 37 41 Sl.nil ([] : List api_Vote), own 4 1 Sl.nil ([] : List Bool), own 75 99 Sl.nil ([] : List api_Block), kE []]) ++ (List.replicate M ((Sl.nil, []) : Sl × List api_Vote)).map owE) ++ (cs.flatMap core ++ L)) (by
    rw [← List.append_assoc]
    refine List.Perm.append_right _ ?_
    refine List.perm_append_comm.trans ?_
    exact List.Perm.append_right _ List.perm_append_comm)
  unfold gmX gpre
  rw [x3, x4, x5, x6, List.map_replicate]
  exact h4
end
theorem New1.ci {c : CS} {n M : Nat} {DD : Dig → Prop} {ht : Int} {i : Nat} (h : New1 c n ht i) : CI (fun _ => []) n M DD ht i c := by
  obtain ⟨a1, a2, a3, a4, a5, a6, a7, a8, a9, a10, a11, a12, a13, a14, a15, a16⟩ := h
  exact ⟨a1, a2, a3, a4, (by rw [a7]; exact .nil), (by rw [a7]; intro q h; cases h), (by intro v h; cases h), (by intro v h; cases h), (by intro r d h; cases h), (by rw [a13]; intro h; omega), (by rw [a13, a5]; omega), (by rw [a14, a5]; omega), (by rw [a8]; intro e h; cases h)⟩
theorem saidA_new (M i : Nat) (cs : List CS) (dc : List Dig) : saidA ⟨cs, [], [], [], List.replicate M [], dc, []⟩ i [] = fun _ => [] := by
  funext j
  unfold saidA
  have h1 : (List.replicate M ([] : List api_Vote)).getD j [] = [] := by
    rw [List.getD_eq_getElem?_getD, List.getElem?_replicate]; split <;> rfl
  have h2 : vvs (([] : List PA).map (·.1)) = [] := rfl
  show ((List.replicate M ([] : List api_Vote)).getD j []).map vvV ++ (if j = i then vvs (([] : List PA).map (·.1)) else []) = []
  rw [h1, h2]; simp
theorem AI.new {n M : Nat} {ht : Int} {cs : List CS} (hM : M = n - (n - 1) / 3) (h1 : 1 ≤ n) (hl : cs.length = M) (hcs : ∀ (i : Nat) c, cs[i]? = some c → New1 c n ht i) : AI n M ht 0 ⟨cs, [], [], [], List.replicate M [], List.replicate M dz, []⟩ 0 [] := by
  refine ⟨⟨by omega, hl, by simp, by simp, ?_, ?_, by simp, ?_, by simp, by simp, Nat.le_refl _, ⟨rfl, rfl⟩, ?_⟩, fun c hc => ?_⟩
  · rw [saidA_new]
    exact ⟨fun _ _ => .nil, fun _ _ _ _ h => (by cases h), fun _ _ _ _ h => (by cases h)⟩
  · rw [saidA_new]
    intro j c hj
    have hn := hcs j c hj
    exact ⟨hn.ci, hn.acts, by rw [hn.vts]; exact Nat.zero_le _⟩
  · intro j l hj
    have hj' : (List.replicate M ([] : List api_Vote))[j]? = some l := hj
    rw [List.getElem?_replicate] at hj'
    split at hj'
    · obtain rfl := Option.some.inj hj'; simp
    · cases hj'
  · intro d hd
    exact .inl (List.eq_of_mem_replicate hd)
  · have hn := hcs 0 c hc
    have := mu_ub hn.ok
    have : nu c ≤ 16401 := by unfold nu; split <;> omega
    show 0 + 0 + nu c ≤ _
    omega
theorem cT_idx : ∀ (l : List Bool) (t : Nat), t < cT l → ∃ m, l[m]? = some true ∧ cT (l.take m) = t
  | [], t, h => by simp [cT] at h
  | b :: l, t, h => by
    cases b with
    | false =>
      obtain ⟨m, h1, h2⟩ := cT_idx l t (by simpa [cT] using h)
      exact ⟨m + 1, by simpa using h1, by simpa [cT] using h2⟩
    | true =>
      cases t with
      | zero => exact ⟨0, rfl, rfl⟩
      | succ t =>
        obtain ⟨m, h1, h2⟩ := cT_idx l t (by simpa [cT] using h)
        exact ⟨m + 1, by simpa using h1, by simpa [cT] using h2⟩
theorem cF_idx : ∀ (l : List Bool) (t : Nat), t < cF l → ∃ m, l[m]? = some false ∧ cF (l.take m) = t
  | [], t, h => by simp [cF] at h
  | b :: l, t, h => by
    cases b with
    | true =>
      obtain ⟨m, h1, h2⟩ := cF_idx l t (by simpa [cF] using h)
      exact ⟨m + 1, by simpa using h1, by simpa [cF] using h2⟩
    | false =>
      cases t with
      | zero => exact ⟨0, rfl, rfl⟩
      | succ t =>
        obtain ⟨m, h1, h2⟩ := cF_idx l t (by simpa [cF] using h)
        exact ⟨m + 1, by simpa using h1, by simpa [cF] using h2⟩
section
variable {n : Nat} {ht : Int} {lead : Nat} {D : Dig} {Hs Hs' : Nat → Nat → Prop} {A A' : AG} {i : Nat} {pend pend1 out : List PA}
theorem QI.hearP (h : QI n ht lead D Hs A i []) (h10 : n ≤ 10) (hl : (ht % n) = (lead : Int)) {m : Nat} {e : api_Plan × List api_Request} {c c' : CS} (hP : PlanAt A m e) (hc : A.cs[i]? = some c) (hO : PlanO c e.1 e.2 c' out) (hnu : out.length + nu c' ≤ nu c)
    (hH : ∀ k j, Hs' k j → Hs k j ∨ (k = i ∧ j = m)) : QI n ht lead D Hs' { A with cs := A.cs.set i c' } i out := by
  obtain ⟨a1, a2, a3, a4, a5, a6⟩ := h.ci i c hc
  obtain ⟨p, qs, hp, p1, p2, p3, p4, p5, p6⟩ := h.pls
  have he : e = (p, qs) := by
    have := List.mem_of_getElem? hP.2
    rw [hp] at this; simpa using this
  subst he
  have hst : Stepped (saidA A i []) n n (DDA { A with cs := A.cs.set i c' }) ht i c' out :=
    stepped_plan h.gd a1 a2 (Nat.le_refl _) h10 h.il p5 (show p.Valid < p.Round by omega) (.inl ⟨(p, qs), by rw [hp]; simp, rfl⟩) hO
  obtain ⟨hq, hh⟩ := qs2_plan (S := saidA A i []) a3 h.il hl a2 a5 a6 a4 p2 (show p.Valid < 0 by omega) p6 p1 p4 p5 hO
  have hm : m < A.ord.length := by have := hP.1; rw [List.getElem?_eq_some_iff] at this; exact this.1
  refine h.step (A' := { A with cs := A.cs.set i c' }) (pend1 := []) hc hst hq ?_ rfl rfl rfl (fun _ hd => hd) (by simp) (by simp) h.ot rfl h.ow h.vt h.wv h.vs h.od (by have := h.sz c hc; simp only [List.length_nil, List.nil_append] at this ⊢; omega) (fun k j hk => ?_)
  · have e : saidA { A with cs := A.cs.set i c' } i ([] ++ out) = saidA A i ([] ++ out) := rfl
    rw [e, said_out]
  · rcases hH k j hk with hk | ⟨rfl, rfl⟩
    · obtain ⟨m1, m2⟩ := h.hd k j hk
      exact ⟨m1, m2.mono m1 h.od hc rfl hq [] [] (by simp) rfl (by simp)⟩
    · refine ⟨hm, fun cj hj => ?_⟩
      have hj' : (A.cs.set k c')[k]? = some cj := hj
      rw [List.getElem?_set_self (by rw [h.csl]; exact h.il)] at hj'
      obtain rfl := Option.some.inj hj'
      rcases hh with hh | hh
      · exact .inl hh
      · refine .inr ⟨fun _ _ => hh, fun v hv => ?_⟩
        have h1 : A.ord[j]? = some false := hv.1
        rw [hP.1] at h1; cases h1
theorem QI.hearV (h : QI n ht lead D Hs A i []) (h10 : n ≤ 10) (hl : (ht % n) = (lead : Int)) {m : Nat} {v : api_Vote} {c c' : CS} (hV : VoteAt A m v) (hc : A.cs[i]? = some c) (hO : VoteO c v c' out) (hnu : out.length + nu c' ≤ nu c)
    (hH : ∀ k j, Hs' k j → Hs k j ∨ (k = i ∧ j = m)) : QI n ht lead D Hs' { A with cs := A.cs.set i c' } i out := by
  obtain ⟨a1, a2, a3, a4, a5, a6⟩ := h.ci i c hc
  obtain ⟨k', l, hlk, hvl⟩ := h.vt v (List.mem_of_getElem? hV.2)
  obtain ⟨⟨o1, o2, o3, o4⟩, o5, o6⟩ := h.ow k' l hlk v hvl
  have hk'n : k' < n := by rw [← h.owl]; rw [List.getElem?_eq_some_iff] at hlk; exact hlk.1
  have hbx := h.box h10 hc
  have hst : Stepped (saidA A i []) n n (DDA { A with cs := A.cs.set i c' }) ht i c' out := by
    refine stepped_vote h.gd a1 a2 (Nat.le_refl _) h10 h.il o2 (by omega) (by omega) (fun k2 hk2 e => ?_) hO
    have : k2 = k' := by omega
    subst this
    unfold saidA
    rw [getD_of hlk]
    exact List.mem_append_left _ (List.mem_map.2 ⟨v, hvl, rfl⟩)
  obtain ⟨hq, hh⟩ := qs2_vote (S := saidA A i []) a3 h.il hl a2 a5 a6 a4 o5 o6 o1 (by omega) hO
  have hm : m < A.ord.length := by have := hV.1; rw [List.getElem?_eq_some_iff] at this; exact this.1
  refine h.step (A' := { A with cs := A.cs.set i c' }) (pend1 := []) hc hst hq ?_ rfl rfl rfl (fun _ hd => hd) (by simp) (by simp) h.ot rfl h.ow h.vt h.wv h.vs h.od (by have := h.sz c hc; simp only [List.length_nil, List.nil_append] at this ⊢; omega) (fun k j hk => ?_)
  · have e : saidA { A with cs := A.cs.set i c' } i ([] ++ out) = saidA A i ([] ++ out) := rfl
    rw [e, said_out]
  · rcases hH k j hk with hk | ⟨rfl, rfl⟩
    · obtain ⟨m1, m2⟩ := h.hd k j hk
      exact ⟨m1, m2.mono m1 h.od hc rfl hq [] [] (by simp) rfl (by simp)⟩
    · refine ⟨hm, fun cj hj => ?_⟩
      have hj' : (A.cs.set k c')[k]? = some cj := hj
      rw [List.getElem?_set_self (by rw [h.csl]; exact h.il)] at hj'
      obtain rfl := Option.some.inj hj'
      rcases hh with hh | hh
      · exact .inl hh
      · refine .inr ⟨fun e he => ?_, fun u hu => ?_⟩
        · have h1 : A.ord[j]? = some true := he.1
          rw [hV.1] at h1; cases h1
        · have h1 : A.vts[cF (A.ord.take j)]? = some u := hu.2
          rw [hV.2] at h1
          obtain rfl := Option.some.inj h1
          exact hh
theorem forF_ge {c : CS} {n : Nat} {D : Dig} (h : ∀ j, j < n → ∃ u, mfind c.vts ⟨1, 0, ((j + 1 : Nat) : Int)⟩ = some u ∧ u.Digest = D) : ∀ N, min N n ≤ (forF c.vts 1 0 D N).length
  | 0 => by simp
  | N + 1 => by
    have ih := forF_ge h N
    rw [forF_succ, List.length_append]
    by_cases hN : N < n
    · obtain ⟨u, hu, hd⟩ := h N hN
      have : (pick1 c.vts 1 0 D (N + 1)).length = 1 := by unfold pick1; rw [hu]; simp [hd]
      omega
    · omega
/-- at the end all have decided the plan's block -/
theorem QI.fin (h : QI n ht lead D Hs A i []) (h1 : 1 ≤ n) (h10 : n ≤ 10) (hall : ∀ k, k < n → ∀ m, m < A.ord.length → HS A k m) : ∀ d ∈ A.dc, d = D := by
  by_cases hDz : D = dz
  · intro d hd
    rcases h.dv d hd with h9 | h9
    · rw [h9, hDz]
    · exact h9
  -- what an undecided core knows
  have hS : ∀ j v, v ∈ saidA A i [] j → ∃ l, A.own[j]? = some l ∧ ∃ u ∈ l, vvV u = v := by
    intro j v hv
    unfold saidA at hv
    have e : vvs (([] : List PA).map (·.1)) = [] := rfl
    rw [e] at hv
    have hv' : v ∈ (A.own.getD j []).map vvV := by
      rcases List.mem_append.1 hv with hv | hv
      · exact hv
      · split at hv <;> cases hv
    obtain ⟨u, hu, rfl⟩ := List.mem_map.1 hv'
    cases hj : A.own[j]? with
    | none => rw [List.getD_eq_getElem?_getD, hj] at hu; cases hu
    | some l => rw [getD_of hj] at hu; exact ⟨l, rfl, u, hu, rfl⟩
  have know : ∀ (k : Nat) c, A.cs[k]? = some c → c.x.decided = false → (∃ e, mfind c.pl 0 = some e ∧ digB e.1.Block e.2 = D) ∧ ∀ j kd, (kd, 0, D) ∈ saidA A i [] j → ∃ u, mfind c.vts ⟨kd, 0, ((j + 1 : Nat) : Int)⟩ = some u ∧ u.Digest = D := by
    intro k c hc hd
    have hk : k < n := by rw [← h.csl]; rw [List.getElem?_eq_some_iff] at hc; exact hc.1
    obtain ⟨a1, a2, a3, a4, a5, a6⟩ := h.ci k c hc
    refine ⟨?_, fun j kd hm => ?_⟩
    · obtain ⟨p, qs, hp, _⟩ := h.pls
      obtain ⟨m, m1, m2⟩ := cT_idx A.ord 0 (by rw [h.od.1, hp]; simp)
      have hm : m < A.ord.length := by rw [List.getElem?_eq_some_iff] at m1; exact m1.1
      rcases hall k hk m hm c hc with h9 | ⟨h9, _⟩
      · rw [hd] at h9; cases h9
      · have hne := h9 (p, qs) ⟨m1, by rw [m2, hp]; rfl⟩
        obtain ⟨e, t, hpl⟩ : ∃ e t, c.pl = e :: t := by
          cases hpl : c.pl with
          | nil => exact absurd hpl hne
          | cons e t => exact ⟨e, t, rfl⟩
        have he := a3.pl e (by rw [hpl]; simp)
        have : mfind c.pl 0 = some e.2 := by rw [hpl]; unfold mfind; simp [he.2]
        exact ⟨e.2, this, he.1.2⟩
    · obtain ⟨l, hj, u, hu, huv⟩ := hS j _ hm
      have hw := h.wv j l hj u hu
      obtain ⟨t, ht'⟩ := List.mem_iff_getElem?.1 hw
      have htl : t < A.vts.length := by rw [List.getElem?_eq_some_iff] at ht'; exact ht'.1
      obtain ⟨m, m1, m2⟩ := cF_idx A.ord t (by rw [h.od.2]; exact htl)
      have hm : m < A.ord.length := by rw [List.getElem?_eq_some_iff] at m1; exact m1.1
      rcases hall k hk m hm c hc with h9 | ⟨_, h9⟩
      · rw [hd] at h9; cases h9
      · have hne := h9 u ⟨m1, by rw [m2]; exact ht'⟩
        have hpo : placeOf u = ⟨kd, 0, ((j + 1 : Nat) : Int)⟩ := by
          have e1 : u.Kind = kd := congrArg (fun x : VV => x.1) huv
          have e2 : u.Round = 0 := congrArg (fun x : VV => x.2.1) huv
          have e3 := (h.ow j l hj u hu).1.2.2.2
          unfold placeOf
          rw [e1, e2, e3]
        rw [hpo] at hne
        cases hf : mfind c.vts ⟨kd, 0, ((j + 1 : Nat) : Int)⟩ with
        | none => exact absurd hf hne
        | some w => exact ⟨w, rfl, (a3.vt _ (mfind_mem hf)).2⟩
  have cnt2 : ∀ (k : Nat) c, A.cs[k]? = some c → c.x.decided = false → cntS (saidA A i []) n (2, 0, D) ≤ cntF c.vts 2 ⟨0, D⟩ := by
    intro k c hc hd
    unfold cntS cntF
    generalize hF : (c.vts.filter fun q => decide (q.1.kind = 2) && !decide (q.2.Digest = dz) && decide (chq q = ⟨0, D⟩)) = F
    have h9 := nodup_len (l := (List.range n).filter fun i_1 => decide ((2, 0, D) ∈ saidA A i [] i_1)) (l' := F.map fun q => (q.1.from_ - 1).toNat) (List.nodup_range.sublist List.filter_sublist) (fun j hj => by
      rw [List.mem_filter] at hj
      have hm : (2, 0, D) ∈ saidA A i [] j := of_decide_eq_true hj.2
      obtain ⟨u, hu, hud⟩ := (know k c hc hd).2 j 2 hm
      refine List.mem_map.2 ⟨(⟨2, 0, ((j + 1 : Nat) : Int)⟩, u), ?_, by simp only; omega⟩
      rw [← hF, List.mem_filter]
      refine ⟨mfind_mem hu, ?_⟩
      have e1 : decide (u.Digest = dz) = false := decide_eq_false (by rw [hud]; exact hDz)
      have e2 : chq (⟨2, 0, ((j + 1 : Nat) : Int)⟩, u) = ⟨0, D⟩ := by show (⟨0, u.Digest⟩ : vote_choice) = _; rw [hud]
      simp only [e1, e2]; rfl)
    rw [List.length_map] at h9
    exact h9
  have no2 : ∀ (k : Nat) c, A.cs[k]? = some c → c.x.decided = false → quoN n ≤ cntS (saidA A i []) n (2, 0, D) → False := by
    intro k c hc hd hq
    obtain ⟨a1, a2, a3, a4, a5, a6⟩ := h.ci k c hc
    obtain ⟨⟨e, he, _⟩, _⟩ := know k c hc hd
    refine nw_no a3 (fun hx => ?_) (a4 hd).1 hDz ?_
    · rw [hx] at he; cases he
    · rw [a1.ms, memN_len]
      exact Nat.le_trans hq (cnt2 k c hc hd)
  have alldec : ∀ (k : Nat) c, A.cs[k]? = some c → c.x.decided = true := by
    intro k c hc
    cases hd : c.x.decided with
    | true => rfl
    | false =>
      exfalso
      by_cases hex : ∃ (k' : Nat) (c' : CS), A.cs[k']? = some c' ∧ c'.x.decided = true
      · obtain ⟨k', c', hc', hd'⟩ := hex
        have hk' : k' < n := by rw [← h.csl]; rw [List.getElem?_eq_some_iff] at hc'; exact hc'.1
        obtain ⟨d, hdk⟩ : ∃ d, A.dc[k']? = some d := ⟨_, List.getElem?_eq_getElem (by rw [h.dcl]; exact hk')⟩
        obtain ⟨⟨_, r, hq⟩, _⟩ := h.dd k' c' d hc' hdk hd'
        have hr : r = 0 := by
          unfold QS at hq
          have hpos := quo_pos n
          have h9 : 0 < ((List.range n).filter fun i_1 => decide ((2, r, D) ∈ saidA A i [] i_1)).length := by unfold cntS at hq; omega
          obtain ⟨j, hj⟩ := List.exists_mem_of_length_pos h9
          rw [List.mem_filter] at hj
          exact (h.said j _ (of_decide_eq_true hj.2)).1
        subst hr
        unfold QS at hq
        exact no2 k c hc hd (by omega)
      · have hun : ∀ (j : Nat) cj, A.cs[j]? = some cj → cj.x.decided = false := by
          intro j cj hj
          cases hdj : cj.x.decided with
          | false => rfl
          | true => exact absurd ⟨j, cj, hj, hdj⟩ hex
        have hs23 : ∀ j, j < n → ∃ cj, A.cs[j]? = some cj ∧ 2 ≤ cj.x.step := by
          intro j hj
          obtain ⟨cj, hcj⟩ : ∃ cj, A.cs[j]? = some cj := ⟨_, List.getElem?_eq_getElem (by rw [h.csl]; exact hj)⟩
          refine ⟨cj, hcj, ?_⟩
          obtain ⟨a1, a2, a3, a4, a5, a6⟩ := h.ci j cj hcj
          obtain ⟨⟨e, he, _⟩, _⟩ := know j cj hcj (hun j cj hcj)
          have hst := (a4 (hun j cj hcj)).2
          have hss := a1.ok.st
          by_cases h0 : cj.x.step = 0
          · have := (hst.1 h0).1; rw [this] at he; cases he
          · by_cases h1' : cj.x.step = 1
            · have := hst.2.1 h1'; rw [a3.rd, he] at this; cases this
            · omega
        have hf1 : ∀ j, j < n → (1, 0, D) ∈ saidA A i [] j := by
          intro j hj
          obtain ⟨cj, hcj, h2⟩ := hs23 j hj
          exact (h.ci j cj hcj).2.2.2.2.1 h2
        have hs3 : ∀ j, j < n → (2, 0, D) ∈ saidA A i [] j := by
          intro j hj
          obtain ⟨cj, hcj, h2⟩ := hs23 j hj
          obtain ⟨a1, a2, a3, a4, a5, a6⟩ := h.ci j cj hcj
          have hst := (a4 (hun j cj hcj)).2
          have hss := a1.ok.st
          obtain ⟨⟨e, he, hed⟩, hv⟩ := know j cj hcj (hun j cj hcj)
          by_cases h3 : cj.x.step = 3
          · exact a6 h3
          · exfalso
            have h2' : cj.x.step = 2 := by omega
            have hfb := (hst.2.2.1 h2').1 e.1 e.2 (by rw [a3.rd]; exact he)
            rw [hed, a3.rd] at hfb
            unfold firstB at hfb
            have hge := forF_ge (c := cj) (fun j' hj' => hv j' 1 (hf1 j' hj')) 63
            have hfb' : ¬ (quoN cj.ms.length : Int) ≤ ((forF cj.vts 1 0 D 63).length : Int) := by simpa using hfb
            rw [a1.ms, memN_len] at hfb'
            have : quoN n ≤ n := by unfold quoN; omega
            have : min 63 n = n := by omega
            omega
        refine no2 k c hc hd ?_
        have : cntS (saidA A i []) n (2, 0, D) = n := by
          unfold cntS
          rw [List.filter_eq_self.2 (fun j hj => decide_eq_true (hs3 j (List.mem_range.1 hj))), List.length_range]
        rw [this]
        unfold quoN; omega
  intro d hd
  obtain ⟨k, hk⟩ := List.mem_iff_getElem?.1 hd
  have hkn : k < n := by rw [← h.dcl]; rw [List.getElem?_eq_some_iff] at hk; exact hk.1
  obtain ⟨c, hc⟩ : ∃ c, A.cs[k]? = some c := ⟨_, List.getElem?_eq_getElem (by rw [h.csl]; exact hkn)⟩
  exact ((h.dd k c d hc hk (alldec k c hc)).2).resolve_right (fun ⟨_, e, he, _⟩ => by cases he)
end
/-- a core that has heard nothing -/
structure Q0 (n : Nat) (ht : Int) (lead j : Nat) (c : CS) : Prop where
  ci : ∀ DD, CI (fun _ => []) n n DD ht j c
  acts : c.acts = []
  vts : c.vts = []
  pl : c.pl = []
  dec : c.x.decided = false
  rd : c.rd = 0
  lk : c.x.locked.round < 0
  st1 : j = lead → c.x.step = 1
  st0 : j ≠ lead → c.x.step = 0
structure QI0 (n : Nat) (ht : Int) (lead : Nat) (A : AG) (i : Nat) (pend : List PA) : Prop where
  ie : i = lead
  il : lead < n
  csl : A.cs.length = n
  ow : A.own = List.replicate n []
  dc : A.dc = List.replicate n dz
  ot : A.oth = []
  pls : A.pls = []
  vts : A.vts = []
  ord : A.ord = []
  pd : ∃ a qs, pend = [(a, qs)] ∧ a.Act = 1 ∧ a.Round = 0 ∧ a.Valid = -1
  cs : ∀ (j : Nat) c, A.cs[j]? = some c → Q0 n ht lead j c
  sz : ∀ c, A.cs[i]? = some c → pend.length + nu c ≤ 16402
section
variable {n : Nat} {ht : Int} {lead : Nat} {D : Dig} {A A' : AG} {i : Nat} {pend out : List PA}
theorem Q0.qc {j : Nat} {c : CS} (h : Q0 n ht lead j c) : QC D n ht lead j c :=
  ⟨h.rd, by rw [h.vts]; simp, by rw [h.pl]; simp, by rw [h.pl]; intro e; exact absurd rfl e, fun e => by rw [h.st1 e]; decide, fun _ => h.lk, (h.ci fun _ => True).ms, (h.ci fun _ => True).me, (h.ci fun _ => True).ht, (h.ci fun _ => True).ok⟩
theorem Q0.le1 {j : Nat} {c : CS} (h : Q0 n ht lead j c) : c.x.step ≤ 1 := by
  by_cases e : j = lead
  · rw [h.st1 e]; decide
  · rw [h.st0 e]; decide
theorem Q0.stp {j : Nat} {c : CS} (h : Q0 n ht lead j c) : NW c ∧ Stp c := by
  refine ⟨nw_nil h.vts, fun _ => ⟨h.pl, by rw [h.vts]; simp⟩, fun _ => by rw [h.pl]; rfl, fun e => ?_, fun e => ?_⟩
  · have := h.le1; omega
  · have := h.le1; omega
theorem QI0.said (h : QI0 n ht lead A i pend) : saidA A i pend = fun _ => [] := by
  obtain ⟨a, qs, hp, ha, _⟩ := h.pd
  have hne : a.Act ≠ 2 := by rw [ha]; decide
  rw [hp, said_skip hne]
  funext j
  unfold saidA
  rw [h.ow]
  have h1 : (List.replicate n ([] : List api_Vote)).getD j [] = [] := by
    rw [List.getD_eq_getElem?_getD, List.getElem?_replicate]; split <;> rfl
  have h2 : vvs (([] : List PA).map (·.1)) = [] := rfl
  rw [h1, h2]; simp
theorem QI0.adm (h10 : n ≤ 10) (h : QI0 n ht lead A i pend) : i < A.cs.length ∧ A.own.length = A.cs.length ∧ A.dc.length = A.cs.length ∧ A.cs.length ≤ 10 ∧ (∀ (j : Nat) c, A.cs[j]? = some c → Cok c ∧ c.acts = [] ∧ c.ht = ht ∧ c.vts.length + 1 < 2 ^ 19) ∧ A.pls.length < 2 ^ 30 ∧ A.vts.length < 2 ^ 30 ∧ A.ord.length < 2 ^ 30 ∧ A.oth.length < 2 ^ 30 ∧ (∀ l ∈ A.own, l.length < 2 ^ 30) ∧ pend.length < 2 ^ 30 := by
  have hil := h.il
  have hi := h.ie
  obtain ⟨a, qs, hp, _⟩ := h.pd
  refine ⟨by rw [h.csl, hi]; exact hil, by rw [h.ow, h.csl, List.length_replicate], by rw [h.dc, h.csl, List.length_replicate], by rw [h.csl]; exact h10, fun j c hj => ?_, by rw [h.pls]; decide, by rw [h.vts]; decide, by rw [h.ord]; decide, by rw [h.ot]; decide, fun l hl => ?_, by rw [hp]; simp⟩
  · have hq := h.cs j c hj
    exact ⟨(hq.ci fun _ => True).ok, hq.acts, (hq.ci fun _ => True).ht, by rw [hq.vts]; decide⟩
  · rw [h.ow] at hl
    rw [List.eq_of_mem_replicate hl]; decide
theorem QI0.plan (h1 : 1 ≤ n) (h10 : n ≤ 10) (hl : (ht % n) = (lead : Int)) {a : api_Act} {qs qs' : List api_Request} {c c' : CS} {p : api_Plan} (h : QI0 n ht lead A i ((a, qs) :: pend)) (hc : A.cs[i]? = some c) (hp1 : p.Height = ht) (hp2 : p.Round = a.Round) (hp3 : p.Valid = a.Valid) (hp4 : p.From = ((i + 1 : Nat) : Int)) (hq : reqsN qs' < 2 ^ 30) (hO : PlanO c p qs' c' out) (hnu : out.length + nu c' ≤ nu c) :
    QI n ht lead (digB p.Block qs') (fun _ _ => False) { A with pls := A.pls ++ [(p, qs')], ord := A.ord ++ [true], cs := A.cs.set i c' } i (pend ++ out) := by
  have hi := h.ie
  have hil : i < n := by rw [hi]; exact h.il
  obtain ⟨a', q', hpd, ha1, ha2, ha3⟩ := h.pd
  rw [List.cons.injEq, Prod.mk.injEq] at hpd
  obtain ⟨⟨rfl, rfl⟩, rfl⟩ := hpd
  have hq0 := h.cs i c hc
  have hsd := h.said
  have hg : ∀ DD, GoodS (fun _ => [] : Said) n n DD := fun DD => ⟨fun _ _ => .nil, fun _ _ _ _ hx => (by cases hx), fun _ _ _ _ hx => (by cases hx)⟩
  have hDD : DDA { A with pls := A.pls ++ [(p, qs')], ord := A.ord ++ [true], cs := A.cs.set i c' } (digB p.Block qs') := .inl ⟨(p, qs'), by simp, rfl⟩
  have hst : Stepped (fun _ => [] : Said) n n (DDA { A with pls := A.pls ++ [(p, qs')], ord := A.ord ++ [true], cs := A.cs.set i c' }) ht i c' out :=
    stepped_plan (hg _) (hq0.ci _) hq0.acts (Nat.le_refl _) h10 hil hq (show p.Valid < p.Round by omega) hDD hO
  obtain ⟨hQ, _⟩ := qs2_plan (S := (fun _ => [] : Said)) (D := digB p.Block qs') hq0.qc hil hl hq0.acts (fun e => by have := hq0.le1; omega) (fun e => by have := hq0.le1; omega) (fun _ => hq0.stp) (by omega) (show p.Valid < 0 by omega) rfl hp1 (by rw [hp4, hi]) hq hO
  obtain ⟨s1, s2, s3, s4⟩ := hst
  have hsd2 : saidA { A with pls := A.pls ++ [(p, qs')], ord := A.ord ++ [true], cs := A.cs.set i c' } i ([] ++ out) = updS (fun _ => []) i ([] ++ vvs (out.map (·.1))) := by
    have e : saidA { A with pls := A.pls ++ [(p, qs')], ord := A.ord ++ [true], cs := A.cs.set i c' } i ([] ++ out) = saidA A i ([] ++ out) := rfl
    rw [e, said_out]
    have hne : a.Act ≠ 2 := by rw [ha1]; decide
    have e2 : saidA A i [] = fun _ => [] := by rw [← hsd, said_skip hne]
    rw [e2]
  have hcl : i < A.cs.length := by rw [h.csl]; exact hil
  have hle : SaidLe (fun _ => []) (updS (fun _ => []) i ([] ++ vvs (out.map (·.1)))) := by intro j v hv; cases hv
  refine ⟨hil, by show (A.cs.set i c').length = n; rw [List.length_set]; exact h.csl, by show A.own.length = n; rw [h.ow, List.length_replicate], by show A.dc.length = n; rw [h.dc, List.length_replicate], h.ot, ⟨p, qs', by show A.pls ++ [(p, qs')] = _; rw [h.pls]; rfl, hp1, by omega, by omega, by rw [hp4, hi], hq, rfl⟩, by rw [hsd2]; exact s1, ?_, ?_, ?_, ?_, ?_, ?_, ⟨?_, ?_⟩, ?_, ?_, fun cc hcc => ?_, fun k m hk => hk.elim⟩
  · rw [hsd2]
    intro j cj hj
    have hj' : (A.cs.set i c')[j]? = some cj := hj
    by_cases hij : i = j
    · subst hij
      rw [List.getElem?_set_self hcl] at hj'
      obtain rfl := Option.some.inj hj'
      rw [updS_self]
      exact ⟨s2, s3, hQ.qc, hQ.st, hQ.s1, hQ.s2⟩
    · rw [List.getElem?_set_ne hij] at hj'
      have hqj := h.cs j cj hj'
      rw [updS_ne _ _ (Ne.symm hij)]
      have := hqj.le1
      exact ⟨(hqj.ci _).mono hle (updS_ne _ _ (Ne.symm hij)) (fun _ hd => hd), hqj.acts, hqj.qc, fun _ => hqj.stp, fun e => by omega, fun e => by omega⟩
  · rw [hsd2]
    intro e he
    exact ⟨s4 e he, hQ.act e he⟩
  · intro j l hj v hv
    have hj' : A.own[j]? = some l := hj
    rw [h.ow, List.getElem?_replicate] at hj'
    split at hj'
    · obtain rfl := Option.some.inj hj'; cases hv
    · cases hj'
  · intro v hv
    have hv' : v ∈ A.vts := hv
    rw [h.vts] at hv'; cases hv'
  · intro j l hj v hv
    have hj' : A.own[j]? = some l := hj
    rw [h.ow, List.getElem?_replicate] at hj'
    split at hj'
    · obtain rfl := Option.some.inj hj'; cases hv
    · cases hj'
  · show A.vts.length = (A.own.map List.length).sum
    rw [h.vts, h.ow, List.map_replicate]
    simp
  · show cT (A.ord ++ [true]) = (A.pls ++ [(p, qs')]).length
    rw [h.ord, h.pls]; rfl
  · show cF (A.ord ++ [true]) = A.vts.length
    rw [h.ord, h.vts]; rfl
  · intro d hd
    have hd' : d ∈ A.dc := hd
    rw [h.dc] at hd'
    exact .inl (List.eq_of_mem_replicate hd')
  · rw [hsd2]
    intro j cj d hj hd hdec
    have hj' : (A.cs.set i c')[j]? = some cj := hj
    by_cases hij : i = j
    · subst hij
      rw [List.getElem?_set_self hcl] at hj'
      obtain rfl := Option.some.inj hj'
      rcases hQ.dd hdec with ⟨hcd, _⟩ | ⟨e, he, h3e⟩
      · rw [hq0.dec] at hcd; cases hcd
      · have hS := (s4 e he).dec h3e
        rw [(hQ.act e he).2.2 h3e] at hS
        exact ⟨hS, .inr ⟨rfl, e, he, h3e⟩⟩
    · rw [List.getElem?_set_ne hij] at hj'
      have := (h.cs j cj hj').dec
      rw [this] at hdec; cases hdec
  · have hcc' : (A.cs.set i c')[i]? = some cc := hcc
    rw [List.getElem?_set_self hcl] at hcc'
    obtain rfl := Option.some.inj hcc'
    have := h.sz c hc
    simp only [List.length_cons, List.nil_append, List.length_nil] at this ⊢
    omega
/-- the first acts: a plan is made, and all that comes of it -/
theorem QI0.gi (h1 : 1 ≤ n) (h10 : n ≤ 10) (hl : (ht % n) = (lead : Int)) : GI n ht (fun A i pend => QI0 n ht lead A i pend ∨ ∃ D, QI n ht lead D (fun _ _ => False) A i pend) := by
  have hno : ∀ {A : AG} {i : Nat} {a : api_Act} {qs : List api_Request} {pend : List PA}, QI0 n ht lead A i ((a, qs) :: pend) → a.Act = 1 := by
    intro A i a qs pend h
    obtain ⟨a', q', hpd, ha1, _⟩ := h.pd
    rw [List.cons.injEq, Prod.mk.injEq] at hpd
    rw [hpd.1.1]; exact ha1
  refine ⟨?_, ?_, ?_, ?_, ?_⟩
  · rintro A i pend (h | ⟨D, h⟩)
    · exact h.adm h10
    · exact h.adm h10
  · rintro A i a qs pend c c' out p qs' (h | ⟨D, h⟩) ha hc hp1 hp2 hp3 hp4 hp5 hq hO hnu
    · exact .inr ⟨_, h.plan h1 h10 hl hc hp1 hp2 hp3 hp4 hq hO hnu⟩
    · exact .inr ⟨D, (QI.gi h1 h10 hl).plan _ _ _ _ _ _ _ _ _ _ h ha hc hp1 hp2 hp3 hp4 hp5 hq hO hnu⟩
  · rintro A i a qs pend c c' out l (h | ⟨D, h⟩) ha hc hl' hO hnu
    · rw [hno h] at ha; cases ha
    · exact .inr ⟨D, (QI.gi h1 h10 hl).vote _ _ _ _ _ _ _ _ _ h ha hc hl' hO hnu⟩
  · rintro A i a qs pend d (h | ⟨D, h⟩) ha hd
    · rw [hno h] at ha; cases ha
    · obtain ⟨b1, b2⟩ := (QI.gi h1 h10 hl).dec _ _ _ _ _ d h ha hd
      exact ⟨b1, .inr ⟨D, b2⟩⟩
  · rintro A i a qs pend (h | ⟨D, h⟩) ha1 ha2 ha3
    · exact absurd (hno h) ha1
    · exact .inr ⟨D, (QI.gi h1 h10 hl).oth _ _ _ _ _ h ha1 ha2 ha3⟩
theorem New1.q0 {j : Nat} {c : CS} (h : New1 c n ht j) (hj : j ≠ lead) : Q0 n ht lead j c :=
  ⟨fun _ => h.ci, h.acts, h.vts, h.pl, h.dec, h.rd, by rw [h.lk]; decide, fun e => absurd e hj, fun _ => h.step⟩
theorem start_q0 {c c' : CS} (h : New1 c n ht lead) (hln : lead < n) (hl : (ht % n) = (lead : Int)) (hO : StartO c c' out) : Q0 n ht lead lead c' ∧ ∃ a qs, out = [(a, qs)] ∧ a.Act = 1 ∧ a.Round = 0 ∧ a.Valid = -1 := by
  rcases hO with ⟨hd, _⟩ | ⟨hd, c0, c1, hst, hm, rfl, rfl⟩
  · rw [h.dec] at hd; cases hd
  obtain ⟨r, o, rfl⟩ : ∃ r o, c0 = enterC c 0 r o := by
    rcases hst with ⟨_, r, o, e⟩ | ⟨hne, _⟩
    · exact ⟨r, o, e⟩
    · exact absurd h.step hne
  obtain ⟨a, KA, out, he, ha⟩ := enterC_eq c 0 r o
  have hc1 : Cok (enterC c 0 r o) := (h.ok.enter (by rw [h.acts]; decide) (by decide) r o).1
  have hq : c1 = enterC c 0 r o := mvs_quiet hm (by rw [he]; exact Int.le_refl _) (by rw [he]; exact h.vts) (by rw [he]; exact h.pl)
  subst hq
  have hmem : isMem c = true := isMem_N h.ms h.me hln
  have hid : (idAt c c.ht 0 == c.x.me) = true := by
    rw [idAt_N h.ms (by omega), h.me, h.ht, Int.add_zero, hl]
    have : ((lead : Int) + 1 = ((lead + 1 : Nat) : Int)) := by omega
    simpa using this
  rw [h.acts, hmem, hid] at ha
  simp only [List.nil_append, Bool.and_self, if_true] at ha
  refine ⟨⟨fun DD => ?_, rfl, by rw [he]; exact h.vts, by rw [he]; exact h.pl, by rw [he]; exact h.dec, by rw [he]; rfl, by rw [he]; show c.x.locked.round < 0; rw [h.lk]; decide, fun _ => by rw [he]; rfl, fun e => absurd rfl e⟩, ?_⟩
  · have hci := h.ci (M := n) (DD := DD)
    have hcc := hc1.clr
    rw [he] at hcc ⊢
    exact { hci with ok := hcc, bel := (fun v hv => (by cases hv)), lk3 := (by show c.x.locked.round ≤ 0 ∧ (c.x.locked.round = 0 → (1 : Int) = 3); rw [h.lk]; decide), vl3 := (by show c.x.valid.round ≤ 0 ∧ (c.x.valid.round = 0 → (1 : Int) = 3); rw [h.vl]; decide) }
  · rw [he]
    show ∃ a_1 qs, a = [(a_1, qs)] ∧ _
    exact ⟨_, _, ha, rfl, rfl, h.vl⟩
end
theorem ref08_Faults.ok (n : Int) (k : Int → H → Prop) (h : H) (hh : ref08_Faults.b n k h) : CallsH Prog 27 [reg n].toArray h fun v h' => ∃ r : Int, v = reg r ∧ k r h' := by
 unfold ref08_Faults.b at hh
 refine CallsH.of 13 Tryd.func27 rfl Tryd.ntmps27 rfl (fun w0 => ?_)
 refine .sr (.A (reg ((0 : Int) : Int)) (.nx (.sr (.A (reg ((0 : Int) : Int)) (.nx ?_)))))
 refine CW.join (fun ρ h => ∃ (ρ' : Env) (f_1 : Int), ρ = setl ρ' [(3, reg f_1)] ∧ (ref08_Faults.j1 k) f_1 h) ?_ ?_
 ·refine CW.block ?_
  unfold ref08_Faults.l1 at hh
  refine CW.loop (fun (σ0 : Int) ρ => match σ0 with | f => ∃ ρ' : Env, ρ = setl ρ' [(0, reg n), (3, reg f)]) hh ⟨_, setl_eq ⟨rfl, ⟨rfl, trivial⟩⟩⟩ ?_
  clear hh
  rintro s1 f ρ h ⟨ρ', rfl⟩ hh
  refine CW.seq ?_
  refine .sr (.M (reg f) (.V (v_iadd rfl rfl) (.V (v_imul rfl rfl) (.V (v_iadd rfl rfl) (.M (reg n) (.V (v_ileq rfl rfl) (.nx ?_)))))))
  refine CW.cond (decide ((iadd (imul (3 : Int) (iadd f (1 : Int))) (1 : Int)) ≤ n)) rfl (fun hb => ?_) (fun hb => ?_)
  ·have hh := hh.1 hb
   refine CW.skip ?_
   refine QN.then_ ?_
   refine CW.block ?_
   refine CW.region ?_
   refine .M (reg f) (.V (v_iadd rfl rfl) (.A (reg ((iadd f (1 : Int)) : Int)) ?_))
   refine .nil ?_
   refine QN.blockN ?_
   exact QN.thenJ ⟨(iadd f (1 : Int)), ⟨_, setl_eq ⟨rfl, ⟨rfl, trivial⟩⟩⟩, hh⟩
  ·have hh := hh.2 hb
   refine CW.exit ?_
   refine QN.thenExit ?_
   refine QN.thenExit ?_
   refine QN.blockExit ?_
   exact QN.thenJ ⟨_, f, setl_eq ⟨rfl, trivial⟩, hh⟩
 ·rintro ρ h ⟨ρ', f_1, rfl, hh⟩
  unfold ref08_Faults.j1 at hh
  refine .sr (.M (reg f_1) (.A (reg f_1) (.nx ?_)))
  refine CW.ret ?_
  exact ret1 rfl rfl ⟨(f_1 : Int), rfl, hh⟩
end Go.Proofs.YtimmoekliphobaaDoor

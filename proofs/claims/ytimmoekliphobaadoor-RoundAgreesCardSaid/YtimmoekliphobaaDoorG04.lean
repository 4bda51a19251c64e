/-
  THE CARD OF wapentakelaw19.RoundAgrees: for every input that the row lets in, RoundAgrees returns true and its arguments read as they did. Part 4 of 15. No condition stands ahead of the statement. Parts of this text were printed by a program of ours.
-/
import Derived.Test.YtimmoekliphobaaDoorG03
import Derived.Deep.Slices
import Derived.OpenShut
set_option linter.all false
set_option maxRecDepth 100000
set_option maxHeartbeats 4000000
namespace Go.Proofs.YtimmoekliphobaaDoor
open Go Go.Sh
open Go.Sh.Ty (reg)
def dz : Dig := fun _ => 0
def chq (q : vote_place × api_Vote) : vote_choice := ⟨q.1.round, q.2.Digest⟩
def cntF (done : Vts) (kind : Int) (ch : vote_choice) : Nat := (done.filter fun q => decide (q.1.kind = kind) && !decide (q.2.Digest = dz) && decide (chq q = ch)).length
structure CountOf (cs : List (vote_choice × Int)) (done : Vts) (kind : Int) : Prop where
  nodup : (cs.map (·.1)).Nodup
  cnt : ∀ ch, mfind cs ch = if cntF done kind ch = 0 then none else some (cntF done kind ch : Int)
theorem cntF_perm {a b : Vts} (h : a.Perm b) (kind : Int) (ch : vote_choice) : cntF a kind ch = cntF b kind ch := (h.filter _).length_eq
theorem CountOf.perm {cs : List (vote_choice × Int)} {a b : Vts} {kind : Int} (h : CountOf cs a kind) (hp : a.Perm b) : CountOf cs b kind := ⟨h.nodup, fun ch => by rw [h.cnt, cntF_perm hp]⟩
theorem cntF_snoc (done : Vts) (q : vote_place × api_Vote) (kind : Int) (ch : vote_choice) : cntF (done ++ [q]) kind ch = cntF done kind ch + if q.1.kind = kind ∧ q.2.Digest ≠ dz ∧ chq q = ch then 1 else 0 := by
  unfold cntF
  rw [List.filter_append, List.length_append]
  congr 1
  by_cases h1 : q.1.kind = kind <;> by_cases h2 : q.2.Digest = dz <;> by_cases h3 : chq q = ch <;> simp [h1, h2, h3]
theorem cntF_le (done : Vts) (kind : Int) (ch : vote_choice) : cntF done kind ch ≤ done.length := List.length_filter_le _ _
theorem CountOf.skip {cs : List (vote_choice × Int)} {done : Vts} {kind : Int} (h : CountOf cs done kind) (q : vote_place × api_Vote) (hq : ¬ (q.1.kind = kind ∧ q.2.Digest ≠ dz)) : CountOf cs (done ++ [q]) kind := by
  refine ⟨h.nodup, fun ch => ?_⟩
  have hz : (if q.1.kind = kind ∧ q.2.Digest ≠ dz ∧ chq q = ch then 1 else 0) = 0 := if_neg (fun hx => hq ⟨hx.1, hx.2.1⟩)
  rw [h.cnt, cntF_snoc, hz, Nat.add_zero]
theorem CountOf.put {cs : List (vote_choice × Int)} {done : Vts} {kind : Int} (h : CountOf cs done kind) (q : vote_place × api_Vote) (h1 : q.1.kind = kind) (h2 : q.2.Digest ≠ dz) : CountOf (mins (mins cs (chq q) (cntF done kind (chq q) : Int)) (chq q) ((cntF done kind (chq q) + 1 : Nat) : Int)) (done ++ [q]) kind := by
  refine ⟨mins_nodup _ _ _ (mins_nodup _ _ _ h.nodup), fun ch => ?_⟩
  rw [mfind_mins, mfind_mins, cntF_snoc]
  by_cases hc : ch = chq q
  · subst hc
    simp [h1, h2]
  · have hz : (if q.1.kind = kind ∧ q.2.Digest ≠ dz ∧ chq q = ch then 1 else 0) = 0 := if_neg (fun hx => hc hx.2.2.symm)
    rw [if_neg hc, if_neg hc, h.cnt, hz, Nat.add_zero]
def digL (d : Dig) : List UInt8 := List.ofFn d
def WinOf (cs : List (vote_choice × Int)) (quorum : Int) (best : Dig) (at_ : Int) (found : Bool) : Prop :=
  (found = false ∧ at_ = 0 ∧ best = dz ∧ ∀ p ∈ cs, ¬ quorum ≤ p.2) ∨ (found = true ∧ ∃ n, ((⟨at_, best⟩ : vote_choice), n) ∈ cs ∧ quorum ≤ n ∧ ∀ p ∈ cs, quorum ≤ p.2 → p.1.round < at_ ∨ (p.1.round = at_ ∧ 0 ≤ cmpL (digL p.1.digest) (digL best)))
theorem WinOf.perm {a b : List (vote_choice × Int)} {quorum : Int} {best : Dig} {at_ : Int} {found : Bool} (h : WinOf a quorum best at_ found) (hp : a.Perm b) : WinOf b quorum best at_ found := by
  rcases h with ⟨h1, h2, h3, h4⟩ | ⟨h1, n, h2, h3, h4⟩
  · exact .inl ⟨h1, h2, h3, fun p hb => h4 p (hp.mem_iff.2 hb)⟩
  · exact .inr ⟨h1, n, hp.mem_iff.1 h2, h3, fun p hb => h4 p (hp.mem_iff.2 hb)⟩
theorem len_choice (y : vote_choice) : (enc y).length = 33 := len_vote_choice y
theorem choice_dig {h : H} {c : Addr} {x : vote_choice} (H : AtH h c (enc x)) : SV 1 h ((⟨some (c.add 1), 32, 32⟩ : Sl).cut 1 0 32 32) (List.ofFn x.digest) := by
  have h1 := H.sub 1 32
  have e : ((enc x).drop 1).take 32 = enc x.digest := by
    have : enc x = enc x.round ++ enc x.digest := rfl
    rw [this]
    have h2 : enc x.round = [reg x.round] := rfl
    rw [h2]
    have := arr_len x.digest
    simp only [List.cons_append, List.nil_append, List.drop_succ_cons, List.drop_zero]
    rw [List.take_of_length_le (by omega)]
  rw [e] at h1
  have hv := arr_SV (n := 32) (l := List.ofFn x.digest) (by simp) (by rw [arrOf_ofFn]; exact h1)
  have := hv.cut len_u8 (lo := 0) (hi := 32) (mx := 32) (by omega) (Nat.le_refl _) (Nat.le_refl _)
  rwa [List.drop_zero, List.take_of_length_le (by simp)] at this
theorem Winner_spec (p : Addr) (r : Nat) (l : Vts) (kind quorum : Int) {k : T3 Dig Int Bool → H → Prop} {h : H} (hb : BoxA p r l h) (hl : l.length < 2 ^ 20)
    (hk : ∀ (cs : List (vote_choice × Int)) best at_ found h', Ext h h' → CountOf cs l kind → WinOf cs quorum best at_ found → k ⟨best, at_, found⟩ h') : vote_Box_Winner.b (some p) kind quorum k h := by
  unfold vote_Box_Winner.b
  have hrlt := mpE_lt hb.2.1
  refine (Sat.init h).box_ (fun t6 h1 hs1 _ _ => ?_)
  refine vote_none.ok _ _ (none_spec (fun h2 hx2 => ?_))
  have hs2 := hs1.ext hx2
  refine hs2.box_ (fun best h3 hs3 _ _ => ?_)
  refine hs3.st_ 0 rfl arr_len (fun h4 hs4 _ => ?_)
  refine ifb_i (fun hc => by cases hc) (fun _ => ?_)
  refine hs4.mkmap_ (κ := vote_choice) (ν := Int) (fun sn h5 hs5 _ => ?_)
  refine nn_i ?_
  refine ld_old (hb.1.at_.ext hs5.fr) ?_
  refine hs5.rng_ (mpE_is (hb.ext hs5.fr).2.1) (fun it h6 o hs6 hR6 _ => ?_)
  unfold vote_Box_Winner.l1
  refine ⟨fun _ h' => ∃ (cs : List (vote_choice × Int)) (o : Obj) (done todo : Vts), Sat h [] h' [rawE it.block o, mpE sn cs, cel 24 best (enc dz), cel 24 t6 (enc dz)] ∧ Rng h' it ⟨some r⟩ todo ∧ (done ++ todo).Perm l ∧ CountOf cs done kind,
    fun _ h' => tlen h' it, ⟨[], o, [], l, hs6, hR6, by simp, ⟨by simp, fun ch => by simp [mfind, cntF]⟩⟩, ?_⟩
  clear hs1 hs2 hs3 hs4 hs5 hs6 hR6 hx2
  rintro ⟨⟩ h3 ⟨cs, o, done, todo, hs3, hR3, hp3, hC3⟩
  have ht3 := Rng_tlen hR3
  refine hs3.nxt_ 0 rfl hR3 (fun h0 => ?_) (fun q rest h4 o' hq hs4 hR4 hE4 => ?_)
  · refine ifb_i (fun hc => by cases hc) (fun _ => ?_)
    subst h0
    rw [List.append_nil] at hp3
    have hC := hC3.perm hp3
    clear hC3 hR3 ht3
    unfold vote_Box_Winner.j1
    obtain ⟨es, clk, q1, q2⟩ := (show (mpE sn cs).A h3 from hs3.at_ (i := 1) rfl)
    have hs4 : Sat h [] h3 [rawE it.block o, rawE sn (.map es clk), cel 24 best (enc dz), cel 24 t6 (enc dz)] :=
      hs3.upd (i := 1) (e := mpE sn cs) rfl (Fr.refl _ _) q1 (rawE_loc _ _) (by intro b hb'; simp only [rawE, List.mem_singleton] at hb'; subst hb'; rw [Array.getElem?_eq_some_iff] at q1; exact ⟨q1.1, .inl (by simp [mpE])⟩)
    refine hs4.rng_ (.inr ⟨sn, es, clk, rfl, q1, q2⟩) (fun it2 h5 o2 hs5 hR5 _ => ?_)
    unfold vote_Box_Winner.l2
    refine ⟨fun (st : Int × Bool) h' => ∃ (bd : Dig) (o2 : Obj) (done todo : List (vote_choice × Int)), Sat h [] h' [rawE it2.block o2, rawE it.block o, rawE sn (.map es clk), cel 24 best (enc bd), cel 24 t6 (enc dz)] ∧ Rng h' it2 ⟨some sn⟩ todo ∧ (done ++ todo).Perm cs ∧ WinOf done quorum bd st.1 st.2,
      fun _ h' => tlen h' it2, ⟨dz, o2, [], cs, hs5, hR5, by simp, .inl ⟨rfl, rfl, rfl, by simp⟩⟩, ?_⟩
    clear hs3 hs4 hs5 hR5
    rintro ⟨at_, found⟩ h6 ⟨bd, o2, done2, todo2, hs6, hR6, hp6, hW6⟩
    simp only at hW6
    have ht6 := Rng_tlen hR6
    refine hs6.nxt_ 0 rfl hR6 (fun h0 => ?_) (fun c rest2 h7 o3 hq2 hs7 hR7 hE7 => ?_)
    · refine ifb_i (fun hc => by cases hc) (fun _ => ?_)
      subst h0
      rw [List.append_nil] at hp6
      unfold vote_Box_Winner.j3
      refine hs6.ld_ 3 rfl ?_
      refine hs6.st_ 4 rfl arr_len (fun h8 hs8 _ => ?_)
      refine hs8.ld_ 4 rfl ?_
      exact hk cs bd at_ found _ hs8.fr hC (hW6.perm hp6)
    · refine ifb_i (fun _ => ?_) (fun hc => by cases hc)
      refine ⟨⟨c.1, c.2⟩, ⟨_, hE7⟩, ?_⟩
      have hlen2 : rest2.length < todo2.length := by rw [hq2.length_eq]; simp
      have hdone2 : ((done2 ++ [c]) ++ rest2).Perm cs := by
        refine List.Perm.trans ?_ hp6
        rw [List.append_assoc]
        exact List.Perm.append_left _ hq2.symm
      have hmap7 : h7[sn]? = some (.map es clk) := hs7.at_ (i := 2) rfl
      have hit7 : h7[it2.block]? = some o3 := hs7.at_ (i := 0) rfl
      have tr2 : ∀ {h' : H}, h'[it2.block]? = some o3 → h'[sn]? = some (.map es clk) → Rng h' it2 ⟨some sn⟩ rest2 := fun {h'} ha hb' => Rng_tr hR7 (by rw [ha, hit7]) (fun r' hr' => by
        obtain rfl : sn = r' := Option.some.inj hr'
        rw [hb', hmap7])
      refine hs7.box_ (fun cc h8 hs8 _ _ => ?_)
      refine hs8.st_ 0 rfl len_choice (fun h9 hs9 _ => ?_)
      refine hs9.ld_ 0 rfl ?_
      -- what is done with the test's answer
      have tail : ∀ (first : Bool) h', Sat h [] h' [cel 128 cc (enc c.1), rawE it2.block o3, rawE it.block o, rawE sn (.map es clk), cel 24 best (enc bd), cel 24 t6 (enc dz)] →
          (first = true → (found = false ∨ at_ < c.1.round ∨ (c.1.round = at_ ∧ cmpL (digL c.1.digest) (digL bd) < 0))) →
          (first = false → found = true ∧ (c.1.round < at_ ∨ (c.1.round = at_ ∧ 0 ≤ cmpL (digL c.1.digest) (digL bd)))) →
          vote_Box_Winner.j4 (fun s' h' => (fun (st : Int × Bool) h' => ∃ (bd : Dig) (o2 : Obj) (done todo : List (vote_choice × Int)), Sat h [] h' [rawE it2.block o2, rawE it.block o, rawE sn (.map es clk), cel 24 best (enc bd), cel 24 t6 (enc dz)] ∧ Rng h' it2 ⟨some sn⟩ todo ∧ (done ++ todo).Perm cs ∧ WinOf done quorum bd st.1 st.2) s' h' ∧ (fun (_ : Int × Bool) h' => tlen h' it2) s' h' < (fun (_ : Int × Bool) h' => tlen h' it2) (at_, found) h6) quorum t6 best at_ found cc c.2 first it2 h' := by
        intro first h' hs' ht hf
        unfold vote_Box_Winner.j4
        refine ifb_i (fun hc => ?_) (fun hc => ?_)
        · simp only [Bool.and_eq_true, decide_eq_true_eq] at hc
          refine hs'.ld_ 0 rfl ?_
          refine hs'.ld_ 0 rfl ?_
          refine hs'.st_ 4 rfl arr_len (fun h10 hs10 _ => ?_)
          have hR10 := tr2 (h' := h10) (hs10.at_ (i := 1) rfl) (hs10.at_ (i := 3) rfl)
          refine ⟨⟨c.1.digest, o3, done2 ++ [c], rest2, hs10.drop (List.sublist_cons_self _ _), hR10, hdone2, .inr ⟨rfl, c.2, by simp, hc.1, fun q hq hqq => ?_⟩⟩, by dsimp only; rw [Rng_tlen hR10, ht6]; exact hlen2⟩
          simp only [List.mem_append, List.mem_singleton] at hq
          have self : ∀ l : List UInt8, cmpL l l = 0 := by
            intro l; induction l with
            | nil => rfl
            | cons x l ih => simp [cmpL, UInt8.lt_irrefl, ih]
          rcases hq with hq | rfl
          · rcases hW6 with ⟨_, _, _, h4⟩ | ⟨_, n, _, _, h4⟩
            · exact absurd hqq (h4 q hq)
            · have h5 := h4 q hq hqq
              rcases ht hc.2 with h0 | h0 | ⟨h0, h1⟩
              · simp_all
              · left; show q.1.round < c.1.round; omega
              · rcases h5 with h5 | ⟨h5, h6⟩
                · left; show q.1.round < c.1.round; omega
                · right
                  refine ⟨by show q.1.round = c.1.round; omega, cmpL_trans _ _ _ (by simp [digL]) (by simp [digL]) h6 h1⟩
          · right
            exact ⟨rfl, by rw [self]; exact Int.le_refl _⟩
        · have hR10 := tr2 (h' := h') (hs'.at_ (i := 1) rfl) (hs'.at_ (i := 3) rfl)
          refine ⟨⟨bd, o3, done2 ++ [c], rest2, hs'.drop (List.sublist_cons_self _ _), hR10, hdone2, ?_⟩, by dsimp only; rw [Rng_tlen hR10, ht6]; exact hlen2⟩
          rcases hW6 with ⟨h1, h2, h3, h4⟩ | ⟨h1, n, h2, h3, h4⟩
          · refine .inl ⟨h1, h2, h3, fun q hq => ?_⟩
            simp only [List.mem_append, List.mem_singleton] at hq
            rcases hq with hq | rfl
            · exact h4 q hq
            · intro hqq
              cases hfi : first with
              | true => simp [hfi, hqq] at hc
              | false => have := (hf hfi).1; rw [h1] at this; cases this
          · refine .inr ⟨h1, n, by simp [h2], h3, fun q hq hqq => ?_⟩
            simp only [List.mem_append, List.mem_singleton] at hq
            rcases hq with hq | rfl
            · exact h4 q hq hqq
            · cases hfi : first with
              | true => simp [hfi, hqq] at hc
              | false => exact (hf hfi).2
      refine ifb_i (fun hc => ?_) (fun hc => ?_)
      · refine tail true h9 hs9 (fun _ => ?_) (fun h => by cases h)
        cases found with
        | false => exact .inl rfl
        | true => right; left; simpa using hc
      · have hfo : found = true ∧ ¬ at_ < c.1.round := by
          cases found with
          | false => simp at hc
          | true => exact ⟨rfl, by simpa using hc⟩
        refine hs9.ld_ 0 rfl ?_
        refine ifb_i (fun hc2 => ?_) (fun hc2 => ?_)
        · have he : c.1.round = at_ := by simpa using hc2
          refine slices_Compare_byte.ok _ _ _ _ (Compare_spec _ _ (List.ofFn c.1.digest) (List.ofFn bd) (choice_dig (Cel.at_ (hs9.at_ (i := 0) rfl))) (hs9.wholeSV 4 rfl (by decide)) (by simp) (by simp) ?_)
          refine tail _ h9 hs9 (fun h => ?_) (fun h => ⟨hfo.1, .inr ⟨he, ?_⟩⟩)
          · right; right; exact ⟨he, by simpa [digL] using h⟩
          · have : ¬ cmpL (List.ofFn c.1.digest) (List.ofFn bd) < 0 := by simpa using h
            simp only [digL]; omega
        · have he : ¬ c.1.round = at_ := by simpa using hc2
          exact tail false h9 hs9 (fun h => by cases h) (fun _ => ⟨hfo.1, .inl (by omega)⟩)
  · refine ifb_i (fun _ => ?_) (fun hc => by cases hc)
    refine ⟨⟨q.1, q.2⟩, ⟨_, hE4⟩, ?_⟩
    have hlen : rest.length < todo.length := by rw [hq.length_eq]; simp
    have hdone : ((done ++ [q]) ++ rest).Perm l := by
      refine List.Perm.trans ?_ hp3
      rw [List.append_assoc]
      exact List.Perm.append_left _ hq.symm
    have tr : ∀ {h' L'}, Sat h [] h' L' → h'[it.block]? = some o' → Rng h' it ⟨some r⟩ rest := fun {h' L'} hs' hi' => Rng_tr hR4 (by
        rw [hi']; exact (hs4.at_ (i := 0) rfl).symm) (fun r' hr' => by
        obtain rfl : r = r' := Option.some.inj hr'
        rw [hs'.fr.same r hrlt (by simp), hs4.fr.same r hrlt (by simp)])
    have hdl : done.length < 2 ^ 20 := by have := hp3.length_eq; simp at this; omega
    refine hs4.box_ (fun pp h5 hs5 _ _ => ?_)
    refine hs5.box_ (fun vv h6 hs6 _ _ => ?_)
    refine hs6.st_ 1 rfl len_vote_place (fun h7 hs7 _ => ?_)
    refine hs7.st_ 0 rfl len_api_Vote (fun h8 hs8 _ => ?_)
    refine hs8.ld_ 1 rfl ?_
    have skip : ∀ h', Sat h [] h' [cel 37 vv (enc q.2), cel 115 pp (enc q.1), rawE it.block o', mpE sn cs, cel 24 best (enc dz), cel 24 t6 (enc dz)] → ¬ (q.1.kind = kind ∧ q.2.Digest ≠ dz) →
        (∃ (cs : List (vote_choice × Int)) (o : Obj) (done todo : Vts), Sat h [] h' [rawE it.block o, mpE sn cs, cel 24 best (enc dz), cel 24 t6 (enc dz)] ∧ Rng h' it ⟨some r⟩ todo ∧ (done ++ todo).Perm l ∧ CountOf cs done kind) ∧ tlen h' it < tlen h3 it := by
      intro h' hs' hne
      have hR7 := tr hs' (hs'.at_ (i := 2) rfl)
      exact ⟨⟨cs, o', done ++ [q], rest, (hs'.drop (List.sublist_cons_self _ _)).drop (List.sublist_cons_self _ _), hR7, hdone, hC3.skip q hne⟩, by rw [Rng_tlen hR7, ht3]; exact hlen⟩
    refine ifb_i (fun hc => ?_) (fun hc => ?_)
    · have hkd : q.1.kind = kind := by simpa using hc
      refine hs8.ld_ 0 rfl ?_
      refine vote_none.ok _ _ (none_spec (fun h9 hx9 => ?_))
      have hs9 := hs8.ext hx9
      refine hs9.chk_ 0 rfl rfl ?_
      unfold vote_Box_Winner.j2
      refine ifb_i (fun hc2 => ?_) (fun hc2 => ?_)
      · have hdn : q.2.Digest ≠ dz := by
          have h9 : ¬ q.2.Digest = fun _ => 0 := by simpa using hc2
          exact h9
        refine hs9.ld_ 1 rfl ?_
        refine hs9.ld_ 0 rfl ?_
        have e0 : mins0 (0 : Int) cs (chq q) = (cntF done kind (chq q) : Int) := by
          unfold mins0; rw [hC3.cnt]; split
          · rename_i h0; simp [h0]
          · rfl
        have e1 : (mlook (0 : Int) cs (chq q)).a = (cntF done kind (chq q) : Int) := by
          unfold mlook; rw [hC3.cnt]
          by_cases h0 : cntF done kind (chq q) = 0
          · rw [if_pos h0, h0]; rfl
          · rw [if_neg h0]
        refine ⟨(cntF done kind (chq q) : Int), ⟨cs, mpE_is (hs9.at_ (i := 3) rfl), e1⟩, ?_⟩
        refine hs9.ment_ 3 rfl (fun s h10 hs10 => ?_)
        have hs10' : Sat h [] h10 [cel 37 vv (enc q.2), cel 115 pp (enc q.1), rawE it.block o', stE sn (mins cs (chq q) (cntF done kind (chq q) : Int)) (chq q) s, cel 24 best (enc dz), cel 24 t6 (enc dz)] := by
          rw [← e0]; exact hs10
        refine hs10'.stchk_ 3 rfl ?_ ?_
        · show (mlook (0 : Int) (mins cs (chq q) (cntF done kind (chq q) : Int)) (chq q)).a = _
          unfold mlook; rw [mfind_mins]; simp
        have hcl := cntF_le done kind (chq q)
        have e2 : iadd (cntF done kind (chq q) : Int) 1 = ((cntF done kind (chq q) + 1 : Nat) : Int) := by rw [iadd_eq (by omega) (by omega)]; omega
        rw [e2]
        refine hs10'.mste_ 3 rfl (fun h11 hs11 => ?_)
        have hR7 := tr hs11 (hs11.at_ (i := 2) rfl)
        exact ⟨⟨_, o', done ++ [q], rest, (hs11.drop (List.sublist_cons_self _ _)).drop (List.sublist_cons_self _ _), hR7, hdone, hC3.put q hkd hdn⟩, by dsimp only; rw [Rng_tlen hR7, ht3]; exact hlen⟩
      · have hdn : q.2.Digest = dz := by
          have h9 : q.2.Digest = fun _ => 0 := by simpa using hc2
          exact h9
        exact skip h9 hs9 (fun h => h.2 hdn)
    · have hkd : ¬ q.1.kind = kind := by simpa using hc
      unfold vote_Box_Winner.j2
      refine ifb_i (fun hc2 => by cases hc2) (fun _ => ?_)
      exact skip h8 hs8 (fun h => hkd h.1)
theorem ref13_Good.ok (v : api_Vote) (k : Bool → H → Prop) (h : H) (hh : ref13_Good.b v k h) : CallsH Prog 10 [reg v].toArray h fun v h' => ∃ r : Bool, v = reg r ∧ k r h' := by
 unfold ref13_Good.b at hh
 refine CallsH.of 49 Tryd.func10 rfl Tryd.ntmps10 rfl (fun w0 => ?_)
 refine .sr ?_
 refine box_elim hh (fun v_1 hv_1 hh => ?_)
 refine .e (e_boxP hv_1 rfl rfl rfl ?_)
 refine .A (reg false) (.nx (.seq (.sr (.V (v_fieldAddr fl_37_0 rfl) (.L 0 na_3 get_37_Kind hh rfl (fun t4 hh => .V (v_ineq rfl rfl) (.M (reg ((t4 != (1 : Int)) : Bool)) (.tv 6 rfl rfl rfl (fun hb => v_fieldAddr fl_37_0 rfl) rfl ?_))))))))
 obtain ⟨t8, ⟨xt8, hxt8, hgt8⟩, hh⟩ := hh
 refine .tv 6 rfl rfl rfl (fun hb => v_ld1 (p := v_1) 0 na_3 (gt hb) hxt8 hgt8 get_37_Kind) rfl (.tv 6 rfl rfl rfl (fun hb => v_ineq (gt hb) rfl) rfl (.V (v_pick_and rfl (fun hb => gt hb) rfl) (.M (reg (((t4 != (1 : Int)) && (t8 != (2 : Int))) : Bool)) (.fv 11 rfl rfl rfl (fun hb => v_fieldAddr fl_37_1 rfl) rfl ?_))))
 obtain ⟨t13, ⟨xt13, hxt13, hgt13⟩, hh⟩ := hh
 refine .fv 11 rfl rfl rfl (fun hb => v_ld1 (p := v_1) 1 na_3 (gf hb) hxt13 hgt13 get_37_Epoch) rfl (.fv 11 rfl rfl rfl (fun hb => v_ilss (gf hb) rfl) rfl (.V (v_pick_or rfl rfl (fun hb => gf hb)) (.M (reg ((((t4 != (1 : Int)) && (t8 != (2 : Int))) || (decide (t13 < (0 : Int)))) : Bool)) (.fv 16 rfl rfl rfl (fun hb => v_fieldAddr fl_37_1 rfl) rfl ?_))))
 obtain ⟨t18, ⟨xt18, hxt18, hgt18⟩, hh⟩ := hh
 refine .fv 16 rfl rfl rfl (fun hb => v_ld1 (p := v_1) 1 na_3 (gf hb) hxt18 hgt18 get_37_Epoch) rfl (.fv 16 rfl rfl rfl (fun hb => v_igtr (gf hb) rfl) rfl (.V (v_pick_or rfl rfl (fun hb => gf hb)) (.M (reg (((((t4 != (1 : Int)) && (t8 != (2 : Int))) || (decide (t13 < (0 : Int)))) || (decide ((1073741824 : Int) < t18))) : Bool)) (.fv 21 rfl rfl rfl (fun hb => v_fieldAddr fl_37_2 rfl) rfl ?_))))
 obtain ⟨t23, ⟨xt23, hxt23, hgt23⟩, hh⟩ := hh
 refine .fv 21 rfl rfl rfl (fun hb => v_ld1 (p := v_1) 2 na_3 (gf hb) hxt23 hgt23 get_37_Height) rfl (.fv 21 rfl rfl rfl (fun hb => v_ilss (gf hb) rfl) rfl (.V (v_pick_or rfl rfl (fun hb => gf hb)) (.M (reg ((((((t4 != (1 : Int)) && (t8 != (2 : Int))) || (decide (t13 < (0 : Int)))) || (decide ((1073741824 : Int) < t18))) || (decide (t23 < (1 : Int)))) : Bool)) (.fv 26 rfl rfl rfl (fun hb => v_fieldAddr fl_37_2 rfl) rfl ?_))))
 obtain ⟨t28, ⟨xt28, hxt28, hgt28⟩, hh⟩ := hh
 refine .fv 26 rfl rfl rfl (fun hb => v_ld1 (p := v_1) 2 na_3 (gf hb) hxt28 hgt28 get_37_Height) rfl (.fv 26 rfl rfl rfl (fun hb => v_igtr (gf hb) rfl) rfl (.V (v_pick_or rfl rfl (fun hb => gf hb)) (.nx ?_)))
 refine CW.cond ((((((t4 != (1 : Int)) && (t8 != (2 : Int))) || (decide (t13 < (0 : Int)))) || (decide ((1073741824 : Int) < t18))) || (decide (t23 < (1 : Int)))) || (decide ((1024 : Int) < t28))) rfl (fun hb => ?_) (fun hb => ?_)
 ·have hh := hh.1 hb
  refine .sr (.A (reg false) (.nx ?_))
  refine CW.ret ?_
  refine QN.thenRet ?_
  exact ret1 rfl rfl ⟨(false : Bool), rfl, hh⟩
 ·have hh := hh.2 hb
  refine CW.skip ?_
  refine QN.then_ ?_
  refine .sr (.V (v_fieldAddr fl_37_3 rfl) (.L 3 na_3 get_37_Round hh rfl (fun t32 hh => .V (v_igeq rfl rfl) (.M (reg ((decide ((0 : Int) ≤ t32)) : Bool)) (.tv 34 rfl rfl rfl (fun hb => v_fieldAddr fl_37_3 rfl) rfl ?_)))))
  obtain ⟨t36, ⟨xt36, hxt36, hgt36⟩, hh⟩ := hh
  refine .tv 34 rfl rfl rfl (fun hb => v_ld1 (p := v_1) 3 na_3 (gt hb) hxt36 hgt36 get_37_Round) rfl (.tv 34 rfl rfl rfl (fun hb => v_ileq (gt hb) rfl) rfl (.V (v_pick_and rfl (fun hb => gt hb) rfl) (.M (reg (((decide ((0 : Int) ≤ t32)) && (decide (t36 ≤ (1024 : Int)))) : Bool)) (.tv 39 rfl rfl rfl (fun hb => v_fieldAddr fl_37_5 rfl) rfl ?_))))
  obtain ⟨t41, ⟨xt41, hxt41, hgt41⟩, hh⟩ := hh
  refine .tv 39 rfl rfl rfl (fun hb => v_ld1 (p := v_1) 36 na_3 (gt hb) hxt41 hgt41 get_37_From) rfl (.tv 39 rfl rfl rfl (fun hb => v_igeq (gt hb) rfl) rfl (.V (v_pick_and rfl (fun hb => gt hb) rfl) (.M (reg ((((decide ((0 : Int) ≤ t32)) && (decide (t36 ≤ (1024 : Int)))) && (decide ((1 : Int) ≤ t41))) : Bool)) (.tv 44 rfl rfl rfl (fun hb => v_fieldAddr fl_37_5 rfl) rfl ?_))))
  obtain ⟨t46, ⟨xt46, hxt46, hgt46⟩, hh⟩ := hh
  refine .tv 44 rfl rfl rfl (fun hb => v_ld1 (p := v_1) 36 na_3 (gt hb) hxt46 hgt46 get_37_From) rfl (.tv 44 rfl rfl rfl (fun hb => v_ileq (gt hb) rfl) rfl (.V (v_pick_and rfl (fun hb => gt hb) rfl) (.A (reg (((((decide ((0 : Int) ≤ t32)) && (decide (t36 ≤ (1024 : Int)))) && (decide ((1 : Int) ≤ t41))) && (decide (t46 ≤ (63 : Int)))) : Bool)) (.nx ?_))))
  refine CW.ret ?_
  exact ret1 rfl rfl ⟨(((((decide ((0 : Int) ≤ t32)) && (decide (t36 ≤ (1024 : Int)))) && (decide ((1 : Int) ≤ t41))) && (decide (t46 ≤ (63 : Int)))) : Bool), rfl, hh⟩
def goodR (v : api_Vote) : Bool := if ((((((v.Kind != (1 : Int)) && (v.Kind != (2 : Int))) || (decide (v.Epoch < (0 : Int)))) || (decide ((1073741824 : Int) < v.Epoch))) || (decide (v.Height < (1 : Int)))) || (decide ((1024 : Int) < v.Height))) = true then false
  else ((((decide ((0 : Int) ≤ v.Round)) && (decide (v.Round ≤ (1024 : Int)))) && (decide ((1 : Int) ≤ v.From))) && (decide (v.From ≤ (63 : Int))))
theorem RGood_spec (v : api_Vote) {k : Bool → H → Prop} {h : H} (hk : ∀ h', Ext h h' → k (goodR v) h') : ref13_Good.b v k h := by
  unfold ref13_Good.b
  refine (Sat.init h).box_ (fun a h1 hs1 _ _ => ?_)
  refine hs1.ld_ 0 rfl ?_
  refine hs1.ld_ 0 rfl ?_
  refine hs1.ld_ 0 rfl ?_
  refine hs1.ld_ 0 rfl ?_
  refine hs1.ld_ 0 rfl ?_
  refine hs1.ld_ 0 rfl ?_
  have := hk _ hs1.fr
  unfold goodR at this
  refine ifb_i (fun hc => ?_) (fun hc => ?_)
  · rw [if_pos hc] at this; exact this
  · rw [if_neg (by rw [hc]; decide)] at this
    refine hs1.ld_ 0 rfl ?_
    refine hs1.ld_ 0 rfl ?_
    refine hs1.ld_ 0 rfl ?_
    refine hs1.ld_ 0 rfl ?_
    exact this
/-- a slice whose elements can be read: one of no length may lead anywhere -/
def SVz {α : Type} [Ty α] (n : Nat) (h : H) (s : Sl) (l : List α) : Prop := s.len = l.length ∧ (l ≠ [] → SV n h s l)
theorem SVz.ext {α : Type} [Ty α] {n : Nat} {h h' : H} {s : Sl} {l : List α} (H : SVz n h s l) (f : Ext h h') : SVz n h' s l := ⟨H.1, fun hn => (H.2 hn).ext f⟩
theorem SV.z {α : Type} [Ty α] {n : Nat} {h : H} {s : Sl} {l : List α} (H : SV n h s l) : SVz n h s l := ⟨H.2.1, fun _ => H⟩
theorem sidx_ldz {α β : Type} [Ty α] {n : Nat} {h : H} {s : Sl} {l : List α} (hn : ∀ y : α, (enc y).length = n) (hv : SVz n h s l) {j : Int} {x : α} (h0 : 0 ≤ j) (hx : l[j.toNat]? = some x) {g : α → β} {K : β → H → Prop} (hk : K (g x) h) : sidx s j n (fun t => ld t g K) h :=
  sidx_ld hn (hv.2 (by rintro rfl; simp at hx)) h0 hx hk
/-- a signature whose lists can be read -/
def SigR (h : H) (s : api_Sig) : Prop := (∃ l : List Dig, SVz 32 h s.Once.Open l) ∧ (∃ l : List Dig, SVz 32 h s.Once.Shut l) ∧ (∃ l : List Dig, SVz 32 h s.Path l)
theorem SigR.ext {h h' : H} (f : Ext h h') {s : api_Sig} (H : SigR h s) : SigR h' s := by
  obtain ⟨⟨a, ha⟩, ⟨b, hb⟩, ⟨c, hc⟩⟩ := H
  exact ⟨⟨a, ha.ext f⟩, ⟨b, hb.ext f⟩, ⟨c, hc.ext f⟩⟩
/-! what the cells of a type read as -/
def Dec (t : TypeId) {α : Type} [Ty α] (S : H → α → Prop) : Prop :=
  ∀ {HT : Type} (en : TypeId × Value → HT) (W : World) (fuel : Nat) (cs : List Value) (x : DataW HT × List MemPlace), DataW.trod en Prog W 0 (fun _ => true) true fuel t cs = some x → ∃ a : α, cs = enc a ∧ S W.heap a
def IntOk (_ : H) (n : Int) : Prop := -9223372036854775808 ≤ n ∧ n ≤ 9223372036854775807
theorem dec_int {t : TypeId} (ht : Tryd.prog.underlying t = some (.int .i64)) : Dec t IntOk := by
  intro HT en W fuel cs x h
  obtain ⟨n, rfl, _, hw⟩ := DataW.trod_int ht h
  refine ⟨n, rfl, ?_⟩
  simp [Lit.wf, IntKind.min, IntKind.max, IntKind.signed, IntKind.bits] at hw
  exact hw
theorem dec_u8 {t : TypeId} (ht : Tryd.prog.underlying t = some (.int .u8)) : Dec t (fun _ (_ : UInt8) => True) := by
  intro HT en W fuel cs x h
  obtain ⟨n, rfl, _, hw⟩ := DataW.trod_int ht h
  simp [Lit.wf, IntKind.min, IntKind.max, IntKind.signed, IntKind.bits] at hw
  refine ⟨UInt8.ofNat n.toNat, ?_, trivial⟩
  show [Value.int .u8 n] = [Value.int .u8 ((UInt8.ofNat n.toNat).toNat : Int)]
  have : ((UInt8.ofNat n.toNat).toNat : Int) = n := by
    rw [UInt8.toNat_ofNat']; omega
  rw [this]
theorem dec_arr {t e : TypeId} {n : Nat} {α : Type} [Ty α] {S : H → α → Prop} (ht : Tryd.prog.underlying t = some (.array n e)) (hc : Tryd.prog.cellsOf e = 1) (hct : Tryd.prog.cellsOf t = n) (h1 : ∀ a : α, enc a = [reg a]) (D : Dec e S) : Dec t (fun h (x : Arr n α) => ∀ i, S h (x i)) := by
  intro HT en W fuel cs x h
  obtain ⟨xs, m, _, _, hl, hxl, hget⟩ := DataW.trod_array ht h
  have hl' : cs.length = n := hl.trans hct
  have key : ∀ i : Fin n, ∃ a : α, cs[i.1]? = some (reg a) ∧ S W.heap a := by
    intro i
    have h2 := hget i.1 i.2
    rw [hc, List.getElem?_eq_getElem (by omega), Nat.mul_one] at h2
    obtain ⟨a, ha, hs⟩ := D en W m _ _ h2
    refine ⟨a, ?_, hs⟩
    rw [h1] at ha
    have := congrArg (fun l => l[0]?) ha
    simpa [List.getElem?_take] using this
  refine ⟨fun i => (key i).choose, ?_, fun i => (key i).choose_spec.2⟩
  show cs = (List.ofFn fun i => reg ((key i).choose))
  apply List.ext_getElem?
  intro i
  by_cases hi : i < n
  · rw [(key ⟨i, hi⟩).choose_spec.1]; simp [List.getElem?_ofFn, hi]
  · rw [List.getElem?_eq_none (by omega), List.getElem?_eq_none (by simpa using hi)]
def AtA (arr : Array Value) (off : Nat) (cs : List Value) : Prop := ∀ i v, cs[i]? = some v → arr[off + i]? = some v
theorem AtA.app {arr : Array Value} {off : Nat} {a b : List Value} (ha : AtA arr off a) (hb : AtA arr (off + a.length) b) : AtA arr off (a ++ b) := by
  intro i v hv
  by_cases hi : i < a.length
  · rw [List.getElem?_append_left hi] at hv; exact ha i v hv
  · rw [List.getElem?_append_right (by omega)] at hv
    have := hb _ _ hv
    rwa [show off + a.length + (i - a.length) = off + i by omega] at this
theorem AtA.flat {arr : Array Value} {c : Nat} : ∀ (L : List (List Value)) (off : Nat), (∀ i x, L[i]? = some x → x.length = c ∧ AtA arr (off + i * c) x) → AtA arr off L.flatten
  | [], off, _ => by intro i v hv; simp at hv
  | x :: L, off, h => by
    have h0 := h 0 x rfl
    rw [List.flatten_cons]
    refine AtA.app (by simpa using h0.2) ?_
    rw [h0.1]
    refine AtA.flat (c := c) L (off + c) (fun i y hy => ?_)
    have := h (i + 1) y hy
    rwa [show off + (i + 1) * c = off + c + i * c by rw [Nat.add_mul]; omega] at this
theorem flat_len {α : Type} [Ty α] {c : Nat} (hn : ∀ y : α, (enc y).length = c) : ∀ l : List α, (l.map enc).flatten.length = l.length * c
  | [] => by simp
  | x :: l => by rw [List.map_cons, List.flatten_cons, List.length_append, hn, flat_len hn l, List.length_cons, Nat.add_mul]; omega
theorem add_add (a : Addr) (x y : Nat) : (a.add x).add y = a.add (x + y) := by
  unfold Addr.add
  by_cases hx : x = 0
  · subst hx; simp
  · by_cases hy : y = 0
    · subst hy; simp
    · simp [hx, hy, Nat.add_assoc]
theorem cell_add {W : World} {a : Addr} {arr : Array Value} {T : TypeId} {fr : Nat × Nat} (ho : W.heap[a.block]? = some (.cells arr T fr)) (hs : a.spot = none) (k : Nat) : W.cell? (a.add k) = arr[a.off + k]? := by
  unfold Addr.add
  by_cases hk : k = 0
  · subst hk; simp [World.cell?, ho, hs]
  · simp [World.cell?, ho, hk]
def SlOk {α : Type} [Ty α] (c : Nat) (S : H → α → Prop) (h : H) (s : Sl) : Prop := ∃ l : List α, SVz c h s l ∧ ∀ a ∈ l, S h a
theorem dec_slice {t e : TypeId} {c : Nat} {α : Type} [Ty α] {S : H → α → Prop} (ht : Tryd.prog.underlying t = some (.slice e)) (hc : Tryd.prog.cellsOf e = c) (h0 : 0 < c) (hn : ∀ y : α, (enc y).length = c) (D : Dec e S) : Dec t (SlOk c S) := by
  intro HT en W fuel cs x h
  rcases Go.Deep.open_slice ht h with ⟨rfl, _⟩ | ⟨a, len, cap, m, n, DD, Pl, rfl, _, hlc, _, hm, _, hx⟩
  · exact ⟨Sl.nil, rfl, [], ⟨rfl, fun hne => absurd rfl hne⟩, by simp⟩
  · simp only [if_true] at hm
    subst hm
    have key : ∀ i : Fin len, ∃ y : α, (∀ r v, (enc y)[r]? = some v → W.cell? (a.add (i.1 * c + r)) = some v) ∧ S W.heap y := by
      intro i
      obtain ⟨cs', h1, h2⟩ := hx i.1 (by omega)
      obtain ⟨y, rfl, hs⟩ := D en W n _ _ h2
      refine ⟨y, fun r v hv => ?_, hs⟩
      rw [hc] at h1
      obtain ⟨_, h4, h5⟩ := World.cells?_some h1
      have hr : r < c := by
        rw [List.getElem?_eq_some_iff] at hv; obtain ⟨h9, _⟩ := hv; rw [hn] at h9; exact h9
      have := h5 r hr
      rw [hv] at this
      rw [← this, add_add]
    refine ⟨⟨some a, len, _⟩, rfl, List.ofFn fun i => (key i).choose, ⟨by simp, fun hne => ?_⟩, ?_⟩
    · have hlen : 0 < len := by
        rcases Nat.eq_zero_or_pos len with h9 | h9
        · subst h9; simp at hne
        · exact h9
      have h00 := (key ⟨0, hlen⟩).choose_spec.1
      generalize hy : (key ⟨0, hlen⟩).choose = y at h00
      obtain ⟨v, hv⟩ : ∃ v, (enc y)[0]? = some v := ⟨_, List.getElem?_eq_getElem (by rw [hn]; exact h0)⟩
      have hc0 := h00 0 v hv
      rw [show a.add ((⟨0, hlen⟩ : Fin len).1 * c + 0) = a by simp [Addr.add]] at hc0
      unfold World.cell? at hc0
      cases ho : W.heap[a.block]? with
      | none => simp [ho] at hc0
      | some o =>
        cases o with
        | cells arr T fr =>
          have hsp : a.spot = none := by
            cases hs : a.spot with
            | none => rfl
            | some z => simp [ho, hs] at hc0
          refine ⟨.inr ⟨a, rfl, ⟨hsp, arr, T, fr, ho, ?_⟩, ?_⟩, by simp, hlc⟩
          · refine AtA.flat (c := c) _ _ (fun i z hz => ?_)
            rw [List.getElem?_map] at hz
            by_cases hi : i < len
            · rw [List.getElem?_ofFn] at hz
              simp only [hi, dite_true, Option.map_some, Option.some.injEq] at hz
              subst hz
              refine ⟨hn _, fun r v hv => ?_⟩
              have h8 := (key ⟨i, hi⟩).choose_spec.1 r v hv
              rw [cell_add ho hsp] at h8
              rw [← h8, Nat.add_assoc]
            · rw [List.getElem?_eq_none (by simpa using hi)] at hz; simp at hz
          · rw [flat_len hn]; simp
        | _ => simp [ho] at hc0
    · intro y hy
      rw [List.mem_ofFn] at hy
      obtain ⟨i, rfl⟩ := hy
      exact (key i).choose_spec.2
theorem cut_at (cs : List Value) (o s : Nat) : cs.drop o = (cs.drop o).take s ++ cs.drop (o + s) := by
  rw [← List.drop_drop, List.take_append_drop]
theorem cut_end {cs : List Value} {o s : Nat} (h : cs.length = o + s) : cs.drop o = (cs.drop o).take s := by
  rw [List.take_of_length_le]; simp; omega
theorem fld {α : Type} {xs : List α} {m : Nat} (h : xs.length = m) (i : Nat) (hi : i < m) : ∃ y, xs[i]? = some y := ⟨_, List.getElem?_eq_getElem (by omega)⟩
theorem fdec {t : TypeId} {α : Type} [Ty α] {S : H → α → Prop} (D : Dec t S) {c : Nat} (hc : Tryd.prog.cellsOf t = c) (o : Nat) {HT : Type} {en : TypeId × Value → HT} {W : World} {n : Nat} {cs : List Value} {r : Option (DataW HT × List MemPlace)} {y : DataW HT × List MemPlace}
    (h : DataW.trod en Prog W 0 (fun _ => true) true n t ((cs.drop o).take (Tryd.prog.cellsOf t)) = r) (e : r = some y) : ∃ a : α, (cs.drop o).take c = enc a ∧ S W.heap a := by
  rw [hc] at h
  exact D en W n _ _ (h.trans e)
theorem cof3 : Tryd.prog.cellsOf 3 = 1 := by kernel_rfl
theorem cof24 : Tryd.prog.cellsOf 24 = 32 := by kernel_rfl
theorem cof31 : Tryd.prog.cellsOf 31 = 1 := by kernel_rfl
theorem cof33 : Tryd.prog.cellsOf 33 = 2 := by kernel_rfl
theorem cof35 : Tryd.prog.cellsOf 35 = 4 := by kernel_rfl
theorem dec_i : Dec 3 IntOk := dec_int Tryd.underlying3
theorem dec_dig : Dec 24 (fun _ (_ : Dig) => True) := by
  intro HT en W fuel cs x h
  obtain ⟨a, h1, _⟩ := dec_arr (α := UInt8) (S := fun _ _ => True) Tryd.underlying24 (by kernel_rfl) (by kernel_rfl) (fun _ => rfl) (dec_u8 Tryd.underlying5) en W fuel cs x h
  exact ⟨a, h1, trivial⟩
theorem dec_digs : Dec 31 (SlOk (α := Dig) 32 fun _ _ => True) := dec_slice Tryd.underlying31 (by kernel_rfl) (by decide) arr_len dec_dig
def OnceOk (h : H) (x : api_Once) : Prop := SlOk (α := Dig) 32 (fun _ _ => True) h x.Open ∧ SlOk (α := Dig) 32 (fun _ _ => True) h x.Shut
theorem dec_once {t : TypeId} (ht : Tryd.prog.underlying t = Tryd.prog.underlying 33) (hct : Tryd.prog.cellsOf t = 2) : Dec t OnceOk := by
  intro HT en W fuel cs x h
  obtain ⟨xs, n, _, _, hl, hxl, hf⟩ := DataW.trod_struct (ht.trans Tryd.underlying33) h
  rw [hct] at hl
  obtain ⟨y0, e0⟩ := fld hxl 0 (by decide); obtain ⟨y1, e1⟩ := fld hxl 1 (by decide)
  obtain ⟨a0, c0, s0⟩ := fdec dec_digs cof31 0 (hf 0 _ rfl) e0
  obtain ⟨a1, c1, s1⟩ := fdec dec_digs cof31 1 (hf 1 _ rfl) e1
  refine ⟨⟨a0, a1⟩, ?_, s0, s1⟩
  rw [enc_api_Once]
  rw [← c0, ← c1, ← cut_end (show cs.length = 1 + 1 by omega)]
  exact cut_at cs 0 1
def SigOk (h : H) (x : api_Sig) : Prop := IntOk h x.Leaf ∧ OnceOk h x.Once ∧ SlOk (α := Dig) 32 (fun _ _ => True) h x.Path
theorem dec_sig {t : TypeId} (ht : Tryd.prog.underlying t = Tryd.prog.underlying 35) (hct : Tryd.prog.cellsOf t = 4) : Dec t SigOk := by
  intro HT en W fuel cs x h
  obtain ⟨xs, n, _, _, hl, hxl, hf⟩ := DataW.trod_struct (ht.trans Tryd.underlying35) h
  rw [hct] at hl
  obtain ⟨y0, e0⟩ := fld hxl 0 (by decide); obtain ⟨y1, e1⟩ := fld hxl 1 (by decide); obtain ⟨y2, e2⟩ := fld hxl 2 (by decide)
  obtain ⟨a0, c0, s0⟩ := fdec dec_i cof3 0 (hf 0 _ rfl) e0
  obtain ⟨a1, c1, s1⟩ := fdec (dec_once (t := 33) rfl cof33) cof33 1 (hf 1 _ rfl) e1
  obtain ⟨a2, c2, s2⟩ := fdec dec_digs cof31 3 (hf 2 _ rfl) e2
  refine ⟨⟨a0, a1, a2⟩, ?_, s0, s1, s2⟩
  rw [enc_api_Sig]
  dsimp only
  rw [← c0, ← c1, ← c2, ← cut_end (show cs.length = 3 + 1 by omega), ← cut_at cs 1 2]
  exact cut_at cs 0 1
def VoteOk (h : H) (x : api_Vote) : Prop := SigOk h x.Sig
theorem dec_vote {t : TypeId} (ht : Tryd.prog.underlying t = Tryd.prog.underlying 37) (hct : Tryd.prog.cellsOf t = 41) : Dec t VoteOk := by
  intro HT en W fuel cs x h
  obtain ⟨xs, n, _, _, hl, hxl, hf⟩ := DataW.trod_struct (ht.trans Tryd.underlying37) h
  rw [hct] at hl
  obtain ⟨y0, e0⟩ := fld hxl 0 (by decide); obtain ⟨y1, e1⟩ := fld hxl 1 (by decide); obtain ⟨y2, e2⟩ := fld hxl 2 (by decide); obtain ⟨y3, e3⟩ := fld hxl 3 (by decide)
  obtain ⟨y4, e4⟩ := fld hxl 4 (by decide); obtain ⟨y5, e5⟩ := fld hxl 5 (by decide); obtain ⟨y6, e6⟩ := fld hxl 6 (by decide)
  obtain ⟨a0, c0, s0⟩ := fdec dec_i cof3 0 (hf 0 _ rfl) e0
  obtain ⟨a1, c1, s1⟩ := fdec dec_i cof3 1 (hf 1 _ rfl) e1
  obtain ⟨a2, c2, s2⟩ := fdec dec_i cof3 2 (hf 2 _ rfl) e2
  obtain ⟨a3, c3, s3⟩ := fdec dec_i cof3 3 (hf 3 _ rfl) e3
  obtain ⟨a4, c4, s4⟩ := fdec (S := fun _ _ => True) dec_dig cof24 4 (hf 4 _ rfl) e4
  obtain ⟨a5, c5, s5⟩ := fdec dec_i cof3 36 (hf 5 _ rfl) e5
  obtain ⟨a6, c6, s6⟩ := fdec (dec_sig (t := 35) rfl cof35) cof35 37 (hf 6 _ rfl) e6
  refine ⟨⟨a0, a1, a2, a3, a4, a5, a6⟩, ?_, s6⟩
  rw [enc_api_Vote]
  dsimp only
  rw [← c0, ← c1, ← c2, ← c3, ← c4, ← c5, ← c6, ← cut_end (show cs.length = 37 + 4 by omega), ← cut_at cs 36 1, ← cut_at cs 4 32, ← cut_at cs 3 1, ← cut_at cs 2 1, ← cut_at cs 1 1]
  exact cut_at cs 0 1
end Go.Proofs.YtimmoekliphobaaDoor

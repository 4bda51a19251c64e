/-
  THE CARD OF wapentakelaw19.RoundQuick: for every input that the row lets in, RoundQuick returns true and its arguments read as they did. Part 12 of 14. No condition stands ahead of the statement. Parts of this text were printed by a program of ours.
-/
import Derived.Test.YtimmoekliphobaaDoorQ11
set_option linter.all false
set_option maxRecDepth 100000
set_option maxHeartbeats 4000000
namespace Go.Proofs.YtimmoekliphobaaDoor
open Go Go.Sh
open Go.Sh.Ty (reg)
theorem quick_j1 {h h1 : H} {N : Nat} {ht : Int} {x : law19_Game} {cs : List CS} {g : Addr} {s : Sl} {l : List Int} {k : Bool → H → Prop} (hT : Tb h) (hN : 1 ≤ N ∧ N ≤ 10) (hh : 1 ≤ ht ∧ ht ≤ 1024) (hv : SVz 1 h s l) (hll : l.length ≤ 200) (x1 : x.height = ht) (x2 : x.config.Epoch = 0) (hlen : cs.length = N) (hcs : ∀ (i : Nat) c, cs[i]? = some c → New1 c N ht i)
    (hs : Sat h [] h1 (gmX g N (G0 x cs) [])) (hk : ∀ h', Ext h h' → k true h') : law19_RoundQuick.j1 k (N : Int) ht s (some g) h1 := by
  unfold law19_RoundQuick.j1
  refine At_spec _ _ ?_
  refine Leader_spec (a := ht) (b := 0) ⟨hh, by omega⟩ (by omega) ?_
  rw [Int.add_zero]
  obtain ⟨lead, hlead⟩ : ∃ lead : Nat, ht % (N : Int) = (lead : Int) := Int.eq_ofNat_of_zero_le (Int.emod_nonneg _ (by omega))
  have hlN : lead < N := by have := Int.emod_lt_of_pos ht (show (0 : Int) < N by omega); omega
  rw [hlead]
  obtain ⟨c, hc⟩ : ∃ c, cs[lead]? = some c := ⟨_, List.getElem?_eq_getElem (by omega)⟩
  have hcn := hcs lead c hc
  refine nn_i (hs.ld_ 0 rfl ?_)
  have hcsv : SV 1 h1 x.cores (cs.map fun c => (some c.p : Pt)) := hs.ownSV 2 rfl (fun _ => rfl)
  refine sidx_ld (n := 1) (x := (some c.p : Pt)) (fun _ => rfl) hcsv (Int.natCast_nonneg _) (by rw [Int.toNat_natCast, List.getElem?_map, hc]; rfl) ?_
  have hR0 : RawOk h ht (G0 x cs) := ⟨x1, x2, (by intro e he; cases he), (by intro e he; cases he)⟩
  have hs2 := forth (ms := []) (G := G0 x cs) hs hc
  refine StartX c hT (by simp) hcn.ok hcn.acts hs2 (fun c' out sl KA h2 hO hpp hnu hK hs3 => ?_)
  obtain ⟨hq0, hout⟩ := start_q0 hcn hlN hlead hO
  have hA0 : QI0 N ht lead { (G0 x cs).ab with cs := cs.set lead c' } lead out := by
    refine ⟨rfl, hlN, by show (cs.set lead c').length = N; rw [List.length_set]; exact hlen, ?_, ?_, rfl, rfl, rfl, rfl, hout, fun j cj hj => ?_, fun cc hcc => ?_⟩
    · show (List.replicate cs.length ((Sl.nil, []) : Sl × List api_Vote)).map (·.2) = _
      rw [List.map_replicate, hlen]
    · show List.replicate cs.length dz = _
      rw [hlen]
    · have hj' : (cs.set lead c')[j]? = some cj := hj
      by_cases hjl : lead = j
      · subst hjl
        rw [List.getElem?_set_self (by omega)] at hj'
        obtain rfl := Option.some.inj hj'
        exact hq0
      · rw [List.getElem?_set_ne hjl] at hj'
        exact (hcs j cj hj').q0 (Ne.symm hjl)
    · have hcc' : (cs.set lead c')[lead]? = some cc := hcc
      rw [List.getElem?_set_self (by omega)] at hcc'
      obtain rfl := Option.some.inj hcc'
      have := mu_ub hcn.ok
      have : nu c ≤ 16401 := by unfold nu; split <;> omega
      omega
  refine first_acts (G := G0 x cs) (QI0.gi hN.1 hN.2 hlead) hT hs3 hc hpp hR0 hK (.inl hA0) (fun G h3 hR hA hs4 => ?_)
  obtain ⟨D, hQ⟩ : ∃ D, QI N ht lead D (fun _ _ => False) G.ab lead [] := by
    rcases hA with hA | hA
    · obtain ⟨a, qs, hp, _⟩ := hA.pd; cases hp
    · exact hA
  refine ifb_i (fun e => by cases e) (fun _ => ?_)
  have hsl : s.len = l.length := hv.1
  rw [hsl]
  clear hs hs2 hs3 hA hA0 hR0 hcsv hcn hc
  -- what is needed of a game to let something be heard
  have hear : ∀ {Hs Hs' : Nat → Nat → Prop} {G : GG} {i0 j m : Nat} {h4 : H} {K : Bool → H → Prop}, RawOk h ht G → QI N ht lead D Hs G.ab i0 [] → j < N → m < G.ord.length → (∀ k q, Hs' k q → Hs k q ∨ (k = j ∧ q = m)) → Sat h [] h4 (gmX g N G []) →
      (∀ G' h', RawOk h ht G' → QI N ht lead D Hs' G'.ab j [] → Sat h [] h' (gmX g N G' []) → K true h') → call (β := Bool) Prog 33 [reg ((some g : Pt) : Pt), reg ((j : Int) : Int), reg ((m : Int) : Int)] K h4 := by
    intro Hs Hs' G i0 j m h4 K hR hQ hj hm hH hs hK
    have hQj : QI N ht lead D Hs G.ab j [] := hQ.at hj (fun _ _ h => h)
    refine law19_Game_hear.ok _ _ _ _ _ ?_
    refine Ghear2 (I := QI N ht lead D Hs') (QI.gi hN.1 hN.2 hlead) hT hR (hQj.adm hN.2) hQj.od (fun e he => ?_) (fun v hv => ?_) hs (fun q e c c' out hq hP hc _ hO hnu => ?_) (fun q v c c' out hq hV hc hO hnu => ?_) hK (fun h' hx _ => by omega)
    · obtain ⟨p, qs, hp, _, p2, _⟩ := hQj.pls
      have he' : e ∈ G.ab.pls := he
      rw [hp, List.mem_singleton] at he'
      rw [he']; show 0 ≤ p.Round ∧ p.Round ≤ 1024; omega
    · obtain ⟨k', l', hl', hvl⟩ := hQj.vt v hv
      exact (hQj.ow k' l' hl' v hvl).1.2.1
    · obtain rfl : q = m := by omega
      exact hQj.hearP hN.2 hlead hP hc hO hnu hH
    · obtain rfl : q = m := by omega
      exact hQj.hearV hN.2 hlead hV hc hO hnu hH
  unfold law19_RoundQuick.l2
  refine ⟨fun (t : Int) h' => ∃ (T : Nat) (G : GG) (i : Nat), t = T ∧ T ≤ l.length ∧ RawOk h ht G ∧ QI N ht lead D (fun _ _ => False) G.ab i [] ∧ Sat h [] h' (gmX g N G []), fun t _ => (l.length - t).toNat, ⟨0, G, lead, rfl, Nat.zero_le _, hR, hQ, hs4⟩, ?_⟩
  clear hR hQ hs4
  rintro t h4 ⟨T, G, i, rfl, hTl, hR, hQ, hs⟩
  refine ifb_i (fun hc => ?_) (fun _ => ?_)
  · have hT' : T < l.length := by have : (T : Int) < (l.length : Int) := by simpa using hc
                                  omega
    have hgi : l[T]? = some l[T] := List.getElem?_eq_getElem hT'
    refine sidx_ldz len_i (hv.ext hs.fr) (Int.natCast_nonneg _) (by rw [Int.toNat_natCast]; exact hgi) ?_
    generalize l[T] = y at *
    refine nn_i (hs.ld_ 0 rfl ?_)
    have hol : G.x.order.len = G.ord.length := (hs.ownSV 7 rfl len_b : SV 1 h4 G.x.order G.ord).2.1
    have eT : iadd (T : Int) 1 = ((T + 1 : Nat) : Int) := by rw [iadd_eq (by omega) (by omega)]; omega
    have hol2 : G.ord.length ≤ 1 + 2 * N := hQ.ordl
    have hO := hQ.od.1
    obtain ⟨p, qs, hp, _⟩ := hQ.pls
    have hol1 : 1 ≤ G.ord.length := by
      have h9 : cT G.ord = 1 := by rw [show cT G.ord = G.ab.pls.length from hO, hp]; rfl
      have : cT G.ord ≤ G.ord.length := List.length_filter_le _ _
      omega
    refine ifb_i (fun _ => ?_) (fun hb => ?_)
    · refine ⟨u64_ne N ⟨hN.1, by omega⟩, hs.ld_ 0 rfl ⟨?_, ?_⟩⟩
      · rw [hol]; exact u64_ne _ ⟨hol1, by omega⟩
      obtain ⟨j, hj, ej⟩ := idx_mod y N ⟨hN.1, by omega⟩
      obtain ⟨m, hm, em⟩ := idx_mod y G.ord.length ⟨hol1, by omega⟩
      rw [hol, ej, em]
      refine hear (Hs' := fun _ _ => False) hR hQ hj hm (fun _ _ h => h.elim) hs (fun G' h5 hR' hQ' hs5 => ?_)
      unfold law19_RoundQuick.j4
      refine ifb_i (fun e => by cases e) (fun _ => ?_)
      rw [eT]
      exact ⟨⟨T + 1, G', j, rfl, hT', hR', hQ', hs5⟩, by dsimp only; omega⟩
    · rw [hol] at hb
      have : ¬ (0 : Int) < (G.ord.length : Int) := by simpa using hb
      omega
  -- all is heard by all
  unfold law19_RoundQuick.j3 law19_RoundQuick.l3
  refine ⟨fun (t : Int) h' => ∃ (I : Nat) (G : GG) (i : Nat), t = I ∧ I ≤ G.ord.length ∧ RawOk h ht G ∧ QI N ht lead D (fun k m => m < I ∧ k < N) G.ab i [] ∧ Sat h [] h' (gmX g N G []), fun t _ => (100 - t).toNat, ⟨0, G, i, rfl, Nat.zero_le _, hR, ?_, hs⟩, ?_⟩
  · exact hQ.at hQ.il (fun k m hx => absurd hx.1 (Nat.not_lt_zero _))
  clear hR hQ hs
  rintro t h5 ⟨I, G, i, rfl, hI, hR, hQ, hs⟩
  have hol2 : G.ord.length ≤ 1 + 2 * N := hQ.ordl
  refine nn_i (hs.ld_ 0 rfl ?_)
  have hol : G.x.order.len = G.ord.length := (hs.ownSV 7 rfl len_b : SV 1 h5 G.x.order G.ord).2.1
  rw [hol]
  refine ifb_i (fun hc => ?_) (fun hc => ?_)
  · have hI' : I < G.ord.length := by have : (I : Int) < (G.ord.length : Int) := by simpa using hc
                                      omega
    refine hs.ld_ 0 rfl ?_
    have hcl : G.x.cores.len = N := by
      have : SV 1 h5 G.x.cores (G.cs.map fun c => (some c.p : Pt)) := hs.ownSV 2 rfl (fun _ => rfl)
      rw [this.2.1, List.length_map]; exact hQ.csl
    rw [hcl]
    unfold law19_RoundQuick.l4
    refine ⟨fun (t : Int) h' => ∃ (K : Nat) (G : GG) (i : Nat), t = K ∧ K ≤ N ∧ I < G.ord.length ∧ RawOk h ht G ∧ QI N ht lead D (fun k m => (m < I ∧ k < N) ∨ (m = I ∧ k < K)) G.ab i [] ∧ Sat h [] h' (gmX g N G []), fun t _ => (N - t).toNat, ⟨0, G, i, rfl, Nat.zero_le _, hI', hR, ?_, hs⟩, ?_⟩
    · exact hQ.at hQ.il (fun k m hx => hx.elim id (fun hy => absurd hy.2 (Nat.not_lt_zero _)))
    clear hR hQ hs hc hcl hol hol2 hI hI'
    rintro t h6 ⟨K, G, i, rfl, hK, hI, hR, hQ, hs⟩
    refine ifb_i (fun hc => ?_) (fun hc => ?_)
    · have hK' : K < N := by have : (K : Int) < (N : Int) := by simpa using hc
                             omega
      refine hear (Hs' := fun k m => (m < I ∧ k < N) ∨ (m = I ∧ k < K + 1)) hR hQ hK' hI (fun k q hx => ?_) hs (fun G' h7 hR' hQ' hs7 => ?_)
      · rcases hx with hx | ⟨hx1, hx2⟩
        · exact .inl (.inl hx)
        · by_cases hkK : k = K
          · exact .inr ⟨hkK, hx1⟩
          · exact .inl (.inr ⟨hx1, by omega⟩)
      · refine ifb_i (fun e => by cases e) (fun _ => ?_)
        have e : iadd (K : Int) 1 = ((K + 1 : Nat) : Int) := by rw [iadd_eq (by omega) (by omega)]; omega
        rw [e]
        exact ⟨⟨K + 1, G', K, rfl, hK', (hQ'.hd K I (.inr ⟨rfl, Nat.lt_succ_self _⟩)).1, hR', hQ', hs7⟩, by dsimp only; omega⟩
    · have hK' : K = N := by have : ¬ (K : Int) < (N : Int) := by simpa using hc
                             omega
      subst hK'
      unfold law19_RoundQuick.j6
      have hol2 : G.ord.length ≤ 1 + 2 * K := hQ.ordl
      have e : iadd (I : Int) 1 = ((I + 1 : Nat) : Int) := by rw [iadd_eq (by omega) (by omega)]; omega
      rw [e]
      refine ⟨⟨I + 1, G, i, rfl, hI, hR, hQ.at hQ.il (fun k m hx => ?_), hs⟩, by dsimp only; omega⟩
      by_cases hmI : m = I
      · exact .inr ⟨hmI, hx.2⟩
      · exact .inl ⟨by omega, hx.2⟩
  · have hI' : I = G.ord.length := by have : ¬ (I : Int) < (G.ord.length : Int) := by simpa using hc
                                      omega
    subst hI'
    have hfin := hQ.fin hN.1 hN.2 (fun k hk m hm => (hQ.hd k m ⟨hm, hk⟩).2)
    obtain ⟨p, qs, hp, _, _, _, _, hqn, hpD⟩ := hQ.pls
    have hp' : G.pls = [(p, qs)] := hp
    unfold law19_RoundQuick.j5
    refine nn_i (hs.ld_ 0 rfl ?_)
    have hpsv : SV 108 h5 G.x.plans (G.pls.map (·.1)) := hs.ownSV 5 rfl len_api_Plan
    have hpl : G.x.plans.len = 1 := by have := hpsv.2.1; rw [hp'] at this; exact this
    refine ifb_i (fun hb => by rw [hpl] at hb; simp at hb) (fun _ => ?_)
    refine hs.ld_ 0 rfl ?_
    have hdl : G.x.decided.len = G.dc.length := (hs.ownSV 4 rfl arr_len : SV 32 h5 G.x.decided G.dc).2.1
    have hdN : G.dc.length = N := hQ.dcl
    rw [hdl]
    unfold law19_RoundQuick.l5
    refine ⟨fun (t : Int) h' => ∃ J : Nat, t = J ∧ J ≤ G.dc.length ∧ Sat h [] h' (gmX g N G []), fun t _ => (G.dc.length - t).toNat, ⟨0, rfl, Nat.zero_le _, hs⟩, ?_⟩
    clear hs hpsv hc
    rintro t h6 ⟨J, rfl, hJ, hs⟩
    refine ifb_i (fun hc => ?_) (fun _ => ?_)
    · have hJ' : J < G.dc.length := by have : (J : Int) < (G.dc.length : Int) := by simpa using hc
                                       omega
      obtain ⟨d, hd⟩ : ∃ d, G.dc[J]? = some d := ⟨_, List.getElem?_eq_getElem hJ'⟩
      have hdD : d = D := hfin d (List.mem_of_getElem? hd)
      refine sidx_ld arr_len (hs.ownSV 4 rfl arr_len) (Int.natCast_nonneg _) (by rw [Int.toNat_natCast]; exact hd) ?_
      refine hs.box_ (fun d1 h7 hs2 _ _ => ?_)
      refine hs2.st_ 0 rfl arr_len (fun h8 hs3 _ => ?_)
      refine hs3.ld_ 0 rfl (nn_i (hs3.ld_ 1 rfl ?_))
      have hpsv : SV 108 h8 G.x.plans (G.pls.map (·.1)) := hs3.ownSV 6 rfl len_api_Plan
      refine sidx_ld len_api_Plan hpsv (j := 0) (by decide) (x := p) (by rw [hp']; rfl) ?_
      have hcov := hR.pl (p, qs) (by rw [hp']; simp)
      have hkE : (kE G.KG).A h8 := hs3.at_ (i := 10) rfl
      refine BDig_spec _ qs (hT.fr hs3.fr (by simp)) (hcov.svz hkE hs3.fr) (by omega) (fun h9 hx9 => ?_)
      have hs4 := hs3.ext hx9
      refine hs4.chk_ 0 rfl rfl ?_
      refine ifb_i (fun hb => ?_) (fun _ => ?_)
      · have hne : ¬ d = digB p.Block qs := by simpa using hb
        exact absurd (hdD.trans hpD.symm) hne
      · have e : iadd (J : Int) 1 = ((J + 1 : Nat) : Int) := by rw [iadd_eq (by omega) (by omega)]; omega
        rw [e]
        exact ⟨⟨J + 1, rfl, hJ', hs4.drop (List.sublist_cons_self _ _)⟩, by dsimp only; omega⟩
    · unfold law19_RoundQuick.j7
      exact hk h6 hs.fr
theorem RoundQuick_spec (n ht : Int) (s : Sl) (l : List Int) {k : Bool → H → Prop} {h : H} (hT : Tb h) (hv : SVz 1 h s l) (hk : ∀ h', Ext h h' → k true h') : law19_RoundQuick.b n ht s k h := by
  unfold law19_RoundQuick.b
  refine law19_alive.ok _ _ (alive19_spec hT (fun h1 hx1 => ?_))
  refine ifb_i (fun e => by cases e) (fun _ => ?_)
  refine ifb_i (fun _ => hk h1 hx1) (fun hg => ?_)
  simp only [Bool.or_eq_false_iff, decide_eq_false_iff_not] at hg
  obtain ⟨N, rfl⟩ := Int.eq_ofNat_of_zero_le (show 0 ≤ n by omega)
  have hN : 1 ≤ N ∧ N ≤ 10 := by omega
  have hh : 1 ≤ ht ∧ ht ≤ 1024 := by omega
  have hsl : s.len = l.length := hv.1
  have hll : l.length ≤ 200 := by omega
  clear hg
  refine game_spec N ht hN.1 hN.2 hh ((Sat.init h).ext hx1) (fun g x cs0 h2 x1 x2 x3 x4 x5 x6 x7 hlen hcs hs2 => ?_)
  have hs3 : Sat h [] h2 (gmX g N (G0 x cs0) []) := by
    unfold G0
    rw [hlen]
    exact init_gm x3 x4 x5 x6 hs2
  refine Faults8_spec N hN.1 (by omega) ?_
  refine ifb_i (fun hf => ?_) (fun hf => ?_)
  · refine nn_i (hs3.ld_ 0 rfl ?_)
    have hcl : x.cores.len = cs0.length := by
      have : SV 1 h2 x.cores (cs0.map fun c => (some c.p : Pt)) := hs3.ownSV 2 rfl (fun _ => rfl)
      rw [this.2.1, List.length_map]
    rw [show (G0 x cs0).x.cores.len = cs0.length from hcl]
    unfold law19_RoundQuick.l1
    refine ⟨fun (t : Int) h' => ∃ (x : law19_Game) (cs : List CS), t = (cs.length : Int) ∧ cs.length ≤ N ∧ x.height = ht ∧ x.config.Epoch = 0 ∧ (∀ (i : Nat) c, cs[i]? = some c → New1 c N ht i) ∧ Sat h [] h' (gmX g N (G0 x cs) []), fun t _ => (N - t).toNat, ⟨x, cs0, rfl, by omega, x1, x2, hcs, hs3⟩, ?_⟩
    clear hs3 hs2 hcs hlen x1 x2 x3 x4 x5 x6 x7 hcl
    rintro t h3 ⟨x, cs, rfl, hle, x1, x2, hcs, hs⟩
    refine ifb_i (fun hc => ?_) (fun hc => ?_)
    · have hc' : cs.length < N := by have : (cs.length : Int) < (N : Int) := by simpa using hc
                                     omega
      refine nn_i (hs.ld_ 0 rfl (hs.ld_ 0 rfl ?_))
      have e2 : iadd (cs.length : Int) 1 = ((cs.length + 1 : Nat) : Int) := by rw [iadd_eq (by omega) (by omega)]; omega
      rw [e2]
      have hgd := goodC_N N hN.1 hN.2
      refine New_spec19 x.config (memN N) _ ht 1 (by unfold I64; omega) hs (SV.z (hs.ownSV 1 rfl len_api_Member)) (fun h5 hf _ => ?_) (fun c mm' h5 _ hF hs5 => ?_)
      · rw [x2, hgd, decide_eq_true hh] at hf; cases hf
      have hc0 : Cok c := hF.ok (by rw [x2]; exact hgd) ⟨hh, by omega⟩
      have hnew : New1 c N ht cs.length := by
        obtain ⟨fx, f1, f2, f3, f4, f5, f6, f7, f8, f9, f10, f11⟩ := hF
        exact ⟨hc0, f9, by rw [fx], f1, f2, by rw [fx], f3, f4, f5, by rw [fx]; rfl, by rw [fx]; rfl, by rw [fx]; rfl, by rw [fx], by rw [fx], ⟨by rw [fx]; rfl, f7⟩, f8⟩
      refine more_app (by omega) hs5 (fun x' h6 y1 y2 hs6 => ?_)
      refine ⟨⟨x', cs ++ [c], by simp, by simp; omega, y1.trans x1, y2.trans x2, fun j c' hj => ?_, hs6⟩, by dsimp only; omega⟩
      by_cases hjl : j < cs.length
      · rw [List.getElem?_append_left hjl] at hj; exact hcs j c' hj
      · rw [List.getElem?_append_right (by omega)] at hj
        have : j = cs.length := by
          by_cases h9 : j - cs.length = 0
          · omega
          · rw [List.getElem?_eq_none (by simp; omega)] at hj; cases hj
        subst this
        simp at hj; subst hj; exact hnew
    · have hc' : cs.length = N := by have : ¬ (cs.length : Int) < (N : Int) := by simpa using hc
                                     omega
      exact quick_j1 hT hN hh hv hll x1 x2 hc' hcs hs hk
  · have hN3 : (N - 1) / 3 = 0 := by
      have : ¬ (0 : Int) < (((N - 1) / 3 : Nat) : Int) := by simpa using hf
      omega
    exact quick_j1 hT hN hh hv hll x1 x2 (by omega) hcs hs3 hk
end Go.Proofs.YtimmoekliphobaaDoor

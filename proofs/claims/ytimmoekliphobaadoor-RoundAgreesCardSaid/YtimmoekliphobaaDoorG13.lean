/-
  THE CARD OF wapentakelaw19.RoundAgrees: for every input that the row lets in, RoundAgrees returns true and its arguments read as they did. Part 13 of 15. No condition stands ahead of the statement. Parts of this text were printed by a program of ours.
-/
import Derived.Test.YtimmoekliphobaaDoorG12
set_option linter.all false
set_option maxRecDepth 100000
set_option maxHeartbeats 4000000
namespace Go.Proofs.YtimmoekliphobaaDoor
open Go Go.Sh
open Go.Sh.Ty (reg)
theorem New1.ci {c : CS} {n M : Nat} {DD : Dig → Prop} {ht : Int} {i : Nat} (h : New1 c n ht i) : CI (fun _ => []) n M DD ht i c := by
  obtain ⟨a1, a2, a3, a4, a5, a6, a7, a8, a9, a10, a11, a12, a13, a14, a15, a16⟩ := h
  exact ⟨a1, a2, a3, a4, (by rw [a7]; exact .nil), (by rw [a7]; intro q h; cases h), (by intro v h; cases h), (by intro v h; cases h), (by intro r d h; cases h), (by rw [a13]; intro h; omega), (by rw [a13, a5]; omega), (by rw [a14, a5]; omega), (by rw [a8]; intro e h; cases h)⟩
theorem saidA_new (M i : Nat) (cs : List CS) (dc : List Dig) : saidA ⟨cs, [], [], [], List.replicate M [], dc, []⟩ i [] = fun _ => [] := by
  funext j
  unfold saidA
  have h1 : (List.replicate M ([] : List api_Vote)).getD j [] = [] := by
    rw [List.getD_eq_getElem?_getD, List.getElem?_replicate]; split <;> rfl
  have h2 : vvs (([] : List PA).map (·.1)) = [] := rfl
  show ((List.replicate M ([] : List api_Vote)).getD j []).map vvV ++ (if j = i then vvs (([] : List PA).map (·.1)) else []) = []
  rw [h1, h2]; simp
theorem AI.new {n M : Nat} {ht : Int} {cs : List CS} (hM : M = n - (n - 1) / 3) (h1 : 1 ≤ n) (hl : cs.length = M) (hcs : ∀ (i : Nat) c, cs[i]? = some c → New1 c n ht i) : AI n M ht 0 ⟨cs, [], [], [], List.replicate M [], List.replicate M dz, []⟩ 0 [] := by
  refine ⟨⟨by omega, hl, by simp, by simp, ?_, ?_, by simp, ?_, by simp, by simp, Nat.le_refl _, ⟨rfl, rfl⟩, ?_⟩, fun c hc => ?_⟩
  · rw [saidA_new]
    exact ⟨fun _ _ => .nil, fun _ _ _ _ h => (by cases h), fun _ _ _ _ h => (by cases h)⟩
  · rw [saidA_new]
    intro j c hj
    have hn := hcs j c hj
    exact ⟨hn.ci, hn.acts, by rw [hn.vts]; exact Nat.zero_le _⟩
  · intro j l hj
    have hj' : (List.replicate M ([] : List api_Vote))[j]? = some l := hj
    rw [List.getElem?_replicate] at hj'
    split at hj'
    · obtain rfl := Option.some.inj hj'; simp
    · cases hj'
  · intro d hd
    exact .inl (List.eq_of_mem_replicate hd)
  · have hn := hcs 0 c hc
    have := mu_ub hn.ok
    have : nu c ≤ 16401 := by unfold nu; split <;> omega
    show 0 + 0 + nu c ≤ _
    omega
theorem RoundAgrees_spec (n ht : Int) (s : Sl) (l : List law19_Move) {k : Bool → H → Prop} {h : H} (hT : Tb h) (hv : SVz 152 h s l) (hd : ∀ x ∈ l, ∃ qs : List api_Request, SVz 42 h x.P.Block.Requests qs)
    (hk : ∀ h', Ext h h' → k true h') : law19_RoundAgrees.b n ht s k h := by
  unfold law19_RoundAgrees.b
  refine law19_alive.ok _ _ (alive19_spec hT (fun h1 hx1 => ?_))
  refine ifb_i (fun e => by cases e) (fun _ => ?_)
  refine ifb_i (fun _ => hk h1 hx1) (fun hg => ?_)
  simp only [Bool.or_eq_false_iff, decide_eq_false_iff_not] at hg
  obtain ⟨N, rfl⟩ := Int.eq_ofNat_of_zero_le (show 0 ≤ n by omega)
  have hN : 1 ≤ N ∧ N ≤ 10 := by omega
  have hh : 1 ≤ ht ∧ ht ≤ 1024 := by omega
  have hsl : s.len = l.length := hv.1
  have hll : l.length ≤ 150 := by omega
  clear hg
  refine game_spec N ht hN.1 hN.2 hh ((Sat.init h).ext hx1) (fun g x cs0 h2 x1 x2 x3 x4 x5 x6 x7 hlen hcs hs2 => ?_)
  generalize hM : N - (N - 1) / 3 = M at *
  have hs3 := init_gm x3 x4 x5 x6 hs2
  have hA0 : AI N M ht 0 (GG.ab ⟨x, cs0, [], [], [], List.replicate M (Sl.nil, []), List.replicate M dz, [], []⟩) 0 [] := by
    have := AI.new (ht := ht) hM.symm hN.1 hlen hcs
    unfold GG.ab
    rw [List.map_replicate]
    exact this
  have hR0 : RawOk h ht ⟨x, cs0, [], [], [], List.replicate M (Sl.nil, []), List.replicate M dz, [], []⟩ := ⟨x1, x2, by simp, by simp⟩
  rw [hsl]
  unfold law19_RoundAgrees.l1
  refine ⟨fun (t : Int) h' => ∃ (T : Nat) (G : GG) (i : Nat), t = T ∧ T ≤ l.length ∧ RawOk h ht G ∧ AI N M ht T G.ab i [] ∧ Sat h [] h' (gmX g N G []), fun t _ => (l.length - t).toNat, ⟨0, _, 0, rfl, Nat.zero_le _, hR0, hA0, hs3⟩, ?_⟩
  clear hs2 hs3 hA0 hR0 hcs hlen
  rintro t h3 ⟨T, G, i, rfl, hTl, hR, hA, hs⟩
  refine ifb_i (fun hc => ?_) (fun _ => hk h3 hs.fr)
  have hT' : T < l.length := by have : (T : Int) < (l.length : Int) := by simpa using hc
                                omega
  have hgi : l[T]? = some l[T] := List.getElem?_eq_getElem hT'
  obtain ⟨qs, hqs⟩ := hd _ (List.getElem_mem hT')
  refine sidx_ldz len_law19_Move (hv.ext hs.fr) (Int.natCast_nonneg _) (by rw [Int.toNat_natCast]; exact hgi) ?_
  generalize l[T] = m at *
  refine hs.box_ (fun m1 h4 hs4 _ _ => ?_)
  refine hs4.st_ 0 rfl len_law19_Move (fun h5 hs5 _ => ?_)
  refine hs5.ld_ 0 rfl ?_
  have hs6 : Sat h [] h5 (gmX g N G []) := hs5.drop (List.sublist_cons_self _ _)
  refine Gplay_spec hM.symm hN.1 hN.2 hh hT (by omega) hR hA hqs hs6 (fun G' h6 i' hR' hA' hs7 => ?_)
  refine ifb_i (fun e => by cases e) (fun _ => ?_)
  have hdl : G'.dc.length = M := hA'.1.dcl
  refine Gagree_spec (fun d hd d' hd' hne hne' => ?_) (by omega) hs7 (fun h7 hs8 => ?_)
  · rcases hA'.1.dc d hd with h9 | ⟨r, hq⟩
    · exact absurd h9 hne
    · rcases hA'.1.dc d' hd' with h9 | ⟨r', hq'⟩
      · exact absurd h9 hne'
      · exact hA'.1.gd.agree hM.symm hN.1 hq hq' hne hne'
  · unfold law19_RoundAgrees.j2
    refine ifb_i (fun e => by cases e) (fun _ => ?_)
    have e : iadd (T : Int) 1 = ((T + 1 : Nat) : Int) := by rw [iadd_eq (by omega) (by omega)]; omega
    rw [e]
    exact ⟨⟨T + 1, G', i', rfl, hT', hR', hA', hs8⟩, by dsimp only; omega⟩
end Go.Proofs.YtimmoekliphobaaDoor

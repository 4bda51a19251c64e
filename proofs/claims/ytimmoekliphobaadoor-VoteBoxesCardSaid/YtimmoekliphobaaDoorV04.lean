/-
  THE CARD OF wapentakelaw13.VoteBoxes: for every input that the row lets in, VoteBoxes returns true and its arguments read as they did. Part 4 of 6. No condition stands ahead of the statement. Parts of this text were printed by a program of ours.
-/
import Derived.Test.YtimmoekliphobaaDoorV03
import Derived.Shelf.SortM.SortNone
import Derived.Sort.MapsRangeIn
import Derived.Shelf.SortM.Plain
import Derived.Shelf.SlIterI.Sorted
set_option linter.all false
namespace Go.Proofs.YtimmoekliphobaaDoor
open Go Go.Sh
open Go.Sh.Ty (reg)
set_option linter.unusedVariables false
set_option maxRecDepth 100000

theorem one_dig (y : Dig) : (enc y).all (·.oneCell') = true := one_arr (fun _ => rfl) y
theorem keyleaf_spec (p : Dig) {k : Dig → H → Prop} {h : H} (hT : Tb h) (hk : ∀ h', Ext h h' → k (leafF (List.ofFn p)) h') : keys_leaf.b p k h := by
  unfold keys_leaf.b
  refine (Sat.init h).box_ (fun a h1 hs1 _ _ => ?_)
  refine hs1.box_ (fun t h2 hs2 _ _ => ?_)
  refine tree_Leaf.ok _ _ _ (Leaf_spec _ (List.ofFn p) (hT.fr hs2.fr (by simp)) (hs2.wholeSV 1 rfl (by decide)) (by simp) (fun h3 hx3 => ?_))
  have hs3 := hs2.ext hx3
  refine hs3.st_ 0 rfl arr_len (fun h4 hs4 _ => ?_)
  refine hs4.ld_ 0 rfl ?_
  exact hk h4 hs4.fr

def pubList (seed : Dig) (leaf : Int) (n : Nat) : List Dig := (List.range n).flatMap fun i : Nat => [shutF (secretF seed leaf i 0), shutF (secretF seed leaf i 1)]
theorem pubList_succ (seed : Dig) (leaf : Int) (n : Nat) : pubList seed leaf (n + 1) = pubList seed leaf n ++ [shutF (secretF seed leaf n 0), shutF (secretF seed leaf n 1)] := by
  simp [pubList, List.range_succ]
theorem pubList_len (seed : Dig) (leaf : Int) (n : Nat) : (pubList seed leaf n).length = 2 * n := by
  induction n with
  | zero => rfl
  | succ n ih => rw [pubList_succ, List.length_append, ih]; simp; omega
def publicF (seed : Dig) (leaf : Int) : Dig := wholeF (pubList seed leaf 32)
theorem Public_spec (seed : Dig) (leaf : Int) {k : Dig → H → Prop} {h : H} (hT : Tb h) (hk : ∀ h', Ext h h' → k (publicF seed leaf) h') : once_Public.b seed leaf k h := by
  unfold once_Public.b
  refine (Sat.init h).box_ (fun a h1 hs1 _ _ => ?_)
  refine hs1.box_ (fun t h2 hs2 _ _ => ?_)
  unfold once_Public.l1
  refine ⟨fun (st : Sl × Int) h' => ∃ i : Nat, st.2 = i ∧ i ≤ 32 ∧ Sat h [] h' [own 24 32 st.1 (pubList seed leaf i), cel 24 t (enc ((fun _ => 0) : Dig)), cel 24 a (enc seed)], fun st _ => (32 - st.2).toNat, ⟨0, rfl, by omega, hs2.nilOwn⟩, ?_⟩
  rintro ⟨list, t7⟩ h3 ⟨i, hi, hil, hs3⟩
  simp only at hi hs3
  subst hi
  refine ifb_i (fun hc => ?_) (fun hc => ?_)
  · have hi : i < 32 := by have : (i : Int) < 32 := by simpa using hc
                           omega
    refine hs3.ld_ 2 rfl ?_
    refine hs3.ld_ 2 rfl ?_
    refine once_secret.ok _ _ _ _ _ _ (secret_spec _ _ _ _ (hT.fr hs3.fr (by simp)) (fun h4 hx4 => ?_))
    have hs4 := hs3.ext hx4
    refine hs4.chk_ 2 rfl rfl ?_
    refine once_shut.ok _ _ _ (shut_spec _ (hT.fr hs4.fr (by simp)) (fun h5 hx5 => ?_))
    have hs5 := hs4.ext hx5
    refine hs5.chk_ 2 rfl rfl ?_
    refine once_secret.ok _ _ _ _ _ _ (secret_spec _ _ _ _ (hT.fr hs5.fr (by simp)) (fun h6 hx6 => ?_))
    have hs6 := hs5.ext hx6
    refine once_shut.ok _ _ _ (shut_spec _ (hT.fr hs6.fr (by simp)) (fun h7 hx7 => ?_))
    have hs7 := hs6.ext hx7
    refine hs7.mks_ (n := 32) (fun sl h8 hs8 _ _ => ?_)
    refine hs8.app_ 1 rfl (hs8.ownSV 0 rfl arr_len) arr_len one_dig (arr_len _) ?_ ?_ (fun r h9 hs9 hl9 => ?_)
    · simp only [pubList_len, List.length_cons, List.length_nil, maxBytes]; omega
    · simp only [pubList_len, List.length_cons, List.length_nil]; omega
    have e1 : iadd (i : Int) 1 = ((i + 1 : Nat) : Int) := by rw [iadd_eq (by omega) (by omega)]; omega
    rw [e1]
    refine ⟨⟨i + 1, rfl, hi, ?_⟩, by dsimp only; omega⟩
    have := hs9.drop (List.sublist_cons_self _ _)
    rw [pubList_succ]
    exact this
  · have hi : i = 32 := by
      have : ¬ (i : Int) < 32 := by simpa using hc
      omega
    subst hi
    unfold once_Public.j1
    have hne : pubList seed leaf 32 ≠ [] := by intro h0; have := pubList_len seed leaf 32; rw [h0] at this; simp at this
    refine once_whole.ok _ _ _ (whole_spec _ _ (hT.fr hs3.fr (by simp)) (hs3.ownSV 0 rfl arr_len) hne (by rw [pubList_len]; omega) (fun h4 hx4 => ?_))
    have hs4 := hs3.ext hx4
    refine hs4.st_ 1 rfl arr_len (fun h5 hs5 _ => ?_)
    refine hs5.ld_ 1 rfl ?_
    exact hk h5 hs5.fr

/-- a signature's lists -/
def OnceA (o : api_Once) (opens shuts : List Dig) (h : H) : Prop := SV 32 h o.Open opens ∧ SV 32 h o.Shut shuts
def onc (o : api_Once) (opens shuts : List Dig) : En := ⟨blk o.Open ++ blk o.Shut, OnceA o opens shuts⟩
theorem onc_loc (o : api_Once) (opens shuts : List Dig) : Go.Sh.Loc (onc o opens shuts) := fun h h' hb H =>
  ⟨rdo_loc 32 o.Open opens h h' (fun b hb' => hb b (by simp only [onc, List.mem_append]; exact .inl hb')) H.1, rdo_loc 32 o.Shut shuts h h' (fun b hb' => hb b (by simp only [onc, List.mem_append]; exact .inr hb')) H.2⟩
def opensF (seed : Dig) (leaf : Int) (d : Dig) (n : Nat) : List Dig := (List.range n).map fun i : Nat => secretF seed leaf i (bitF d i)
def shutsF (seed : Dig) (leaf : Int) (d : Dig) (n : Nat) : List Dig := (List.range n).map fun i : Nat => shutF (secretF seed leaf i (isub 1 (bitF d i)))
theorem len_once (y : api_Once) : (enc y).length = 2 := len_api_Once y
theorem Sign_spec (seed : Dig) (leaf : Int) (d : Dig) {k : api_Once → H → Prop} {h : H} (hT : Tb h)
    (hk : ∀ o h', Ext h h' → OnceA o (opensF seed leaf d 32) (shutsF seed leaf d 32) h' → (∀ b ∈ blk o.Open ++ blk o.Shut, h.size ≤ b ∧ b < h'.size) → k o h') : once_Sign.b seed leaf d k h := by
  unfold once_Sign.b
  refine (Sat.init h).box_ (fun a h1 hs1 _ _ => ?_)
  refine hs1.box_ (fun dd h2 hs2 _ _ => ?_)
  refine hs2.box_ (fun t h3 hs3 _ _ => ?_)
  refine hs3.box_ (fun o h4 hs4 _ _ => ?_)
  unfold once_Sign.l1
  refine ⟨fun (t7 : Int) h' => ∃ i : Nat, t7 = i ∧ i ≤ 32 ∧ ∃ s1 s2, Sat h [] h' [own 24 32 s1 (opensF seed leaf d i), own 24 32 s2 (shutsF seed leaf d i), cel 33 o (enc (⟨s1, s2⟩ : api_Once)), cel 33 t (enc api_Once.zero), cel 24 dd (enc d), cel 24 a (enc seed)], fun t7 _ => (32 - t7).toNat, ⟨0, rfl, by omega, Sl.nil, Sl.nil, hs4.nilOwn.nilOwn⟩, ?_⟩
  rintro t7 h5 ⟨i, rfl, hil, s1, s2, hs5⟩
  refine ifb_i (fun hc => ?_) (fun hc => ?_)
  · have hi : i < 32 := by have : (i : Int) < 32 := by simpa using hc
                           omega
    refine hs5.ld_ 4 rfl ?_
    refine once_bit.ok _ _ _ _ (bit_spec _ _ (by omega) (by omega) (fun h6 hx6 => ?_))
    have hs6 := hs5.ext hx6
    refine hs6.ld_ 2 rfl ?_
    refine hs6.ld_ 5 rfl ?_
    refine once_secret.ok _ _ _ _ _ _ (secret_spec _ _ _ _ (hT.fr hs6.fr (by simp)) (fun h7 hx7 => ?_))
    have hs7 := hs6.ext hx7
    refine hs7.chk_ 2 rfl rfl ?_
    refine hs7.mks_ (n := 32) (fun sl h8 hs8 _ _ => ?_)
    refine hs8.chk_ 3 rfl rfl ?_
    refine hs8.app_ 1 rfl (hs8.ownSV 0 rfl arr_len) arr_len one_dig (arr_len _) ?_ ?_ (fun r h9 hs9 hl9 => ?_)
    · simp only [opensF, List.length_map, List.length_range, List.length_cons, List.length_nil, maxBytes]; omega
    · simp only [opensF, List.length_map, List.length_range, List.length_cons, List.length_nil]; omega
    refine hs9.st_ 3 rfl len_once (fun h10 hs10 _ => ?_)
    have hs10' := hs10.drop (List.sublist_cons_self _ _)
    refine hs10'.ld_ 2 rfl ?_
    refine hs10'.ld_ 5 rfl ?_
    refine once_secret.ok _ _ _ _ _ _ (secret_spec _ _ _ _ (hT.fr hs10'.fr (by simp)) (fun h11 hx11 => ?_))
    have hs11 := hs10'.ext hx11
    refine hs11.chk_ 2 rfl rfl ?_
    refine once_shut.ok _ _ _ (shut_spec _ (hT.fr hs11.fr (by simp)) (fun h12 hx12 => ?_))
    have hs12 := hs11.ext hx12
    refine hs12.chk_ 2 rfl rfl ?_
    refine hs12.mks_ (n := 32) (fun sl' h13 hs13 _ _ => ?_)
    refine hs13.chk_ 3 rfl rfl ?_
    refine hs13.app_ 2 rfl (hs13.ownSV 0 rfl arr_len) arr_len one_dig (arr_len _) ?_ ?_ (fun r2 h14 hs14 hl14 => ?_)
    · simp only [shutsF, List.length_map, List.length_range, List.length_cons, List.length_nil, maxBytes]; omega
    · simp only [shutsF, List.length_map, List.length_range, List.length_cons, List.length_nil]; omega
    refine hs14.st_ 3 rfl len_once (fun h15 hs15 _ => ?_)
    have hs15' := hs15.drop (List.sublist_cons_self _ _)
    have e1 : iadd (i : Int) 1 = ((i + 1 : Nat) : Int) := by rw [iadd_eq (by omega) (by omega)]; omega
    rw [e1]
    refine ⟨⟨i + 1, rfl, hi, r, r2, ?_⟩, by dsimp only; omega⟩
    have eo : opensF seed leaf d (i + 1) = opensF seed leaf d i ++ [secretF seed leaf i (bitF d i)] := by simp [opensF, List.range_succ]
    have es : shutsF seed leaf d (i + 1) = shutsF seed leaf d i ++ [shutF (secretF seed leaf i (isub 1 (bitF d i)))] := by simp [shutsF, List.range_succ]
    rw [eo, es]
    exact hs15'
  · have hi : i = 32 := by
      have : ¬ (i : Int) < 32 := by simpa using hc
      omega
    subst hi
    unfold once_Sign.j1
    refine hs5.ld_ 2 rfl ?_
    refine hs5.st_ 3 rfl len_once (fun h6 hs6 _ => ?_)
    refine hs6.ld_ 3 rfl ?_
    refine hk _ h6 hs6.fr ⟨hs6.ownSV 0 rfl arr_len, hs6.ownSV 1 rfl arr_len⟩ ?_
    intro b hb
    simp only [List.mem_append] at hb
    rcases hb with hb | hb
    · have := (hs6.ok _ (List.mem_of_getElem? (i := 0) rfl)).2.2 b hb
      simp at this; omega
    · have := (hs6.ok _ (List.mem_of_getElem? (i := 1) rfl)).2.2 b hb
      simp at this; omega

def ofList (d : Dig) (opens shuts : List Dig) (n : Nat) : List Dig := (List.range n).flatMap fun i : Nat => if bitF d (i : Int) = 0 then [shutF (opens.getD i default), shuts.getD i default] else [shuts.getD i default, shutF (opens.getD i default)]
theorem ofList_succ (d : Dig) (opens shuts : List Dig) (n : Nat) : ofList d opens shuts (n + 1) = ofList d opens shuts n ++ (if bitF d n = 0 then [shutF (opens.getD n default), shuts.getD n default] else [shuts.getD n default, shutF (opens.getD n default)]) := by
  simp [ofList, List.range_succ]
theorem ofList_len (d : Dig) (opens shuts : List Dig) (n : Nat) : (ofList d opens shuts n).length = 2 * n := by
  induction n with
  | zero => rfl
  | succ n ih => rw [ofList_succ, List.length_append, ih]; split <;> simp <;> omega
theorem Of108_spec (d : Dig) (o : api_Once) (opens shuts : List Dig) {k : T2 Dig Bool → H → Prop} {h : H} (hT : Tb h) (ho : OnceA o opens shuts h) (h1 : opens.length = 32) (h2 : shuts.length = 32)
    (hk : ∀ h', Ext h h' → k ⟨wholeF (ofList d opens shuts 32), true⟩ h') : once_Of.b d o k h := by
  unfold once_Of.b
  refine (Sat.init h).box_ (fun dd h1' hs1 _ _ => ?_)
  refine hs1.box_ (fun oo h2' hs2 _ _ => ?_)
  refine hs2.box_ (fun t h3 hs3 _ _ => ?_)
  refine hs3.ld_ 1 rfl ?_
  refine hs3.ld_ 1 rfl ?_
  have hl1 : o.Open.len = 32 := by rw [ho.1.2.1]; exact h1
  have hl2 : o.Shut.len = 32 := by rw [ho.2.2.1]; exact h2
  refine ifb_i (fun hc => ?_) (fun hc => ?_)
  · simp [hl1, hl2] at hc
  unfold once_Of.l1
  refine ⟨fun (st : Sl × Int) h' => ∃ i : Nat, st.2 = i ∧ i ≤ 32 ∧ Sat h [] h' [own 24 32 st.1 (ofList d opens shuts i), cel 24 t (enc ((fun _ => 0) : Dig)), cel 33 oo (enc o), cel 24 dd (enc d)], fun st _ => (32 - st.2).toNat, ⟨0, rfl, by omega, hs3.nilOwn⟩, ?_⟩
  rintro ⟨list, t7⟩ h4 ⟨i, hi, hil, hs4⟩
  simp only at hi hs4
  subst hi
  refine ifb_i (fun hc => ?_) (fun hc => ?_)
  · have hi : i < 32 := by have : (i : Int) < 32 := by simpa using hc
                           omega
    have ho4 : ∀ h', Ext h h' → SV 32 h' o.Open opens ∧ SV 32 h' o.Shut shuts := fun h' f => ⟨ho.1.ext f, ho.2.ext f⟩
    have go : opens[i]? = some (opens.getD i default) := by simp [h1, hi]
    have gs : shuts[i]? = some (shuts.getD i default) := by simp [h2, hi]
    obtain ⟨a1, ha1, hat1, _⟩ := ho.1.elem arr_len (Int.natCast_nonneg i) (by rw [Int.toNat_natCast]; exact go)
    obtain ⟨a2, ha2, hat2, _⟩ := ho.2.elem arr_len (Int.natCast_nonneg i) (by rw [Int.toNat_natCast]; exact gs)
    generalize hog : opens.getD i default = op at *
    generalize hsg : shuts.getD i default = sh at *
    refine hs4.ld_ 2 rfl ?_
    refine ⟨_, ⟨⟨a1, ha1, rfl⟩, Int.natCast_nonneg i, by show (i : Int) < o.Open.len; omega⟩, ?_⟩
    refine ld_old (hat1.ext hs4.fr) ?_
    refine hs4.ld_ 2 rfl ?_
    refine ⟨_, ⟨⟨a2, ha2, rfl⟩, Int.natCast_nonneg i, by show (i : Int) < o.Shut.len; omega⟩, ?_⟩
    refine ld_old (hat2.ext hs4.fr) ?_
    have tail : ∀ (pr : Addr) h', Sat h [] h' [cel 220 pr (enc (arrA ((fun _ => 0) : Dig) [shutF op, sh] : ArrA 2 Dig)), own 24 32 list (ofList d opens shuts i), cel 24 t (enc ((fun _ => 0) : Dig)), cel 33 oo (enc o), cel 24 dd (enc d)] →
        once_Of.j2 (fun s' h' => (fun (st : Sl × Int) h' => ∃ i : Nat, st.2 = i ∧ i ≤ 32 ∧ Sat h [] h' [own 24 32 st.1 (ofList d opens shuts i), cel 24 t (enc ((fun _ => 0) : Dig)), cel 33 oo (enc o), cel 24 dd (enc d)]) s' h' ∧ (fun (st : Sl × Int) (_ : H) => (32 - st.2).toNat) s' h' < (fun (st : Sl × Int) (_ : H) => (32 - st.2).toNat) (list, (i : Int)) h4) dd oo t list (i : Int) pr (i : Int) h' := by
      intro pr h5 hs5
      unfold once_Of.j2
      refine hs5.ld_ 4 rfl ?_
      refine once_bit.ok _ _ _ _ (bit_spec _ _ (by omega) (by omega) (fun h6 hx6 => ?_))
      have hs6 := hs5.ext hx6
      have hb := bitF_01 d i
      have hb1 : isub 1 (bitF d i) = 1 - bitF d i := isub_eq (by omega) (by omega)
      refine bnd_N (by omega) (by omega) (fun f1 hf1 => ?_)
      refine hs6.ld_ 0 rfl ?_
      rw [hb1]
      refine bnd_N (by omega) (by omega) (fun f2 hf2 => ?_)
      refine hs6.ld_ 0 rfl ?_
      refine hs6.mks_ (n := 32) (fun sl h7 hs7 _ _ => ?_)
      refine hs7.app_ 2 rfl (hs7.ownSV 0 rfl arr_len) arr_len one_dig (arr_len _) ?_ ?_ (fun r h8 hs8 hl8 => ?_)
      · simp only [ofList_len, List.length_cons, List.length_nil, maxBytes]; omega
      · simp only [ofList_len, List.length_cons, List.length_nil]; omega
      have e1 : iadd (i : Int) 1 = ((i + 1 : Nat) : Int) := by rw [iadd_eq (by omega) (by omega)]; omega
      rw [e1]
      refine ⟨⟨i + 1, rfl, hi, ?_⟩, by dsimp only; omega⟩
      have := (hs8.drop (List.sublist_cons_self _ _)).drop (List.sublist_cons_self _ _)
      rw [ofList_succ, hog, hsg]
      have ee : (arrA ((fun _ => 0) : Dig) [shutF op, sh] : ArrA 2 Dig).f f1 :: [(arrA ((fun _ => 0) : Dig) [shutF op, sh] : ArrA 2 Dig).f f2] = (if bitF d i = 0 then [shutF op, sh] else [sh, shutF op]) := by
        rcases hb with hb | hb
        · have v1 : f1.val = 0 := by rw [hf1, hb]; rfl
          have v2 : f2.val = 1 := by rw [hf2, hb]; rfl
          simp only [arrA, v1, v2, hb, if_true]; rfl
        · have v1 : f1.val = 1 := by rw [hf1, hb]; rfl
          have v2 : f2.val = 0 := by rw [hf2, hb]; rfl
          simp only [arrA, v1, v2, hb]; rfl
      rw [← ee]
      exact this
    refine ⟨?_, ?_⟩
    · refine once_shut.ok _ _ _ (shut_spec _ (hT.fr hs4.fr (by simp)) (fun h5 hx5 => ?_))
      have hs5 := hs4.ext hx5
      refine hs5.chk_ 2 rfl rfl ?_
      refine ⟨⟨_, hat2.ext hs5.fr, rfl⟩, ?_⟩
      refine hs5.box_ (fun pr h6 hs6 _ _ => ?_)
      refine hs6.chk_ 3 rfl rfl ?_
      refine ⟨⟨_, hat1.ext hs6.fr, rfl⟩, ?_⟩
      refine hs6.chk_ 3 rfl rfl ?_
      refine ⟨⟨_, hat2.ext hs6.fr, rfl⟩, ?_⟩
      refine hs6.st_ 0 rfl (arrA_len arr_len) (fun h7 hs7 _ => ?_)
      exact tail pr h7 hs7
    · refine hs4.box_ (fun pr h6 hs6 _ _ => ?_)
      refine hs6.chk_ 3 rfl rfl ?_
      refine ⟨⟨_, hat1.ext hs6.fr, rfl⟩, ?_⟩
      refine hs6.chk_ 3 rfl rfl ?_
      refine ⟨⟨_, hat2.ext hs6.fr, rfl⟩, ?_⟩
      refine once_shut.ok _ _ _ (shut_spec _ (hT.fr hs6.fr (by simp)) (fun h7 hx7 => ?_))
      have hs7 := hs6.ext hx7
      refine hs7.chk_ 3 rfl rfl ?_
      refine ⟨⟨_, hat2.ext hs7.fr, rfl⟩, ?_⟩
      refine hs7.st_ 0 rfl (arrA_len arr_len) (fun h8 hs8 _ => ?_)
      exact tail pr h8 hs8
  · have hi : i = 32 := by
      have : ¬ (i : Int) < 32 := by simpa using hc
      omega
    subst hi
    unfold once_Of.j1
    have hne : ofList d opens shuts 32 ≠ [] := by intro h0; have := ofList_len d opens shuts 32; rw [h0] at this; simp at this
    refine once_whole.ok _ _ _ (whole_spec _ _ (hT.fr hs4.fr (by simp)) (hs4.ownSV 0 rfl arr_len) hne (by rw [ofList_len]; omega) (fun h5 hx5 => ?_))
    have hs5 := hs4.ext hx5
    refine hs5.st_ 1 rfl arr_len (fun h6 hs6 _ => ?_)
    refine hs6.ld_ 1 rfl ?_
    exact hk h6 hs6.fr
/-- what is signed is right -/
theorem of_signed (seed : Dig) (leaf : Int) (d : Dig) : ofList d (opensF seed leaf d 32) (shutsF seed leaf d 32) 32 = pubList seed leaf 32 := by
  unfold ofList pubList
  rw [List.flatMap_def, List.flatMap_def]
  congr 1
  apply List.map_congr_left
  intro i hi
  have hi' : i < 32 := by simpa using hi
  have e1 : (opensF seed leaf d 32).getD i default = secretF seed leaf i (bitF d i) := by simp [opensF, hi']
  have e2 : (shutsF seed leaf d 32).getD i default = shutF (secretF seed leaf i (isub 1 (bitF d i))) := by simp [shutsF, hi']
  rw [e1, e2]
  rcases bitF_01 d i with hb | hb
  · rw [hb, if_pos rfl]; rfl
  · rw [hb, if_neg (by decide)]; rfl
end Go.Proofs.YtimmoekliphobaaDoor
namespace Go.Proofs.YtimmoekliphobaaDoor
open Go Go.Sh
open Go.Sh.Ty (reg)
set_option linter.unusedVariables false
set_option maxRecDepth 100000
set_option maxHeartbeats 4000000
theorem slices_IndexFunc_Member.ok (s : Sl) (f : Fv) (k : Int → H → Prop) (h : H) (hh : slices_IndexFunc_Member.b s f k h) : CallsH Prog 106 [reg s, reg f].toArray h fun v h' => ∃ r : Int, v = reg r ∧ k r h' := by
  unfold slices_IndexFunc_Member.b at hh
  refine CallsH.of 19 Tryd.func106 rfl Tryd.ntmps106 rfl (fun w0 => ?_)
  refine CW.seq ?_
  refine CW.region ?_
  refine .val (v_assign (v := reg ((0 : Int) : Int)) rfl) rfl ?_
  refine .nil ?_
  refine QN.then_ ?_
  refine CW.join (fun ρ h => ∃ (ρ' : Env), ρ = setl ρ' [] ∧ (slices_IndexFunc_Member.j1 k)  h) ?_ ?_
  · refine CW.seq ?_
    refine CW.region ?_
    refine .val (v_move (v := reg (s : Sl)) rfl) rfl ?_
    refine .val (v_len_sl (sl_52).1 rfl) rfl ?_
    refine .val (v_move (v := reg ((0 : Int) : Int)) rfl) rfl ?_
    refine .nil ?_
    refine QN.then_ ?_
    refine CW.block ?_
    unfold slices_IndexFunc_Member.l1 at hh
    refine CW.loop (fun (σ0 : Int) ρ => match σ0 with | t8 => ∃ ρ' : Env, ρ = setl ρ' [(0, reg (s : Sl)), (1, reg (f : Fv)), (7, reg ((s.len : Int) : Int)), (8, reg (t8 : Int))]) hh ⟨_, setl_eq ⟨rfl, ⟨rfl, ⟨rfl, ⟨rfl, trivial⟩⟩⟩⟩⟩ ?_
    clear hh
    rintro s1 t8 ρ h ⟨ρ', rfl⟩ hh
    refine CW.seq ?_
    refine CW.region ?_
    refine .val (v_ilss rfl rfl) rfl ?_
    refine .nil ?_
    refine QN.then_ ?_
    refine CW.seq ?_
    refine CW.cond (decide (t8 < (s.len : Int))) rfl (fun hb => ?_) (fun hb => ?_)
    · have hh := hh.1 hb
      refine CW.skip ?_
      refine QN.then_ ?_
      refine CW.seq ?_
      refine CW.block ?_
      refine CW.seq ?_
      refine CW.region ?_
      refine .val (v_move (v := reg (t8 : Int)) rfl) rfl ?_
      refine .val (v_assign (v := reg (t8 : Int)) rfl) rfl ?_
      refine .nil ?_
      refine QN.then_ ?_
      refine CW.seq ?_
      refine CW.region ?_
      refine .val (v_move (v := reg (f : Fv)) rfl) rfl ?_
      refine .val (v_move (v := reg (s : Sl)) rfl) rfl ?_
      refine .val (v_move (v := reg (t8 : Int)) rfl) rfl ?_
      obtain ⟨t14, ht14, hh⟩ := hh
      refine .val (v_idx_slP sl_52 rfl rfl ht14.1 ht14.2.1 ht14.2.2) rfl ?_
      obtain ⟨t15, ⟨xt15, hxt15, hgt15⟩, hh⟩ := hh
      refine .val (v_ldA (p := t14) 0 ag_110 rfl hxt15 hgt15 get_110_all (fun _ => (len_api_Member _)) (fun _ => rfl)) rfl ?_
      refine .e (e_callv rfl rfl rfl hh ?_)
      intro h t16 hh
      refine .nil ?_
      refine QN.then_ ?_
      refine CW.cond t16 rfl (fun hb_1 => ?_) (fun hb_1 => ?_)
      · have hh := hh.1 hb_1
        refine CW.seq ?_
        refine CW.region ?_
        refine .val (v_move (v := reg (t8 : Int)) rfl) rfl ?_
        refine .val (v_assign (v := reg (t8 : Int)) rfl) rfl ?_
        refine .nil ?_
        refine QN.then_ ?_
        refine CW.ret ?_
        refine QN.blockRet ?_
        refine QN.thenRet ?_
        refine QN.thenRet ?_
        refine QN.blockRet ?_
        refine QN.thenRet ?_
        exact ret1 rfl rfl ⟨(t8 : Int), rfl, hh⟩
      · have hh := hh.2 hb_1
        refine CW.skip ?_
        refine QN.blockN ?_
        refine QN.then_ ?_
        refine CW.region ?_
        refine .val (v_iadd rfl rfl) rfl ?_
        refine .val (v_move (v := reg ((iadd t8 (1 : Int)) : Int)) rfl) rfl ?_
        refine .nil ?_
        exact QN.thenJ ⟨(iadd t8 (1 : Int)), ⟨_, setl_eq ⟨rfl, ⟨rfl, ⟨rfl, ⟨rfl, trivial⟩⟩⟩⟩⟩, hh⟩
    · have hh := hh.2 hb
      refine CW.exit ?_
      refine QN.thenExit ?_
      refine QN.thenExit ?_
      refine QN.blockExit ?_
      exact QN.thenJ ⟨_, setl_eq trivial, hh⟩
  · rintro ρ h ⟨ρ', rfl, hh⟩
    unfold slices_IndexFunc_Member.j1 at hh
    refine CW.seq ?_
    refine CW.region ?_
    refine .val (v_assign (v := reg ((-1 : Int) : Int)) rfl) rfl ?_
    refine .nil ?_
    refine QN.then_ ?_
    refine CW.ret ?_
    exact ret1 rfl rfl ⟨((-1 : Int) : Int), rfl, hh⟩
end Go.Proofs.YtimmoekliphobaaDoor
namespace Go.Proofs.YtimmoekliphobaaDoor
open Go Go.Sh
open Go.Sh.Ty (reg)
set_option linter.unusedVariables false
set_option maxRecDepth 100000
set_option maxHeartbeats 4000000
theorem config_Find_c1.ok (m : api_Member) (c1 : Addr) (k : Bool → H → Prop) (h : H) (hh : config_Find_c1.b m c1 k h) : CallsH Prog 107 [reg m, .pointer (some c1)].toArray h fun v h' => ∃ r : Bool, v = reg r ∧ k r h' := by
  unfold config_Find_c1.b at hh
  refine CallsH.of 8 Tryd.func107 rfl Tryd.ntmps107 rfl (fun w0 => ?_)
  refine CW.seq ?_
  refine CW.region ?_
  refine box_elim hh (fun m_1 hm_1 hh => ?_)
  refine .e (e_boxP hm_1 rfl rfl rfl ?_)
  refine .val (v_assign (v := reg (false : Bool)) rfl) rfl ?_
  refine .nil ?_
  refine QN.then_ ?_
  refine CW.seq ?_
  refine CW.region ?_
  refine .val (v_fieldAddr fl_110_0 rfl) rfl ?_
  obtain ⟨t5, ⟨xt5, hxt5, hgt5⟩, hh⟩ := hh
  refine .val (v_ld1 (p := m_1) 0 na_3 rfl hxt5 hgt5 get_110_Id) rfl ?_
  obtain ⟨t6, ⟨xt6, hxt6, hgt6⟩, hh⟩ := hh
  refine .val (v_ld1 (p := c1) 0 na_3 rfl hxt6 hgt6 get_3_all) rfl ?_
  refine .val (v_ieql rfl rfl) rfl ?_
  refine .val (v_assign (v := reg ((t5 == t6) : Bool)) rfl) rfl ?_
  refine .nil ?_
  refine QN.then_ ?_
  refine CW.ret ?_
  exact ret1 rfl rfl ⟨((t5 == t6) : Bool), rfl, hh⟩
end Go.Proofs.YtimmoekliphobaaDoor
namespace Go.Proofs.YtimmoekliphobaaDoor
open Go Go.Sh
open Go.Sh.Ty (reg)
set_option linter.unusedVariables false
set_option maxRecDepth 100000
set_option maxHeartbeats 4000000
theorem config_Find.ok (c : api_Config) (id : Int) (k : (T3 api_Member Int Bool) → H → Prop) (h : H) (hh : config_Find.b c id k h) : CallsH Prog 77 [reg c, reg id].toArray h fun v h' => ∃ r : T3 api_Member Int Bool, v = reg r ∧ k r h' := by
  unfold config_Find.b at hh
  refine CallsH.of 21 Tryd.func77 rfl Tryd.ntmps77 rfl (fun w0 => ?_)
  refine CW.seq ?_
  refine CW.region ?_
  refine box_elim hh (fun c_1 hc_1 hh => ?_)
  refine .e (e_boxP hc_1 rfl rfl rfl ?_)
  refine box_elim hh (fun id_1 hid_1 hh => ?_)
  refine .e (e_boxP hid_1 rfl rfl rfl ?_)
  refine box_elim hh (fun t4 ht4 hh => ?_)
  refine .e (e_allocP ht4 zo_110 rfl ?_)
  refine .val (v_assign (v := reg ((0 : Int) : Int)) rfl) rfl ?_
  refine .val (v_assign (v := reg (false : Bool)) rfl) rfl ?_
  refine .nil ?_
  refine QN.then_ ?_
  refine CW.seq ?_
  refine CW.region ?_
  refine .val (v_fieldAddr fl_54_1 rfl) rfl ?_
  obtain ⟨t9, ⟨xt9, hxt9, hgt9⟩, hh⟩ := hh
  refine .val (v_ld1 (p := c_1) 1 na_52 rfl hxt9 hgt9 get_54_Members) rfl ?_
  refine .val (v_makeFunc rfl) rfl ?_
  refine .e (e_callP fn_106 rfl rfl hh ?_)
  intro h t11 hh
  refine .val (v_assign (v := reg (t11 : Int)) rfl) rfl ?_
  refine .nil ?_
  refine QN.then_ ?_
  refine CW.seq ?_
  refine CW.seq ?_
  refine CW.region ?_
  refine .val (v_move (v := reg (t11 : Int)) rfl) rfl ?_
  refine .val (v_ilss rfl rfl) rfl ?_
  refine .nil ?_
  refine QN.then_ ?_
  refine CW.cond (decide (t11 < (0 : Int))) rfl (fun hb => ?_) (fun hb => ?_)
  · have hh := hh.1 hb
    refine CW.seq ?_
    refine CW.region ?_
    refine .val (v_buildT api_Member.zero zo_110 pl_110 rfl (rfl) rfl) rfl ?_
    obtain ⟨xw, hxw, hwxw, hh⟩ := hh
    refine .e (e_storeN (p := t4) (nv := enc (api_Member.zero : api_Member)) 0 rfl rfl rfl sz_110 (one_api_Member _) hxw hwxw (len_api_Member _) (len_api_Member _) rfl (set_110_all xw (api_Member.zero : api_Member)) ?_)
    refine .val (v_assign (v := reg ((0 : Int) : Int)) rfl) rfl ?_
    refine .val (v_assign (v := reg (false : Bool)) rfl) rfl ?_
    refine .nil ?_
    refine QN.then_ ?_
    refine CW.ret ?_
    refine QN.thenRet ?_
    obtain ⟨r4, ⟨xr4, hxr4, hgr4⟩, hh⟩ := hh
    have hr4 := ld_id hxr4 hgr4
    exact retc2 rfl rfl ag_110 hr4 (len_api_Member _) rfl rfl ⟨(⟨r4, (0 : Int), false⟩ : T3 api_Member Int Bool), rfl, hh⟩
  · have hh := hh.2 hb
    refine CW.skip ?_
    refine QN.then_ ?_
    refine CW.seq ?_
    refine CW.region ?_
    refine .val (v_fieldAddr fl_54_1 rfl) rfl ?_
    obtain ⟨t16, ⟨xt16, hxt16, hgt16⟩, hh⟩ := hh
    refine .val (v_ld1 (p := c_1) 1 na_52 rfl hxt16 hgt16 get_54_Members) rfl ?_
    refine .val (v_move (v := reg (t11 : Int)) rfl) rfl ?_
    obtain ⟨t18, ht18, hh⟩ := hh
    refine .val (v_idx_slP sl_52 rfl rfl ht18.1 ht18.2.1 ht18.2.2) rfl ?_
    obtain ⟨t19, ⟨xt19, hxt19, hgt19⟩, hh⟩ := hh
    refine .val (v_ldA (p := t18) 0 ag_110 rfl hxt19 hgt19 get_110_all (fun _ => (len_api_Member _)) (fun _ => rfl)) rfl ?_
    refine .val (v_move (v := reg (t11 : Int)) rfl) rfl ?_
    obtain ⟨xw_1, hxw_1, hwxw_1, hh⟩ := hh
    refine .e (e_storeN (p := t4) (nv := enc (t19 : api_Member)) 0 rfl rfl rfl sz_110 (one_api_Member _) hxw_1 hwxw_1 (len_api_Member _) (len_api_Member _) rfl (set_110_all xw_1 (t19 : api_Member)) ?_)
    refine .val (v_assign (v := reg (t11 : Int)) rfl) rfl ?_
    refine .val (v_assign (v := reg (true : Bool)) rfl) rfl ?_
    refine .nil ?_
    refine QN.then_ ?_
    refine CW.ret ?_
    obtain ⟨r4_1, ⟨xr4_1, hxr4_1, hgr4_1⟩, hh⟩ := hh
    have hr4_1 := ld_id hxr4_1 hgr4_1
    exact retc2 rfl rfl ag_110 hr4_1 (len_api_Member _) rfl rfl ⟨(⟨r4_1, t11, true⟩ : T3 api_Member Int Bool), rfl, hh⟩
end Go.Proofs.YtimmoekliphobaaDoor
namespace Go.Proofs.YtimmoekliphobaaDoor
open Go Go.Sh
open Go.Sh.Ty (reg)
set_option linter.unusedVariables false
set_option maxRecDepth 100000
set_option maxHeartbeats 4000000
theorem vote_head.ok (w : Pt) (v : api_Vote) (k : Unit → H → Prop) (h : H) (hh : vote_head.b w v k h) : CallsH Prog 76 [reg w, reg v].toArray h fun v h' => ∃ r : Unit, v = reg r ∧ k r h' := by
  unfold vote_head.b at hh
  refine CallsH.of 22 Tryd.func76 rfl Tryd.ntmps76 rfl (fun w0 => ?_)
  refine CW.seq ?_
  refine CW.region ?_
  refine box_elim hh (fun v_1 hv_1 hh => ?_)
  refine .e (e_boxP hv_1 rfl rfl rfl ?_)
  refine .nil ?_
  refine QN.then_ ?_
  refine CW.seq ?_
  refine CW.region ?_
  refine .val (v_move (v := reg (w : Pt)) rfl) rfl ?_
  refine .val (v_fieldAddr fl_37_0 rfl) rfl ?_
  obtain ⟨t6, ⟨xt6, hxt6, hgt6⟩, hh⟩ := hh
  refine .val (v_ld1 (p := v_1) 0 na_3 rfl hxt6 hgt6 get_37_Kind) rfl ?_
  refine .val (v_fieldAddr fl_37_1 rfl) rfl ?_
  obtain ⟨t8, ⟨xt8, hxt8, hgt8⟩, hh⟩ := hh
  refine .val (v_ld1 (p := v_1) 1 na_3 rfl hxt8 hgt8 get_37_Epoch) rfl ?_
  refine .val (v_fieldAddr fl_37_2 rfl) rfl ?_
  obtain ⟨t10, ⟨xt10, hxt10, hgt10⟩, hh⟩ := hh
  refine .val (v_ld1 (p := v_1) 2 na_3 rfl hxt10 hgt10 get_37_Height) rfl ?_
  refine .val (v_fieldAddr fl_37_3 rfl) rfl ?_
  obtain ⟨t12, ⟨xt12, hxt12, hgt12⟩, hh⟩ := hh
  refine .val (v_ld1 (p := v_1) 3 na_3 rfl hxt12 hgt12 get_37_Round) rfl ?_
  refine .val (v_fieldAddr fl_37_5 rfl) rfl ?_
  obtain ⟨t14, ⟨xt14, hxt14, hgt14⟩, hh⟩ := hh
  refine .val (v_ld1 (p := v_1) 36 na_3 rfl hxt14 hgt14 get_37_From) rfl ?_
  refine mks_elim hh (fun pt15 t15 hpt15 ht15 hh => ?_)
  refine .e (e_mks [(t6 : Int), (t8 : Int), (t10 : Int), (t12 : Int), (t14 : Int)] hpt15 ht15 zo_3 sl_49 rfl rfl rfl rfl rfl ?_)
  refine .e (e_callP fn_92 rfl rfl hh ?_)
  intro h t16 hh
  refine .nil ?_
  refine QN.then_ ?_
  refine CW.region ?_
  refine .val (v_move (v := reg (w : Pt)) rfl) rfl ?_
  refine .val (v_fieldAddr fl_37_4 rfl) rfl ?_
  obtain ⟨t19, ⟨xt19, hxt19, hgt19⟩, hh⟩ := hh
  refine .val (v_ldA (p := v_1) 4 ag_24 rfl hxt19 hgt19 get_37_Digest (fun _ => (arr_len (n := 32) _)) (fun _ => rfl)) rfl ?_
  refine mks_elim hh (fun pt20 t20 hpt20 ht20 hh => ?_)
  refine .e (e_mks [(t19 : Arr 32 UInt8)] hpt20 ht20 zo_24 sl_31 rfl rfl rfl rfl rfl ?_)
  refine .e (e_callP fn_93 rfl rfl hh ?_)
  intro h t21 hh
  refine .nil ?_
  exact ret0n rfl ⟨(), rfl, hh⟩
end Go.Proofs.YtimmoekliphobaaDoor
namespace Go.Proofs.YtimmoekliphobaaDoor
open Go Go.Sh
open Go.Sh.Ty (reg)
set_option linter.unusedVariables false
set_option maxRecDepth 100000
set_option maxHeartbeats 4000000
theorem vote_Signs.ok (v : api_Vote) (k : (Arr 32 UInt8) → H → Prop) (h : H) (hh : vote_Signs.b v k h) : CallsH Prog 45 [reg v].toArray h fun v h' => ∃ r : Arr 32 UInt8, v = reg r ∧ k r h' := by
  unfold vote_Signs.b at hh
  refine CallsH.of 15 Tryd.func45 rfl Tryd.ntmps45 rfl (fun w0 => ?_)
  refine CW.seq ?_
  refine CW.region ?_
  refine box_elim hh (fun v_1 hv_1 hh => ?_)
  refine .e (e_boxP hv_1 rfl rfl rfl ?_)
  refine box_elim hh (fun t2 ht2 hh => ?_)
  refine .e (e_allocP ht2 zo_24 rfl ?_)
  refine .nil ?_
  refine QN.then_ ?_
  refine CW.seq ?_
  refine CW.region ?_
  refine .val (v_buildT code_Writer.zero zo_145 pl_145 rfl (rfl) rfl) rfl ?_
  refine box_elim hh (fun t5 ht5 hh => ?_)
  refine .e (e_boxP ht5 rfl rfl rfl ?_)
  refine .val (v_assign (v := .pointer (some t5)) rfl) rfl ?_
  refine .nil ?_
  refine QN.then_ ?_
  refine CW.seq ?_
  refine CW.region ?_
  refine .val (v_move (v := .pointer (some t5)) rfl) rfl ?_
  obtain ⟨t7, ⟨xt7, hxt7, hgt7⟩, hh⟩ := hh
  refine .val (v_ldA (p := v_1) 0 ag_37 rfl hxt7 hgt7 get_37_all (fun _ => (len_api_Vote _)) (fun _ => rfl)) rfl ?_
  refine .e (e_callP fn_76 rfl rfl hh ?_)
  intro h t8 hh
  refine .nil ?_
  refine QN.then_ ?_
  refine CW.seq ?_
  refine CW.region ?_
  refine mks_elim hh (fun pt9 t9 hpt9 ht9 hh => ?_)
  refine .e (e_mks [((118 : UInt8) : UInt8), ((111 : UInt8) : UInt8), ((116 : UInt8) : UInt8), ((101 : UInt8) : UInt8)] hpt9 ht9 zo_5 sl_130 rfl rfl rfl rfl rfl ?_)
  refine .e (e_strish sl_130 un_5 rfl rfl hh ?_)
  intro h t10 hh
  refine .val (v_move (v := .pointer (some t5)) rfl) rfl ?_
  refine .e (e_callP fn_61 rfl rfl hh ?_)
  intro h t12 hh
  refine mks_elim hh (fun pt13 t13 hpt13 ht13 hh => ?_)
  refine .e (e_mks [(t10 : Sl), (t12 : Sl)] hpt13 ht13 zo_130 sl_184 rfl rfl rfl rfl rfl ?_)
  refine .e (e_callP fn_60 rfl rfl hh ?_)
  intro h t14 hh
  obtain ⟨xw, hxw, hwxw, hh⟩ := hh
  refine .e (e_storeN (p := t2) (nv := enc (t14 : Arr 32 UInt8)) 0 rfl rfl rfl sz_24 (one_arr (n := 32) (fun _ => rfl) _) hxw hwxw (arr_len (n := 32) _) (arr_len (n := 32) _) rfl (set_24_all xw (t14 : Arr 32 UInt8)) ?_)
  refine .nil ?_
  refine QN.then_ ?_
  refine CW.ret ?_
  obtain ⟨r2, ⟨xr2, hxr2, hgr2⟩, hh⟩ := hh
  have hr2 := ld_id hxr2 hgr2
  exact retc rfl rfl ag_24 hr2 (arr_len (n := 32) _) ⟨(r2 : Arr 32 UInt8), rfl, hh⟩
end Go.Proofs.YtimmoekliphobaaDoor
namespace Go.Proofs.YtimmoekliphobaaDoor
open Go Go.Sh
open Go.Sh.Ty (reg)
set_option linter.unusedVariables false
set_option maxRecDepth 100000
set_option maxHeartbeats 4000000
theorem vote_Good.ok (v : api_Vote) (k : Bool → H → Prop) (h : H) (hh : vote_Good.b v k h) : CallsH Prog 78 [reg v].toArray h fun v h' => ∃ r : Bool, v = reg r ∧ k r h' := by
  unfold vote_Good.b at hh
  refine CallsH.of 51 Tryd.func78 rfl Tryd.ntmps78 rfl (fun w0 => ?_)
  refine CW.seq ?_
  refine CW.region ?_
  refine box_elim hh (fun v_1 hv_1 hh => ?_)
  refine .e (e_boxP hv_1 rfl rfl rfl ?_)
  refine .val (v_assign (v := reg (false : Bool)) rfl) rfl ?_
  refine .nil ?_
  refine QN.then_ ?_
  refine CW.seq ?_
  refine CW.region ?_
  refine .val (v_fieldAddr fl_37_0 rfl) rfl ?_
  obtain ⟨t4, ⟨xt4, hxt4, hgt4⟩, hh⟩ := hh
  refine .val (v_ld1 (p := v_1) 0 na_3 rfl hxt4 hgt4 get_37_Kind) rfl ?_
  refine .val (v_igeq rfl rfl) rfl ?_
  refine .val (v_move (v := reg ((decide ((1 : Int) ≤ t4)) : Bool)) rfl) rfl ?_
  refine .tv 6 rfl rfl rfl (fun hb => v_fieldAddr fl_37_0 rfl) rfl ?_
  obtain ⟨t8, ⟨xt8, hxt8, hgt8⟩, hh⟩ := hh
  refine .tv 6 rfl rfl rfl (fun hb => v_ld1 (p := v_1) 0 na_3 (gt hb) hxt8 hgt8 get_37_Kind) rfl ?_
  refine .tv 6 rfl rfl rfl (fun hb => v_ileq (gt hb) rfl) rfl ?_
  refine .val (v_pick_and rfl (fun hb => gt hb) rfl) rfl ?_
  refine .val (v_move (v := reg (((decide ((1 : Int) ≤ t4)) && (decide (t8 ≤ (2 : Int)))) : Bool)) rfl) rfl ?_
  refine .tv 11 rfl rfl rfl (fun hb => v_fieldAddr fl_37_1 rfl) rfl ?_
  obtain ⟨t13, ⟨xt13, hxt13, hgt13⟩, hh⟩ := hh
  refine .tv 11 rfl rfl rfl (fun hb => v_ld1 (p := v_1) 1 na_3 (gt hb) hxt13 hgt13 get_37_Epoch) rfl ?_
  refine .tv 11 rfl rfl rfl (fun hb => v_igeq (gt hb) rfl) rfl ?_
  refine .val (v_pick_and rfl (fun hb => gt hb) rfl) rfl ?_
  refine .val (v_move (v := reg ((((decide ((1 : Int) ≤ t4)) && (decide (t8 ≤ (2 : Int)))) && (decide ((0 : Int) ≤ t13))) : Bool)) rfl) rfl ?_
  refine .tv 16 rfl rfl rfl (fun hb => v_fieldAddr fl_37_1 rfl) rfl ?_
  obtain ⟨t18, ⟨xt18, hxt18, hgt18⟩, hh⟩ := hh
  refine .tv 16 rfl rfl rfl (fun hb => v_ld1 (p := v_1) 1 na_3 (gt hb) hxt18 hgt18 get_37_Epoch) rfl ?_
  refine .tv 16 rfl rfl rfl (fun hb => v_ileq (gt hb) rfl) rfl ?_
  refine .val (v_pick_and rfl (fun hb => gt hb) rfl) rfl ?_
  refine .val (v_move (v := reg (((((decide ((1 : Int) ≤ t4)) && (decide (t8 ≤ (2 : Int)))) && (decide ((0 : Int) ≤ t13))) && (decide (t18 ≤ (1073741824 : Int)))) : Bool)) rfl) rfl ?_
  refine .tv 21 rfl rfl rfl (fun hb => v_fieldAddr fl_37_2 rfl) rfl ?_
  obtain ⟨t23, ⟨xt23, hxt23, hgt23⟩, hh⟩ := hh
  refine .tv 21 rfl rfl rfl (fun hb => v_ld1 (p := v_1) 2 na_3 (gt hb) hxt23 hgt23 get_37_Height) rfl ?_
  refine .tv 21 rfl rfl rfl (fun hb => v_igeq (gt hb) rfl) rfl ?_
  refine .val (v_pick_and rfl (fun hb => gt hb) rfl) rfl ?_
  refine .val (v_move (v := reg ((((((decide ((1 : Int) ≤ t4)) && (decide (t8 ≤ (2 : Int)))) && (decide ((0 : Int) ≤ t13))) && (decide (t18 ≤ (1073741824 : Int)))) && (decide ((1 : Int) ≤ t23))) : Bool)) rfl) rfl ?_
  refine .tv 26 rfl rfl rfl (fun hb => v_fieldAddr fl_37_2 rfl) rfl ?_
  obtain ⟨t28, ⟨xt28, hxt28, hgt28⟩, hh⟩ := hh
  refine .tv 26 rfl rfl rfl (fun hb => v_ld1 (p := v_1) 2 na_3 (gt hb) hxt28 hgt28 get_37_Height) rfl ?_
  refine .tv 26 rfl rfl rfl (fun hb => v_ileq (gt hb) rfl) rfl ?_
  refine .val (v_pick_and rfl (fun hb => gt hb) rfl) rfl ?_
  refine .val (v_move (v := reg (((((((decide ((1 : Int) ≤ t4)) && (decide (t8 ≤ (2 : Int)))) && (decide ((0 : Int) ≤ t13))) && (decide (t18 ≤ (1073741824 : Int)))) && (decide ((1 : Int) ≤ t23))) && (decide (t28 ≤ (1024 : Int)))) : Bool)) rfl) rfl ?_
  refine .tv 31 rfl rfl rfl (fun hb => v_fieldAddr fl_37_3 rfl) rfl ?_
  obtain ⟨t33, ⟨xt33, hxt33, hgt33⟩, hh⟩ := hh
  refine .tv 31 rfl rfl rfl (fun hb => v_ld1 (p := v_1) 3 na_3 (gt hb) hxt33 hgt33 get_37_Round) rfl ?_
  refine .tv 31 rfl rfl rfl (fun hb => v_igeq (gt hb) rfl) rfl ?_
  refine .val (v_pick_and rfl (fun hb => gt hb) rfl) rfl ?_
  refine .val (v_move (v := reg ((((((((decide ((1 : Int) ≤ t4)) && (decide (t8 ≤ (2 : Int)))) && (decide ((0 : Int) ≤ t13))) && (decide (t18 ≤ (1073741824 : Int)))) && (decide ((1 : Int) ≤ t23))) && (decide (t28 ≤ (1024 : Int)))) && (decide ((0 : Int) ≤ t33))) : Bool)) rfl) rfl ?_
  refine .tv 36 rfl rfl rfl (fun hb => v_fieldAddr fl_37_3 rfl) rfl ?_
  obtain ⟨t38, ⟨xt38, hxt38, hgt38⟩, hh⟩ := hh
  refine .tv 36 rfl rfl rfl (fun hb => v_ld1 (p := v_1) 3 na_3 (gt hb) hxt38 hgt38 get_37_Round) rfl ?_
  refine .tv 36 rfl rfl rfl (fun hb => v_ileq (gt hb) rfl) rfl ?_
  refine .val (v_pick_and rfl (fun hb => gt hb) rfl) rfl ?_
  refine .val (v_move (v := reg (((((((((decide ((1 : Int) ≤ t4)) && (decide (t8 ≤ (2 : Int)))) && (decide ((0 : Int) ≤ t13))) && (decide (t18 ≤ (1073741824 : Int)))) && (decide ((1 : Int) ≤ t23))) && (decide (t28 ≤ (1024 : Int)))) && (decide ((0 : Int) ≤ t33))) && (decide (t38 ≤ (1024 : Int)))) : Bool)) rfl) rfl ?_
  refine .tv 41 rfl rfl rfl (fun hb => v_fieldAddr fl_37_5 rfl) rfl ?_
  obtain ⟨t43, ⟨xt43, hxt43, hgt43⟩, hh⟩ := hh
  refine .tv 41 rfl rfl rfl (fun hb => v_ld1 (p := v_1) 36 na_3 (gt hb) hxt43 hgt43 get_37_From) rfl ?_
  refine .tv 41 rfl rfl rfl (fun hb => v_igeq (gt hb) rfl) rfl ?_
  refine .val (v_pick_and rfl (fun hb => gt hb) rfl) rfl ?_
  refine .val (v_move (v := reg ((((((((((decide ((1 : Int) ≤ t4)) && (decide (t8 ≤ (2 : Int)))) && (decide ((0 : Int) ≤ t13))) && (decide (t18 ≤ (1073741824 : Int)))) && (decide ((1 : Int) ≤ t23))) && (decide (t28 ≤ (1024 : Int)))) && (decide ((0 : Int) ≤ t33))) && (decide (t38 ≤ (1024 : Int)))) && (decide ((1 : Int) ≤ t43))) : Bool)) rfl) rfl ?_
  refine .tv 46 rfl rfl rfl (fun hb => v_fieldAddr fl_37_5 rfl) rfl ?_
  obtain ⟨t48, ⟨xt48, hxt48, hgt48⟩, hh⟩ := hh
  refine .tv 46 rfl rfl rfl (fun hb => v_ld1 (p := v_1) 36 na_3 (gt hb) hxt48 hgt48 get_37_From) rfl ?_
  refine .tv 46 rfl rfl rfl (fun hb => v_ileq (gt hb) rfl) rfl ?_
  refine .val (v_pick_and rfl (fun hb => gt hb) rfl) rfl ?_
  refine .val (v_assign (v := reg (((((((((((decide ((1 : Int) ≤ t4)) && (decide (t8 ≤ (2 : Int)))) && (decide ((0 : Int) ≤ t13))) && (decide (t18 ≤ (1073741824 : Int)))) && (decide ((1 : Int) ≤ t23))) && (decide (t28 ≤ (1024 : Int)))) && (decide ((0 : Int) ≤ t33))) && (decide (t38 ≤ (1024 : Int)))) && (decide ((1 : Int) ≤ t43))) && (decide (t48 ≤ (63 : Int)))) : Bool)) rfl) rfl ?_
  refine .nil ?_
  refine QN.then_ ?_
  refine CW.ret ?_
  exact ret1 rfl rfl ⟨(((((((((((decide ((1 : Int) ≤ t4)) && (decide (t8 ≤ (2 : Int)))) && (decide ((0 : Int) ≤ t13))) && (decide (t18 ≤ (1073741824 : Int)))) && (decide ((1 : Int) ≤ t23))) && (decide (t28 ≤ (1024 : Int)))) && (decide ((0 : Int) ≤ t33))) && (decide (t38 ≤ (1024 : Int)))) && (decide ((1 : Int) ≤ t43))) && (decide (t48 ≤ (63 : Int)))) : Bool), rfl, hh⟩
end Go.Proofs.YtimmoekliphobaaDoor
namespace Go.Proofs.YtimmoekliphobaaDoor
open Go Go.Sh
open Go.Sh.Ty (reg)
set_option linter.unusedVariables false
set_option maxRecDepth 100000

section
variable {h0 h : H} {S : List Nat} {L : List En}
theorem _root_.Go.Sh.Sat.num_ {p : Addr} {sl s : Sl} {bs : List UInt8} {ns : List Int} {k : Unit → H → Prop} (i : Nat) (hs : Sat h0 S h L) (hi : L[i]? = some (wrt p sl bs)) (hv : SV 1 h s ns) (hd : ∀ b ∈ blk s, b ∉ p.block :: blk sl) (hbig : bs.length + 8 * ns.length < 2 ^ 40)
    (hk : ∀ sl' h', Sat h0 S h' (L.set i (wrt p sl' (bs ++ (ns.map numB).flatten))) → k () h') : call (β := Unit) Prog 92 [reg ((some p : Pt) : Pt), reg (s : Sl)] k h := by
  have hw : WrA p sl bs h := hs.at_ hi
  refine code_Writer_Num.ok _ _ _ _ (Num_spec p sl bs s ns hw hv hd hbig (fun sl' h3 hf3 hw3 hb3 => ?_))
  refine hk sl' h3 (hs.upd hi hf3 hw3 (wrt_loc _ _ _) ?_)
  intro b hb
  simp only [wrt, List.mem_cons] at hb ⊢
  rcases hb with rfl | hb
  · exact ⟨hw3.1.lt, .inl (.inl rfl)⟩
  · simpa using hb3 b hb
theorem _root_.Go.Sh.Sat.dig_ {p : Addr} {sl s : Sl} {bs : List UInt8} {ds : List Dig} {k : Unit → H → Prop} (i : Nat) (hs : Sat h0 S h L) (hi : L[i]? = some (wrt p sl bs)) (hv : SV 32 h s ds) (hd : ∀ b ∈ blk s, b ∉ p.block :: blk sl) (hbig : bs.length + 32 * ds.length < 2 ^ 40)
    (hk : ∀ sl' h', Sat h0 S h' (L.set i (wrt p sl' (bs ++ (ds.map List.ofFn).flatten))) → k () h') : call (β := Unit) Prog 93 [reg ((some p : Pt) : Pt), reg (s : Sl)] k h := by
  have hw : WrA p sl bs h := hs.at_ hi
  refine code_Writer_Digest.ok _ _ _ _ (Digest_spec p sl bs s ds hw hv hd hbig (fun sl' h3 hf3 hw3 hb3 => ?_))
  refine hk sl' h3 (hs.upd hi hf3 hw3 (wrt_loc _ _ _) ?_)
  intro b hb
  simp only [wrt, List.mem_cons] at hb ⊢
  rcases hb with rfl | hb
  · exact ⟨hw3.1.lt, .inl (.inl rfl)⟩
  · simpa using hb3 b hb
/-- a new writer -/
theorem _root_.Go.Sh.Sat.newW {k : Addr → H → Prop} (hs : Sat h0 S h L) (hk : ∀ p h', Sat h0 S h' (wrt p Sl.nil [] :: L) → k p h') : box 145 (code_Writer.zero : code_Writer) k h := by
  refine hs.box_ (fun w h2 hs2 _ _ => ?_)
  have hW : WrA w Sl.nil [] h2 := ⟨hs2.at_ (i := 0) rfl, .inl ⟨rfl, rfl, rfl, rfl⟩, by simp [blk, Sl.nil]⟩
  exact hk w h2 (hs2.upd (i := 0) (e := cel 145 w (enc code_Writer.zero)) rfl (Fr.refl _ _) hW (wrt_loc _ _ _) (by intro b hb; simp only [wrt, blk, Sl.nil, List.mem_singleton] at hb; subst hb; exact ⟨hW.1.lt, .inl (by simp [cel])⟩))
theorem _root_.Go.Sh.Sat.bytes_ {p : Addr} {sl : Sl} {bs : List UInt8} {k : Sl → H → Prop} (i : Nat) (hs : Sat h0 S h L) (hi : L[i]? = some (wrt p sl bs)) (hne : bs ≠ []) (hbig : bs.length < 2 ^ 40)
    (hk : ∀ r h', Sat h0 S h' (own 5 1 r bs :: L) → k r h') : call (β := Sl) Prog 61 [reg ((some p : Pt) : Pt)] k h := by
  have hw : WrA p sl bs h := hs.at_ hi
  exact code_Writer_Bytes.ok _ _ _ (Bytes_spec p sl bs hw hne hbig (fun r h4 hx4 ho4 hb4 => hk r h4 (hs.add hx4 ho4 (own_loc _ _ _ _) hb4)))
end

def headB (v : api_Vote) : List UInt8 := ([v.Kind, v.Epoch, v.Height, v.Round, v.From].map numB).flatten ++ List.ofFn v.Digest
theorem headB_len (v : api_Vote) : (headB v).length = 72 := by simp [headB, numB]
theorem head_spec (p : Addr) (sl : Sl) (bs : List UInt8) (v : api_Vote) {k : Unit → H → Prop} {h : H} (hw : WrA p sl bs h) (hbig : bs.length < 2 ^ 30)
    (hk : ∀ sl' h', Fr (p.block :: blk sl) h h' → WrA p sl' (bs ++ headB v) h' → (∀ b ∈ blk sl', b < h'.size ∧ (b ∈ p.block :: blk sl ∨ h.size ≤ b)) → k () h') : vote_head.b (some p) v k h := by
  unfold vote_head.b
  have hs : Sat h (p.block :: blk sl) h [wrt p sl bs] := Sat.init1 (e := wrt p sl bs) hw (wrt_loc _ _ _) hw.lt
  refine hs.box_ (fun t1 h1 hs1 _ _ => ?_)
  refine hs1.ld_ 0 rfl ?_
  refine hs1.ld_ 0 rfl ?_
  refine hs1.ld_ 0 rfl ?_
  refine hs1.ld_ 0 rfl ?_
  refine hs1.ld_ 0 rfl ?_
  refine hs1.mks_ (n := 1) (fun s1 h2 hs2 _ _ => ?_)
  refine hs2.num_ 2 rfl (hs2.ownSV 0 rfl len_i) (hs2.disj (i := 0) (j := 2) rfl rfl (by decide)) (by simp; omega) (fun sl' h3 hs3 => ?_)
  refine hs3.ld_ 1 rfl ?_
  refine hs3.mks_ (n := 32) (fun s2 h4 hs4 _ _ => ?_)
  refine hs4.dig_ 3 rfl (hs4.ownSV 0 rfl arr_len) (hs4.disj (i := 0) (j := 3) rfl rfl (by decide)) (by simp [numB]; omega) (fun sl2 h5 hs5 => ?_)
  have hw5 : WrA p sl2 _ h5 := hs5.at_ (i := 3) rfl
  refine hk sl2 h5 hs5.fr ?_ ?_
  · simpa [headB] using hw5
  · intro b hb
    exact (hs5.ok _ (List.mem_of_getElem? (i := 3) rfl)).2.2 b (by simp [wrt, hb])

def signsF (v : api_Vote) : Dig := shaF ([118, 111, 116, 101] ++ headB v)
theorem Signs_spec (v : api_Vote) {k : Dig → H → Prop} {h : H} (hT : Tb h) (hk : ∀ h', Ext h h' → k (signsF v) h') : vote_Signs.b v k h := by
  unfold vote_Signs.b
  refine (Sat.init h).box_ (fun a h1 hs1 _ _ => ?_)
  refine hs1.box_ (fun t h2 hs2 _ _ => ?_)
  refine hs2.newW (fun w h3 hs3 => ?_)
  refine hs3.ld_ 2 rfl ?_
  have hw : WrA w Sl.nil [] h3 := hs3.at_ (i := 0) rfl
  refine vote_head.ok _ _ _ _ (head_spec w Sl.nil [] v hw (by simp) (fun sl' h4 hf4 hw4 hb4 => ?_))
  have hs4 := hs3.upd (i := 0) (e := wrt w Sl.nil []) (e' := wrt w sl' ([] ++ headB v)) rfl hf4 hw4 (wrt_loc _ _ _) (by
    intro b hb
    simp only [wrt, List.mem_cons] at hb ⊢
    rcases hb with rfl | hb
    · exact ⟨hw4.1.lt, .inl (.inl rfl)⟩
    · simpa using hb4 b hb)
  refine hs4.mks_ (n := 1) (fun s1 h5 hs5 _ _ => ?_)
  refine hs5.strish_ 0 rfl (by simp) (fun h6 hs6 => ?_)
  have hne : [] ++ headB v ≠ [] := by intro h0; have := headB_len v; rw [List.nil_append] at h0; rw [h0] at this; simp at this
  refine hs6.bytes_ 1 rfl hne (by simp [headB_len]) (fun r h7 hs7 => ?_)
  refine hs7.mks_ (n := 1) (fun sl h8 hs8 _ _ => ?_)
  refine sha_Of.ok _ _ _ (Of_spec sl [[118, 111, 116, 101], [] ++ headB v] (hT.fr hs8.fr (by simp)) (.of (hs8.ownSV 0 rfl len_sl) (.cons (hs8.rdoSV 2 rfl) (.cons (hs8.ownSV 1 rfl len_u8) .nil))) (by simp [headB_len]) (by simp) (fun h9 hx9 => ?_))
  have hs9 := hs8.ext hx9
  refine hs9.st_ 4 rfl arr_len (fun h10 hs10 _ => ?_)
  refine hs10.ld_ 4 rfl ?_
  have := hk h10 hs10.fr
  simpa only [signsF, List.flatten_cons, List.flatten_nil, List.append_nil, List.nil_append] using this

def goodF (v : api_Vote) : Bool := (((((((((((decide ((1 : Int) ≤ v.Kind)) && (decide (v.Kind ≤ (2 : Int)))) && (decide ((0 : Int) ≤ v.Epoch))) && (decide (v.Epoch ≤ (1073741824 : Int)))) && (decide ((1 : Int) ≤ v.Height))) && (decide (v.Height ≤ (1024 : Int)))) && (decide ((0 : Int) ≤ v.Round))) && (decide (v.Round ≤ (1024 : Int)))) && (decide ((1 : Int) ≤ v.From))) && (decide (v.From ≤ (63 : Int)))))
theorem Good_spec (v : api_Vote) {k : Bool → H → Prop} {h : H} (hk : ∀ h', Ext h h' → k (goodF v) h') : vote_Good.b v k h := by
  unfold vote_Good.b
  refine (Sat.init h).box_ (fun a h1 hs1 _ _ => ?_)
  refine hs1.ld_ 0 rfl ?_
  refine hs1.ld_ 0 rfl ?_
  refine hs1.ld_ 0 rfl ?_
  refine hs1.ld_ 0 rfl ?_
  refine hs1.ld_ 0 rfl ?_
  refine hs1.ld_ 0 rfl ?_
  refine hs1.ld_ 0 rfl ?_
  refine hs1.ld_ 0 rfl ?_
  refine hs1.ld_ 0 rfl ?_
  refine hs1.ld_ 0 rfl ?_
  exact hk _ hs1.fr

def fidxOf (ms : List api_Member) (pr : api_Member → Bool) : Int := match ms.findIdx? pr with
  | some i => i
  | none => -1
theorem IndexFunc_spec (s : Sl) (ms : List api_Member) (f : Fv) (pr : api_Member → Bool) {k : Int → H → Prop} {h : H}
    (hf : ∀ (x : api_Member) (h' : H) (k : Bool → H → Prop), Ext h h' → (∀ h'', Ext h' h'' → k (pr x) h'') → callv (β := Bool) Prog f [reg x] k h')
    (hv : SV 34 h s ms) (hb : ms.length < 2 ^ 40) (hk : ∀ h', Ext h h' → k (fidxOf ms pr) h') : slices_IndexFunc_Member.b s f k h := by
  unfold slices_IndexFunc_Member.b slices_IndexFunc_Member.l1
  have hsl : s.len = ms.length := hv.2.1
  refine ⟨fun (t : Int) h' => ∃ i : Nat, t = i ∧ i ≤ ms.length ∧ Ext h h' ∧ (ms.take i).findIdx? pr = none, fun t _ => (ms.length - t).toNat, ⟨0, rfl, Nat.zero_le _, Fr.refl _ _, by simp⟩, ?_⟩
  rintro t h2 ⟨i, rfl, hi, hx, hno⟩
  refine ifb_i (fun hc => ?_) (fun hc => ?_)
  · have hi' : i < ms.length := by have : (i : Int) < s.len := by simpa using hc
                                   omega
    refine sidx_ld len_api_Member (hv.ext hx) (Int.natCast_nonneg _) (by rw [Int.toNat_natCast]; exact List.getElem?_eq_getElem hi') ?_
    refine hf _ _ _ hx (fun h3 hx3 => ?_)
    refine ifb_i (fun hp => ?_) (fun hp => ?_)
    · have : fidxOf ms pr = (i : Int) := by
        unfold fidxOf
        have : ms.findIdx? pr = some i := by
          rw [List.findIdx?_eq_some_iff_getElem]
          refine ⟨hi', hp, fun j hj hpj => ?_⟩
          rw [List.findIdx?_eq_none_iff] at hno
          have := hno ms[j] (by rw [List.mem_take_iff_getElem]; exact ⟨j, by omega, rfl⟩)
          rw [this] at hpj; cases hpj
        rw [this]
      rw [← this]
      exact hk _ (hx.trans hx3)
    · have e1 : iadd (i : Int) 1 = ((i + 1 : Nat) : Int) := by rw [iadd_eq (by omega) (by omega)]; omega
      rw [e1]
      refine ⟨⟨i + 1, rfl, hi', hx.trans hx3, ?_⟩, by dsimp only; omega⟩
      rw [List.take_add_one, List.getElem?_eq_getElem hi', List.findIdx?_append, hno]
      simp [hp]
  · have hi' : i = ms.length := by
      have : ¬ (i : Int) < s.len := by simpa using hc
      omega
    subst hi'
    rw [List.take_length] at hno
    have : fidxOf ms pr = -1 := by unfold fidxOf; rw [hno]
    have h9 := hk _ hx
    rw [this] at h9
    exact h9
theorem fn107 : FnOk Prog 107 := ⟨_, Tryd.func107, by kernel_rfl, by kernel_rfl⟩
theorem Findc1_spec (m : api_Member) (c : Addr) (id : Int) {k : Bool → H → Prop} {h : H} (hc : AtH h c (enc id)) (hk : ∀ h', Ext h h' → k (m.Id == id) h') : config_Find_c1.b m c k h := by
  unfold config_Find_c1.b
  refine (Sat.init h).box_ (fun a h1 hs1 _ _ => ?_)
  refine hs1.ld_ 0 rfl ?_
  refine ld_old (hc.ext hs1.fr) ?_
  exact hk _ hs1.fr
/-- a member by its number -/
def findF (ms : List api_Member) (id : Int) : T3 api_Member Int Bool := match ms.findIdx? (·.Id == id) with
  | some i => ⟨ms.getD i api_Member.zero, i, true⟩
  | none => ⟨api_Member.zero, 0, false⟩
theorem Find_spec (c : api_Config) (ms : List api_Member) (id : Int) {k : T3 api_Member Int Bool → H → Prop} {h : H} (hv : SV 34 h c.Members ms) (hb : ms.length < 2 ^ 40) (hk : ∀ h', Ext h h' → k (findF ms id) h') : config_Find.b c id k h := by
  unfold config_Find.b
  refine (Sat.init h).box_ (fun a h1 hs1 _ _ => ?_)
  refine hs1.box_ (fun t1 h2 hs2 _ _ => ?_)
  refine hs2.box_ (fun t2 h3 hs3 _ _ => ?_)
  refine hs3.ld_ 2 rfl ?_
  refine slices_IndexFunc_Member.ok _ _ _ _ (IndexFunc_spec c.Members ms _ (·.Id == id) (fun x h' k' hx hk' => ?_) (hv.ext hs3.fr) hb (fun h4 hx4 => ?_))
  · refine ⟨fn107, ?_⟩
    have hs' := hs3.ext hx
    exact config_Find_c1.ok x t1 k' h' (Findc1_spec x t1 id (Cel.at_ (hs'.at_ (i := 1) rfl)) hk')
  have hs4 := hs3.ext hx4
  unfold fidxOf
  cases hfi : ms.findIdx? (·.Id == id) with
  | none =>
    refine ifb_i (fun _ => ?_) (fun hc => by simp at hc)
    refine hs4.st_ 0 rfl len_api_Member (fun h5 hs5 _ => ?_)
    refine hs5.ld_ 0 rfl ?_
    have := hk h5 hs5.fr
    unfold findF at this
    rw [hfi] at this
    exact this
  | some i =>
    have hi : i < ms.length := by rw [List.findIdx?_eq_some_iff_getElem] at hfi; exact hfi.1
    refine ifb_i (fun hc => by simp at hc; omega) (fun _ => ?_)
    refine hs4.ld_ 2 rfl ?_
    refine sidx_ld len_api_Member (hv.ext hs4.fr) (Int.natCast_nonneg _) (by rw [Int.toNat_natCast]; exact List.getElem?_eq_getElem hi) ?_
    refine hs4.st_ 0 rfl len_api_Member (fun h5 hs5 _ => ?_)
    refine hs5.ld_ 0 rfl ?_
    have := hk h5 hs5.fr
    unfold findF at this
    rw [hfi] at this
    simpa [hi] using this
end Go.Proofs.YtimmoekliphobaaDoor
namespace Go.Proofs.YtimmoekliphobaaDoor
open Go Go.Sh
open Go.Sh.Ty (reg)
set_option linter.unusedVariables false
set_option maxRecDepth 100000
set_option maxHeartbeats 4000000
theorem keys_New.ok (seed : Arr 32 UInt8) (height : Int) (k : (T2 Pt Int) → H → Prop) (h : H) (hh : keys_New.b seed height k h) : CallsH Prog 43 [reg seed, reg height].toArray h fun v h' => ∃ r : T2 Pt Int, v = reg r ∧ k r h' := by
  unfold keys_New.b at hh
  refine CallsH.of 38 Tryd.func43 rfl Tryd.ntmps43 rfl (fun w0 => ?_)
  refine CW.seq ?_
  refine CW.region ?_
  refine box_elim hh (fun seed_1 hseed_1 hh => ?_)
  refine .e (e_boxP hseed_1 rfl rfl rfl ?_)
  refine .val (v_assign (v := reg ((none : Pt) : Pt)) rfl) rfl ?_
  refine .val (v_assign (v := reg ((0 : Int) : Int)) rfl) rfl ?_
  refine .nil ?_
  refine QN.then_ ?_
  refine CW.seq ?_
  refine CW.seq ?_
  refine CW.region ?_
  refine .val (v_move (v := reg (height : Int)) rfl) rfl ?_
  refine .val (v_ilss rfl rfl) rfl ?_
  refine .val (v_move (v := reg ((decide (height < (0 : Int))) : Bool)) rfl) rfl ?_
  refine .fv 10 rfl rfl rfl (fun hb => v_move (v := reg (height : Int)) rfl) rfl ?_
  refine .fv 10 rfl rfl rfl (fun hb => v_igtr (gf hb) rfl) rfl ?_
  refine .val (v_pick_or rfl rfl (fun hb => gf hb)) rfl ?_
  refine .nil ?_
  refine QN.then_ ?_
  refine CW.cond ((decide (height < (0 : Int))) || (decide ((6 : Int) < height))) rfl (fun hb => ?_) (fun hb => ?_)
  · have hh := hh.1 hb
    refine CW.seq ?_
    refine CW.region ?_
    refine .val (v_assign (v := reg ((none : Pt) : Pt)) rfl) rfl ?_
    refine .val (v_assign (v := reg ((1 : Int) : Int)) rfl) rfl ?_
    refine .nil ?_
    refine QN.then_ ?_
    refine CW.ret ?_
    refine QN.thenRet ?_
    exact ret2 rfl rfl rfl ⟨(⟨(none : Pt), (1 : Int)⟩ : T2 Pt Int), rfl, hh⟩
  · have hh := hh.2 hb
    refine CW.skip ?_
    refine QN.then_ ?_
    refine CW.seq ?_
    refine CW.region ?_
    obtain ⟨t14, ⟨xt14, hxt14, hgt14⟩, hh⟩ := hh
    refine .val (v_ldA (p := seed_1) 0 ag_24 rfl hxt14 hgt14 get_24_all (fun _ => (arr_len (n := 32) _)) (fun _ => rfl)) rfl ?_
    refine .val (v_move (v := reg (height : Int)) rfl) rfl ?_
    refine .val (v_buildT ({ keys_Tree.zero with seed := t14, height := height } : keys_Tree) zo_156 pl_156 rfl (fill_step rfl rfl (arr_len (n := 32) _) (len_keys_Tree _) rfl (set_156_seed _ _) (fill_step rfl rfl (len_i _) (len_keys_Tree _) rfl (set_156_height _ _) (rfl))) rfl) rfl ?_
    refine box_elim hh (fun t17 ht17 hh => ?_)
    refine .e (e_boxP ht17 rfl rfl rfl ?_)
    refine .val (v_assign (v := .pointer (some t17)) rfl) rfl ?_
    refine .nil ?_
    refine QN.then_ ?_
    refine CW.join (fun ρ h => ∃ (ρ' : Env), ρ = setl ρ' [(6, .pointer (some t17))] ∧ (keys_New.j1 k) t17 h) ?_ ?_
    · refine CW.seq ?_
      refine CW.region ?_
      refine .val (v_move (v := reg (height : Int)) rfl) rfl ?_
      obtain ⟨hm, hh⟩ := hh
      refine .val (v_ishl (a := (1 : Int)) rfl rfl hm) rfl ?_
      refine .val (v_move (v := reg ((0 : Int) : Int)) rfl) rfl ?_
      refine .nil ?_
      refine QN.then_ ?_
      refine CW.block ?_
      unfold keys_New.l1 at hh
      refine CW.loop (fun (σ0 : Int) ρ => match σ0 with | t20 => ∃ ρ' : Env, ρ = setl ρ' [(2, .pointer (some seed_1)), (6, .pointer (some t17)), (19, reg ((ishl (1 : Int) height.toNat) : Int)), (20, reg (t20 : Int))]) hh ⟨_, setl_eq ⟨rfl, ⟨rfl, ⟨rfl, ⟨rfl, trivial⟩⟩⟩⟩⟩ ?_
      clear hh
      rintro s1 t20 ρ h ⟨ρ', rfl⟩ hh
      refine CW.seq ?_
      refine CW.region ?_
      refine .val (v_ilss rfl rfl) rfl ?_
      refine .nil ?_
      refine QN.then_ ?_
      refine CW.seq ?_
      refine CW.cond (decide (t20 < (ishl (1 : Int) height.toNat))) rfl (fun hb_1 => ?_) (fun hb_1 => ?_)
      · have hh := hh.1 hb_1
        refine CW.skip ?_
        refine QN.then_ ?_
        refine CW.seq ?_
        refine CW.block ?_
        refine CW.seq ?_
        refine CW.region ?_
        refine .val (v_move (v := reg (t20 : Int)) rfl) rfl ?_
        refine .val (v_assign (v := reg (t20 : Int)) rfl) rfl ?_
        refine .nil ?_
        refine QN.then_ ?_
        refine CW.drawN 14 rfl follows_mixed [0, 1, 2, 3, 4, 5, 6, 11, 12] ?_
        refine .p 0 rfl (by kernel_rfl) (NoPanic.block (NoPanic.then_ (NoPanic.then_ (NoPanic.block (NoPanic.then_ (NoPanic.body)))))) (fun _ => v_move (v := .pointer (some t17)) rfl) ?_
        refine .p 1 rfl (by kernel_rfl) (NoPanic.block (NoPanic.then_ (NoPanic.then_ (NoPanic.block (NoPanic.then_ (NoPanic.body)))))) (fun _ => v_move (v := .pointer (some t17)) rfl) ?_
        refine .p 2 rfl (by kernel_rfl) (NoPanic.block (NoPanic.then_ (NoPanic.then_ (NoPanic.block (NoPanic.then_ (NoPanic.body)))))) (fun _ => v_nilCheck rfl) ?_
        refine .p 3 rfl (by kernel_rfl) (NoPanic.block (NoPanic.then_ (NoPanic.then_ (NoPanic.block (NoPanic.then_ (NoPanic.body)))))) (fun _ => v_fieldAddr fl_156_2 rfl) ?_
        obtain ⟨t27, ⟨xt27, hxt27, hgt27⟩, hh⟩ := hh
        refine .r 4 (fun h' => ∃ x : keys_Tree, AtH h' t17 (enc x) ∧ ((fun (x : keys_Tree) => x.leaves) : keys_Tree → Sl) x = t27) rfl (by kernel_rfl) (NoPanic.block (NoPanic.then_ (NoPanic.then_ (NoPanic.block (NoPanic.then_ (NoPanic.body)))))) ⟨xt27, hxt27, hgt27⟩ (fun h' hS => hS.elim fun _ hS => v_ld1 (p := t17) 33 na_31 rfl hS.1 hS.2 get_156_leaves) ?_
        obtain ⟨t28, ⟨xt28, hxt28, hgt28⟩, hh⟩ := hh
        refine .r 5 (fun h' => ∃ x : Arr 32 UInt8, AtH h' seed_1 (enc x) ∧ ((fun (x : Arr 32 UInt8) => x) : Arr 32 UInt8 → Arr 32 UInt8) x = t28) rfl (by kernel_rfl) (NoPanic.block (NoPanic.then_ (NoPanic.then_ (NoPanic.block (NoPanic.then_ (NoPanic.body)))))) ⟨xt28, hxt28, hgt28⟩ (fun h' hS => hS.elim fun _ hS => v_ldA (p := seed_1) 0 ag_24 rfl hS.1 hS.2 get_24_all (fun _ => (arr_len (n := 32) _)) (fun _ => rfl)) ?_
        refine .p 6 rfl (by kernel_rfl) (NoPanic.block (NoPanic.then_ (NoPanic.then_ (NoPanic.block (NoPanic.then_ (NoPanic.body)))))) (fun _ => v_move (v := reg (t20 : Int)) rfl) ?_
        refine .w 7 (by kernel_rfl) rfl (by kernel_rfl) (.e (e_callP fn_73 rfl rfl hh ?_))
        intro h t30 hh
        obtain ⟨hc, hh⟩ := hh
        refine ⟨⟨⟨trivial, .inr hc⟩, .inl (by kernel_rfl)⟩, ?_⟩
        refine .w 8 (by kernel_rfl) rfl (by kernel_rfl) (.e (e_callP fn_72 rfl rfl hh ?_))
        intro h t31 hh
        obtain ⟨hc_1, hh⟩ := hh
        refine ⟨⟨⟨trivial, .inr hc_1⟩, .inl (by kernel_rfl)⟩, ?_⟩
        refine mks_elim hh (fun pt32 t32 hpt32 ht32 hh => ?_)
        refine .w 9 (by kernel_rfl) rfl (by kernel_rfl) (.e (e_mks [(t31 : Arr 32 UInt8)] hpt32 ht32 zo_24 sl_31 rfl rfl rfl rfl rfl ?_))
        obtain ⟨hc_2, hh⟩ := hh
        refine ⟨⟨⟨trivial, .inr hc_2⟩, .inl (by kernel_rfl)⟩, ?_⟩
        refine .w 10 (by kernel_rfl) rfl (by kernel_rfl) (.e (e_app sl_31 zo_24 by_24 rfl rfl rfl hh ?_))
        intro h t33 hh
        refine ⟨⟨⟨trivial, .inl (by kernel_rfl)⟩, .inl (by kernel_rfl)⟩, ?_⟩
        refine .p 11 rfl (by kernel_rfl) (NoPanic.block (NoPanic.then_ (NoPanic.then_ (NoPanic.block (NoPanic.then_ (NoPanic.body)))))) (fun _ => v_nilCheck rfl) ?_
        refine .p 12 rfl (by kernel_rfl) (NoPanic.block (NoPanic.then_ (NoPanic.then_ (NoPanic.block (NoPanic.then_ (NoPanic.body)))))) (fun _ => v_fieldAddr fl_156_2 rfl) ?_
        obtain ⟨xw, hxw, hwxw, hh⟩ := hh
        refine .w 13 (by kernel_rfl) rfl (by kernel_rfl) (.e (e_storeN (p := t17) (nv := enc (t33 : Sl)) 33 rfl rfl rfl sz_31 (one_sl _) hxw hwxw (len_keys_Tree _) (len_sl _) rfl (set_156_leaves xw (t33 : Sl)) ?_))
        refine ⟨⟨⟨trivial, .inl (by kernel_rfl)⟩, .inl (by kernel_rfl)⟩, ?_⟩
        refine .done (by kernel_rfl) ?_
        refine QN.blockN ?_
        refine QN.then_ ?_
        refine CW.region ?_
        refine .val (v_iadd rfl rfl) rfl ?_
        refine .val (v_move (v := reg ((iadd t20 (1 : Int)) : Int)) rfl) rfl ?_
        refine .nil ?_
        exact QN.thenJ ⟨(iadd t20 (1 : Int)), ⟨_, setl_eq ⟨rfl, ⟨rfl, ⟨rfl, ⟨rfl, trivial⟩⟩⟩⟩⟩, hh⟩
      · have hh := hh.2 hb_1
        refine CW.exit ?_
        refine QN.thenExit ?_
        refine QN.thenExit ?_
        refine QN.blockExit ?_
        exact QN.thenJ ⟨_, setl_eq ⟨rfl, trivial⟩, hh⟩
    · rintro ρ h ⟨ρ', rfl, hh⟩
      unfold keys_New.j1 at hh
      refine CW.seq ?_
      refine CW.region ?_
      refine .val (v_move (v := .pointer (some t17)) rfl) rfl ?_
      refine .val (v_assign (v := .pointer (some t17)) rfl) rfl ?_
      refine .val (v_assign (v := reg ((0 : Int) : Int)) rfl) rfl ?_
      refine .nil ?_
      refine QN.then_ ?_
      refine CW.ret ?_
      exact ret2 rfl rfl rfl ⟨(⟨(some t17), (0 : Int)⟩ : T2 Pt Int), rfl, hh⟩
end Go.Proofs.YtimmoekliphobaaDoor
namespace Go.Proofs.YtimmoekliphobaaDoor
open Go Go.Sh
open Go.Sh.Ty (reg)
set_option linter.unusedVariables false
set_option maxRecDepth 100000
set_option maxHeartbeats 4000000
theorem keys_Tree_Sign.ok (t : Pt) (n : Int) (d : Arr 32 UInt8) (k : (T2 api_Sig Int) → H → Prop) (h : H) (hh : keys_Tree_Sign.b t n d k h) : CallsH Prog 44 [reg t, reg n, reg d].toArray h fun v h' => ∃ r : T2 api_Sig Int, v = reg r ∧ k r h' := by
  unfold keys_Tree_Sign.b at hh
  refine CallsH.of 35 Tryd.func44 rfl Tryd.ntmps44 rfl (fun w0 => ?_)
  refine CW.seq ?_
  refine CW.region ?_
  refine box_elim hh (fun d_1 hd_1 hh => ?_)
  refine .e (e_boxP hd_1 rfl rfl rfl ?_)
  refine box_elim hh (fun t6 ht6 hh => ?_)
  refine .e (e_allocP ht6 zo_35 rfl ?_)
  refine .val (v_assign (v := reg ((0 : Int) : Int)) rfl) rfl ?_
  refine .nil ?_
  refine QN.then_ ?_
  refine CW.seq ?_
  refine CW.seq ?_
  refine CW.region ?_
  refine .val (v_move (v := reg (t : Pt)) rfl) rfl ?_
  refine .val (v_eq_nil pt_98 rfl rfl) rfl ?_
  refine .nil ?_
  refine QN.then_ ?_
  refine CW.cond t.isNone rfl (fun hb => ?_) (fun hb => ?_)
  · have hh := hh.1 hb
    refine CW.seq ?_
    refine CW.region ?_
    refine .val (v_buildT api_Sig.zero zo_35 pl_35 rfl (rfl) rfl) rfl ?_
    obtain ⟨xw, hxw, hwxw, hh⟩ := hh
    refine .e (e_storeN (p := t6) (nv := enc (api_Sig.zero : api_Sig)) 0 rfl rfl rfl sz_35 (one_api_Sig _) hxw hwxw (len_api_Sig _) (len_api_Sig _) rfl (set_35_all xw (api_Sig.zero : api_Sig)) ?_)
    refine .val (v_assign (v := reg ((2 : Int) : Int)) rfl) rfl ?_
    refine .nil ?_
    refine QN.then_ ?_
    refine CW.ret ?_
    refine QN.thenRet ?_
    obtain ⟨r6, ⟨xr6, hxr6, hgr6⟩, hh⟩ := hh
    have hr6 := ld_id hxr6 hgr6
    exact retc1 rfl rfl ag_35 hr6 (len_api_Sig _) rfl ⟨(⟨r6, (2 : Int)⟩ : T2 api_Sig Int), rfl, hh⟩
  · have hh := hh.2 hb
    refine CW.skip ?_
    refine QN.then_ ?_
    refine CW.seq ?_
    refine CW.region ?_
    refine .val (v_move (v := reg (n : Int)) rfl) rfl ?_
    refine .val (v_move (v := reg (t : Pt)) rfl) rfl ?_
    obtain ⟨p, hp, hh⟩ := hh
    refine .val (v_nilCheck (congrArg Value.pointer hp)) rfl ?_
    refine .val (v_fieldAddr fl_156_2 rfl) rfl ?_
    obtain ⟨t18, ⟨xt18, hxt18, hgt18⟩, hh⟩ := hh
    refine .val (v_ld1 (p := p) 33 na_31 rfl hxt18 hgt18 get_156_leaves) rfl ?_
    refine .e (e_callP fn_74 rfl rfl hh ?_)
    intro h t19 hh
    refine .val (v_move (v := reg (t19 : T2 Sl Bool)) rfl) rfl ?_
    refine .val (v_extract (v := reg (t19.a : Sl)) rfl rfl) rfl ?_
    refine .val (v_extract (v := reg (t19.b : Bool)) rfl rfl) rfl ?_
    refine .val (v_assign (v := reg (t19.a : Sl)) rfl) rfl ?_
    refine .val (v_assign (v := reg (t19.b : Bool)) rfl) rfl ?_
    refine .nil ?_
    refine QN.then_ ?_
    refine CW.seq ?_
    refine CW.seq ?_
    refine CW.region ?_
    refine .val (v_move (v := reg (t19.b : Bool)) rfl) rfl ?_
    refine .val (v_not rfl) rfl ?_
    refine .nil ?_
    refine QN.then_ ?_
    refine CW.cond (!t19.b) rfl (fun hb_1 => ?_) (fun hb_1 => ?_)
    · have hh := hh.1 hb_1
      refine CW.seq ?_
      refine CW.region ?_
      refine .val (v_buildT api_Sig.zero zo_35 pl_35 rfl (rfl) rfl) rfl ?_
      obtain ⟨xw_1, hxw_1, hwxw_1, hh⟩ := hh
      refine .e (e_storeN (p := t6) (nv := enc (api_Sig.zero : api_Sig)) 0 rfl rfl rfl sz_35 (one_api_Sig _) hxw_1 hwxw_1 (len_api_Sig _) (len_api_Sig _) rfl (set_35_all xw_1 (api_Sig.zero : api_Sig)) ?_)
      refine .val (v_assign (v := reg ((1 : Int) : Int)) rfl) rfl ?_
      refine .nil ?_
      refine QN.then_ ?_
      refine CW.ret ?_
      refine QN.thenRet ?_
      obtain ⟨r6_1, ⟨xr6_1, hxr6_1, hgr6_1⟩, hh⟩ := hh
      have hr6_1 := ld_id hxr6_1 hgr6_1
      exact retc1 rfl rfl ag_35 hr6_1 (len_api_Sig _) rfl ⟨(⟨r6_1, (1 : Int)⟩ : T2 api_Sig Int), rfl, hh⟩
    · have hh := hh.2 hb_1
      refine CW.skip ?_
      refine QN.then_ ?_
      refine CW.seq ?_
      refine CW.drawN 12 rfl follows_mixed [0, 1, 2, 3, 4, 5, 6, 8, 9, 11] ?_
      refine .p 0 rfl (by kernel_rfl) (NoPanic.then_ (NoPanic.body)) (fun _ => v_move (v := reg (n : Int)) rfl) ?_
      refine .p 1 rfl (by kernel_rfl) (NoPanic.then_ (NoPanic.body)) (fun _ => v_move (v := reg (t : Pt)) rfl) ?_
      refine .p 2 rfl (by kernel_rfl) (NoPanic.then_ (NoPanic.body)) (fun _ => v_nilCheck (congrArg Value.pointer hp)) ?_
      refine .p 3 rfl (by kernel_rfl) (NoPanic.then_ (NoPanic.body)) (fun _ => v_fieldAddr fl_156_0 rfl) ?_
      obtain ⟨t29, ⟨xt29, hxt29, hgt29⟩, hh⟩ := hh
      refine .r 4 (fun h' => ∃ x : keys_Tree, AtH h' p (enc x) ∧ ((fun (x : keys_Tree) => x.seed) : keys_Tree → Arr 32 UInt8) x = t29) rfl (by kernel_rfl) (NoPanic.then_ (NoPanic.body)) ⟨xt29, hxt29, hgt29⟩ (fun h' hS => hS.elim fun _ hS => v_ldA (p := p) 0 ag_24 rfl hS.1 hS.2 get_156_seed (fun _ => (arr_len (n := 32) _)) (fun _ => rfl)) ?_
      refine .p 5 rfl (by kernel_rfl) (NoPanic.then_ (NoPanic.body)) (fun _ => v_move (v := reg (n : Int)) rfl) ?_
      obtain ⟨t31, ⟨xt31, hxt31, hgt31⟩, hh⟩ := hh
      refine .r 6 (fun h' => ∃ x : Arr 32 UInt8, AtH h' d_1 (enc x) ∧ ((fun (x : Arr 32 UInt8) => x) : Arr 32 UInt8 → Arr 32 UInt8) x = t31) rfl (by kernel_rfl) (NoPanic.then_ (NoPanic.body)) ⟨xt31, hxt31, hgt31⟩ (fun h' hS => hS.elim fun _ hS => v_ldA (p := d_1) 0 ag_24 rfl hS.1 hS.2 get_24_all (fun _ => (arr_len (n := 32) _)) (fun _ => rfl)) ?_
      refine .p 8 rfl (by kernel_rfl) (NoPanic.then_ (NoPanic.body)) (fun _ => v_move (v := reg (t19.a : Sl)) rfl) ?_
      refine .w 7 (by kernel_rfl) rfl (by kernel_rfl) (.e (e_callP fn_75 rfl rfl hh ?_))
      intro h t32 hh
      refine ⟨⟨⟨trivial, .inl (by kernel_rfl)⟩, .inl (by kernel_rfl)⟩, ?_⟩
      refine .p 9 rfl (by kernel_rfl) (NoPanic.then_ (NoPanic.body)) (fun _ => v_buildT ({ Leaf := n, Once := t32, Path := t19.a } : api_Sig) zo_35 pl_35 rfl (fill_step rfl rfl (len_i _) (len_api_Sig _) rfl (set_35_Leaf _ _) (fill_step rfl rfl (len_api_Once _) (len_api_Sig _) rfl (set_35_Once _ _) (fill_step rfl rfl (len_sl _) (len_api_Sig _) rfl (set_35_Path _ _) (rfl)))) rfl) ?_
      obtain ⟨xw_2, hxw_2, hwxw_2, hh⟩ := hh
      refine .w 10 (by kernel_rfl) rfl (by kernel_rfl) (.e (e_storeN (p := t6) (nv := enc (({ Leaf := n, Once := t32, Path := t19.a } : api_Sig) : api_Sig)) 0 rfl rfl rfl sz_35 (one_api_Sig _) hxw_2 hwxw_2 (len_api_Sig _) (len_api_Sig _) rfl (set_35_all xw_2 (({ Leaf := n, Once := t32, Path := t19.a } : api_Sig) : api_Sig)) ?_))
      refine ⟨⟨⟨trivial, .inl (by kernel_rfl)⟩, .inl (by kernel_rfl)⟩, ?_⟩
      refine .p 11 rfl (by kernel_rfl) (NoPanic.then_ (NoPanic.body)) (fun _ => v_assign (v := reg ((0 : Int) : Int)) rfl) ?_
      refine .done (by kernel_rfl) ?_
      refine QN.then_ ?_
      refine CW.ret ?_
      obtain ⟨r6_2, ⟨xr6_2, hxr6_2, hgr6_2⟩, hh⟩ := hh
      have hr6_2 := ld_id hxr6_2 hgr6_2
      exact retc1 rfl rfl ag_35 hr6_2 (len_api_Sig _) rfl ⟨(⟨r6_2, (0 : Int)⟩ : T2 api_Sig Int), rfl, hh⟩
end Go.Proofs.YtimmoekliphobaaDoor
namespace Go.Proofs.YtimmoekliphobaaDoor
open Go Go.Sh
open Go.Sh.Ty (reg)
set_option linter.unusedVariables false
set_option maxRecDepth 100000
set_option maxHeartbeats 4000000
theorem keys_Tree_Key.ok (t : Pt) (k : api_Key → H → Prop) (h : H) (hh : keys_Tree_Key.b t k h) : CallsH Prog 47 [reg t].toArray h fun v h' => ∃ r : api_Key, v = reg r ∧ k r h' := by
  unfold keys_Tree_Key.b at hh
  refine CallsH.of 16 Tryd.func47 rfl Tryd.ntmps47 rfl (fun w0 => ?_)
  refine CW.seq ?_
  refine CW.region ?_
  refine box_elim hh (fun t2 ht2 hh => ?_)
  refine .e (e_allocP ht2 zo_107 rfl ?_)
  refine .nil ?_
  refine QN.then_ ?_
  refine CW.seq ?_
  refine CW.seq ?_
  refine CW.region ?_
  refine .val (v_move (v := reg (t : Pt)) rfl) rfl ?_
  refine .val (v_eq_nil pt_98 rfl rfl) rfl ?_
  refine .nil ?_
  refine QN.then_ ?_
  refine CW.cond t.isNone rfl (fun hb => ?_) (fun hb => ?_)
  · have hh := hh.1 hb
    refine CW.seq ?_
    refine CW.region ?_
    refine .val (v_buildT api_Key.zero zo_107 pl_107 rfl (rfl) rfl) rfl ?_
    obtain ⟨xw, hxw, hwxw, hh⟩ := hh
    refine .e (e_storeN (p := t2) (nv := enc (api_Key.zero : api_Key)) 0 rfl rfl rfl sz_107 (one_api_Key _) hxw hwxw (len_api_Key _) (len_api_Key _) rfl (set_107_all xw (api_Key.zero : api_Key)) ?_)
    refine .nil ?_
    refine QN.then_ ?_
    refine CW.ret ?_
    refine QN.thenRet ?_
    obtain ⟨r2, ⟨xr2, hxr2, hgr2⟩, hh⟩ := hh
    have hr2 := ld_id hxr2 hgr2
    exact retc rfl rfl ag_107 hr2 (len_api_Key _) ⟨(r2 : api_Key), rfl, hh⟩
  · have hh := hh.2 hb
    refine CW.skip ?_
    refine QN.then_ ?_
    refine CW.seq ?_
    refine CW.drawN 11 rfl follows_mixed [0, 1, 2, 3, 5, 6, 7, 8, 9] ?_
    refine .p 0 rfl (by kernel_rfl) (NoPanic.then_ (NoPanic.body)) (fun _ => v_move (v := reg (t : Pt)) rfl) ?_
    obtain ⟨p, hp, hh⟩ := hh
    refine .p 1 rfl (by kernel_rfl) (NoPanic.then_ (NoPanic.body)) (fun _ => v_nilCheck (congrArg Value.pointer hp)) ?_
    refine .p 2 rfl (by kernel_rfl) (NoPanic.then_ (NoPanic.body)) (fun _ => v_fieldAddr fl_156_2 rfl) ?_
    obtain ⟨t9, ⟨xt9, hxt9, hgt9⟩, hh⟩ := hh
    refine .r 3 (fun h' => ∃ x : keys_Tree, AtH h' p (enc x) ∧ ((fun (x : keys_Tree) => x.leaves) : keys_Tree → Sl) x = t9) rfl (by kernel_rfl) (NoPanic.then_ (NoPanic.body)) ⟨xt9, hxt9, hgt9⟩ (fun h' hS => hS.elim fun _ hS => v_ld1 (p := p) 33 na_31 rfl hS.1 hS.2 get_156_leaves) ?_
    refine .p 5 rfl (by kernel_rfl) (NoPanic.then_ (NoPanic.body)) (fun _ => v_move (v := reg (t : Pt)) rfl) ?_
    refine .p 6 rfl (by kernel_rfl) (NoPanic.then_ (NoPanic.body)) (fun _ => v_nilCheck (congrArg Value.pointer hp)) ?_
    refine .p 7 rfl (by kernel_rfl) (NoPanic.then_ (NoPanic.body)) (fun _ => v_fieldAddr fl_156_1 rfl) ?_
    obtain ⟨t14, ⟨xt14, hxt14, hgt14⟩, hh⟩ := hh
    refine .r 8 (fun h' => ∃ x : keys_Tree, AtH h' p (enc x) ∧ ((fun (x : keys_Tree) => x.height) : keys_Tree → Int) x = t14) rfl (by kernel_rfl) (NoPanic.then_ (NoPanic.body)) ⟨xt14, hxt14, hgt14⟩ (fun h' hS => hS.elim fun _ hS => v_ld1 (p := p) 32 na_3 rfl hS.1 hS.2 get_156_height) ?_
    refine .w 4 (by kernel_rfl) rfl (by kernel_rfl) (.e (e_callP fn_80 rfl rfl hh ?_))
    intro h t10 hh
    obtain ⟨hc, hh⟩ := hh
    refine ⟨⟨⟨trivial, .inl (by kernel_rfl)⟩, .inr hc⟩, ?_⟩
    refine .p 9 rfl (by kernel_rfl) (NoPanic.then_ (NoPanic.body)) (fun _ => v_buildT ({ Root := t10, Height := t14 } : api_Key) zo_107 pl_107 rfl (fill_step rfl rfl (arr_len (n := 32) _) (len_api_Key _) rfl (set_107_Root _ _) (fill_step rfl rfl (len_i _) (len_api_Key _) rfl (set_107_Height _ _) (rfl))) rfl) ?_
    obtain ⟨xw_1, hxw_1, hwxw_1, hh⟩ := hh
    refine .w 10 (by kernel_rfl) rfl (by kernel_rfl) (.e (e_storeN (p := t2) (nv := enc (({ Root := t10, Height := t14 } : api_Key) : api_Key)) 0 rfl rfl rfl sz_107 (one_api_Key _) hxw_1 hwxw_1 (len_api_Key _) (len_api_Key _) rfl (set_107_all xw_1 (({ Root := t10, Height := t14 } : api_Key) : api_Key)) ?_))
    refine ⟨⟨⟨trivial, .inl (by kernel_rfl)⟩, .inl (by kernel_rfl)⟩, ?_⟩
    refine .done (by kernel_rfl) ?_
    refine QN.then_ ?_
    refine CW.ret ?_
    obtain ⟨r2_1, ⟨xr2_1, hxr2_1, hgr2_1⟩, hh⟩ := hh
    have hr2_1 := ld_id hxr2_1 hgr2_1
    exact retc rfl rfl ag_107 hr2_1 (len_api_Key _) ⟨(r2_1 : api_Key), rfl, hh⟩
end Go.Proofs.YtimmoekliphobaaDoor
namespace Go.Proofs.YtimmoekliphobaaDoor
open Go Go.Sh
open Go.Sh.Ty (reg)
set_option linter.unusedVariables false
set_option maxRecDepth 100000
set_option maxHeartbeats 4000000
theorem keys_Check.ok (kv : api_Key) (d : Arr 32 UInt8) (s : api_Sig) (k : Bool → H → Prop) (h : H) (hh : keys_Check.b kv d s k h) : CallsH Prog 79 [reg kv, reg d, reg s].toArray h fun v h' => ∃ r : Bool, v = reg r ∧ k r h' := by
  unfold keys_Check.b at hh
  refine CallsH.of 41 Tryd.func79 rfl Tryd.ntmps79 rfl (fun w0 => ?_)
  refine CW.seq ?_
  refine CW.region ?_
  refine box_elim hh (fun kv_1 hkv_1 hh => ?_)
  refine .e (e_boxP hkv_1 rfl rfl rfl ?_)
  refine box_elim hh (fun d_1 hd_1 hh => ?_)
  refine .e (e_boxP hd_1 rfl rfl rfl ?_)
  refine box_elim hh (fun s_1 hs_1 hh => ?_)
  refine .e (e_boxP hs_1 rfl rfl rfl ?_)
  refine .val (v_assign (v := reg (false : Bool)) rfl) rfl ?_
  refine .nil ?_
  refine QN.then_ ?_
  refine CW.seq ?_
  refine CW.region ?_
  obtain ⟨t10, ⟨xt10, hxt10, hgt10⟩, hh⟩ := hh
  refine .val (v_ldA (p := d_1) 0 ag_24 rfl hxt10 hgt10 get_24_all (fun _ => (arr_len (n := 32) _)) (fun _ => rfl)) rfl ?_
  refine .val (v_fieldAddr fl_35_1 rfl) rfl ?_
  obtain ⟨t12, ⟨xt12, hxt12, hgt12⟩, hh⟩ := hh
  refine .val (v_ldA (p := s_1) 1 ag_33 rfl hxt12 hgt12 get_35_Once (fun _ => (len_api_Once _)) (fun _ => rfl)) rfl ?_
  refine .e (e_callP fn_108 rfl rfl hh ?_)
  intro h t13 hh
  refine .val (v_move (v := reg (t13 : T2 (Arr 32 UInt8) Bool)) rfl) rfl ?_
  refine .val (v_extract (v := reg (t13.a : Arr 32 UInt8)) rfl rfl) rfl ?_
  refine .val (v_extract (v := reg (t13.b : Bool)) rfl rfl) rfl ?_
  refine box_elim hh (fun p hp hh => ?_)
  refine .e (e_allocP hp zo_24 rfl ?_)
  obtain ⟨xw, hxw, hwxw, hh⟩ := hh
  refine .e (e_storeN (p := p) (nv := enc (t13.a : Arr 32 UInt8)) 0 rfl rfl rfl sz_24 (one_arr (n := 32) (fun _ => rfl) _) hxw hwxw (arr_len (n := 32) _) (arr_len (n := 32) _) rfl (set_24_all xw (t13.a : Arr 32 UInt8)) ?_)
  refine .val (v_assign (v := reg (t13.b : Bool)) rfl) rfl ?_
  refine .nil ?_
  refine QN.then_ ?_
  refine CW.join (fun ρ h => ∃ (ρ' : Env) (t6 : Bool), ρ = setl ρ' [(6, reg (t6 : Bool))] ∧ (keys_Check.j1 k) t6 h) ?_ ?_
  · refine CW.drawN 26 rfl follows_mixed [0, 1, 2, 3, 4, 5, 6, 7, 8, 9, 10, 11, 12, 13, 14, 16, 17, 18, 19, 20, 21, 22, 24, 25] ?_
    refine .p 0 rfl (by kernel_rfl) (NoPanic.then_ (NoPanic.body)) (fun _ => v_move (v := reg (t13.b : Bool)) rfl) ?_
    refine .p 1 rfl (by kernel_rfl) (NoPanic.then_ (NoPanic.body)) (fun _ => v_move (v := reg (t13.b : Bool)) rfl) ?_
    refine .tp 2 17 rfl rfl rfl rfl (by kernel_rfl) (NoPanic.then_ (NoPanic.body)) (fun hb _ => v_fieldAddr fl_107_1 rfl) ?_
    obtain ⟨t19, ⟨xt19, hxt19, hgt19⟩, hh⟩ := hh
    refine .tr 3 17 (fun h' => ∃ x : api_Key, AtH h' kv_1 (enc x) ∧ ((fun (x : api_Key) => x.Height) : api_Key → Int) x = t19) rfl rfl rfl rfl (by kernel_rfl) (NoPanic.then_ (NoPanic.body)) ⟨xt19, hxt19, hgt19⟩ (fun hb => fun h' hS => hS.elim fun _ hS => v_ld1 (p := kv_1) 32 na_3 (gt hb) hS.1 hS.2 get_107_Height) ?_
    refine .tp 4 17 rfl rfl rfl rfl (by kernel_rfl) (NoPanic.then_ (NoPanic.body)) (fun hb _ => v_igeq (gt hb) rfl) ?_
    refine .p 5 rfl (by kernel_rfl) (NoPanic.then_ (NoPanic.body)) (fun _ => v_pick_and rfl (fun hb => gt hb) rfl) ?_
    refine .p 6 rfl (by kernel_rfl) (NoPanic.then_ (NoPanic.body)) (fun _ => v_move (v := reg ((t13.b && (decide ((0 : Int) ≤ t19))) : Bool)) rfl) ?_
    refine .tp 7 22 rfl rfl rfl rfl (by kernel_rfl) (NoPanic.then_ (NoPanic.body)) (fun hb _ => v_fieldAddr fl_107_1 rfl) ?_
    obtain ⟨t24, ⟨xt24, hxt24, hgt24⟩, hh⟩ := hh
    refine .tr 8 22 (fun h' => ∃ x : api_Key, AtH h' kv_1 (enc x) ∧ ((fun (x : api_Key) => x.Height) : api_Key → Int) x = t24) rfl rfl rfl rfl (by kernel_rfl) (NoPanic.then_ (NoPanic.body)) ⟨xt24, hxt24, hgt24⟩ (fun hb => fun h' hS => hS.elim fun _ hS => v_ld1 (p := kv_1) 32 na_3 (gt hb) hS.1 hS.2 get_107_Height) ?_
    refine .tp 9 22 rfl rfl rfl rfl (by kernel_rfl) (NoPanic.then_ (NoPanic.body)) (fun hb _ => v_ileq (gt hb) rfl) ?_
    refine .p 10 rfl (by kernel_rfl) (NoPanic.then_ (NoPanic.body)) (fun _ => v_pick_and rfl (fun hb => gt hb) rfl) ?_
    refine .p 11 rfl (by kernel_rfl) (NoPanic.then_ (NoPanic.body)) (fun _ => v_move (v := reg (((t13.b && (decide ((0 : Int) ≤ t19))) && (decide (t24 ≤ (6 : Int)))) : Bool)) rfl) ?_
    refine ifb_cases hh (fun hb hh => ?_) (fun hb hh => ?_)
    · refine .yp 12 27 rfl rfl (congrArg Value.bool hb) rfl (by kernel_rfl) (NoPanic.then_ (NoPanic.body)) (fun _ => v_fieldAddr fl_107_0 rfl) ?_
      obtain ⟨t29, ⟨xt29, hxt29, hgt29⟩, hh⟩ := hh
      refine .yr 13 27 (fun h' => ∃ x : api_Key, AtH h' kv_1 (enc x) ∧ ((fun (x : api_Key) => x.Root) : api_Key → Arr 32 UInt8) x = t29) rfl rfl (congrArg Value.bool hb) rfl (by kernel_rfl) (NoPanic.then_ (NoPanic.body)) ⟨xt29, hxt29, hgt29⟩ (fun h' hS => hS.elim fun _ hS => v_ldA (p := kv_1) 0 ag_24 rfl hS.1 hS.2 get_107_Root (fun _ => (arr_len (n := 32) _)) (fun _ => rfl)) ?_
      obtain ⟨t30, ⟨xt30, hxt30, hgt30⟩, hh⟩ := hh
      refine .yr 14 27 (fun h' => ∃ x : Arr 32 UInt8, AtH h' p (enc x) ∧ ((fun (x : Arr 32 UInt8) => x) : Arr 32 UInt8 → Arr 32 UInt8) x = t30) rfl rfl (congrArg Value.bool hb) rfl (by kernel_rfl) (NoPanic.then_ (NoPanic.body)) ⟨xt30, hxt30, hgt30⟩ (fun h' hS => hS.elim fun _ hS => v_ldA (p := p) 0 ag_24 rfl hS.1 hS.2 get_24_all (fun _ => (arr_len (n := 32) _)) (fun _ => rfl)) ?_
      refine .yp 16 27 rfl rfl (congrArg Value.bool hb) rfl (by kernel_rfl) (NoPanic.then_ (NoPanic.body)) (fun _ => v_fieldAddr fl_35_0 rfl) ?_
      obtain ⟨t33, ⟨xt33, hxt33, hgt33⟩, hh⟩ := hh
      refine .yr 17 27 (fun h' => ∃ x : api_Sig, AtH h' s_1 (enc x) ∧ ((fun (x : api_Sig) => x.Leaf) : api_Sig → Int) x = t33) rfl rfl (congrArg Value.bool hb) rfl (by kernel_rfl) (NoPanic.then_ (NoPanic.body)) ⟨xt33, hxt33, hgt33⟩ (fun h' hS => hS.elim fun _ hS => v_ld1 (p := s_1) 0 na_3 rfl hS.1 hS.2 get_35_Leaf) ?_
      refine .yp 18 27 rfl rfl (congrArg Value.bool hb) rfl (by kernel_rfl) (NoPanic.then_ (NoPanic.body)) (fun _ => v_fieldAddr fl_107_1 rfl) ?_
      obtain ⟨t35, ⟨xt35, hxt35, hgt35⟩, hh⟩ := hh
      refine .yr 19 27 (fun h' => ∃ x : api_Key, AtH h' kv_1 (enc x) ∧ ((fun (x : api_Key) => x.Height) : api_Key → Int) x = t35) rfl rfl (congrArg Value.bool hb) rfl (by kernel_rfl) (NoPanic.then_ (NoPanic.body)) ⟨xt35, hxt35, hgt35⟩ (fun h' hS => hS.elim fun _ hS => v_ld1 (p := kv_1) 32 na_3 rfl hS.1 hS.2 get_107_Height) ?_
      obtain ⟨hm, hh⟩ := hh
      refine .yp 20 27 rfl rfl (congrArg Value.bool hb) rfl (by kernel_rfl) (NoPanic.then_ (NoPanic.body)) (fun _ => v_ishl (a := (1 : Int)) rfl rfl hm) ?_
      refine .yp 21 27 rfl rfl (congrArg Value.bool hb) rfl (by kernel_rfl) (NoPanic.then_ (NoPanic.body)) (fun _ => v_fieldAddr fl_35_2 rfl) ?_
      obtain ⟨t38, ⟨xt38, hxt38, hgt38⟩, hh⟩ := hh
      refine .yr 22 27 (fun h' => ∃ x : api_Sig, AtH h' s_1 (enc x) ∧ ((fun (x : api_Sig) => x.Path) : api_Sig → Sl) x = t38) rfl rfl (congrArg Value.bool hb) rfl (by kernel_rfl) (NoPanic.then_ (NoPanic.body)) ⟨xt38, hxt38, hgt38⟩ (fun h' hS => hS.elim fun _ hS => v_ld1 (p := s_1) 3 na_31 rfl hS.1 hS.2 get_35_Path) ?_
      refine .w 15 (by kernel_rfl) rfl (by kernel_rfl) (.ye 27 rfl (congrArg Value.bool hb) rfl (e_callP fn_72 rfl rfl hh ?_))
      intro h t31 hh
      obtain ⟨hc, hh⟩ := hh
      obtain ⟨hc_1, hh⟩ := hh
      obtain ⟨hc_2, hh⟩ := hh
      obtain ⟨hc_3, hh⟩ := hh
      refine ⟨⟨⟨⟨⟨⟨⟨⟨trivial, .inl (by kernel_rfl)⟩, .inl (by kernel_rfl)⟩, .inr hc⟩, .inl (by kernel_rfl)⟩, .inr hc_1⟩, .inr hc_2⟩, .inr hc_3⟩, ?_⟩
      refine .w 23 (by kernel_rfl) rfl (by kernel_rfl) (.ye 27 rfl (congrArg Value.bool hb) rfl (e_callP fn_109 rfl rfl hh ?_))
      intro h t39 hh
      refine ⟨⟨⟨⟨⟨⟨⟨⟨trivial, .inl (by kernel_rfl)⟩, .inl (by kernel_rfl)⟩, .inl (by kernel_rfl)⟩, .inl (by kernel_rfl)⟩, .inl (by kernel_rfl)⟩, .inl (by kernel_rfl)⟩, .inl (by kernel_rfl)⟩, ?_⟩
      refine .p 24 rfl (by kernel_rfl) (NoPanic.then_ (NoPanic.body)) (fun _ => v_pickT (v := reg (t39 : Bool)) rfl hb rfl) ?_
      refine .p 25 rfl (by kernel_rfl) (NoPanic.then_ (NoPanic.body)) (fun _ => v_assign (v := reg (t39 : Bool)) rfl) ?_
      refine .done (by kernel_rfl) ?_
      exact QN.thenJ ⟨_, t39, setl_eq ⟨rfl, trivial⟩, hh⟩
    · refine .no' 12 27 rfl rfl (congrArg Value.bool hb) rfl (by kernel_rfl) (NoPanic.then_ (NoPanic.body)) ?_
      refine .no' 13 27 rfl rfl (congrArg Value.bool hb) rfl (by kernel_rfl) (NoPanic.then_ (NoPanic.body)) ?_
      refine .no' 14 27 rfl rfl (congrArg Value.bool hb) rfl (by kernel_rfl) (NoPanic.then_ (NoPanic.body)) ?_
      refine .no' 16 27 rfl rfl (congrArg Value.bool hb) rfl (by kernel_rfl) (NoPanic.then_ (NoPanic.body)) ?_
      refine .no' 17 27 rfl rfl (congrArg Value.bool hb) rfl (by kernel_rfl) (NoPanic.then_ (NoPanic.body)) ?_
      refine .no' 18 27 rfl rfl (congrArg Value.bool hb) rfl (by kernel_rfl) (NoPanic.then_ (NoPanic.body)) ?_
      refine .no' 19 27 rfl rfl (congrArg Value.bool hb) rfl (by kernel_rfl) (NoPanic.then_ (NoPanic.body)) ?_
      refine .no' 20 27 rfl rfl (congrArg Value.bool hb) rfl (by kernel_rfl) (NoPanic.then_ (NoPanic.body)) ?_
      refine .no' 21 27 rfl rfl (congrArg Value.bool hb) rfl (by kernel_rfl) (NoPanic.then_ (NoPanic.body)) ?_
      refine .no' 22 27 rfl rfl (congrArg Value.bool hb) rfl (by kernel_rfl) (NoPanic.then_ (NoPanic.body)) ?_
      refine .w 15 (by kernel_rfl) rfl (by kernel_rfl) (.no 27 rfl (congrArg Value.bool hb) rfl rfl ⟨⟨⟨trivial, .inl (by kernel_rfl)⟩, .inl (by kernel_rfl)⟩, ?_⟩)
      refine .w 23 (by kernel_rfl) rfl (by kernel_rfl) (.no 27 rfl (congrArg Value.bool hb) rfl rfl ⟨⟨⟨trivial, .inl (by kernel_rfl)⟩, .inl (by kernel_rfl)⟩, ?_⟩)
      refine .p 24 rfl (by kernel_rfl) (NoPanic.then_ (NoPanic.body)) (fun _ => v_pickF (v := reg (false : Bool)) rfl hb rfl) ?_
      refine .p 25 rfl (by kernel_rfl) (NoPanic.then_ (NoPanic.body)) (fun _ => v_assign (v := reg (false : Bool)) rfl) ?_
      refine .done (by kernel_rfl) ?_
      exact QN.thenJ ⟨_, false, setl_eq ⟨rfl, trivial⟩, hh⟩
  · rintro ρ h ⟨ρ', t6, rfl, hh⟩
    unfold keys_Check.j1 at hh
    refine CW.ret ?_
    exact ret1 rfl rfl ⟨(t6 : Bool), rfl, hh⟩
end Go.Proofs.YtimmoekliphobaaDoor
namespace Go.Proofs.YtimmoekliphobaaDoor
open Go Go.Sh
open Go.Sh.Ty (reg)
set_option linter.unusedVariables false
set_option maxRecDepth 100000
set_option maxHeartbeats 4000000
theorem vote_Right.ok (c : api_Config) (v : api_Vote) (k : Bool → H → Prop) (h : H) (hh : vote_Right.b c v k h) : CallsH Prog 46 [reg c, reg v].toArray h fun v h' => ∃ r : Bool, v = reg r ∧ k r h' := by
  unfold vote_Right.b at hh
  refine CallsH.of 37 Tryd.func46 rfl Tryd.ntmps46 rfl (fun w0 => ?_)
  refine CW.seq ?_
  refine CW.region ?_
  refine box_elim hh (fun c_1 hc_1 hh => ?_)
  refine .e (e_boxP hc_1 rfl rfl rfl ?_)
  refine box_elim hh (fun v_1 hv_1 hh => ?_)
  refine .e (e_boxP hv_1 rfl rfl rfl ?_)
  refine .val (v_assign (v := reg (false : Bool)) rfl) rfl ?_
  refine .nil ?_
  refine QN.then_ ?_
  refine CW.seq ?_
  refine CW.region ?_
  obtain ⟨t9, ⟨xt9, hxt9, hgt9⟩, hh⟩ := hh
  refine .val (v_ldA (p := c_1) 0 ag_54 rfl hxt9 hgt9 get_54_all (fun _ => (len_api_Config _)) (fun _ => rfl)) rfl ?_
  refine .val (v_fieldAddr fl_37_5 rfl) rfl ?_
  obtain ⟨t11, ⟨xt11, hxt11, hgt11⟩, hh⟩ := hh
  refine .val (v_ld1 (p := v_1) 36 na_3 rfl hxt11 hgt11 get_37_From) rfl ?_
  refine .e (e_callP fn_77 rfl rfl hh ?_)
  intro h t12 hh
  refine .val (v_move (v := reg (t12 : T3 api_Member Int Bool)) rfl) rfl ?_
  refine .val (v_extract (v := reg (t12.a : api_Member)) rfl rfl) rfl ?_
  refine .val (v_extract (v := reg (t12.b : Int)) rfl rfl) rfl ?_
  refine .val (v_extract (v := reg (t12.c : Bool)) rfl rfl) rfl ?_
  refine box_elim hh (fun m hm hh => ?_)
  refine .e (e_allocP hm zo_110 rfl ?_)
  obtain ⟨xw, hxw, hwxw, hh⟩ := hh
  refine .e (e_storeN (p := m) (nv := enc (t12.a : api_Member)) 0 rfl rfl rfl sz_110 (one_api_Member _) hxw hwxw (len_api_Member _) (len_api_Member _) rfl (set_110_all xw (t12.a : api_Member)) ?_)
  refine .val (v_assign (v := reg (t12.b : Int)) rfl) rfl ?_
  refine .val (v_assign (v := reg (t12.c : Bool)) rfl) rfl ?_
  refine .nil ?_
  refine QN.then_ ?_
  refine CW.join (fun ρ h => ∃ (ρ' : Env) (t4 : Bool), ρ = setl ρ' [(4, reg (t4 : Bool))] ∧ (vote_Right.j1 k) t4 h) ?_ ?_
  · refine CW.drawN 22 rfl follows_mixed [0, 1, 2, 4, 5, 6, 7, 8, 9, 10, 11, 12, 13, 14, 15, 17, 18, 20, 21] ?_
    refine .p 0 rfl (by kernel_rfl) (NoPanic.then_ (NoPanic.body)) (fun _ => v_move (v := reg (t12.c : Bool)) rfl) ?_
    refine .p 1 rfl (by kernel_rfl) (NoPanic.then_ (NoPanic.body)) (fun _ => v_move (v := reg (t12.c : Bool)) rfl) ?_
    refine ifb_cases hh (fun hb hh => ?_) (fun hb hh => ?_)
    · obtain ⟨t18, ⟨xt18, hxt18, hgt18⟩, hh⟩ := hh
      refine .yr 2 17 (fun h' => ∃ x : api_Vote, AtH h' v_1 (enc x) ∧ ((fun (x : api_Vote) => x) : api_Vote → api_Vote) x = t18) rfl rfl (congrArg Value.bool hb) rfl (by kernel_rfl) (NoPanic.then_ (NoPanic.body)) ⟨xt18, hxt18, hgt18⟩ (fun h' hS => hS.elim fun _ hS => v_ldA (p := v_1) 0 ag_37 rfl hS.1 hS.2 get_37_all (fun _ => (len_api_Vote _)) (fun _ => rfl)) ?_
      refine .w 3 (by kernel_rfl) rfl (by kernel_rfl) (.ye 17 rfl (congrArg Value.bool hb) rfl (e_callP fn_78 rfl rfl hh ?_))
      intro h t19 hh
      refine ⟨⟨trivial, .inl (by kernel_rfl)⟩, ?_⟩
      refine .p 4 rfl (by kernel_rfl) (NoPanic.then_ (NoPanic.body)) (fun _ => v_pickT (v := reg (t19 : Bool)) rfl hb rfl) ?_
      refine .p 5 rfl (by kernel_rfl) (NoPanic.then_ (NoPanic.body)) (fun _ => v_move (v := reg (t19 : Bool)) rfl) ?_
      refine .tp 6 21 rfl rfl rfl rfl (by kernel_rfl) (NoPanic.then_ (NoPanic.body)) (fun hb _ => v_fieldAddr fl_37_1 rfl) ?_
      obtain ⟨t23, ⟨xt23, hxt23, hgt23⟩, hh⟩ := hh
      refine .tr 7 21 (fun h' => ∃ x : api_Vote, AtH h' v_1 (enc x) ∧ ((fun (x : api_Vote) => x.Epoch) : api_Vote → Int) x = t23) rfl rfl rfl rfl (by kernel_rfl) (NoPanic.then_ (NoPanic.body)) ⟨xt23, hxt23, hgt23⟩ (fun hb => fun h' hS => hS.elim fun _ hS => v_ld1 (p := v_1) 1 na_3 (gt hb) hS.1 hS.2 get_37_Epoch) ?_
      refine .tp 8 21 rfl rfl rfl rfl (by kernel_rfl) (NoPanic.then_ (NoPanic.body)) (fun hb _ => v_fieldAddr fl_54_0 rfl) ?_
      obtain ⟨t25, ⟨xt25, hxt25, hgt25⟩, hh⟩ := hh
      refine .tr 9 21 (fun h' => ∃ x : api_Config, AtH h' c_1 (enc x) ∧ ((fun (x : api_Config) => x.Epoch) : api_Config → Int) x = t25) rfl rfl rfl rfl (by kernel_rfl) (NoPanic.then_ (NoPanic.body)) ⟨xt25, hxt25, hgt25⟩ (fun hb => fun h' hS => hS.elim fun _ hS => v_ld1 (p := c_1) 0 na_3 (gt hb) hS.1 hS.2 get_54_Epoch) ?_
      refine .tp 10 21 rfl rfl rfl rfl (by kernel_rfl) (NoPanic.then_ (NoPanic.body)) (fun hb _ => v_ieql (gt hb) (gt hb)) ?_
      refine .p 11 rfl (by kernel_rfl) (NoPanic.then_ (NoPanic.body)) (fun _ => v_pick_and rfl (fun hb => gt hb) rfl) ?_
      refine .p 12 rfl (by kernel_rfl) (NoPanic.then_ (NoPanic.body)) (fun _ => v_move (v := reg ((t19 && (t23 == t25)) : Bool)) rfl) ?_
      refine ifb_cases hh (fun hb_1 hh => ?_) (fun hb_1 hh => ?_)
      · refine .yp 13 28 rfl rfl (congrArg Value.bool hb_1) rfl (by kernel_rfl) (NoPanic.then_ (NoPanic.body)) (fun _ => v_fieldAddr fl_110_1 rfl) ?_
        obtain ⟨t30, ⟨xt30, hxt30, hgt30⟩, hh⟩ := hh
        refine .yr 14 28 (fun h' => ∃ x : api_Member, AtH h' m (enc x) ∧ ((fun (x : api_Member) => x.Key) : api_Member → api_Key) x = t30) rfl rfl (congrArg Value.bool hb_1) rfl (by kernel_rfl) (NoPanic.then_ (NoPanic.body)) ⟨xt30, hxt30, hgt30⟩ (fun h' hS => hS.elim fun _ hS => v_ldA (p := m) 1 ag_107 rfl hS.1 hS.2 get_110_Key (fun _ => (len_api_Key _)) (fun _ => rfl)) ?_
        obtain ⟨t31, ⟨xt31, hxt31, hgt31⟩, hh⟩ := hh
        refine .yr 15 28 (fun h' => ∃ x : api_Vote, AtH h' v_1 (enc x) ∧ ((fun (x : api_Vote) => x) : api_Vote → api_Vote) x = t31) rfl rfl (congrArg Value.bool hb_1) rfl (by kernel_rfl) (NoPanic.then_ (NoPanic.body)) ⟨xt31, hxt31, hgt31⟩ (fun h' hS => hS.elim fun _ hS => v_ldA (p := v_1) 0 ag_37 rfl hS.1 hS.2 get_37_all (fun _ => (len_api_Vote _)) (fun _ => rfl)) ?_
        refine .yp 17 28 rfl rfl (congrArg Value.bool hb_1) rfl (by kernel_rfl) (NoPanic.then_ (NoPanic.body)) (fun _ => v_fieldAddr fl_37_6 rfl) ?_
        obtain ⟨t34, ⟨xt34, hxt34, hgt34⟩, hh⟩ := hh
        refine .yr 18 28 (fun h' => ∃ x : api_Vote, AtH h' v_1 (enc x) ∧ ((fun (x : api_Vote) => x.Sig) : api_Vote → api_Sig) x = t34) rfl rfl (congrArg Value.bool hb_1) rfl (by kernel_rfl) (NoPanic.then_ (NoPanic.body)) ⟨xt34, hxt34, hgt34⟩ (fun h' hS => hS.elim fun _ hS => v_ldA (p := v_1) 37 ag_35 rfl hS.1 hS.2 get_37_Sig (fun _ => (len_api_Sig _)) (fun _ => rfl)) ?_
        refine .w 16 (by kernel_rfl) rfl (by kernel_rfl) (.ye 28 rfl (congrArg Value.bool hb_1) rfl (e_callP fn_45 rfl rfl hh ?_))
        intro h t32 hh
        obtain ⟨hc, hh⟩ := hh
        obtain ⟨hc_1, hh⟩ := hh
        refine ⟨⟨⟨⟨⟨⟨⟨trivial, .inl (by kernel_rfl)⟩, .inl (by kernel_rfl)⟩, .inl (by kernel_rfl)⟩, .inr hc⟩, .inl (by kernel_rfl)⟩, .inr hc_1⟩, ?_⟩
        refine .w 19 (by kernel_rfl) rfl (by kernel_rfl) (.ye 28 rfl (congrArg Value.bool hb_1) rfl (e_callP fn_79 rfl rfl hh ?_))
        intro h t35 hh
        refine ⟨⟨⟨⟨⟨⟨⟨trivial, .inl (by kernel_rfl)⟩, .inl (by kernel_rfl)⟩, .inl (by kernel_rfl)⟩, .inl (by kernel_rfl)⟩, .inl (by kernel_rfl)⟩, .inl (by kernel_rfl)⟩, ?_⟩
        refine .p 20 rfl (by kernel_rfl) (NoPanic.then_ (NoPanic.body)) (fun _ => v_pickT (v := reg (t35 : Bool)) rfl hb_1 rfl) ?_
        refine .p 21 rfl (by kernel_rfl) (NoPanic.then_ (NoPanic.body)) (fun _ => v_assign (v := reg (t35 : Bool)) rfl) ?_
        refine .done (by kernel_rfl) ?_
        exact QN.thenJ ⟨_, t35, setl_eq ⟨rfl, trivial⟩, hh⟩
      · refine .no' 13 28 rfl rfl (congrArg Value.bool hb_1) rfl (by kernel_rfl) (NoPanic.then_ (NoPanic.body)) ?_
        refine .no' 14 28 rfl rfl (congrArg Value.bool hb_1) rfl (by kernel_rfl) (NoPanic.then_ (NoPanic.body)) ?_
        refine .no' 15 28 rfl rfl (congrArg Value.bool hb_1) rfl (by kernel_rfl) (NoPanic.then_ (NoPanic.body)) ?_
        refine .no' 17 28 rfl rfl (congrArg Value.bool hb_1) rfl (by kernel_rfl) (NoPanic.then_ (NoPanic.body)) ?_
        refine .no' 18 28 rfl rfl (congrArg Value.bool hb_1) rfl (by kernel_rfl) (NoPanic.then_ (NoPanic.body)) ?_
        refine .w 16 (by kernel_rfl) rfl (by kernel_rfl) (.no 28 rfl (congrArg Value.bool hb_1) rfl rfl ⟨⟨⟨⟨trivial, .inl (by kernel_rfl)⟩, .inl (by kernel_rfl)⟩, .inl (by kernel_rfl)⟩, ?_⟩)
        refine .w 19 (by kernel_rfl) rfl (by kernel_rfl) (.no 28 rfl (congrArg Value.bool hb_1) rfl rfl ⟨⟨⟨⟨trivial, .inl (by kernel_rfl)⟩, .inl (by kernel_rfl)⟩, .inl (by kernel_rfl)⟩, ?_⟩)
        refine .p 20 rfl (by kernel_rfl) (NoPanic.then_ (NoPanic.body)) (fun _ => v_pickF (v := reg (false : Bool)) rfl hb_1 rfl) ?_
        refine .p 21 rfl (by kernel_rfl) (NoPanic.then_ (NoPanic.body)) (fun _ => v_assign (v := reg (false : Bool)) rfl) ?_
        refine .done (by kernel_rfl) ?_
        exact QN.thenJ ⟨_, false, setl_eq ⟨rfl, trivial⟩, hh⟩
    · refine .no' 2 17 rfl rfl (congrArg Value.bool hb) rfl (by kernel_rfl) (NoPanic.then_ (NoPanic.body)) ?_
      refine .w 3 (by kernel_rfl) rfl (by kernel_rfl) (.no 17 rfl (congrArg Value.bool hb) rfl rfl ⟨trivial, ?_⟩)
      refine .p 4 rfl (by kernel_rfl) (NoPanic.then_ (NoPanic.body)) (fun _ => v_pickF (v := reg (false : Bool)) rfl hb rfl) ?_
      refine .p 5 rfl (by kernel_rfl) (NoPanic.then_ (NoPanic.body)) (fun _ => v_move (v := reg (false : Bool)) rfl) ?_
      refine .no' 6 21 rfl rfl rfl rfl (by kernel_rfl) (NoPanic.then_ (NoPanic.body)) ?_
      refine .no' 7 21 rfl rfl rfl rfl (by kernel_rfl) (NoPanic.then_ (NoPanic.body)) ?_
      refine .no' 8 21 rfl rfl rfl rfl (by kernel_rfl) (NoPanic.then_ (NoPanic.body)) ?_
      refine .no' 9 21 rfl rfl rfl rfl (by kernel_rfl) (NoPanic.then_ (NoPanic.body)) ?_
      refine .no' 10 21 rfl rfl rfl rfl (by kernel_rfl) (NoPanic.then_ (NoPanic.body)) ?_
      refine .p 11 rfl (by kernel_rfl) (NoPanic.then_ (NoPanic.body)) (fun _ => v_pickF (v := reg (false : Bool)) rfl rfl rfl) ?_
      refine .p 12 rfl (by kernel_rfl) (NoPanic.then_ (NoPanic.body)) (fun _ => v_move (v := reg (false : Bool)) rfl) ?_
      refine .no' 13 28 rfl rfl rfl rfl (by kernel_rfl) (NoPanic.then_ (NoPanic.body)) ?_
      refine .no' 14 28 rfl rfl rfl rfl (by kernel_rfl) (NoPanic.then_ (NoPanic.body)) ?_
      refine .no' 15 28 rfl rfl rfl rfl (by kernel_rfl) (NoPanic.then_ (NoPanic.body)) ?_
      refine .no' 17 28 rfl rfl rfl rfl (by kernel_rfl) (NoPanic.then_ (NoPanic.body)) ?_
      refine .no' 18 28 rfl rfl rfl rfl (by kernel_rfl) (NoPanic.then_ (NoPanic.body)) ?_
      refine .w 16 (by kernel_rfl) rfl (by kernel_rfl) (.no 28 rfl rfl rfl rfl ⟨trivial, ?_⟩)
      refine .w 19 (by kernel_rfl) rfl (by kernel_rfl) (.no 28 rfl rfl rfl rfl ⟨trivial, ?_⟩)
      refine .p 20 rfl (by kernel_rfl) (NoPanic.then_ (NoPanic.body)) (fun _ => v_pickF (v := reg (false : Bool)) rfl rfl rfl) ?_
      refine .p 21 rfl (by kernel_rfl) (NoPanic.then_ (NoPanic.body)) (fun _ => v_assign (v := reg (false : Bool)) rfl) ?_
      refine .done (by kernel_rfl) ?_
      exact QN.thenJ ⟨_, false, setl_eq ⟨rfl, trivial⟩, hh⟩
  · rintro ρ h ⟨ρ', t4, rfl, hh⟩
    unfold vote_Right.j1 at hh
    refine CW.ret ?_
    exact ret1 rfl rfl ⟨(t4 : Bool), rfl, hh⟩
end Go.Proofs.YtimmoekliphobaaDoor
namespace Go.Proofs.YtimmoekliphobaaDoor
open Go Go.Sh
open Go.Sh.Ty (reg)
set_option linter.unusedVariables false
set_option maxRecDepth 100000
set_option maxHeartbeats 4000000
theorem vote_NewBox.ok (k : Pt → H → Prop) (h : H) (hh : vote_NewBox.b k h) : CallsH Prog 9 ([] : List Value).toArray h fun v h' => ∃ r : Pt, v = reg r ∧ k r h' := by
  unfold vote_NewBox.b at hh
  refine CallsH.of 4 Tryd.func9 rfl Tryd.ntmps9 rfl (fun w0 => ?_)
  refine CW.seq ?_
  refine CW.region ?_
  refine .val (v_assign (v := reg ((none : Pt) : Pt)) rfl) rfl ?_
  refine .nil ?_
  refine QN.then_ ?_
  refine CW.seq ?_
  refine CW.region ?_
  refine .e (e_mkmap rfl hh ?_)
  intro h t1 hh
  refine .val (v_buildT ({ votes := t1 } : vote_Box) zo_113 pl_113 rfl (fill_step rfl rfl (len_mp _) (len_vote_Box _) rfl (set_113_votes _ _) (rfl)) rfl) rfl ?_
  refine box_elim hh (fun t3 ht3 hh => ?_)
  refine .e (e_boxP ht3 rfl rfl rfl ?_)
  refine .val (v_assign (v := .pointer (some t3)) rfl) rfl ?_
  refine .nil ?_
  refine QN.then_ ?_
  refine CW.ret ?_
  exact ret1 rfl rfl ⟨((some t3) : Pt), rfl, hh⟩
end Go.Proofs.YtimmoekliphobaaDoor
namespace Go.Proofs.YtimmoekliphobaaDoor
open Go Go.Sh
open Go.Sh.Ty (reg)
set_option linter.unusedVariables false
set_option maxRecDepth 100000
set_option maxHeartbeats 4000000
theorem vote_Box_Add.ok (b : Pt) (v : api_Vote) (k : Bool → H → Prop) (h : H) (hh : vote_Box_Add.b b v k h) : CallsH Prog 12 [reg b, reg v].toArray h fun v h' => ∃ r : Bool, v = reg r ∧ k r h' := by
  unfold vote_Box_Add.b at hh
  refine CallsH.of 33 Tryd.func12 rfl Tryd.ntmps12 rfl (fun w0 => ?_)
  refine CW.seq ?_
  refine CW.region ?_
  refine box_elim hh (fun v_1 hv_1 hh => ?_)
  refine .e (e_boxP hv_1 rfl rfl rfl ?_)
  refine .val (v_assign (v := reg (false : Bool)) rfl) rfl ?_
  refine .nil ?_
  refine QN.then_ ?_
  refine CW.seq ?_
  refine CW.seq ?_
  refine CW.region ?_
  refine .val (v_move (v := reg (b : Pt)) rfl) rfl ?_
  refine .val (v_eq_nil pt_26 rfl rfl) rfl ?_
  refine .nil ?_
  refine QN.then_ ?_
  refine CW.cond b.isNone rfl (fun hb => ?_) (fun hb => ?_)
  · have hh := hh.1 hb
    refine CW.seq ?_
    refine CW.region ?_
    refine .val (v_assign (v := reg (false : Bool)) rfl) rfl ?_
    refine .nil ?_
    refine QN.then_ ?_
    refine CW.ret ?_
    refine QN.thenRet ?_
    exact ret1 rfl rfl ⟨(false : Bool), rfl, hh⟩
  · have hh := hh.2 hb
    refine CW.skip ?_
    refine QN.then_ ?_
    refine CW.seq ?_
    refine CW.region ?_
    refine .val (v_fieldAddr fl_37_0 rfl) rfl ?_
    obtain ⟨t11, ⟨xt11, hxt11, hgt11⟩, hh⟩ := hh
    refine .val (v_ld1 (p := v_1) 0 na_3 rfl hxt11 hgt11 get_37_Kind) rfl ?_
    refine .val (v_fieldAddr fl_37_3 rfl) rfl ?_
    obtain ⟨t13, ⟨xt13, hxt13, hgt13⟩, hh⟩ := hh
    refine .val (v_ld1 (p := v_1) 3 na_3 rfl hxt13 hgt13 get_37_Round) rfl ?_
    refine .val (v_fieldAddr fl_37_5 rfl) rfl ?_
    obtain ⟨t15, ⟨xt15, hxt15, hgt15⟩, hh⟩ := hh
    refine .val (v_ld1 (p := v_1) 36 na_3 rfl hxt15 hgt15 get_37_From) rfl ?_
    refine .val (v_buildT ({ kind := t11, round := t13, from_ := t15 } : vote_place) zo_115 pl_115 rfl (fill_step rfl rfl (len_i _) (len_vote_place _) rfl (set_115_kind _ _) (fill_step rfl rfl (len_i _) (len_vote_place _) rfl (set_115_round _ _) (fill_step rfl rfl (len_i _) (len_vote_place _) rfl (set_115_from _ _) (rfl)))) rfl) rfl ?_
    refine box_elim hh (fun at_ hat_ hh => ?_)
    refine .e (e_allocP hat_ zo_115 rfl ?_)
    obtain ⟨xw, hxw, hwxw, hh⟩ := hh
    refine .e (e_storeN (p := at_) (nv := enc (({ kind := t11, round := t13, from_ := t15 } : vote_place) : vote_place)) 0 rfl rfl rfl sz_115 (one_vote_place _) hxw hwxw (len_vote_place _) (len_vote_place _) rfl (set_115_all xw (({ kind := t11, round := t13, from_ := t15 } : vote_place) : vote_place)) ?_)
    refine .nil ?_
    refine QN.then_ ?_
    refine CW.seq ?_
    refine CW.seq ?_
    refine CW.drawN 12 rfl follows_mixed [0, 1, 2, 3, 4, 5, 6, 7, 8, 11] ?_
    refine .p 0 rfl (by kernel_rfl) (NoPanic.then_ (NoPanic.then_ (NoPanic.body))) (fun _ => v_move (v := reg (b : Pt)) rfl) ?_
    obtain ⟨p, hp, hh⟩ := hh
    refine .p 1 rfl (by kernel_rfl) (NoPanic.then_ (NoPanic.then_ (NoPanic.body))) (fun _ => v_nilCheck (congrArg Value.pointer hp)) ?_
    refine .p 2 rfl (by kernel_rfl) (NoPanic.then_ (NoPanic.then_ (NoPanic.body))) (fun _ => v_fieldAddr fl_113_0 rfl) ?_
    obtain ⟨t21, ⟨xt21, hxt21, hgt21⟩, hh⟩ := hh
    refine .r 3 (fun h' => ∃ x : vote_Box, AtH h' p (enc x) ∧ ((fun (x : vote_Box) => x.votes) : vote_Box → Mp) x = t21) rfl (by kernel_rfl) (NoPanic.then_ (NoPanic.then_ (NoPanic.body))) ⟨xt21, hxt21, hgt21⟩ (fun h' hS => hS.elim fun _ hS => v_ld1 (p := p) 0 na_111 rfl hS.1 hS.2 get_113_votes) ?_
    obtain ⟨t22, ⟨xt22, hxt22, hgt22⟩, hh⟩ := hh
    refine .r 4 (fun h' => ∃ x : vote_place, AtH h' at_ (enc x) ∧ ((fun (x : vote_place) => x) : vote_place → vote_place) x = t22) rfl (by kernel_rfl) (NoPanic.then_ (NoPanic.then_ (NoPanic.body))) ⟨xt22, hxt22, hgt22⟩ (fun h' hS => hS.elim fun _ hS => v_ldA (p := at_) 0 ag_115 rfl hS.1 hS.2 get_115_all (fun _ => (len_vote_place _)) (fun _ => rfl)) ?_
    obtain ⟨t23, ⟨xt23, hxt23, hgt23⟩, hh⟩ := hh
    refine .r 5 (fun h' => ∃ l : List (vote_place × api_Vote), MapIs h' t21 l ∧ (fun (l : List (vote_place × api_Vote)) => mlook (api_Vote.zero : api_Vote) l (t22 : vote_place)) l = t23) rfl (by kernel_rfl) (NoPanic.then_ (NoPanic.then_ (NoPanic.body))) ⟨xt23, hxt23, hgt23⟩ (fun h' hS => hS.elim fun _ hS => v_lookupOk mt_111 kt_115 zv_37 rfl rfl hS.1 hS.2) ?_
    refine .p 6 rfl (by kernel_rfl) (NoPanic.then_ (NoPanic.then_ (NoPanic.body))) (fun _ => v_move (v := reg (t23 : T2 api_Vote Bool)) rfl) ?_
    refine .p 7 rfl (by kernel_rfl) (NoPanic.then_ (NoPanic.then_ (NoPanic.body))) (fun _ => v_extract (v := reg (t23.a : api_Vote)) rfl rfl) ?_
    refine .p 8 rfl (by kernel_rfl) (NoPanic.then_ (NoPanic.then_ (NoPanic.body))) (fun _ => v_extract (v := reg (t23.b : Bool)) rfl rfl) ?_
    refine box_elim hh (fun t6 ht6 hh => ?_)
    refine .w 9 (by kernel_rfl) rfl (by kernel_rfl) (.e (e_allocP ht6 zo_37 rfl ?_))
    obtain ⟨hc, hh⟩ := hh
    obtain ⟨hc_1, hh⟩ := hh
    obtain ⟨hc_2, hh⟩ := hh
    refine ⟨⟨⟨⟨trivial, .inr hc⟩, .inr hc_1⟩, .inr hc_2⟩, ?_⟩
    obtain ⟨xw_1, hxw_1, hwxw_1, hh⟩ := hh
    refine .w 10 (by kernel_rfl) rfl (by kernel_rfl) (.e (e_storeN (p := t6) (nv := enc (t23.a : api_Vote)) 0 rfl rfl rfl sz_37 (one_api_Vote _) hxw_1 hwxw_1 (len_api_Vote _) (len_api_Vote _) rfl (set_37_all xw_1 (t23.a : api_Vote)) ?_))
    refine ⟨⟨⟨⟨trivial, .inl (by kernel_rfl)⟩, .inl (by kernel_rfl)⟩, .inl (by kernel_rfl)⟩, ?_⟩
    refine .p 11 rfl (by kernel_rfl) (NoPanic.then_ (NoPanic.then_ (NoPanic.body))) (fun _ => v_assign (v := reg (t23.b : Bool)) rfl) ?_
    refine .done (by kernel_rfl) ?_
    refine QN.then_ ?_
    refine CW.seq ?_
    refine CW.region ?_
    refine .val (v_move (v := reg (t23.b : Bool)) rfl) rfl ?_
    refine .nil ?_
    refine QN.then_ ?_
    refine CW.cond t23.b rfl (fun hb_1 => ?_) (fun hb_1 => ?_)
    · have hh := hh.1 hb_1
      refine CW.seq ?_
      refine CW.region ?_
      refine .val (v_assign (v := reg (false : Bool)) rfl) rfl ?_
      refine .nil ?_
      refine QN.then_ ?_
      refine CW.ret ?_
      refine QN.thenRet ?_
      exact ret1 rfl rfl ⟨(false : Bool), rfl, hh⟩
    · have hh := hh.2 hb_1
      refine CW.skip ?_
      refine QN.then_ ?_
      refine CW.seq ?_
      refine CW.drawN 7 rfl follows_mixed [0, 1, 2, 3, 4, 5] ?_
      refine .p 0 rfl (by kernel_rfl) (NoPanic.then_ (NoPanic.body)) (fun _ => v_move (v := reg (b : Pt)) rfl) ?_
      refine .p 1 rfl (by kernel_rfl) (NoPanic.then_ (NoPanic.body)) (fun _ => v_nilCheck (congrArg Value.pointer hp)) ?_
      refine .p 2 rfl (by kernel_rfl) (NoPanic.then_ (NoPanic.body)) (fun _ => v_fieldAddr fl_113_0 rfl) ?_
      obtain ⟨t30, ⟨xt30, hxt30, hgt30⟩, hh⟩ := hh
      refine .r 3 (fun h' => ∃ x : vote_Box, AtH h' p (enc x) ∧ ((fun (x : vote_Box) => x.votes) : vote_Box → Mp) x = t30) rfl (by kernel_rfl) (NoPanic.then_ (NoPanic.body)) ⟨xt30, hxt30, hgt30⟩ (fun h' hS => hS.elim fun _ hS => v_ld1 (p := p) 0 na_111 rfl hS.1 hS.2 get_113_votes) ?_
      obtain ⟨t31, ⟨xt31, hxt31, hgt31⟩, hh⟩ := hh
      refine .r 4 (fun h' => ∃ x : vote_place, AtH h' at_ (enc x) ∧ ((fun (x : vote_place) => x) : vote_place → vote_place) x = t31) rfl (by kernel_rfl) (NoPanic.then_ (NoPanic.body)) ⟨xt31, hxt31, hgt31⟩ (fun h' hS => hS.elim fun _ hS => v_ldA (p := at_) 0 ag_115 rfl hS.1 hS.2 get_115_all (fun _ => (len_vote_place _)) (fun _ => rfl)) ?_
      obtain ⟨t32, ⟨xt32, hxt32, hgt32⟩, hh⟩ := hh
      refine .r 5 (fun h' => ∃ x : api_Vote, AtH h' v_1 (enc x) ∧ ((fun (x : api_Vote) => x) : api_Vote → api_Vote) x = t32) rfl (by kernel_rfl) (NoPanic.then_ (NoPanic.body)) ⟨xt32, hxt32, hgt32⟩ (fun h' hS => hS.elim fun _ hS => v_ldA (p := v_1) 0 ag_37 rfl hS.1 hS.2 get_37_all (fun _ => (len_api_Vote _)) (fun _ => rfl)) ?_
      refine .w 6 (by kernel_rfl) rfl (by kernel_rfl) (.e (e_mput mt_111 kt_115 rfl rfl rfl hh ?_))
      intro h hh
      refine ⟨⟨⟨⟨trivial, .inl (by kernel_rfl)⟩, .inl (by kernel_rfl)⟩, .inl (by kernel_rfl)⟩, ?_⟩
      refine .done (by kernel_rfl) ?_
      refine QN.then_ ?_
      refine CW.seq ?_
      refine CW.region ?_
      refine .val (v_assign (v := reg (true : Bool)) rfl) rfl ?_
      refine .nil ?_
      refine QN.then_ ?_
      refine CW.ret ?_
      exact ret1 rfl rfl ⟨(true : Bool), rfl, hh⟩
end Go.Proofs.YtimmoekliphobaaDoor
namespace Go.Proofs.YtimmoekliphobaaDoor
open Go Go.Sh
open Go.Sh.Ty (reg)
set_option linter.unusedVariables false
set_option maxRecDepth 100000
set_option maxHeartbeats 4000000
theorem vote_Box_For.ok (b : Pt) (kind : Int) (round : Int) (d : Arr 32 UInt8) (k : Sl → H → Prop) (h : H) (hh : vote_Box_For.b b kind round d k h) : CallsH Prog 14 [reg b, reg kind, reg round, reg d].toArray h fun v h' => ∃ r : Sl, v = reg r ∧ k r h' := by
  unfold vote_Box_For.b at hh
  refine CallsH.of 45 Tryd.func14 rfl Tryd.ntmps14 rfl (fun w0 => ?_)
  refine CW.seq ?_
  refine CW.region ?_
  refine box_elim hh (fun d_1 hd_1 hh => ?_)
  refine .e (e_boxP hd_1 rfl rfl rfl ?_)
  refine .val (v_assign (v := reg (Sl.nil : Sl)) rfl) rfl ?_
  refine .nil ?_
  refine QN.then_ ?_
  refine CW.seq ?_
  refine CW.region ?_
  refine .val (v_assign (v := reg (Sl.nil : Sl)) rfl) rfl ?_
  refine .nil ?_
  refine QN.then_ ?_
  refine CW.join (fun ρ h => ∃ (ρ' : Env) (out_2 : Sl), ρ = setl ρ' [(9, reg (out_2 : Sl))] ∧ (vote_Box_For.j1 k) out_2 h) ?_ ?_
  · refine CW.seq ?_
    refine CW.region ?_
    refine .val (v_assign (v := reg ((1 : Int) : Int)) rfl) rfl ?_
    refine .nil ?_
    refine QN.then_ ?_
    refine CW.block ?_
    unfold vote_Box_For.l1 at hh
    refine CW.loop (fun (σ0 : Sl × Int) ρ => match σ0 with | (out, from_) => ∃ ρ' : Env, ρ = setl ρ' [(0, reg (b : Pt)), (1, reg (kind : Int)), (2, reg (round : Int)), (7, .pointer (some d_1)), (9, reg (out : Sl)), (10, reg (from_ : Int))]) hh ⟨_, setl_eq ⟨rfl, ⟨rfl, ⟨rfl, ⟨rfl, ⟨rfl, ⟨rfl, trivial⟩⟩⟩⟩⟩⟩⟩ ?_
    clear hh
    rintro s1 ⟨out, from_⟩ ρ h ⟨ρ', rfl⟩ hh
    refine CW.seq ?_
    refine CW.seq ?_
    refine CW.region ?_
    refine .val (v_move (v := reg (b : Pt)) rfl) rfl ?_
    refine .val (v_ne_nil pt_26 rfl rfl) rfl ?_
    refine .val (v_move (v := reg (b.isSome : Bool)) rfl) rfl ?_
    refine .tv 15 rfl rfl rfl (fun hb => v_move (v := reg (from_ : Int)) rfl) rfl ?_
    refine .tv 15 rfl rfl rfl (fun hb => v_ileq (gt hb) rfl) rfl ?_
    refine .val (v_pick_and rfl (fun hb => gt hb) rfl) rfl ?_
    refine .nil ?_
    refine QN.then_ ?_
    refine CW.cond (b.isSome && (decide (from_ ≤ (63 : Int)))) rfl (fun hb => ?_) (fun hb => ?_)
    · have hh := hh.1 hb
      refine CW.skip ?_
      refine QN.then_ ?_
      refine CW.join (fun ρ h => ∃ (ρ' : Env) (out_1 : Sl), ρ = setl ρ' [(0, reg (b : Pt)), (1, reg (kind : Int)), (2, reg (round : Int)), (7, .pointer (some d_1)), (9, reg (out_1 : Sl)), (10, reg (from_ : Int))] ∧ (vote_Box_For.j2 s1) b kind round d_1 out_1 from_ h) ?_ ?_
      · refine CW.block ?_
        refine CW.seq ?_
        refine CW.region ?_
        refine .val (v_move (v := reg (b : Pt)) rfl) rfl ?_
        obtain ⟨p, hp, hh⟩ := hh
        refine .val (v_nilCheck (congrArg Value.pointer hp)) rfl ?_
        refine .val (v_fieldAddr fl_113_0 rfl) rfl ?_
        obtain ⟨t25, ⟨xt25, hxt25, hgt25⟩, hh⟩ := hh
        refine .val (v_ld1 (p := p) 0 na_111 rfl hxt25 hgt25 get_113_votes) rfl ?_
        refine .val (v_move (v := reg (kind : Int)) rfl) rfl ?_
        refine .val (v_move (v := reg (round : Int)) rfl) rfl ?_
        refine .val (v_move (v := reg (from_ : Int)) rfl) rfl ?_
        refine .val (v_buildT ({ kind := kind, round := round, from_ := from_ } : vote_place) zo_115 pl_115 rfl (fill_step rfl rfl (len_i _) (len_vote_place _) rfl (set_115_kind _ _) (fill_step rfl rfl (len_i _) (len_vote_place _) rfl (set_115_round _ _) (fill_step rfl rfl (len_i _) (len_vote_place _) rfl (set_115_from _ _) (rfl)))) rfl) rfl ?_
        obtain ⟨t30, ⟨xt30, hxt30, hgt30⟩, hh⟩ := hh
        refine .val (v_lookupOk mt_111 kt_115 zv_37 rfl rfl hxt30 hgt30) rfl ?_
        refine .val (v_move (v := reg (t30 : T2 api_Vote Bool)) rfl) rfl ?_
        refine .val (v_extract (v := reg (t30.a : api_Vote)) rfl rfl) rfl ?_
        refine .val (v_extract (v := reg (t30.b : Bool)) rfl rfl) rfl ?_
        refine box_elim hh (fun v hv hh => ?_)
        refine .e (e_allocP hv zo_37 rfl ?_)
        obtain ⟨xw, hxw, hwxw, hh⟩ := hh
        refine .e (e_storeN (p := v) (nv := enc (t30.a : api_Vote)) 0 rfl rfl rfl sz_37 (one_api_Vote _) hxw hwxw (len_api_Vote _) (len_api_Vote _) rfl (set_37_all xw (t30.a : api_Vote)) ?_)
        refine .val (v_assign (v := reg (t30.b : Bool)) rfl) rfl ?_
        refine .nil ?_
        refine QN.then_ ?_
        refine CW.seq ?_
        refine CW.region ?_
        refine .val (v_move (v := reg (t30.b : Bool)) rfl) rfl ?_
        refine .val (v_move (v := reg (t30.b : Bool)) rfl) rfl ?_
        refine .tv 34 rfl rfl rfl (fun hb => v_fieldAddr fl_37_4 rfl) rfl ?_
        obtain ⟨t36, ⟨xt36, hxt36, hgt36⟩, hh⟩ := hh
        refine .tv 34 rfl rfl rfl (fun hb => v_ldA (p := v) 4 ag_24 (gt hb) hxt36 hgt36 get_37_Digest (fun _ => (arr_len (n := 32) _)) (fun _ => rfl)) rfl ?_
        obtain ⟨t37, ⟨xt37, hxt37, hgt37⟩, hh⟩ := hh
        refine .tv 34 rfl rfl rfl (fun hb => v_ldA (p := d_1) 0 ag_24 rfl hxt37 hgt37 get_24_all (fun _ => (arr_len (n := 32) _)) (fun _ => rfl)) rfl ?_
        refine .tv 34 rfl rfl rfl (fun hb => v_eq_arr8 bt_24 (gt hb) (gt hb)) rfl ?_
        refine .val (v_pick_and rfl (fun hb => gt hb) rfl) rfl ?_
        refine .nil ?_
        refine QN.then_ ?_
        refine CW.cond (t30.b && (decide (t36 = t37))) rfl (fun hb_1 => ?_) (fun hb_1 => ?_)
        · have hh := hh.1 hb_1
          refine CW.region ?_
          refine .val (v_move (v := reg (out : Sl)) rfl) rfl ?_
          obtain ⟨t41, ⟨xt41, hxt41, hgt41⟩, hh⟩ := hh
          refine .val (v_ldA (p := v) 0 ag_37 rfl hxt41 hgt41 get_37_all (fun _ => (len_api_Vote _)) (fun _ => rfl)) rfl ?_
          refine mks_elim hh (fun pt42 t42 hpt42 ht42 hh => ?_)
          refine .e (e_mks [(t41 : api_Vote)] hpt42 ht42 zo_37 sl_22 rfl rfl rfl rfl rfl ?_)
          refine .e (e_app sl_22 zo_37 by_37 rfl rfl rfl hh ?_)
          intro h t43 hh
          refine .val (v_assign (v := reg (t43 : Sl)) rfl) rfl ?_
          refine .nil ?_
          refine QN.blockN ?_
          exact QN.thenJ ⟨_, t43, setl_eq ⟨rfl, ⟨rfl, ⟨rfl, ⟨rfl, ⟨rfl, ⟨rfl, trivial⟩⟩⟩⟩⟩⟩, hh⟩
        · have hh := hh.2 hb_1
          refine CW.skip ?_
          refine QN.blockN ?_
          exact QN.thenJ ⟨_, out, setl_eq ⟨rfl, ⟨rfl, ⟨rfl, ⟨rfl, ⟨rfl, ⟨rfl, trivial⟩⟩⟩⟩⟩⟩, hh⟩
      · rintro ρ h ⟨ρ', out_1, rfl, hh⟩
        unfold vote_Box_For.j2 at hh
        refine CW.region ?_
        refine .val (v_move (v := reg (from_ : Int)) rfl) rfl ?_
        refine .val (v_iadd rfl rfl) rfl ?_
        refine .val (v_assign (v := reg ((iadd from_ (1 : Int)) : Int)) rfl) rfl ?_
        refine .nil ?_
        exact QN.thenJ ⟨(out_1, (iadd from_ (1 : Int))), ⟨_, setl_eq ⟨rfl, ⟨rfl, ⟨rfl, ⟨rfl, ⟨rfl, ⟨rfl, trivial⟩⟩⟩⟩⟩⟩⟩, hh⟩
    · have hh := hh.2 hb
      refine CW.exit ?_
      refine QN.thenExit ?_
      refine QN.thenExit ?_
      refine QN.blockExit ?_
      exact QN.thenJ ⟨_, out, setl_eq ⟨rfl, trivial⟩, hh⟩
  · rintro ρ h ⟨ρ', out_2, rfl, hh⟩
    unfold vote_Box_For.j1 at hh
    refine CW.seq ?_
    refine CW.region ?_
    refine .val (v_move (v := reg (out_2 : Sl)) rfl) rfl ?_
    refine .val (v_assign (v := reg (out_2 : Sl)) rfl) rfl ?_
    refine .nil ?_
    refine QN.then_ ?_
    refine CW.ret ?_
    exact ret1 rfl rfl ⟨(out_2 : Sl), rfl, hh⟩
end Go.Proofs.YtimmoekliphobaaDoor
namespace Go.Proofs.YtimmoekliphobaaDoor
open Go Go.Sh
open Go.Sh.Ty (reg)
set_option linter.unusedVariables false
set_option maxRecDepth 100000
set_option maxHeartbeats 4000000
theorem vote_Box_Count.ok (b : Pt) (kind : Int) (round : Int) (d : Arr 32 UInt8) (k : Int → H → Prop) (h : H) (hh : vote_Box_Count.b b kind round d k h) : CallsH Prog 16 [reg b, reg kind, reg round, reg d].toArray h fun v h' => ∃ r : Int, v = reg r ∧ k r h' := by
  unfold vote_Box_Count.b at hh
  refine CallsH.of 15 Tryd.func16 rfl Tryd.ntmps16 rfl (fun w0 => ?_)
  refine CW.seq ?_
  refine CW.region ?_
  refine box_elim hh (fun d_1 hd_1 hh => ?_)
  refine .e (e_boxP hd_1 rfl rfl rfl ?_)
  refine .val (v_assign (v := reg ((0 : Int) : Int)) rfl) rfl ?_
  refine .nil ?_
  refine QN.then_ ?_
  refine CW.seq ?_
  refine CW.region ?_
  refine .val (v_move (v := reg (b : Pt)) rfl) rfl ?_
  refine .val (v_move (v := reg (kind : Int)) rfl) rfl ?_
  refine .val (v_move (v := reg (round : Int)) rfl) rfl ?_
  obtain ⟨t12, ⟨xt12, hxt12, hgt12⟩, hh⟩ := hh
  refine .val (v_ldA (p := d_1) 0 ag_24 rfl hxt12 hgt12 get_24_all (fun _ => (arr_len (n := 32) _)) (fun _ => rfl)) rfl ?_
  refine .e (e_callP fn_14 rfl rfl hh ?_)
  intro h t13 hh
  refine .val (v_len_sl (sl_22).1 rfl) rfl ?_
  refine .val (v_assign (v := reg ((t13.len : Int) : Int)) rfl) rfl ?_
  refine .nil ?_
  refine QN.then_ ?_
  refine CW.ret ?_
  exact ret1 rfl rfl ⟨((t13.len : Int) : Int), rfl, hh⟩
end Go.Proofs.YtimmoekliphobaaDoor
namespace Go.Proofs.YtimmoekliphobaaDoor
open Go Go.Sh
open Go.Sh.Ty (reg)
set_option linter.unusedVariables false
set_option maxRecDepth 100000
set_option maxHeartbeats 4000000
theorem law13_alive.ok (k : Bool → H → Prop) (h : H) (hh : law13_alive.b k h) : CallsH Prog 8 ([] : List Value).toArray h fun v h' => ∃ r : Bool, v = reg r ∧ k r h' := by
  unfold law13_alive.b at hh
  refine CallsH.of 50 Tryd.func8 rfl Tryd.ntmps8 rfl (fun w0 => ?_)
  refine CW.seq ?_
  refine CW.region ?_
  refine .val (v_assign (v := reg (false : Bool)) rfl) rfl ?_
  refine .nil ?_
  refine QN.then_ ?_
  refine CW.seq ?_
  refine CW.region ?_
  refine .val (v_buildAT (arrOf [(1 : UInt8), 0, 0, 0, 0, 0, 0, 0, 0, 0, 0, 0, 0, 0, 0, 0, 0, 0, 0, 0, 0, 0, 0, 0, 0, 0, 0, 0, 0, 0, 0, 0] : Arr 32 UInt8) zo_24 ar_24 rfl rfl rfl) rfl ?_
  refine .e (e_callP fn_43 rfl rfl hh ?_)
  intro h t7 hh
  refine .val (v_move (v := reg (t7 : T2 Pt Int)) rfl) rfl ?_
  refine .val (v_extract (v := reg (t7.a : Pt)) rfl rfl) rfl ?_
  refine .val (v_extract (v := reg (t7.b : Int)) rfl rfl) rfl ?_
  refine .val (v_assign (v := reg (t7.a : Pt)) rfl) rfl ?_
  refine .val (v_assign (v := reg (t7.b : Int)) rfl) rfl ?_
  refine .nil ?_
  refine QN.then_ ?_
  refine CW.seq ?_
  refine CW.seq ?_
  refine CW.region ?_
  refine .val (v_move (v := reg (t7.b : Int)) rfl) rfl ?_
  refine .val (v_ineq rfl rfl) rfl ?_
  refine .nil ?_
  refine QN.then_ ?_
  refine CW.cond (t7.b != (0 : Int)) rfl (fun hb => ?_) (fun hb => ?_)
  · have hh := hh.1 hb
    refine CW.seq ?_
    refine CW.region ?_
    refine .val (v_assign (v := reg (false : Bool)) rfl) rfl ?_
    refine .nil ?_
    refine QN.then_ ?_
    refine CW.ret ?_
    refine QN.thenRet ?_
    exact ret1 rfl rfl ⟨(false : Bool), rfl, hh⟩
  · have hh := hh.2 hb
    refine CW.skip ?_
    refine QN.then_ ?_
    refine CW.seq ?_
    refine CW.region ?_
    refine .val (v_buildT ({ api_Vote.zero with Kind := (1 : Int), Height := (1 : Int), From := (1 : Int) } : api_Vote) zo_37 pl_37 rfl (fill_step rfl rfl (len_i _) (len_api_Vote _) rfl (set_37_Kind _ _) (fill_step rfl rfl (len_i _) (len_api_Vote _) rfl (set_37_Height _ _) (fill_step rfl rfl (len_i _) (len_api_Vote _) rfl (set_37_From _ _) (rfl)))) rfl) rfl ?_
    refine box_elim hh (fun v hv hh => ?_)
    refine .e (e_allocP hv zo_37 rfl ?_)
    obtain ⟨xw, hxw, hwxw, hh⟩ := hh
    refine .e (e_storeN (p := v) (nv := enc (({ api_Vote.zero with Kind := (1 : Int), Height := (1 : Int), From := (1 : Int) } : api_Vote) : api_Vote)) 0 rfl rfl rfl sz_37 (one_api_Vote _) hxw hwxw (len_api_Vote _) (len_api_Vote _) rfl (set_37_all xw (({ api_Vote.zero with Kind := (1 : Int), Height := (1 : Int), From := (1 : Int) } : api_Vote) : api_Vote)) ?_)
    refine .nil ?_
    refine QN.then_ ?_
    refine CW.seq ?_
    refine CW.region ?_
    refine .val (v_move (v := reg (t7.a : Pt)) rfl) rfl ?_
    obtain ⟨t15, ⟨xt15, hxt15, hgt15⟩, hh⟩ := hh
    refine .val (v_ldA (p := v) 0 ag_37 rfl hxt15 hgt15 get_37_all (fun _ => (len_api_Vote _)) (fun _ => rfl)) rfl ?_
    refine .e (e_callP fn_45 rfl rfl hh ?_)
    intro h t16 hh
    refine .e (e_callP fn_44 rfl rfl hh ?_)
    intro h t17 hh
    refine .val (v_move (v := reg (t17 : T2 api_Sig Int)) rfl) rfl ?_
    refine .val (v_extract (v := reg (t17.a : api_Sig)) rfl rfl) rfl ?_
    refine .val (v_extract (v := reg (t17.b : Int)) rfl rfl) rfl ?_
    refine .val (v_fieldAddr fl_37_6 rfl) rfl ?_
    obtain ⟨xw_1, hxw_1, hwxw_1, hh⟩ := hh
    refine .e (e_storeN (p := v) (nv := enc (t17.a : api_Sig)) 37 rfl rfl rfl sz_35 (one_api_Sig _) hxw_1 hwxw_1 (len_api_Vote _) (len_api_Sig _) rfl (set_37_Sig xw_1 (t17.a : api_Sig)) ?_)
    refine .val (v_assign (v := reg (t17.b : Int)) rfl) rfl ?_
    refine .nil ?_
    refine QN.then_ ?_
    refine CW.seq ?_
    refine CW.region ?_
    refine .e (e_callP fn_9 rfl rfl hh ?_)
    intro h t21 hh
    refine .val (v_assign (v := reg (t21 : Pt)) rfl) rfl ?_
    refine .nil ?_
    refine QN.then_ ?_
    refine CW.join (fun ρ h => ∃ (ρ' : Env) (t0 : Bool), ρ = setl ρ' [(0, reg (t0 : Bool))] ∧ (law13_alive.j1 k) t0 h) ?_ ?_
    · refine CW.drawN 29 rfl follows_mixed [0, 1, 2, 3, 5, 7, 8, 10, 11, 12, 13, 15, 16, 17, 18, 20, 21, 22, 23, 24, 26, 27, 28] ?_
      refine .p 0 rfl (by kernel_rfl) (NoPanic.then_ (NoPanic.body)) (fun _ => v_move (v := reg (t17.b : Int)) rfl) ?_
      refine .p 1 rfl (by kernel_rfl) (NoPanic.then_ (NoPanic.body)) (fun _ => v_ieql rfl rfl) ?_
      refine .p 2 rfl (by kernel_rfl) (NoPanic.then_ (NoPanic.body)) (fun _ => v_move (v := reg ((t17.b == (0 : Int)) : Bool)) rfl) ?_
      refine ifb_cases hh (fun hb_1 hh => ?_) (fun hb_1 hh => ?_)
      · refine .yp 3 24 rfl rfl (congrArg Value.bool hb_1) rfl (by kernel_rfl) (NoPanic.then_ (NoPanic.body)) (fun _ => v_move (v := reg (t7.a : Pt)) rfl) ?_
        obtain ⟨t30, ⟨xt30, hxt30, hgt30⟩, hh⟩ := hh
        refine .yr 8 24 (fun h' => ∃ x : api_Vote, AtH h' v (enc x) ∧ ((fun (x : api_Vote) => x) : api_Vote → api_Vote) x = t30) rfl rfl (congrArg Value.bool hb_1) rfl (by kernel_rfl) (NoPanic.then_ (NoPanic.body)) ⟨xt30, hxt30, hgt30⟩ (fun h' hS => hS.elim fun _ hS => v_ldA (p := v) 0 ag_37 rfl hS.1 hS.2 get_37_all (fun _ => (len_api_Vote _)) (fun _ => rfl)) ?_
        refine .w 4 (by kernel_rfl) rfl (by kernel_rfl) (.ye 24 rfl (congrArg Value.bool hb_1) rfl (e_callP fn_47 rfl rfl hh ?_))
        intro h t26 hh
        obtain ⟨hc, hh⟩ := hh
        refine ⟨⟨trivial, .inr hc⟩, ?_⟩
        refine .yp 5 24 rfl rfl (congrArg Value.bool hb_1) rfl (by kernel_rfl) (NoPanic.then_ (NoPanic.body)) (fun _ => v_buildT ({ Id := (1 : Int), Key := t26 } : api_Member) zo_110 pl_110 rfl (fill_step rfl rfl (len_i _) (len_api_Member _) rfl (set_110_Id _ _) (fill_step rfl rfl (len_api_Key _) (len_api_Member _) rfl (set_110_Key _ _) (rfl))) rfl) ?_
        refine mks_elim hh (fun pt28 t28 hpt28 ht28 hh => ?_)
        refine .w 6 (by kernel_rfl) rfl (by kernel_rfl) (.ye 24 rfl (congrArg Value.bool hb_1) rfl (e_mks [(({ Id := (1 : Int), Key := t26 } : api_Member) : api_Member)] hpt28 ht28 zo_110 sl_52 rfl rfl rfl rfl rfl ?_))
        obtain ⟨hc_1, hh⟩ := hh
        refine ⟨⟨trivial, .inr hc_1⟩, ?_⟩
        refine .yp 7 24 rfl rfl (congrArg Value.bool hb_1) rfl (by kernel_rfl) (NoPanic.then_ (NoPanic.body)) (fun _ => v_buildT ({ api_Config.zero with Members := t28 } : api_Config) zo_54 pl_54 rfl (fill_step rfl rfl (len_sl _) (len_api_Config _) rfl (set_54_Members _ _) (rfl)) rfl) ?_
        refine .w 9 (by kernel_rfl) rfl (by kernel_rfl) (.ye 24 rfl (congrArg Value.bool hb_1) rfl (e_callP fn_46 rfl rfl hh ?_))
        intro h t31 hh
        refine ⟨⟨trivial, .inl (by kernel_rfl)⟩, ?_⟩
        refine .p 10 rfl (by kernel_rfl) (NoPanic.then_ (NoPanic.body)) (fun _ => v_pickT (v := reg (t31 : Bool)) rfl hb_1 rfl) ?_
        refine .p 11 rfl (by kernel_rfl) (NoPanic.then_ (NoPanic.body)) (fun _ => v_move (v := reg (t31 : Bool)) rfl) ?_
        refine ifb_cases hh (fun hb_2 hh => ?_) (fun hb_2 hh => ?_)
        · refine .yp 12 33 rfl rfl (congrArg Value.bool hb_2) rfl (by kernel_rfl) (NoPanic.then_ (NoPanic.body)) (fun _ => v_move (v := reg (t21 : Pt)) rfl) ?_
          obtain ⟨t35, ⟨xt35, hxt35, hgt35⟩, hh⟩ := hh
          refine .yr 13 33 (fun h' => ∃ x : api_Vote, AtH h' v (enc x) ∧ ((fun (x : api_Vote) => x) : api_Vote → api_Vote) x = t35) rfl rfl (congrArg Value.bool hb_2) rfl (by kernel_rfl) (NoPanic.then_ (NoPanic.body)) ⟨xt35, hxt35, hgt35⟩ (fun h' hS => hS.elim fun _ hS => v_ldA (p := v) 0 ag_37 rfl hS.1 hS.2 get_37_all (fun _ => (len_api_Vote _)) (fun _ => rfl)) ?_
          refine .w 14 (by kernel_rfl) rfl (by kernel_rfl) (.ye 33 rfl (congrArg Value.bool hb_2) rfl (e_callP fn_12 rfl rfl hh ?_))
          intro h t36 hh
          refine ⟨⟨⟨trivial, .inl (by kernel_rfl)⟩, .inl (by kernel_rfl)⟩, ?_⟩
          refine .p 15 rfl (by kernel_rfl) (NoPanic.then_ (NoPanic.body)) (fun _ => v_pickT (v := reg (t36 : Bool)) rfl hb_2 rfl) ?_
          refine .p 16 rfl (by kernel_rfl) (NoPanic.then_ (NoPanic.body)) (fun _ => v_move (v := reg (t36 : Bool)) rfl) ?_
          refine ifb_cases hh (fun hb_3 hh => ?_) (fun hb_3 hh => ?_)
          · refine .yp 17 38 rfl rfl (congrArg Value.bool hb_3) rfl (by kernel_rfl) (NoPanic.then_ (NoPanic.body)) (fun _ => v_move (v := reg (t21 : Pt)) rfl) ?_
            obtain ⟨t40, ⟨xt40, hxt40, hgt40⟩, hh⟩ := hh
            refine .yr 18 38 (fun h' => ∃ x : api_Vote, AtH h' v (enc x) ∧ ((fun (x : api_Vote) => x) : api_Vote → api_Vote) x = t40) rfl rfl (congrArg Value.bool hb_3) rfl (by kernel_rfl) (NoPanic.then_ (NoPanic.body)) ⟨xt40, hxt40, hgt40⟩ (fun h' hS => hS.elim fun _ hS => v_ldA (p := v) 0 ag_37 rfl hS.1 hS.2 get_37_all (fun _ => (len_api_Vote _)) (fun _ => rfl)) ?_
            refine .w 19 (by kernel_rfl) rfl (by kernel_rfl) (.ye 38 rfl (congrArg Value.bool hb_3) rfl (e_callP fn_12 rfl rfl hh ?_))
            intro h t41 hh
            refine ⟨⟨⟨⟨trivial, .inl (by kernel_rfl)⟩, .inl (by kernel_rfl)⟩, .inl (by kernel_rfl)⟩, ?_⟩
            refine .yp 20 38 rfl rfl (congrArg Value.bool hb_3) rfl (by kernel_rfl) (NoPanic.then_ (NoPanic.body)) (fun _ => v_not rfl) ?_
            refine .p 21 rfl (by kernel_rfl) (NoPanic.then_ (NoPanic.body)) (fun _ => v_pickT (v := reg ((!t41) : Bool)) rfl hb_3 rfl) ?_
            refine .p 22 rfl (by kernel_rfl) (NoPanic.then_ (NoPanic.body)) (fun _ => v_move (v := reg ((!t41) : Bool)) rfl) ?_
            refine ifb_cases hh (fun hb_4 hh => ?_) (fun hb_4 hh => ?_)
            · refine .yp 23 44 rfl rfl (congrArg Value.bool hb_4) rfl (by kernel_rfl) (NoPanic.then_ (NoPanic.body)) (fun _ => v_move (v := reg (t21 : Pt)) rfl) ?_
              refine .yp 24 44 rfl rfl (congrArg Value.bool hb_4) rfl (by kernel_rfl) (NoPanic.then_ (NoPanic.body)) (fun _ => v_buildAT (arrOf [0, 0, 0, 0, 0, 0, 0, 0, 0, 0, 0, 0, 0, 0, 0, 0, 0, 0, 0, 0, 0, 0, 0, 0, 0, 0, 0, 0, 0, 0, 0, 0] : Arr 32 UInt8) zo_24 ar_24 rfl rfl rfl) ?_
              refine .w 25 (by kernel_rfl) rfl (by kernel_rfl) (.ye 44 rfl (congrArg Value.bool hb_4) rfl (e_callP fn_16 rfl rfl hh ?_))
              intro h t47 hh
              refine ⟨⟨⟨⟨trivial, .inl (by kernel_rfl)⟩, .inl (by kernel_rfl)⟩, .inl (by kernel_rfl)⟩, ?_⟩
              refine .yp 26 44 rfl rfl (congrArg Value.bool hb_4) rfl (by kernel_rfl) (NoPanic.then_ (NoPanic.body)) (fun _ => v_ieql rfl rfl) ?_
              refine .p 27 rfl (by kernel_rfl) (NoPanic.then_ (NoPanic.body)) (fun _ => v_pickT (v := reg ((t47 == (1 : Int)) : Bool)) rfl hb_4 rfl) ?_
              refine .p 28 rfl (by kernel_rfl) (NoPanic.then_ (NoPanic.body)) (fun _ => v_assign (v := reg ((t47 == (1 : Int)) : Bool)) rfl) ?_
              refine .done (by kernel_rfl) ?_
              exact QN.thenJ ⟨_, (t47 == (1 : Int)), setl_eq ⟨rfl, trivial⟩, hh⟩
            · refine .no' 23 44 rfl rfl (congrArg Value.bool hb_4) rfl (by kernel_rfl) (NoPanic.then_ (NoPanic.body)) ?_
              refine .no' 24 44 rfl rfl (congrArg Value.bool hb_4) rfl (by kernel_rfl) (NoPanic.then_ (NoPanic.body)) ?_
              refine .w 25 (by kernel_rfl) rfl (by kernel_rfl) (.no 44 rfl (congrArg Value.bool hb_4) rfl rfl ⟨⟨⟨⟨trivial, .inl (by kernel_rfl)⟩, .inl (by kernel_rfl)⟩, .inl (by kernel_rfl)⟩, ?_⟩)
              refine .no' 26 44 rfl rfl (congrArg Value.bool hb_4) rfl (by kernel_rfl) (NoPanic.then_ (NoPanic.body)) ?_
              refine .p 27 rfl (by kernel_rfl) (NoPanic.then_ (NoPanic.body)) (fun _ => v_pickF (v := reg (false : Bool)) rfl hb_4 rfl) ?_
              refine .p 28 rfl (by kernel_rfl) (NoPanic.then_ (NoPanic.body)) (fun _ => v_assign (v := reg (false : Bool)) rfl) ?_
              refine .done (by kernel_rfl) ?_
              exact QN.thenJ ⟨_, false, setl_eq ⟨rfl, trivial⟩, hh⟩
          · refine .no' 17 38 rfl rfl (congrArg Value.bool hb_3) rfl (by kernel_rfl) (NoPanic.then_ (NoPanic.body)) ?_
            refine .no' 18 38 rfl rfl (congrArg Value.bool hb_3) rfl (by kernel_rfl) (NoPanic.then_ (NoPanic.body)) ?_
            refine .w 19 (by kernel_rfl) rfl (by kernel_rfl) (.no 38 rfl (congrArg Value.bool hb_3) rfl rfl ⟨⟨⟨trivial, .inl (by kernel_rfl)⟩, .inl (by kernel_rfl)⟩, ?_⟩)
            refine .no' 20 38 rfl rfl (congrArg Value.bool hb_3) rfl (by kernel_rfl) (NoPanic.then_ (NoPanic.body)) ?_
            refine .p 21 rfl (by kernel_rfl) (NoPanic.then_ (NoPanic.body)) (fun _ => v_pickF (v := reg (false : Bool)) rfl hb_3 rfl) ?_
            refine .p 22 rfl (by kernel_rfl) (NoPanic.then_ (NoPanic.body)) (fun _ => v_move (v := reg (false : Bool)) rfl) ?_
            refine .no' 23 44 rfl rfl rfl rfl (by kernel_rfl) (NoPanic.then_ (NoPanic.body)) ?_
            refine .no' 24 44 rfl rfl rfl rfl (by kernel_rfl) (NoPanic.then_ (NoPanic.body)) ?_
            refine .w 25 (by kernel_rfl) rfl (by kernel_rfl) (.no 44 rfl rfl rfl rfl ⟨⟨⟨trivial, .inl (by kernel_rfl)⟩, .inl (by kernel_rfl)⟩, ?_⟩)
            refine .no' 26 44 rfl rfl rfl rfl (by kernel_rfl) (NoPanic.then_ (NoPanic.body)) ?_
            refine .p 27 rfl (by kernel_rfl) (NoPanic.then_ (NoPanic.body)) (fun _ => v_pickF (v := reg (false : Bool)) rfl rfl rfl) ?_
            refine .p 28 rfl (by kernel_rfl) (NoPanic.then_ (NoPanic.body)) (fun _ => v_assign (v := reg (false : Bool)) rfl) ?_
            refine .done (by kernel_rfl) ?_
            exact QN.thenJ ⟨_, false, setl_eq ⟨rfl, trivial⟩, hh⟩
        · refine .no' 12 33 rfl rfl (congrArg Value.bool hb_2) rfl (by kernel_rfl) (NoPanic.then_ (NoPanic.body)) ?_
          refine .no' 13 33 rfl rfl (congrArg Value.bool hb_2) rfl (by kernel_rfl) (NoPanic.then_ (NoPanic.body)) ?_
          refine .w 14 (by kernel_rfl) rfl (by kernel_rfl) (.no 33 rfl (congrArg Value.bool hb_2) rfl rfl ⟨⟨trivial, .inl (by kernel_rfl)⟩, ?_⟩)
          refine .p 15 rfl (by kernel_rfl) (NoPanic.then_ (NoPanic.body)) (fun _ => v_pickF (v := reg (false : Bool)) rfl hb_2 rfl) ?_
          refine .p 16 rfl (by kernel_rfl) (NoPanic.then_ (NoPanic.body)) (fun _ => v_move (v := reg (false : Bool)) rfl) ?_
          refine .no' 17 38 rfl rfl rfl rfl (by kernel_rfl) (NoPanic.then_ (NoPanic.body)) ?_
          refine .no' 18 38 rfl rfl rfl rfl (by kernel_rfl) (NoPanic.then_ (NoPanic.body)) ?_
          refine .w 19 (by kernel_rfl) rfl (by kernel_rfl) (.no 38 rfl rfl rfl rfl ⟨⟨trivial, .inl (by kernel_rfl)⟩, ?_⟩)
          refine .no' 20 38 rfl rfl rfl rfl (by kernel_rfl) (NoPanic.then_ (NoPanic.body)) ?_
          refine .p 21 rfl (by kernel_rfl) (NoPanic.then_ (NoPanic.body)) (fun _ => v_pickF (v := reg (false : Bool)) rfl rfl rfl) ?_
          refine .p 22 rfl (by kernel_rfl) (NoPanic.then_ (NoPanic.body)) (fun _ => v_move (v := reg (false : Bool)) rfl) ?_
          refine .no' 23 44 rfl rfl rfl rfl (by kernel_rfl) (NoPanic.then_ (NoPanic.body)) ?_
          refine .no' 24 44 rfl rfl rfl rfl (by kernel_rfl) (NoPanic.then_ (NoPanic.body)) ?_
          refine .w 25 (by kernel_rfl) rfl (by kernel_rfl) (.no 44 rfl rfl rfl rfl ⟨⟨trivial, .inl (by kernel_rfl)⟩, ?_⟩)
          refine .no' 26 44 rfl rfl rfl rfl (by kernel_rfl) (NoPanic.then_ (NoPanic.body)) ?_
          refine .p 27 rfl (by kernel_rfl) (NoPanic.then_ (NoPanic.body)) (fun _ => v_pickF (v := reg (false : Bool)) rfl rfl rfl) ?_
          refine .p 28 rfl (by kernel_rfl) (NoPanic.then_ (NoPanic.body)) (fun _ => v_assign (v := reg (false : Bool)) rfl) ?_
          refine .done (by kernel_rfl) ?_
          exact QN.thenJ ⟨_, false, setl_eq ⟨rfl, trivial⟩, hh⟩
      · refine .no' 3 24 rfl rfl (congrArg Value.bool hb_1) rfl (by kernel_rfl) (NoPanic.then_ (NoPanic.body)) ?_
        refine .no' 8 24 rfl rfl (congrArg Value.bool hb_1) rfl (by kernel_rfl) (NoPanic.then_ (NoPanic.body)) ?_
        refine .w 4 (by kernel_rfl) rfl (by kernel_rfl) (.no 24 rfl (congrArg Value.bool hb_1) rfl rfl ⟨trivial, ?_⟩)
        refine .no' 5 24 rfl rfl (congrArg Value.bool hb_1) rfl (by kernel_rfl) (NoPanic.then_ (NoPanic.body)) ?_
        refine .w 6 (by kernel_rfl) rfl (by kernel_rfl) (.no 24 rfl (congrArg Value.bool hb_1) rfl rfl ⟨trivial, ?_⟩)
        refine .no' 7 24 rfl rfl (congrArg Value.bool hb_1) rfl (by kernel_rfl) (NoPanic.then_ (NoPanic.body)) ?_
        refine .w 9 (by kernel_rfl) rfl (by kernel_rfl) (.no 24 rfl (congrArg Value.bool hb_1) rfl rfl ⟨trivial, ?_⟩)
        refine .p 10 rfl (by kernel_rfl) (NoPanic.then_ (NoPanic.body)) (fun _ => v_pickF (v := reg (false : Bool)) rfl hb_1 rfl) ?_
        refine .p 11 rfl (by kernel_rfl) (NoPanic.then_ (NoPanic.body)) (fun _ => v_move (v := reg (false : Bool)) rfl) ?_
        refine .no' 12 33 rfl rfl rfl rfl (by kernel_rfl) (NoPanic.then_ (NoPanic.body)) ?_
        refine .no' 13 33 rfl rfl rfl rfl (by kernel_rfl) (NoPanic.then_ (NoPanic.body)) ?_
        refine .w 14 (by kernel_rfl) rfl (by kernel_rfl) (.no 33 rfl rfl rfl rfl ⟨trivial, ?_⟩)
        refine .p 15 rfl (by kernel_rfl) (NoPanic.then_ (NoPanic.body)) (fun _ => v_pickF (v := reg (false : Bool)) rfl rfl rfl) ?_
        refine .p 16 rfl (by kernel_rfl) (NoPanic.then_ (NoPanic.body)) (fun _ => v_move (v := reg (false : Bool)) rfl) ?_
        refine .no' 17 38 rfl rfl rfl rfl (by kernel_rfl) (NoPanic.then_ (NoPanic.body)) ?_
        refine .no' 18 38 rfl rfl rfl rfl (by kernel_rfl) (NoPanic.then_ (NoPanic.body)) ?_
        refine .w 19 (by kernel_rfl) rfl (by kernel_rfl) (.no 38 rfl rfl rfl rfl ⟨trivial, ?_⟩)
        refine .no' 20 38 rfl rfl rfl rfl (by kernel_rfl) (NoPanic.then_ (NoPanic.body)) ?_
        refine .p 21 rfl (by kernel_rfl) (NoPanic.then_ (NoPanic.body)) (fun _ => v_pickF (v := reg (false : Bool)) rfl rfl rfl) ?_
        refine .p 22 rfl (by kernel_rfl) (NoPanic.then_ (NoPanic.body)) (fun _ => v_move (v := reg (false : Bool)) rfl) ?_
        refine .no' 23 44 rfl rfl rfl rfl (by kernel_rfl) (NoPanic.then_ (NoPanic.body)) ?_
        refine .no' 24 44 rfl rfl rfl rfl (by kernel_rfl) (NoPanic.then_ (NoPanic.body)) ?_
        refine .w 25 (by kernel_rfl) rfl (by kernel_rfl) (.no 44 rfl rfl rfl rfl ⟨trivial, ?_⟩)
        refine .no' 26 44 rfl rfl rfl rfl (by kernel_rfl) (NoPanic.then_ (NoPanic.body)) ?_
        refine .p 27 rfl (by kernel_rfl) (NoPanic.then_ (NoPanic.body)) (fun _ => v_pickF (v := reg (false : Bool)) rfl rfl rfl) ?_
        refine .p 28 rfl (by kernel_rfl) (NoPanic.then_ (NoPanic.body)) (fun _ => v_assign (v := reg (false : Bool)) rfl) ?_
        refine .done (by kernel_rfl) ?_
        exact QN.thenJ ⟨_, false, setl_eq ⟨rfl, trivial⟩, hh⟩
    · rintro ρ h ⟨ρ', t0, rfl, hh⟩
      unfold law13_alive.j1 at hh
      refine CW.ret ?_
      exact ret1 rfl rfl ⟨(t0 : Bool), rfl, hh⟩
end Go.Proofs.YtimmoekliphobaaDoor
namespace Go.Proofs.YtimmoekliphobaaDoor
open Go Go.Sh
open Go.Sh.Ty (reg)
set_option linter.unusedVariables false
set_option maxRecDepth 100000

theorem len_tree (y : keys_Tree) : (enc y).length = 34 := len_keys_Tree y
/-- a seed's keys of height 0 -/
def leaf0 (seed : Dig) : Dig := leafF (List.ofFn (publicF seed 0))
def TreeA (p : Addr) (seed : Dig) (s : Sl) (h : H) : Prop := Cel 156 p (enc ({ seed := seed, height := 0, leaves := s } : keys_Tree)) h ∧ OwnA 24 32 s [leaf0 seed] h ∧ p.block ∉ blk s
theorem New_spec (seed : Dig) {k : T2 Pt Int → H → Prop} {h : H} (hT : Tb h) (hk : ∀ p s h', Ext h h' → TreeA p seed s h' → (∀ b ∈ p.block :: blk s, h.size ≤ b ∧ b < h'.size) → k ⟨some p, 0⟩ h') : keys_New.b seed 0 k h := by
  unfold keys_New.b
  refine (Sat.init h).box_ (fun a h1 hs1 _ _ => ?_)
  refine ifb_i (fun hc => by simp at hc) (fun _ => ?_)
  refine hs1.ld_ 0 rfl ?_
  refine hs1.box_ (fun t h2 hs2 _ _ => ?_)
  refine ⟨by decide, ?_⟩
  unfold keys_New.l1
  have e1 : ishl 1 (0 : Int).toNat = 1 := by decide
  rw [e1]
  refine ⟨fun (t20 : Int) h' => ∃ i : Nat, t20 = i ∧ i ≤ 1 ∧ ∃ s, Sat h [] h' [own 24 32 s (List.replicate i (leaf0 seed)), cel 156 t (enc ({ seed := seed, height := 0, leaves := s } : keys_Tree)), cel 24 a (enc seed)], fun t20 _ => (1 - t20).toNat, ⟨0, rfl, by omega, Sl.nil, hs2.nilOwn⟩, ?_⟩
  rintro t20 h3 ⟨i, rfl, hil, s, hs3⟩
  refine ifb_i (fun hc => ?_) (fun hc => ?_)
  · have hi : i = 0 := by have : (i : Int) < 1 := by simpa using hc
                          omega
    subst hi
    refine hs3.ld_ 1 rfl ?_
    refine hs3.ld_ 2 rfl ?_
    refine once_Public.ok _ _ _ _ (Public_spec _ _ (hT.fr hs3.fr (by simp)) (fun h4 hx4 => ?_))
    have hs4 := hs3.ext hx4
    refine hs4.chk_ 1 rfl rfl ?_
    refine keys_leaf.ok _ _ _ (keyleaf_spec _ (hT.fr hs4.fr (by simp)) (fun h5 hx5 => ?_))
    have hs5 := hs4.ext hx5
    refine hs5.chk_ 1 rfl rfl ?_
    refine hs5.mks_ (n := 32) (fun sl h6 hs6 _ _ => ?_)
    refine hs6.chk_ 2 rfl rfl ?_
    refine hs6.app_ 1 rfl (hs6.ownSV 0 rfl arr_len) arr_len one_dig (arr_len _) (by simp [maxBytes]) (by simp) (fun r h7 hs7 hl7 => ?_)
    refine hs7.st_ 2 rfl len_tree (fun h8 hs8 _ => ?_)
    have e2 : iadd ((0 : Nat) : Int) 1 = ((1 : Nat) : Int) := by decide
    rw [e2]
    refine ⟨⟨1, rfl, by omega, r, ?_⟩, by dsimp only; omega⟩
    exact hs8.drop (List.sublist_cons_self _ _)
  · have hi : i = 1 := by
      have : ¬ (i : Int) < 1 := by simpa using hc
      omega
    subst hi
    refine hk t s h3 hs3.fr ⟨hs3.at_ (i := 1) rfl, hs3.at_ (i := 0) rfl, hs3.disj (i := 1) (j := 0) rfl rfl (by decide) _ (by simp [cel])⟩ ?_
    intro b hb
    rcases List.mem_cons.1 hb with rfl | hb
    · have := (hs3.ok _ (List.mem_of_getElem? (i := 1) rfl)).2.2 t.block (by simp [cel]); simp at this; omega
    · have := (hs3.ok _ (List.mem_of_getElem? (i := 0) rfl)).2.2 b hb; simp at this; omega
theorem SV.nil0 {α : Type} [Ty α] {n : Nat} {h : H} {s : Sl} {l : List α} (hv : SV n h s l) : s.len = l.length := hv.2.1

theorem Root1_spec (s : Sl) (d : Dig) {k : Dig → H → Prop} {h : H} (hv : SV 32 h s [d]) (hk : ∀ h', Ext h h' → k d h') : tree_Root.b s k h := by
  unfold tree_Root.b
  refine (Sat.init h).box_ (fun a h1 hs1 _ _ => ?_)
  have hl : s.len = 1 := hv.2.1
  refine ifb_i (fun hc => by simp [hl] at hc) (fun _ => ?_)
  refine hs1.mks_ (n := 32) (fun sl h2 hs2 _ _ => ?_)
  refine hs2.app_ 0 rfl (hv.ext hs2.fr) arr_len one_dig (arr_len _) (by simp [maxBytes]) (by simp) (fun r h3 hs3 hl3 => ?_)
  unfold tree_Root.l1
  refine ⟨fun x h' => x = r ∧ h' = h3, fun _ _ => 0, ⟨rfl, rfl⟩, ?_⟩
  rintro x h' ⟨rfl, rfl⟩
  refine ifb_i (fun hc => by simp [hl3] at hc) (fun _ => ?_)
  unfold tree_Root.j1
  refine sidx_ld arr_len (hs3.ownSV 0 rfl arr_len) (by decide) (x := d) (by rfl) ?_
  refine hs3.st_ 1 rfl arr_len (fun h4 hs4 _ => ?_)
  refine hs4.ld_ 1 rfl ?_
  exact hk h4 hs4.fr
theorem Path1_spec (s : Sl) (d : Dig) {k : T2 Sl Bool → H → Prop} {h : H} (hv : SV 32 h s [d]) (hk : ∀ h', Ext h h' → k ⟨Sl.nil, true⟩ h') : tree_Path.b 0 s k h := by
  unfold tree_Path.b
  have hl : s.len = 1 := hv.2.1
  refine ifb_i (fun hc => by simp [hl] at hc) (fun _ => ?_)
  refine (Sat.init h).mks_ (n := 32) (fun sl h2 hs2 _ _ => ?_)
  refine hs2.app_ 0 rfl (hv.ext hs2.fr) arr_len one_dig (arr_len _) (by simp [maxBytes]) (by simp) (fun r h3 hs3 hl3 => ?_)
  unfold tree_Path.l1
  refine ⟨fun x h' => x = (0, Sl.nil, r) ∧ h' = h3, fun _ _ => 0, ⟨rfl, rfl⟩, ?_⟩
  rintro x h' ⟨rfl, rfl⟩
  refine ifb_i (fun hc => by simp [hl3] at hc) (fun _ => ?_)
  exact hk _ hs3.fr
theorem Key_spec (p : Addr) (seed : Dig) (s : Sl) {k : api_Key → H → Prop} {h : H} (ht : TreeA p seed s h) (hk : ∀ h', Ext h h' → k ⟨leaf0 seed, 0⟩ h') : keys_Tree_Key.b (some p) k h := by
  unfold keys_Tree_Key.b
  refine (Sat.init h).box_ (fun a h1 hs1 _ _ => ?_)
  refine ifb_i (fun hc => by cases hc) (fun _ => ?_)
  refine nn_i ?_
  have hc : ∀ h', Ext h h' → AtH h' p (enc ({ seed := seed, height := 0, leaves := s } : keys_Tree)) := fun h' f => ht.1.at_.ext f
  refine ld_old (hc _ hs1.fr) ?_
  refine ld_old (hc _ hs1.fr) ?_
  refine tree_Root.ok _ _ _ (Root1_spec s _ ((ht.2.1.sv arr_len).ext hs1.fr) (fun h2 hx2 => ?_))
  have hs2 := hs1.ext hx2
  refine ⟨⟨_, hc _ hs2.fr, rfl⟩, ?_⟩
  refine hs2.st_ 0 rfl len_api_Key (fun h3 hs3 _ => ?_)
  refine hs3.ld_ 0 rfl ?_
  exact hk _ hs3.fr
theorem TreeSign_spec (p : Addr) (seed : Dig) (s : Sl) (d : Dig) {k : T2 api_Sig Int → H → Prop} {h : H} (hT : Tb h) (ht : TreeA p seed s h)
    (hk : ∀ o h', Ext h h' → OnceA o (opensF seed 0 d 32) (shutsF seed 0 d 32) h' → (∀ b ∈ blk o.Open ++ blk o.Shut, h.size ≤ b ∧ b < h'.size) → k ⟨⟨0, o, Sl.nil⟩, 0⟩ h') : keys_Tree_Sign.b (some p) 0 d k h := by
  unfold keys_Tree_Sign.b
  refine (Sat.init h).box_ (fun a h1 hs1 _ _ => ?_)
  refine hs1.box_ (fun t h2 hs2 _ _ => ?_)
  refine ifb_i (fun hc => by cases hc) (fun _ => ?_)
  refine nn_i ?_
  have hc : ∀ h', Ext h h' → AtH h' p (enc ({ seed := seed, height := 0, leaves := s } : keys_Tree)) := fun h' f => ht.1.at_.ext f
  refine ld_old (hc _ hs2.fr) ?_
  refine tree_Path.ok _ _ _ _ (Path1_spec s _ ((ht.2.1.sv arr_len).ext hs2.fr) (fun h3 hx3 => ?_))
  have hs3 := hs2.ext hx3
  refine ifb_i (fun hc => by cases hc) (fun _ => ?_)
  refine ld_old (hc _ hs3.fr) ?_
  refine hs3.ld_ 1 rfl ?_
  refine once_Sign.ok _ _ _ _ _ (Sign_spec seed 0 d (hT.fr hs3.fr (by simp)) (fun o h4 hx4 ho4 hb4 => ?_))
  have hs4 := hs3.add (e := onc o (opensF seed 0 d 32) (shutsF seed 0 d 32)) hx4 ho4 (onc_loc _ _ _) hb4
  refine hs4.st_ 1 rfl len_api_Sig (fun h5 hs5 _ => ?_)
  refine hs5.ld_ 1 rfl ?_
  refine hk o h5 hs5.fr (hs5.at_ (i := 0) rfl) (fun b hb => ?_)
  have := (hs5.ok _ (List.mem_of_getElem? (i := 0) rfl)).2.2 b hb
  simp at this; omega
theorem Check109_spec (root leaf : Dig) {k : Bool → H → Prop} {h : H} (hk : ∀ h', Ext h h' → k (decide (leaf = root)) h') : tree_Check.b root leaf 0 1 Sl.nil k h := by
  unfold tree_Check.b
  refine (Sat.init h).box_ (fun a h1 hs1 _ _ => ?_)
  refine hs1.box_ (fun t h2 hs2 _ _ => ?_)
  refine ifb_i (fun hc => by simp at hc) (fun _ => ?_)
  unfold tree_Check.l1
  refine ⟨fun x h' => x = (0, 1, Sl.nil) ∧ h' = h2, fun _ _ => 0, ⟨rfl, rfl⟩, ?_⟩
  rintro x h' ⟨rfl, rfl⟩
  refine ifb_i (fun hc => by simp at hc) (fun _ => ?_)
  unfold tree_Check.j1
  refine hs2.ld_ 0 rfl ?_
  refine hs2.ld_ 1 rfl ?_
  have := hk _ hs2.fr
  simpa [Sl.nil] using this
theorem KeysCheck_spec (seed : Dig) (d : Dig) (o : api_Once) {k : Bool → H → Prop} {h : H} (hT : Tb h) (ho : OnceA o (opensF seed 0 d 32) (shutsF seed 0 d 32) h) (hk : ∀ h', Ext h h' → k true h') :
    keys_Check.b ⟨leaf0 seed, 0⟩ d ⟨0, o, Sl.nil⟩ k h := by
  unfold keys_Check.b
  refine (Sat.init h).box_ (fun a h1 hs1 _ _ => ?_)
  refine hs1.box_ (fun dd h2 hs2 _ _ => ?_)
  refine hs2.box_ (fun ss h3 hs3 _ _ => ?_)
  refine hs3.ld_ 1 rfl ?_
  refine hs3.ld_ 0 rfl ?_
  refine once_Of.ok _ _ _ _ (Of108_spec d o _ _ (hT.fr hs3.fr (by simp)) ⟨ho.1.ext hs3.fr, ho.2.ext hs3.fr⟩ (by simp [opensF]) (by simp [shutsF]) (fun h4 hx4 => ?_))
  have hs4 := hs3.ext hx4
  rw [of_signed]
  refine hs4.box_ (fun p h5 hs5 _ _ => ?_)
  refine hs5.st_ 0 rfl arr_len (fun h6 hs6 _ => ?_)
  refine hs6.ld_ 3 rfl ?_
  refine hs6.ld_ 3 rfl ?_
  refine ifb_i (fun _ => ?_) (fun hc => by simp at hc)
  refine hs6.ld_ 3 rfl ?_
  refine hs6.ld_ 0 rfl ?_
  refine hs6.ld_ 1 rfl ?_
  refine hs6.ld_ 3 rfl ?_
  refine ⟨by simp, ?_⟩
  refine hs6.ld_ 1 rfl ?_
  refine keys_leaf.ok _ _ _ (keyleaf_spec _ (hT.fr hs6.fr (by simp)) (fun h7 hx7 => ?_))
  have hs7 := hs6.ext hx7
  refine hs7.chk_ 3 rfl rfl ?_
  refine hs7.chk_ 1 rfl rfl ?_
  refine hs7.chk_ 3 rfl rfl ?_
  refine hs7.chk_ 1 rfl rfl ?_
  have e1 : ishl 1 (0 : Int).toNat = 1 := by decide
  show call (β := Bool) Prog 109 [reg (leaf0 seed : Arr 32 UInt8), reg (leafF (List.ofFn (wholeF (pubList seed 0 32))) : Arr 32 UInt8), reg (0 : Int), reg ((ishl 1 (0 : Int).toNat) : Int), reg (Sl.nil : Sl)] _ h7
  rw [e1]
  refine tree_Check.ok _ _ _ _ _ _ _ (Check109_spec _ _ (fun h8 hx8 => ?_))
  have := hk h8 (hs7.ext hx8).fr
  have e2 : decide (leafF (List.ofFn (wholeF (pubList seed 0 32))) = leaf0 seed) = true := by simp [leaf0, publicF]
  rw [e2]
  exact this
end Go.Proofs.YtimmoekliphobaaDoor
namespace Go.Proofs.YtimmoekliphobaaDoor
open Go Go.Sh
open Go.Sh.Ty (reg)
set_option linter.unusedVariables false
set_option maxRecDepth 100000

/-! maps as things that are owned -/
def mpE {κ ν : Type} [Ty κ] [Ty ν] (r : Nat) (l : List (κ × ν)) : En := ⟨[r], fun h => ∃ es clk, h[r]? = some (.map es clk) ∧ MapO es clk l⟩
theorem mpE_loc {κ ν : Type} [Ty κ] [Ty ν] (r : Nat) (l : List (κ × ν)) : Go.Sh.Loc (mpE r l) := fun h h' hb ⟨es, clk, h1, h2⟩ => ⟨es, clk, by rw [hb r (by simp [mpE])]; exact h1, h2⟩
theorem mpE_is {κ ν : Type} [Ty κ] [Ty ν] {r : Nat} {l : List (κ × ν)} {h : H} (H : (mpE r l).A h) : MapIs h ⟨some r⟩ l := by
  obtain ⟨es, clk, h1, h2⟩ := H
  exact .inr ⟨r, es, clk, rfl, h1, h2⟩
theorem mpE_lt {κ ν : Type} [Ty κ] [Ty ν] {r : Nat} {l : List (κ × ν)} {h : H} (H : (mpE r l).A h) : r < h.size := by
  obtain ⟨es, clk, h1, _⟩ := H
  rw [Array.getElem?_eq_some_iff] at h1; exact h1.1
section
variable {h0 h : H} {S : List Nat} {L : List En} {κ ν : Type} [Ty κ] [Ty ν]
theorem _root_.Go.Sh.Sat.mkmap_ {k : Mp → H → Prop} (hs : Sat h0 S h L) (hk : ∀ r h', Sat h0 S h' (mpE r ([] : List (κ × ν)) :: L) → r = h.size → k ⟨some r⟩ h') : mkmap k h := by
  intro m hm
  subst hm
  refine hk h.size _ (hs.add (Fr.push _ _) ⟨#[], 0, by simp, ⟨rfl, by simp, by simp⟩⟩ (mpE_loc _ _) ?_) rfl
  intro b hb; simp only [mpE, List.mem_singleton] at hb; subst hb; simp
theorem _root_.Go.Sh.Sat.mget_ {α : Type} {r : Nat} {l : List (κ × ν)} [DecidableEq κ] {g : List (κ × ν) → α} {k : α → H → Prop} (i : Nat) (hs : Sat h0 S h L) (hi : L[i]? = some (mpE r l)) (hk : k (g l) h) : mget ⟨some r⟩ g k h :=
  ⟨_, ⟨l, mpE_is (hs.at_ hi), rfl⟩, hk⟩
theorem _root_.Go.Sh.Sat.mchk_ {α : Type} {r : Nat} {l : List (κ × ν)} {g : List (κ × ν) → α} {y : α} {k : H → Prop} (i : Nat) (hs : Sat h0 S h L) (hi : L[i]? = some (mpE r l)) (hg : g l = y) (hk : k h) : mchk ⟨some r⟩ g y k h :=
  ⟨⟨l, mpE_is (hs.at_ hi), hg⟩, hk⟩
theorem MapO.uniq {es : Array MapEntry} {clk : Nat} {l l' : List (κ × ν)} (a : MapO es clk l) (b : MapO es clk l') : l.map (fun p => (reg p.1, reg p.2)) = l'.map fun p => (reg p.1, reg p.2) := a.kv.symm.trans b.kv
theorem _root_.Go.Sh.Sat.mput_ {r : Nat} {l : List (κ × ν)} [DecidableEq κ] {key : κ} {v : ν} {k : H → Prop} (i : Nat) (hs : Sat h0 S h L) (hi : L[i]? = some (mpE r l)) (hk : ∀ h', Sat h0 S h' (L.set i (mpE r (mins l key v))) → k h') : mput ⟨some r⟩ key v k h := by
  obtain ⟨es, clk, h1, h2⟩ := (show (mpE r l).A h from hs.at_ hi)
  refine ⟨r, es, clk, l, rfl, h1, h2, fun es' clk' h3 => hk _ (hs.upd hi (by simp only [mpE]; exact Fr.set _ _ _) ⟨es', clk', AtLast h1, h3⟩ (mpE_loc _ _) ?_)⟩
  intro b hb
  simp only [mpE, List.mem_singleton] at hb
  subst hb
  rw [Array.getElem?_eq_some_iff] at h1
  exact ⟨by simpa using h1.1, .inl (by simp [mpE])⟩
end

/-! boxes -/
abbrev Vts := List (vote_place × api_Vote)
def BoxA (p : Addr) (r : Nat) (l : Vts) (h : H) : Prop := Cel 113 p (enc (⟨⟨some r⟩⟩ : vote_Box)) h ∧ (mpE r l).A h ∧ p.block ≠ r
def bxE (p : Addr) (r : Nat) (l : Vts) : En := ⟨[p.block, r], BoxA p r l⟩
theorem bxE_loc (p : Addr) (r : Nat) (l : Vts) : Go.Sh.Loc (bxE p r l) := fun h h' hb H =>
  ⟨cel_loc 113 p _ h h' (fun b hb' => hb b (by simp only [cel, List.mem_singleton] at hb'; subst hb'; simp [bxE])) H.1, mpE_loc r l h h' (fun b hb' => hb b (by simp only [mpE, List.mem_singleton] at hb'; subst hb'; simp [bxE])) H.2.1, H.2.2⟩
theorem BoxA.ext {p : Addr} {r : Nat} {l : Vts} {h h' : H} (f : Ext h h') (H : BoxA p r l h) : BoxA p r l h' :=
  bxE_loc p r l h h' (fun b hb => f.same b (by simp only [bxE, List.mem_cons, List.not_mem_nil, or_false] at hb; rcases hb with rfl | rfl; exact H.1.lt; exact mpE_lt H.2.1) (by simp)) H
theorem len_box (y : vote_Box) : (enc y).length = 1 := len_vote_Box y
theorem NewBox_spec {k : Pt → H → Prop} {h : H} (hk : ∀ p r h', Ext h h' → BoxA p r [] h' → (∀ b ∈ [p.block, r], h.size ≤ b ∧ b < h'.size) → k (some p) h') : vote_NewBox.b k h := by
  unfold vote_NewBox.b
  refine (Sat.init h).mkmap_ (κ := vote_place) (ν := api_Vote) (fun r h1 hs1 hr => ?_)
  refine hs1.box_ (fun p h2 hs2 hp _ => ?_)
  have hlt := mpE_lt (hs1.at_ (i := 0) rfl)
  refine hk p r h2 hs2.fr ⟨hs2.at_ (i := 0) rfl, hs2.at_ (i := 1) rfl, by omega⟩ ?_
  intro b hb
  simp only [List.mem_cons, List.not_mem_nil, or_false] at hb
  rcases hb with rfl | rfl
  · have := (hs2.ok _ (List.mem_of_getElem? (i := 0) rfl)).2.2 p.block (by simp [cel]); simp at this; omega
  · have := (hs2.ok _ (List.mem_of_getElem? (i := 1) rfl)).2.2 b (by simp [mpE]); simp at this; omega
def placeOf (v : api_Vote) : vote_place := ⟨v.Kind, v.Round, v.From⟩
theorem Add_nil_spec (v : api_Vote) {k : Bool → H → Prop} {h : H} (hk : ∀ h', Ext h h' → k false h') : vote_Box_Add.b none v k h := by
  unfold vote_Box_Add.b
  refine (Sat.init h).box_ (fun a h1 hs1 _ _ => ?_)
  exact ifb_i (fun _ => hk _ hs1.fr) (fun hc => by cases hc)
theorem Add_spec (p : Addr) (r : Nat) (l : Vts) (v : api_Vote) {k : Bool → H → Prop} {h : H} (hb : BoxA p r l h)
    (hk1 : ∀ u h', mfind l (placeOf v) = some u → Ext h h' → k false h') (hk2 : ∀ h', mfind l (placeOf v) = none → Fr [p.block, r] h h' → BoxA p r (mins l (placeOf v) v) h' → k true h') : vote_Box_Add.b (some p) v k h := by
  unfold vote_Box_Add.b
  have hrlt := mpE_lt hb.2.1
  have hbx : ∀ h', Ext h h' → AtH h' p (enc (⟨⟨some r⟩⟩ : vote_Box)) := fun h' f => hb.1.at_.ext f
  have hmx : ∀ h', Ext h h' → (mpE r l).A h' := fun h' f => mpE_loc r l h h' (fun b hb' => f.same b (by simp only [mpE, List.mem_singleton] at hb'; omega) (by simp)) hb.2.1
  refine (Sat.init h).box_ (fun a h1 hs1 _ _ => ?_)
  refine ifb_i (fun hc => by cases hc) (fun _ => ?_)
  refine hs1.ld_ 0 rfl ?_
  refine hs1.ld_ 0 rfl ?_
  refine hs1.ld_ 0 rfl ?_
  refine hs1.box_ (fun at_ h2 hs2 _ _ => ?_)
  refine hs2.st_ 0 rfl len_vote_place (fun h3 hs3 _ => ?_)
  refine nn_i ?_
  refine ld_old (hbx _ hs3.fr) ?_
  refine hs3.ld_ 0 rfl ?_
  refine ⟨_, ⟨l, mpE_is (hmx _ hs3.fr), rfl⟩, ?_⟩
  refine hs3.box_ (fun t6 h4 hs4 _ _ => ?_)
  refine ⟨⟨_, hbx _ hs4.fr, rfl⟩, ?_⟩
  refine hs4.chk_ 1 rfl rfl ?_
  refine ⟨⟨l, mpE_is (hmx _ hs4.fr), rfl⟩, ?_⟩
  refine hs4.st_ 0 rfl len_api_Vote (fun h5 hs5 _ => ?_)
  show ifb (mlook api_Vote.zero l (placeOf v)).b _ _ h5
  cases hm : mfind l (placeOf v) with
  | some u =>
    refine ifb_i (fun _ => ?_) (fun hc => by simp [mlook, hm] at hc)
    exact hk1 u h5 hm hs5.fr
  | none =>
    refine ifb_i (fun hc => by simp [mlook, hm] at hc) (fun _ => ?_)
    refine ld_old (hbx _ hs5.fr) ?_
    refine hs5.ld_ 1 rfl ?_
    refine hs5.ld_ 2 rfl ?_
    obtain ⟨es, clk, q1, q2⟩ := hmx _ hs5.fr
    refine ⟨r, es, clk, l, rfl, q1, q2, fun es' clk' q3 => ?_⟩
    have hf : Fr [r] h (h5.setIfInBounds r (.map es' clk')) := (hs5.fr.mono (by simp)).trans (Fr.set h5 r (.map es' clk')) (by simp)
    exact hk2 _ hm (hf.mono (by simp)) ⟨hb.1.fr hf (by simp; exact hb.2.2), ⟨es', clk', AtLast q1, q3⟩, hb.2.2⟩

/-- the votes for a digest, by rising members -/
def pick1 (l : Vts) (kind round : Int) (d : Dig) (i : Nat) : List api_Vote := match mfind l ⟨kind, round, (i : Int)⟩ with
  | some v => if v.Digest = d then [v] else []
  | none => []
def forF (l : Vts) (kind round : Int) (d : Dig) (n : Nat) : List api_Vote := (List.range n).flatMap fun i : Nat => pick1 l kind round d (i + 1)
theorem forF_succ (l : Vts) (kind round : Int) (d : Dig) (n : Nat) : forF l kind round d (n + 1) = forF l kind round d n ++ pick1 l kind round d (n + 1) := by simp [forF, List.range_succ]
theorem forF_len (l : Vts) (kind round : Int) (d : Dig) (n : Nat) : (forF l kind round d n).length ≤ n := by
  induction n with
  | zero => simp [forF]
  | succ n ih =>
    rw [forF_succ, List.length_append]
    have : (pick1 l kind round d (n + 1)).length ≤ 1 := by unfold pick1; split <;> try split
                                                           all_goals simp
    omega
theorem For_nil_spec (kind round : Int) (d : Dig) {k : Sl → H → Prop} {h : H} (hk : ∀ h', Ext h h' → k Sl.nil h') : vote_Box_For.b none kind round d k h := by
  unfold vote_Box_For.b
  refine (Sat.init h).box_ (fun a h1 hs1 _ _ => ?_)
  unfold vote_Box_For.l1
  refine ⟨fun x h' => x = (Sl.nil, 1) ∧ h' = h1, fun _ _ => 0, ⟨rfl, rfl⟩, ?_⟩
  rintro x h' ⟨rfl, rfl⟩
  refine ifb_i (fun hc => by simp at hc) (fun _ => ?_)
  exact hk _ hs1.fr
theorem For_spec (p : Addr) (r : Nat) (l : Vts) (kind round : Int) (d : Dig) {k : Sl → H → Prop} {h : H} (hb : BoxA p r l h)
    (hk : ∀ s h', Ext h h' → OwnA 37 41 s (forF l kind round d 63) h' → (∀ b ∈ blk s, h.size ≤ b ∧ b < h'.size) → k s h') : vote_Box_For.b (some p) kind round d k h := by
  unfold vote_Box_For.b
  refine (Sat.init h).box_ (fun a h1 hs1 _ _ => ?_)
  unfold vote_Box_For.l1
  refine ⟨fun (x : Sl × Int) h' => ∃ i : Nat, x.2 = ((i + 1 : Nat) : Int) ∧ i ≤ 63 ∧ Sat h [] h' [own 37 41 x.1 (forF l kind round d i), cel 24 a (enc d)], fun x _ => (64 - x.2).toNat, ⟨0, rfl, by omega, hs1.nilOwn⟩, ?_⟩
  rintro ⟨out, t⟩ h2 ⟨i, hi, hil, hs2⟩
  simp only at hi hs2
  subst hi
  refine ifb_i (fun hc => ?_) (fun hc => ?_)
  · have hi : i < 63 := by have : ((i + 1 : Nat) : Int) ≤ 63 := by simpa using hc
                           omega
    have e1 : iadd ((i + 1 : Nat) : Int) 1 = ((i + 1 + 1 : Nat) : Int) := by rw [iadd_eq (by omega) (by omega)]; omega
    have hbs := hb.ext hs2.fr
    obtain ⟨y, hy⟩ : ∃ y, mlook api_Vote.zero l ⟨kind, round, ((i + 1 : Nat) : Int)⟩ = y := ⟨_, rfl⟩
    refine nn_i ?_
    refine ld_old hbs.1.at_ ?_
    refine ⟨y, ⟨l, mpE_is hbs.2.1, hy⟩, ?_⟩
    refine hs2.box_ (fun v h3 hs3 _ _ => ?_)
    refine hs3.st_ 0 rfl len_api_Vote (fun h4 hs4 _ => ?_)
    refine hs4.ld_ 0 rfl ?_
    refine hs4.ld_ 2 rfl ?_
    have hlen := forF_len l kind round d i
    cases hm : mfind l ⟨kind, round, ((i + 1 : Nat) : Int)⟩ with
    | none =>
      have hml : mlook api_Vote.zero l ⟨kind, round, ((i + 1 : Nat) : Int)⟩ = ⟨api_Vote.zero, false⟩ := by unfold mlook; rw [hm]
      rw [hml] at hy
      subst hy
      refine ifb_i (fun hc => by cases hc) (fun _ => ?_)
      show _ ∧ _
      dsimp only
      rw [e1]
      refine ⟨⟨i + 1, rfl, hi, ?_⟩, by omega⟩
      have : pick1 l kind round d (i + 1) = [] := by unfold pick1; rw [hm]
      rw [forF_succ, this, List.append_nil]
      exact hs4.drop (List.sublist_cons_self _ _)
    | some u =>
      have hml : mlook api_Vote.zero l ⟨kind, round, ((i + 1 : Nat) : Int)⟩ = ⟨u, true⟩ := by unfold mlook; rw [hm]
      rw [hml] at hy
      subst hy
      by_cases hd : u.Digest = d
      · refine ifb_i (fun _ => ?_) (fun hc => by simp [hd] at hc)
        refine hs4.ld_ 0 rfl ?_
        refine hs4.mks_ (n := 41) (fun sl h5 hs5 _ _ => ?_)
        refine hs5.app_ 2 rfl (hs5.ownSV 0 rfl len_api_Vote) len_api_Vote one_api_Vote (len_api_Vote _) ?_ ?_ (fun r' h6 hs6 hl6 => ?_)
        · simp only [List.length_cons, List.length_nil, maxBytes]; omega
        · simp only [List.length_cons, List.length_nil]; omega
        show _ ∧ _
        dsimp only
        rw [e1]
        refine ⟨⟨i + 1, rfl, hi, ?_⟩, by omega⟩
        have : pick1 l kind round d (i + 1) = [u] := by unfold pick1; rw [hm]; simp [hd]
        rw [forF_succ, this]
        exact (hs6.drop (List.sublist_cons_self _ _)).drop (List.sublist_cons_self _ _)
      · refine ifb_i (fun hc => by simp [hd] at hc) (fun _ => ?_)
        show _ ∧ _
        dsimp only
        rw [e1]
        refine ⟨⟨i + 1, rfl, hi, ?_⟩, by omega⟩
        have : pick1 l kind round d (i + 1) = [] := by unfold pick1; rw [hm]; simp [hd]
        rw [forF_succ, this, List.append_nil]
        exact hs4.drop (List.sublist_cons_self _ _)
  · have hi : i = 63 := by
      have : ¬ ((i + 1 : Nat) : Int) ≤ 63 := by simpa using hc
      omega
    subst hi
    refine hk out h2 hs2.fr (hs2.at_ (i := 0) rfl) (fun b hb' => ?_)
    have := (hs2.ok _ (List.mem_of_getElem? (i := 0) rfl)).2.2 b hb'
    simp at this; omega
theorem Count_spec (p : Addr) (r : Nat) (l : Vts) (kind round : Int) (d : Dig) {k : Int → H → Prop} {h : H} (hb : BoxA p r l h) (hk : ∀ h', Ext h h' → k ((forF l kind round d 63).length : Int) h') : vote_Box_Count.b (some p) kind round d k h := by
  unfold vote_Box_Count.b
  refine (Sat.init h).box_ (fun a h1 hs1 _ _ => ?_)
  refine hs1.ld_ 0 rfl ?_
  refine vote_Box_For.ok _ _ _ _ _ _ (For_spec p r l kind round d (hb.ext hs1.fr) (fun s h2 hx2 ho2 _ => ?_))
  have := (ho2.sv len_api_Vote).2.1
  rw [this]
  exact hk _ (hs1.ext hx2).fr
theorem Count_nil_spec (kind round : Int) (d : Dig) {k : Int → H → Prop} {h : H} (hk : ∀ h', Ext h h' → k 0 h') : vote_Box_Count.b none kind round d k h := by
  unfold vote_Box_Count.b
  refine (Sat.init h).box_ (fun a h1 hs1 _ _ => ?_)
  refine hs1.ld_ 0 rfl ?_
  refine vote_Box_For.ok _ _ _ _ _ _ (For_nil_spec kind round d (fun h2 hx2 => ?_))
  exact hk _ (hs1.ext hx2).fr
end Go.Proofs.YtimmoekliphobaaDoor
namespace Go.Proofs.YtimmoekliphobaaDoor
open Go Go.Sh
open Go.Sh.Ty (reg)
set_option linter.unusedVariables false
set_option maxRecDepth 100000
/-! loops over maps -/
def rawE (b : Nat) (o : Obj) : En := ⟨[b], fun h => h[b]? = some o⟩
theorem rawE_loc (b : Nat) (o : Obj) : Go.Sh.Loc (rawE b o) := fun h h' hb H => by
  show h'[b]? = some o
  rw [hb b (by simp [rawE])]; exact H
section
variable {h0 h : H} {S : List Nat} {L : List En} {κ ν : Type} [Ty κ] [Ty ν]
theorem Rng_tr {h h' : H} {p : Addr} {m : Mp} {todo : List (κ × ν)} (R : Rng h p m todo) (h1 : h'[p.block]? = h[p.block]?) (h2 : ∀ r, m.r = some r → h'[r]? = h[r]?) : Rng h' p m todo := by
  obtain ⟨hp, hc⟩ := R
  refine ⟨hp, ?_⟩
  rcases hc with ⟨a, b, s0, s1, s2, c⟩ | ⟨r, es, clk, l, seen, a, b, c, d, e⟩
  · exact .inl ⟨a, b, s0, s1, s2, by rw [h1]; exact c⟩
  · exact .inr ⟨r, es, clk, l, seen, a, by rw [h1]; exact b, by rw [h2 r a]; exact c, d, e⟩
theorem _root_.Go.Sh.Sat.rng_ {m : Mp} {l l0 : List (κ × ν)} {k : Addr → H → Prop} (hs : Sat h0 S h L) (hm : MapIs h m l) (hk : ∀ p h' o, Sat h0 S h' (rawE p.block o :: L) → Rng h' p m l → Ext h h' → k p h') : rng m l0 k h := by
  refine ⟨l, hm, fun p o hp hR => ?_⟩
  subst hp
  exact hk _ _ o (hs.add (e := rawE h.size o) (Fr.push _ _) (by show (h.push o)[h.size]? = some o; simp) (rawE_loc _ _) (by intro b hb; simp only [rawE, List.mem_singleton] at hb; subst hb; simp)) hR (Fr.push _ _)
theorem _root_.Go.Sh.Sat.nxt_ {p : Addr} {m : Mp} {todo : List (κ × ν)} {o : Obj} {k : Nx κ ν → H → Prop} (i : Nat) (hs : Sat h0 S h L) (hi : L[i]? = some (rawE p.block o)) (hR : Rng h p m todo) (hk0 : todo = [] → k ⟨none⟩ h)
    (hk1 : ∀ q rest h' o', todo.Perm (q :: rest) → Sat h0 S h' (L.set i (rawE p.block o')) → Rng h' p m rest → EntIs h' p m (⟨q.1, q.2⟩ : T2 κ ν) → k ⟨some ⟨q.1, q.2⟩⟩ h') : nxt p k h := by
  refine ⟨m, todo, hR, hk0, fun q rest o' hp hR' hE => hk1 q rest _ o' hp ?_ hR' hE⟩
  have ho : h[p.block]? = some o := hs.at_ hi
  refine hs.upd hi (by simp only [rawE]; exact Fr.set _ _ _) (by show (h.setIfInBounds p.block o')[p.block]? = some o'; exact AtLast ho) (rawE_loc _ _) ?_
  intro b hb
  simp only [rawE, List.mem_singleton] at hb
  subst hb
  rw [Array.getElem?_eq_some_iff] at ho
  exact ⟨by simpa using ho.1, .inl (by simp [rawE])⟩
end

def tlen (h : H) (p : Addr) : Nat := match h[p.block]? with
  | some (.mapIter (some r) _ seen _) => match h[r]? with
    | some (.map es _) => (es.toList.filter fun e => !seen.contains e.born).length
    | _ => 0
  | _ => 0
theorem zip_filter_len {α β : Type} (f : α → Bool) : ∀ (a : List α) (b : List β), a.length = b.length → ((a.zip b).filter fun q => f q.1).length = (a.filter f).length
  | [], [], _ => rfl
  | x :: a, y :: b, h => by
    simp only [List.length_cons, Nat.add_right_cancel_iff] at h
    have ih := zip_filter_len f a b h
    simp only [List.zip_cons_cons, List.filter_cons]
    split <;> simp [ih]
  | [], _ :: _, h => by simp at h
  | _ :: _, [], h => by simp at h
theorem Rng_tlen {κ ν : Type} [Ty κ] [Ty ν] {h : H} {p : Addr} {m : Mp} {todo : List (κ × ν)} (R : Rng h p m todo) : tlen h p = todo.length := by
  obtain ⟨_, hc⟩ := R
  rcases hc with ⟨a, b, s0, s1, s2, c⟩ | ⟨r, es, clk, l, seen, a, b, c, d, e⟩
  · unfold YtimmoekliphobaaDoor.tlen; rw [c, b]; rfl
  · unfold YtimmoekliphobaaDoor.tlen; rw [b]; simp only []; rw [c, e]
    simp only [List.length_map]
    exact (zip_filter_len (fun e : MapEntry => !seen.contains e.born) es.toList l (by have := congrArg List.length d.kv; simpa using this)).symm
end Go.Proofs.YtimmoekliphobaaDoor
namespace Go.Proofs.YtimmoekliphobaaDoor
open Go Go.Sh Go.RowKit Go.Maps Go.Sort Go.Shelf
open Go.Sh.Ty (reg)
set_option maxRecDepth 100000
section
variable {F : Fence} {n : Nat} {P : Program} (w : World) {ops : Array Oper} {rest : List Oper} {o : Oper} {a : Act} {Q : Exit → Act → World → Prop}
theorem wpListIn_rng (hg : o.guard = none) (m : Operand) (t : TypeId) (hop : o.op = Op.range t m) (k e : TypeId) (ht : P.underlying t = some (.map k e)) (b : Nat) (es : Array MapEntry) (clk : Nat)
    (hm : a.eval m = .map (some b)) (hb : w.heap[b]? = some (.map es clk))
    (hK : wpListIn F n P ops Q rest (a.put o.dst (.pointer (some ⟨w.heap.size, 0, none⟩))) (w.alloc (.mapIter (some b) clk #[] clk))) :
    wpListIn F n P ops Q (o :: rest) a w := by
  refine wpListIn_plain hg fun K' hK' => ?_
  unfold Oper.wpIn
  refine ⟨?_, ?_⟩
  · simp [Oper.about, hop]
  · rw [Oper.semAt_plain F _ _ (by rw [hop]; intro c hc'; cases hc')]
    have hrun : (Instr.range t (.map (some b))).run P w = .ok (.pointer (some ⟨w.heap.size, 0, none⟩)) (w.alloc (.mapIter (some b) clk #[] clk)) := by
      simp only [Instr.range, Sem.run_bind, run_underlying ht, Result.andThen, run_getObjH hb]
      rfl
    simp [execOp, hop, hm, hrun, Result.andThen]
    exact hK' _ _ hK
theorem wpListIn_nxt (hg : o.guard = none) (it : Operand) (hop : o.op = Op.next it false) (r : Nat) (m : Mp) (todo : List (Int × Int))
    (hit : a.eval it = .pointer (some ⟨r, 0, none⟩)) (h : Rng w.heap ⟨r, 0, none⟩ m todo)
    (hDone : todo = [] → wpListIn F n P ops Q rest (a.put o.dst (.tuple #[.bool false])) w)
    (hMore : ∀ (x c : Int) (w' : World) (rest' : List (Int × Int)), todo.Perm ((x, c) :: rest') → Rng w'.heap ⟨r, 0, none⟩ m rest' → w.grownBy w' (some r) → w'.heap.size = w.heap.size → (∃ o : Obj, w.heap[r]? = some o ∧ o.isWalk = true) →
      (Instr.entry (.pointer (some ⟨r, 0, none⟩))).run P w' = .ok (.tuple #[.int .i64 x, .int .i64 c]) w' → wpListIn F n P ops Q rest (a.put o.dst (.tuple #[.bool true, .int .i64 x, .int .i64 c])) w') :
    wpListIn F n P ops Q (o :: rest) a w := by
  refine wpListIn_plain hg fun K' hK' => ?_
  unfold Oper.wpIn
  refine ⟨by simp [Oper.about, hop], ?_⟩
  rw [Oper.semAt_plain F _ _ (by rw [hop]; intro c hc'; cases hc')]
  obtain ⟨⟨b, hbb⟩, hcase⟩ := h
  obtain rfl : r = b := by cases hbb; rfl
  rcases hcase with ⟨hr, h0, s0, s1, s2, hb⟩ | ⟨b, es, clk, l, seen, hr, hi, hb, H, htodo⟩
  · simp [execOp, hop, hit, Instr.next, run_getItH hb, Result.andThen]
    exact hK' _ _ (hDone h0)
  · have hl : es.toList.length = l.length := by have := congrArg List.length H.kv; simpa using this
    have hne : r ≠ b := fun e => by subst e; simp only at hi; rw [hi] at hb; cases hb
    rcases run_next_at (P := P) w o.type r b clk clk seen es clk hi hb H.born (Nat.le_refl _) with ⟨hz, hrun⟩ | ⟨e, he, w1, hw1, hrun⟩
    · simp [execOp, hop, hit, hrun, Result.andThen]
      refine hK' _ _ (hDone ?_)
      have hz' : ∀ e ∈ es.toList, seen.contains e.born = true := by
        have : leftOf es seen = #[] := Array.eq_empty_of_size_eq_zero hz
        unfold leftOf at this
        rw [Array.filter_eq_empty_iff] at this
        intro e he
        simpa using this e (by simpa using he)
      rw [htodo]
      simp only [List.map_eq_nil_iff, List.filter_eq_nil_iff]
      intro q hq
      have := hz' q.1 (List.of_mem_zip hq).1
      rw [this]; decide
    · have hel : e ∈ es.toList ∧ seen.contains e.born = false := by
        unfold leftOf at he
        simp at he
        exact ⟨by simpa using he.1, by simpa using he.2⟩
      obtain ⟨j, hj'⟩ := List.mem_iff_getElem?.1 hel.1
      have hjl : j < l.length := by
        rw [List.getElem?_eq_some_iff] at hj'; obtain ⟨h9, _⟩ := hj'; omega
      have hkv := congrArg (fun l => l[j]?) H.kv
      simp only [List.getElem?_map, hj', Option.map_some, List.getElem?_eq_getElem hjl, Option.some.injEq, Prod.mk.injEq] at hkv
      have hw1h : w1.heap = w.heap := by rcases hw1 with rfl | rfl <;> rfl
      have hk1 : e.key = .int .i64 l[j].1 := hkv.1
      have hv1 : e.val = .int .i64 l[j].2 := hkv.2
      simp [execOp, hop, hit, hrun, Result.andThen, hk1, hv1]
      have hit2 : (Go.ChangeMaps.setBlock w1 r (.mapIter (some b) clk (seen.push e.born) clk)).heap[r]? = some (.mapIter (some b) clk (seen.push e.born) clk) := by
        simp only [Go.ChangeMaps.setBlock, hw1h]; exact AtLast hi
      have hb2 : (Go.ChangeMaps.setBlock w1 r (.mapIter (some b) clk (seen.push e.born) clk)).heap[b]? = some (.map es clk) := by
        simp only [Go.ChangeMaps.setBlock, hw1h]; rw [Array.getElem?_setIfInBounds_ne hne]; exact hb
      refine hK' _ _ (hMore l[j].1 l[j].2 _ (((es.toList.zip l).filter fun q => !(seen.push e.born).contains q.1.born).map (·.2)) ?_ ⟨⟨r, rfl⟩, .inr ⟨b, es, clk, l, seen.push e.born, hr, hit2, hb2, H, rfl⟩⟩ ?_ ?_ ⟨_, hi, rfl⟩ ?_)
      · rw [htodo]
        exact todo_perm es.toList l seen hl H.nodup hj' (List.getElem?_eq_getElem hjl) hel.2
      · refine ⟨?_, ?_, ?_, ?_, ?_⟩
        · rcases hw1 with rfl | rfl <;> rfl
        · rcases hw1 with rfl | rfl <;> rfl
        · rcases hw1 with rfl | rfl <;> rfl
        · simp [Go.ChangeMaps.setBlock, hw1h]
        · intro k _ hk
          simp only [Go.ChangeMaps.setBlock, hw1h]
          exact Array.getElem?_setIfInBounds_ne (fun e => hk (by rw [e]))
      · simp [Go.ChangeMaps.setBlock, hw1h]
      · have := run_entry_at (P := P) _ r b clk seen es clk e hit2 hb2 hel.1 H.nodup
        rw [this, hk1, hv1]
end
theorem Rng_walks {W W' : World} {r : Nat} {m : Mp} {todo : List (Int × Int)} (R : Rng W.heap ⟨r, 0, none⟩ m todo) (hk : KeepsWalks W W') : Rng W'.heap ⟨r, 0, none⟩ m todo := by
  obtain ⟨hp, hc⟩ := R
  refine ⟨hp, ?_⟩
  rcases hc with ⟨a, b, s0, s1, s2, c⟩ | ⟨r, es, clk, l, seen, a, b, c, d, e⟩
  · exact .inl ⟨a, b, s0, s1, s2, hk.same _ _ c rfl⟩
  · exact .inr ⟨r, es, clk, l, seen, a, hk.same _ _ b rfl, hk.same _ _ c rfl, d, e⟩
set_option maxHeartbeats 1000000 in
theorem values_gives (n Bm b : Nat) (l : List (Int × Int)) (W0 : World) (hn : 1 ≤ n) (hbox : W0.cell? ⟨Bm, 0, none⟩ = some (.map (some b))) (hB : Bm < W0.heap.size) (hm : (mpE b l).A W0.heap) :
    SeqGives Fence.wide n Tryd.prog 83 #[.pointer (some ⟨Bm, 0, none⟩)] encZ (fun ss => ss.Perm (l.map (·.2))) l.length W0 := by
  intro y J W hW hJ hY h0
  have hbx : W.cell? ⟨Bm, 0, none⟩ = some (.map (some b)) := by
    rw [World.cell?_of_block (hW.block Bm hB)]; exact hbox
  obtain ⟨es, clk, hes, HO⟩ := hm
  have hbl : b < W0.heap.size := (Array.getElem?_eq_some_iff.1 hes).1
  have hb1 : W.heap[b]? = some (.map es clk) := (hW.block b hbl).trans hes
  have u118 : Tryd.prog.underlying 118 = some (.map 3 3) := Tryd.underlying118
  refine callsIn_of_wp Tryd.func83 rfl trivial ?_ rfl
  simp only [Tryd.ntmps83, List.size_toArray, List.length_cons, List.length_nil, Nat.reduceAdd, Nat.reduceSub, Array.replicate_succ, Array.replicate_zero, List.push_toArray, List.append_toArray, List.nil_append, List.cons_append]
  have hrg0 : Rng (W.alloc (.mapIter (some b) clk #[] clk)).heap ⟨W.heap.size, 0, none⟩ ⟨some b⟩ l := by
    refine ⟨⟨_, rfl⟩, .inr ⟨b, es, clk, l, #[], rfl, by show (W.heap.push _)[W.heap.size]? = _; simp, ?_, HO, ?_⟩⟩
    · exact (Below.heap_alloc W _ b (Array.getElem?_eq_some_iff.1 hb1).1).trans hb1
    · have hl : es.toList.length = l.length := by have := congrArg List.length HO.kv; simpa using this
      rw [List.filter_eq_self.2 (by simp)]
      exact (List.map_snd_zip (by omega)).symm
  have hg0 : W.grownBy (W.alloc (.mapIter (some b) clk #[] clk)) none := ⟨rfl, rfl, rfl, by simp, fun k hk _ => Below.heap_alloc W _ k hk⟩
  have hJ0 := hJ [] W _ none h0 hg0 (fun r e => by cases e)
  gi_wp2_with (first
    | (gi_at_range; refine wpListIn_rng _ rfl _ 118 rfl 3 3 u118 b es clk rfl hb1 ?_)
    | gi_in)
  go_frame
  gi_loopw [4] (fun _ wr => ∃ (pre : List Int) (todo : List (Int × Int)), Rng wr.heap ⟨W.heap.size, 0, none⟩ ⟨some b⟩ todo ∧ (pre ++ todo.map (·.2)).Perm (l.map (·.2)) ∧ J pre wr)
    (fun _ wr => tlen wr.heap ⟨W.heap.size, 0, none⟩)
  case atStart =>
    exact ⟨[], l, hrg0, by simp, hJ0⟩
  case round =>
    obtain ⟨pre, todo, hrg, hp, hJs⟩ := hrel
    gi_wp2_with (first
      | (gi_at_next; refine wpListIn_nxt _ rfl _ rfl W.heap.size ⟨some b⟩ todo rfl hrg ?_ ?_)
      | gi_in)
    · intro h00
      gi_wp2
      go_end0
      subst h00
      exact ⟨⟨_, rfl⟩, pre, by simpa using hp, hJs⟩
    · intro x c w2 rest' hpm hrg2 hg2 hs2 o9 hw1 hw2 hen
      have hJ2 : J pre w2 := hJ pre wr w2 (some W.heap.size) hJs hg2 (fun r e => by cases e; exact ⟨Nat.le_refl _, o9, hw1, hw2⟩)
      have hlen : pre.length < l.length := by
        have h1 := hp.length_eq
        have h2 := hpm.length_eq
        simp at h1 h2
        omega
      obtain ⟨fn, tmps, assign, body, hy, hR⟩ := hY pre c w2 hJ2 hlen
      clear hs2
      gi_wp2
      refine hR.mono ?_
      rintro e W3 ⟨rfl, hJ3, hk3⟩
      gi_wp2
      have hrg3 := Rng_walks hrg2 hk3
      have hpm2 : ((pre ++ [c]) ++ rest'.map (·.2)).Perm (l.map (·.2)) := by
        refine List.Perm.trans ?_ hp
        have := hpm.map (·.2)
        simp only [List.append_assoc, List.singleton_append]
        exact List.Perm.append_left _ (by simpa using this.symm)
      go_roundw
      case rel => exact ⟨pre ++ [c], rest', hrg3, hpm2, hJ3⟩
      case measure => rw [Rng_tlen hrg3, Rng_tlen hrg]; have := hpm.length_eq; simp at this; omega
end Go.Proofs.YtimmoekliphobaaDoor
namespace Go.Proofs.YtimmoekliphobaaDoor
open Go Go.Sh
open Go.Sh.Ty (reg)
set_option linter.unusedVariables false
set_option maxRecDepth 100000
set_option maxHeartbeats 4000000
theorem maps_Values_int.ok (m : Mp) (k : Fv → H → Prop) (h : H) (hh : maps_Values_int.b m k h) : CallsH Prog 49 [reg m].toArray h fun v h' => ∃ r : Fv, v = reg r ∧ k r h' := by
  unfold maps_Values_int.b at hh
  refine CallsH.of 4 Tryd.func49 rfl Tryd.ntmps49 rfl (fun w0 => ?_)
  refine CW.seq ?_
  refine CW.region ?_
  refine box_elim hh (fun m_1 hm_1 hh => ?_)
  refine .e (e_boxP hm_1 rfl rfl rfl ?_)
  refine .val (v_assign rfl) rfl ?_
  refine .nil ?_
  refine QN.then_ ?_
  refine CW.seq ?_
  refine CW.region ?_
  refine .val (v_makeFunc rfl) rfl ?_
  refine .val (v_assign (v := reg ((⟨83, #[.pointer (some m_1)]⟩ : Fv) : Fv)) rfl) rfl ?_
  refine .nil ?_
  refine QN.then_ ?_
  refine CW.ret ?_
  exact ret1 rfl rfl ⟨((⟨83, #[.pointer (some m_1)]⟩ : Fv) : Fv), rfl, hh⟩
end Go.Proofs.YtimmoekliphobaaDoor
namespace Go.Proofs.YtimmoekliphobaaDoor
open Go Go.Sh Go.RowKit Go.Maps Go.Sort Go.Shelf
open Go.Sh.Ty (reg)
set_option maxRecDepth 100000
def sortedA_ren : Go.Shelf.Ren := ⟨fun | 6 => 48 | 8 => 81 | 9 => 82 | 11 => 110 | 13 => 112 | 12 => 111 | 23 => 131 | 24 => 132 | 14 => 122 | 15 => 123 | 16 => 124 | 17 => 125 | 18 => 126 | 19 => 127 | 20 => 128 | 21 => 129 | 22 => 130 | 25 => 135 | 26 => 136 | 27 => 137 | 28 => 138 | 29 => 139 | 30 => 140 | 31 => 141 | n => n, fun | 26 => 3 | 28 => 122 | 24 => 49 | 0 => 0 | 3 => 3 | 37 => 71 | 48 => 185 | 50 => 190 | 4 => 4 | 40 => 223 | 39 => 222 | 45 => 119 | 5 => 5 | 9 => 9 | 51 => 232 | 55 => 236 | 57 => 238 | 58 => 239 | 33 => 168 | n => n, fun | n => n⟩
theorem sortedA : Go.Proofs.SlLaysZI.n6 Tryd.prog sortedA_ren := {
  mixed := by kernel_rfl,
  f6 := ⟨Tryd.f48.name, by decide, Tryd.func48.trans (congrArg some (by kernel_rfl))⟩,
  f8 := ⟨Tryd.f81.name, by decide, Tryd.func81.trans (congrArg some (by kernel_rfl))⟩,
  f11 := ⟨Tryd.f110.name, by decide, Tryd.func110.trans (congrArg some (by kernel_rfl))⟩,
  t0 := Tryd.underlying0,
  a0 := Tryd.isAgg0,
  z0 := Tryd.sizeOf0,
  v0 := Tryd.zeroValue0,
  t24 := Tryd.underlying49,
  a24 := Tryd.isAgg49,
  z24 := Tryd.sizeOf49,
  v24 := Tryd.zeroValue49,
  t26 := Tryd.underlying3,
  a26 := Tryd.isAgg3,
  z26 := Tryd.sizeOf3,
  v26 := Tryd.zeroValue3,
  t28 := Tryd.underlying122,
  a28 := Tryd.isAgg122,
  z28 := Tryd.sizeOf122,
  v28 := Tryd.zeroValue122,
  i26 := by kernel_rfl }

def sortA_ren : Go.Shelf.Ren := ⟨fun | 5 => 82 | 8 => 112 | 7 => 111 | 19 => 131 | 20 => 132 | 10 => 122 | 11 => 123 | 12 => 124 | 13 => 125 | 14 => 126 | 15 => 127 | 16 => 128 | 17 => 129 | 18 => 130 | 30 => 135 | 31 => 136 | 32 => 137 | 33 => 138 | 34 => 139 | 35 => 140 | 40 => 141 | n => n, fun | 23 => 49 | 25 => 3 | 3 => 3 | 32 => 71 | 22 => 49 | 0 => 0 | 44 => 185 | 46 => 190 | 4 => 4 | 36 => 223 | 35 => 222 | 41 => 119 | 5 => 5 | 9 => 9 | 53 => 232 | 57 => 236 | 63 => 238 | 64 => 239 | n => n, fun | n => n⟩
theorem sortA : Go.Proofs.SlLaysM.n5 Tryd.prog sortA_ren := {
  mixed := by kernel_rfl,
  f5 := ⟨Tryd.f82.name, by decide, Tryd.func82.trans (congrArg some (by kernel_rfl))⟩,
  f7 := ⟨Tryd.f111.name, by decide, Tryd.func111.trans (congrArg some (by kernel_rfl))⟩,
  f8 := Tryd.func112.trans (congrArg some (by kernel_rfl)),
  f10 := ⟨Tryd.f122.name, by decide, Tryd.func122.trans (congrArg some (by kernel_rfl))⟩,
  f11 := ⟨Tryd.f123.name, by decide, Tryd.func123.trans (congrArg some (by kernel_rfl))⟩,
  f12 := ⟨Tryd.f124.name, by decide, Tryd.func124.trans (congrArg some (by kernel_rfl))⟩,
  f13 := ⟨Tryd.f125.name, by decide, Tryd.func125.trans (congrArg some (by kernel_rfl))⟩,
  f14 := ⟨Tryd.f126.name, by decide, Tryd.func126.trans (congrArg some (by kernel_rfl))⟩,
  f15 := ⟨Tryd.f127.name, by decide, Tryd.func127.trans (congrArg some (by kernel_rfl))⟩,
  f16 := ⟨Tryd.f128.name, by decide, Tryd.func128.trans (congrArg some (by kernel_rfl))⟩,
  f17 := ⟨Tryd.f129.name, by decide, Tryd.func129.trans (congrArg some (by kernel_rfl))⟩,
  f18 := ⟨Tryd.f130.name, by decide, Tryd.func130.trans (congrArg some (by kernel_rfl))⟩,
  f19 := Tryd.func131.trans (congrArg some (by kernel_rfl)),
  f20 := Tryd.func132.trans (congrArg some (by kernel_rfl)),
  f30 := ⟨Tryd.f135.name, by decide, Tryd.func135.trans (congrArg some (by kernel_rfl))⟩,
  f31 := Tryd.func136.trans (congrArg some (by kernel_rfl)),
  f32 := Tryd.func137.trans (congrArg some (by kernel_rfl)),
  f33 := ⟨Tryd.f138.name, by decide, Tryd.func138.trans (congrArg some (by kernel_rfl))⟩,
  f34 := ⟨Tryd.f139.name, by decide, Tryd.func139.trans (congrArg some (by kernel_rfl))⟩,
  f35 := ⟨Tryd.f140.name, by decide, Tryd.func140.trans (congrArg some (by kernel_rfl))⟩,
  f40 := ⟨Tryd.f141.name, by decide, Tryd.func141.trans (congrArg some (by kernel_rfl))⟩,
  t0 := Tryd.underlying0,
  a0 := Tryd.isAgg0,
  z0 := Tryd.sizeOf0,
  v0 := Tryd.zeroValue0,
  t3 := Tryd.underlying3,
  a3 := Tryd.isAgg3,
  z3 := Tryd.sizeOf3,
  v3 := Tryd.zeroValue3,
  t4 := Tryd.underlying4,
  a4 := Tryd.isAgg4,
  z4 := Tryd.sizeOf4,
  v4 := Tryd.zeroValue4,
  t5 := Tryd.underlying5,
  a5 := Tryd.isAgg5,
  z5 := Tryd.sizeOf5,
  v5 := Tryd.zeroValue5,
  t9 := Tryd.underlying9,
  a9 := Tryd.isAgg9,
  z9 := Tryd.sizeOf9,
  v9 := Tryd.zeroValue9,
  t22 := Tryd.underlying49,
  a22 := Tryd.isAgg49,
  z22 := Tryd.sizeOf49,
  v22 := Tryd.zeroValue49,
  t23 := Tryd.underlying49,
  a23 := Tryd.isAgg49,
  z23 := Tryd.sizeOf49,
  v23 := Tryd.zeroValue49,
  t25 := Tryd.underlying3,
  a25 := Tryd.isAgg3,
  z25 := Tryd.sizeOf3,
  v25 := Tryd.zeroValue3,
  t32 := Tryd.underlying71,
  a32 := Tryd.isAgg71,
  z32 := Tryd.sizeOf71,
  v32 := Tryd.zeroValue71,
  t35 := Tryd.underlying222,
  a35 := Tryd.isAgg222,
  z35 := Tryd.sizeOf222,
  v35 := Tryd.zeroValue222,
  t36 := Tryd.underlying223,
  a36 := Tryd.isAgg223,
  z36 := Tryd.sizeOf223,
  v36 := Tryd.zeroValue223,
  t41 := Tryd.underlying119,
  a41 := Tryd.isAgg119,
  z41 := Tryd.sizeOf119,
  v41 := Tryd.zeroValue119,
  t44 := Tryd.underlying185,
  a44 := Tryd.isAgg185,
  z44 := Tryd.sizeOf185,
  v44 := Tryd.zeroValue185,
  t46 := Tryd.underlying190,
  a46 := Tryd.isAgg190,
  z46 := Tryd.sizeOf190,
  v46 := Tryd.zeroValue190,
  t53 := Tryd.underlying232,
  a53 := Tryd.isAgg232,
  z53 := Tryd.sizeOf232,
  v53 := Tryd.zeroValue232,
  t57 := Tryd.underlying236,
  a57 := Tryd.isAgg236,
  z57 := Tryd.sizeOf236,
  v57 := Tryd.zeroValue236,
  t63 := Tryd.underlying238,
  a63 := Tryd.isAgg238,
  z63 := Tryd.sizeOf238,
  v63 := Tryd.zeroValue238,
  t64 := Tryd.underlying239,
  a64 := Tryd.isAgg239,
  z64 := Tryd.sizeOf239,
  v64 := Tryd.zeroValue239 }

theorem sortsA (m : Nat) : AnyZI.SortsIn Tryd.prog sortedA_ren Fence.wide m :=
  ⟨fun blk off cap ss W hH hblk hsz => callsIn_wide.2 (AnyM.slices_Sort_int sortA blk off cap ss W hH hblk hsz),
   fun p cap W => callsIn_wide.2 (AnyM.slices_Sort_int_none sortA p cap W)⟩
theorem mergeSort_perm_eq {a b : List Int} (h : a.Perm b) : (a.mergeSort fun x y => decide (x ≤ y)) = b.mergeSort fun x y => decide (x ≤ y) := by
  have tr : ∀ a b c : Int, decide (a ≤ b) = true → decide (b ≤ c) = true → decide (a ≤ c) = true := by
    intro a b c; simp only [decide_eq_true_eq]; omega
  have tot : ∀ a b : Int, (decide (a ≤ b) || decide (b ≤ a)) = true := by
    intro a b; simp only [Bool.or_eq_true, decide_eq_true_eq]; omega
  have h1 := List.pairwise_mergeSort tr tot a
  have h2 := List.pairwise_mergeSort tr tot b
  refine List.Perm.eq_of_pairwise ?_ h1 h2 (((List.mergeSort_perm a _).trans h).trans (List.mergeSort_perm b _).symm)
  intro x y _ _ hx hy
  simp only [decide_eq_true_eq] at hx hy
  omega
set_option maxHeartbeats 1000000 in
theorem sorted_spec (r : Nat) (l : List (Int × Int)) {k : Sl → H → Prop} {h : H} (hm : (mpE r l).A h) (hl : l.length < 2 ^ 20) (hne : l ≠ []) (hk : ∀ s h', Ext h h' → SV 1 h' s ((l.map (·.2)).mergeSort fun x y => decide (x ≤ y)) → k s h') :
    call (β := Fv) Prog 49 [reg (⟨some r⟩ : Mp)] (fun t51 => call (β := Sl) Prog 48 [reg (t51 : Fv)] k) h := by
  refine maps_Values_int.ok _ _ _ ?_
  unfold maps_Values_int.b
  refine (Sat.init h).box_ (fun p h1 hs1 hp hx1 => ?_)
  have hm1 : (mpE r l).A h1 := mpE_loc r l h h1 (fun b hb => hx1.same b (by simp only [mpE, List.mem_singleton] at hb; subst hb; exact mpE_lt hm) (by simp)) hm
  have hc := hs1.at_ (i := 0) rfl
  intro w hw
  subst hw
  have hbox : w.cell? ⟨p.block, 0, none⟩ = some (.map (some r)) := by
    have h2 : w.heap[p.block]? = some (.cells #[.map (some r)] 118 (0, 0)) := hc.2
    simp [World.cell?, h2]
  have hseq := values_gives 2 p.block r l w (by omega) hbox hc.lt hm1
  have hlen : l.length ≤ maxLen := by simp only [maxLen]; omega
  have cS := AnyZI.sorted_in sortedA Fence.wide 5 trivial trivial trivial trivial rfl (by omega) (sortsA _) (enters_of Tryd.func82 (by kernel_rfl) rfl) 83 #[.pointer (some ⟨p.block, 0, none⟩)] trivial (enters_of Tryd.func83 (by kernel_rfl) rfl) _ _ hlen (by omega) _ hseq
  have cS2 := callsIn_wide.1 cS
  have hpe : p = ⟨p.block, 0, none⟩ := hc.1
  have goal : Calls Tryd.prog 48 #[Value.func (Fn.func 83) #[] #[Value.pointer (some ⟨p.block, 0, none⟩)]] w fun e w' => ∃ v, e = Ending.returned v ∧ w'.tape = w.tape ∧ w'.os = w.os ∧ w'.output = w.output ∧ (fun v h' => ∃ r : Sl, v = reg r ∧ k r h') v w'.heap := by
    refine Calls.mono (show Calls Tryd.prog 48 _ w _ from cS2) ?_
    rintro e w' ⟨v, ss, rfl, hperm, hrow, _, hb⟩
    refine ⟨v, rfl, hb.tape, hb.os, hb.output, ?_⟩
    have hss : ss.length ≠ 0 := by
      rw [hperm.length_eq]; simpa using hne
    rcases hrow.2 with ⟨_, h0⟩ | ⟨g, cap, cur, rfl, _, hg, hcap, _, hsz, htake⟩
    · exact absurd h0 hss
    · refine ⟨⟨some ⟨g, 0, none⟩, ss.length, cap⟩, rfl, hk _ _ (hx1.trans ⟨hb.size, fun i hi _ => hb.block i hi⟩) ?_⟩
      have hmse := mergeSort_perm_eq hperm
      rw [← hmse]
      refine ⟨.inr ⟨_, rfl, ⟨rfl, cur, _, _, hg, fun i v hi => ?_⟩, ?_⟩, by simp, hcap⟩
      · have e1 : (List.map enc (ss.mergeSort fun x y => decide (x ≤ y))).flatten = (ss.mergeSort fun x y => decide (x ≤ y)).map encZ := by
          generalize (ss.mergeSort fun x y => decide (x ≤ y)) = z
          induction z with
          | nil => rfl
          | cons a z ih => simp only [List.map_cons, List.flatten_cons, ih]; rfl
        rw [e1, ← htake, Nat.mul_one] at hi
        rw [List.getElem?_take] at hi
        split at hi
        · simpa using hi
        · cases hi
      · generalize hz : (ss.mergeSort fun x y => decide (x ≤ y)) = z
        have hzl : z.length = ss.length := by rw [← hz]; simp
        have : ∀ z : List Int, (List.map enc z).flatten.length = z.length := by
          intro z; induction z with
          | nil => rfl
          | cons a z ih => simp only [List.map_cons, List.flatten_cons, List.length_append, List.length_cons, ih]; show 1 + _ = _; omega
        rw [this, hzl, Nat.mul_one]
  rw [hpe]; exact goal
end Go.Proofs.YtimmoekliphobaaDoor
namespace Go.Proofs.YtimmoekliphobaaDoor
open Go Go.Sh
open Go.Sh.Ty (reg)
set_option linter.unusedVariables false
set_option maxRecDepth 100000
set_option maxHeartbeats 4000000
theorem vote_Box_Voters.ok (b : Pt) (round : Int) (k : Int → H → Prop) (h : H) (hh : vote_Box_Voters.b b round k h) : CallsH Prog 17 [reg b, reg round].toArray h fun v h' => ∃ r : Int, v = reg r ∧ k r h' := by
  unfold vote_Box_Voters.b at hh
  refine CallsH.of 28 Tryd.func17 rfl Tryd.ntmps17 rfl (fun w0 => ?_)
  refine CW.seq ?_
  refine CW.region ?_
  refine .val (v_assign (v := reg ((0 : Int) : Int)) rfl) rfl ?_
  refine .nil ?_
  refine QN.then_ ?_
  refine CW.seq ?_
  refine CW.region ?_
  refine .e (e_mkmap rfl hh ?_)
  intro h t7 hh
  refine .val (v_assign (v := reg (t7 : Mp)) rfl) rfl ?_
  refine .nil ?_
  refine QN.then_ ?_
  refine CW.join (fun ρ h => ∃ (ρ' : Env), ρ = setl ρ' [(5, reg (t7 : Mp))] ∧ (vote_Box_Voters.j1 k) t7 h) ?_ ?_
  · refine CW.seq ?_
    refine CW.region ?_
    refine .val (v_move (v := reg (b : Pt)) rfl) rfl ?_
    refine .val (v_ne_nil pt_26 rfl rfl) rfl ?_
    refine .nil ?_
    refine QN.then_ ?_
    refine CW.cond b.isSome rfl (fun hb => ?_) (fun hb => ?_)
    · have hh := hh.1 hb
      refine CW.seq ?_
      refine CW.region ?_
      refine .val (v_move (v := reg (b : Pt)) rfl) rfl ?_
      obtain ⟨p, hp, hh⟩ := hh
      refine .val (v_nilCheck (congrArg Value.pointer hp)) rfl ?_
      refine .val (v_fieldAddr fl_113_0 rfl) rfl ?_
      obtain ⟨t13, ⟨xt13, hxt13, hgt13⟩, hh⟩ := hh
      refine .val (v_ld1 (p := p) 0 na_111 rfl hxt13 hgt13 get_113_votes) rfl ?_
      refine .e (e_rng ([] : List (vote_place × api_Vote)) mt_111 rfl rfl hh ?_)
      intro h t14 hh
      refine .nil ?_
      refine QN.then_ ?_
      refine CW.block ?_
      unfold vote_Box_Voters.l1 at hh
      refine CW.loop (fun (σ0 : Unit) ρ => match σ0 with | _ => ∃ ρ' : Env, ρ = setl ρ' [(1, reg (round : Int)), (5, reg (t7 : Mp)), (14, .pointer (some t14))]) hh ⟨_, setl_eq ⟨rfl, ⟨rfl, ⟨rfl, trivial⟩⟩⟩⟩ ?_
      clear hh
      rintro s1 ⟨⟩ ρ h ⟨ρ', rfl⟩ hh
      refine CW.seq ?_
      refine CW.region ?_
      refine .e (e_nxt rfl rfl hh ?_)
      intro h t15 hh
      refine .val (v_extnx (n := t15) rfl) rfl ?_
      refine .nil ?_
      refine QN.then_ ?_
      refine CW.seq ?_
      refine CW.cond t15.o.isSome rfl (fun hb_1 => ?_) (fun hb_1 => ?_)
      · have hh := hh.1 hb_1
        refine CW.skip ?_
        refine QN.then_ ?_
        refine CW.block ?_
        refine CW.seq ?_
        refine CW.region ?_
        obtain ⟨t17, hxt17, hh⟩ := hh
        refine .val (v_ent (q := (t17 : T2 vote_place api_Vote)) rfl hxt17) rfl ?_
        refine .val (v_extract (v := reg (t17.a : vote_place)) rfl rfl) rfl ?_
        refine box_elim hh (fun at_ hat_ hh => ?_)
        refine .e (e_allocP hat_ zo_115 rfl ?_)
        obtain ⟨xw, hxw, hwxw, hh⟩ := hh
        refine .e (e_storeN (p := at_) (nv := enc (t17.a : vote_place)) 0 rfl rfl rfl sz_115 (one_vote_place _) hxw hwxw (len_vote_place _) (len_vote_place _) rfl (set_115_all xw (t17.a : vote_place)) ?_)
        refine .nil ?_
        refine QN.then_ ?_
        refine CW.seq ?_
        refine CW.region ?_
        refine .val (v_fieldAddr fl_115_1 rfl) rfl ?_
        obtain ⟨t20, ⟨xt20, hxt20, hgt20⟩, hh⟩ := hh
        refine .val (v_ld1 (p := at_) 1 na_3 rfl hxt20 hgt20 get_115_round) rfl ?_
        refine .val (v_move (v := reg (round : Int)) rfl) rfl ?_
        refine .val (v_igeq rfl rfl) rfl ?_
        refine .nil ?_
        refine QN.then_ ?_
        refine CW.cond (decide (round ≤ t20)) rfl (fun hb_2 => ?_) (fun hb_2 => ?_)
        · have hh := hh.1 hb_2
          refine CW.region ?_
          refine .val (v_move (v := reg (t7 : Mp)) rfl) rfl ?_
          refine .val (v_fieldAddr fl_115_2 rfl) rfl ?_
          obtain ⟨t25, ⟨xt25, hxt25, hgt25⟩, hh⟩ := hh
          refine .val (v_ld1 (p := at_) 2 na_3 rfl hxt25 hgt25 get_115_from) rfl ?_
          refine .e (e_mput mt_117 kt_3 rfl rfl rfl hh ?_)
          intro h hh
          refine .nil ?_
          refine QN.blockN ?_
          exact QN.thenJ ⟨(), ⟨_, setl_eq ⟨rfl, ⟨rfl, ⟨rfl, trivial⟩⟩⟩⟩, hh⟩
        · have hh := hh.2 hb_2
          refine CW.skip ?_
          refine QN.blockN ?_
          exact QN.thenJ ⟨(), ⟨_, setl_eq ⟨rfl, ⟨rfl, ⟨rfl, trivial⟩⟩⟩⟩, hh⟩
      · have hh := hh.2 hb_1
        refine CW.exit ?_
        refine QN.thenExit ?_
        refine QN.thenExit ?_
        refine QN.blockExit ?_
        exact QN.thenJ ⟨_, setl_eq ⟨rfl, trivial⟩, hh⟩
    · have hh := hh.2 hb
      refine CW.skip ?_
      exact QN.thenJ ⟨_, setl_eq ⟨rfl, trivial⟩, hh⟩
  · rintro ρ h ⟨ρ', rfl, hh⟩
    unfold vote_Box_Voters.j1 at hh
    refine CW.seq ?_
    refine CW.region ?_
    refine .val (v_move (v := reg (t7 : Mp)) rfl) rfl ?_
    obtain ⟨t27, ⟨xt27, hxt27, hgt27⟩, hh⟩ := hh
    refine .val (v_lenm mt_117 rfl hxt27 hgt27) rfl ?_
    refine .val (v_assign (v := reg (t27 : Int)) rfl) rfl ?_
    refine .nil ?_
    refine QN.then_ ?_
    refine CW.ret ?_
    exact ret1 rfl rfl ⟨(t27 : Int), rfl, hh⟩
end Go.Proofs.YtimmoekliphobaaDoor
namespace Go.Proofs.YtimmoekliphobaaDoor
open Go Go.Sh
open Go.Sh.Ty (reg)
set_option linter.unusedVariables false
set_option maxRecDepth 100000
set_option maxHeartbeats 4000000
theorem vote_Box_Reached.ok (b : Pt) (n : Int) (k : Int → H → Prop) (h : H) (hh : vote_Box_Reached.b b n k h) : CallsH Prog 19 [reg b, reg n].toArray h fun v h' => ∃ r : Int, v = reg r ∧ k r h' := by
  unfold vote_Box_Reached.b at hh
  refine CallsH.of 60 Tryd.func19 rfl Tryd.ntmps19 rfl (fun w0 => ?_)
  refine CW.seq ?_
  refine CW.region ?_
  refine .val (v_assign (v := reg ((0 : Int) : Int)) rfl) rfl ?_
  refine .nil ?_
  refine QN.then_ ?_
  refine CW.seq ?_
  refine CW.region ?_
  refine .e (e_mkmap rfl hh ?_)
  intro h t10 hh
  refine .val (v_assign (v := reg (t10 : Mp)) rfl) rfl ?_
  refine .nil ?_
  refine QN.then_ ?_
  refine CW.join (fun ρ h => ∃ (ρ' : Env), ρ = setl ρ' [(1, reg (n : Int)), (5, reg (t10 : Mp))] ∧ (vote_Box_Reached.j1 k) n t10 h) ?_ ?_
  · refine CW.seq ?_
    refine CW.region ?_
    refine .val (v_move (v := reg (b : Pt)) rfl) rfl ?_
    refine .val (v_ne_nil pt_26 rfl rfl) rfl ?_
    refine .nil ?_
    refine QN.then_ ?_
    refine CW.cond b.isSome rfl (fun hb => ?_) (fun hb => ?_)
    · have hh := hh.1 hb
      refine CW.seq ?_
      refine CW.region ?_
      refine .val (v_move (v := reg (b : Pt)) rfl) rfl ?_
      obtain ⟨p, hp, hh⟩ := hh
      refine .val (v_nilCheck (congrArg Value.pointer hp)) rfl ?_
      refine .val (v_fieldAddr fl_113_0 rfl) rfl ?_
      obtain ⟨t16, ⟨xt16, hxt16, hgt16⟩, hh⟩ := hh
      refine .val (v_ld1 (p := p) 0 na_111 rfl hxt16 hgt16 get_113_votes) rfl ?_
      refine .e (e_rng ([] : List (vote_place × api_Vote)) mt_111 rfl rfl hh ?_)
      intro h t17 hh
      refine .nil ?_
      refine QN.then_ ?_
      refine CW.block ?_
      unfold vote_Box_Reached.l1 at hh
      refine CW.loop (fun (σ0 : Unit) ρ => match σ0 with | _ => ∃ ρ' : Env, ρ = setl ρ' [(1, reg (n : Int)), (5, reg (t10 : Mp)), (17, .pointer (some t17))]) hh ⟨_, setl_eq ⟨rfl, ⟨rfl, ⟨rfl, trivial⟩⟩⟩⟩ ?_
      clear hh
      rintro s1 ⟨⟩ ρ h ⟨ρ', rfl⟩ hh
      refine CW.seq ?_
      refine CW.region ?_
      refine .e (e_nxt rfl rfl hh ?_)
      intro h t18 hh
      refine .val (v_extnx (n := t18) rfl) rfl ?_
      refine .nil ?_
      refine QN.then_ ?_
      refine CW.seq ?_
      refine CW.cond t18.o.isSome rfl (fun hb_1 => ?_) (fun hb_1 => ?_)
      · have hh := hh.1 hb_1
        refine CW.skip ?_
        refine QN.then_ ?_
        refine CW.block ?_
        refine CW.seq ?_
        refine CW.region ?_
        obtain ⟨t20, hxt20, hh⟩ := hh
        refine .val (v_ent (q := (t20 : T2 vote_place api_Vote)) rfl hxt20) rfl ?_
        refine .val (v_extract (v := reg (t20.a : vote_place)) rfl rfl) rfl ?_
        refine box_elim hh (fun at_ hat_ hh => ?_)
        refine .e (e_allocP hat_ zo_115 rfl ?_)
        obtain ⟨xw, hxw, hwxw, hh⟩ := hh
        refine .e (e_storeN (p := at_) (nv := enc (t20.a : vote_place)) 0 rfl rfl rfl sz_115 (one_vote_place _) hxw hwxw (len_vote_place _) (len_vote_place _) rfl (set_115_all xw (t20.a : vote_place)) ?_)
        refine .nil ?_
        refine QN.then_ ?_
        refine CW.seq ?_
        refine CW.region ?_
        refine .val (v_move (v := reg (t10 : Mp)) rfl) rfl ?_
        refine .val (v_fieldAddr fl_115_2 rfl) rfl ?_
        obtain ⟨t25, ⟨xt25, hxt25, hgt25⟩, hh⟩ := hh
        refine .val (v_ld1 (p := at_) 2 na_3 rfl hxt25 hgt25 get_115_from) rfl ?_
        obtain ⟨t26, ⟨xt26, hxt26, hgt26⟩, hh⟩ := hh
        refine .val (v_lookupOk mt_118 kt_3 zv_3 rfl rfl hxt26 hgt26) rfl ?_
        refine .val (v_move (v := reg (t26 : T2 Int Bool)) rfl) rfl ?_
        refine .val (v_extract (v := reg (t26.a : Int)) rfl rfl) rfl ?_
        refine .val (v_extract (v := reg (t26.b : Bool)) rfl rfl) rfl ?_
        refine .val (v_assign (v := reg (t26.a : Int)) rfl) rfl ?_
        refine .val (v_assign (v := reg (t26.b : Bool)) rfl) rfl ?_
        refine .nil ?_
        refine QN.then_ ?_
        refine CW.seq ?_
        refine CW.region ?_
        refine .val (v_move (v := reg (t26.b : Bool)) rfl) rfl ?_
        refine .val (v_not rfl) rfl ?_
        refine .val (v_move (v := reg ((!t26.b) : Bool)) rfl) rfl ?_
        refine .fv 31 rfl rfl rfl (fun hb => v_fieldAddr fl_115_1 rfl) rfl ?_
        obtain ⟨t33, ⟨xt33, hxt33, hgt33⟩, hh⟩ := hh
        refine .fv 31 rfl rfl rfl (fun hb => v_ld1 (p := at_) 1 na_3 (gf hb) hxt33 hgt33 get_115_round) rfl ?_
        refine .fv 31 rfl rfl rfl (fun hb => v_move (v := reg (t26.a : Int)) rfl) rfl ?_
        refine .fv 31 rfl rfl rfl (fun hb => v_igtr (gf hb) (gf hb)) rfl ?_
        refine .val (v_pick_or rfl rfl (fun hb => gf hb)) rfl ?_
        refine .nil ?_
        refine QN.then_ ?_
        refine CW.cond ((!t26.b) || (decide (t26.a < t33))) rfl (fun hb_2 => ?_) (fun hb_2 => ?_)
        · have hh := hh.1 hb_2
          refine CW.region ?_
          refine .val (v_move (v := reg (t10 : Mp)) rfl) rfl ?_
          refine .val (v_fieldAddr fl_115_2 rfl) rfl ?_
          obtain ⟨t39, ⟨xt39, hxt39, hgt39⟩, hh⟩ := hh
          refine .val (v_ld1 (p := at_) 2 na_3 rfl hxt39 hgt39 get_115_from) rfl ?_
          refine .val (v_fieldAddr fl_115_1 rfl) rfl ?_
          obtain ⟨t41, ⟨xt41, hxt41, hgt41⟩, hh⟩ := hh
          refine .val (v_ld1 (p := at_) 1 na_3 rfl hxt41 hgt41 get_115_round) rfl ?_
          refine .e (e_mput mt_118 kt_3 rfl rfl rfl hh ?_)
          intro h hh
          refine .nil ?_
          refine QN.blockN ?_
          exact QN.thenJ ⟨(), ⟨_, setl_eq ⟨rfl, ⟨rfl, ⟨rfl, trivial⟩⟩⟩⟩, hh⟩
        · have hh := hh.2 hb_2
          refine CW.skip ?_
          refine QN.blockN ?_
          exact QN.thenJ ⟨(), ⟨_, setl_eq ⟨rfl, ⟨rfl, ⟨rfl, trivial⟩⟩⟩⟩, hh⟩
      · have hh := hh.2 hb_1
        refine CW.exit ?_
        refine QN.thenExit ?_
        refine QN.thenExit ?_
        refine QN.blockExit ?_
        exact QN.thenJ ⟨_, setl_eq ⟨rfl, ⟨rfl, trivial⟩⟩, hh⟩
    · have hh := hh.2 hb
      refine CW.skip ?_
      exact QN.thenJ ⟨_, setl_eq ⟨rfl, ⟨rfl, trivial⟩⟩, hh⟩
  · rintro ρ h ⟨ρ', rfl, hh⟩
    unfold vote_Box_Reached.j1 at hh
    refine CW.seq ?_
    refine CW.join (fun ρ h => ∃ (ρ' : Env) (t49 : Bool), ρ = setl ρ' [(1, reg (n : Int)), (5, reg (t10 : Mp)), (49, reg (t49 : Bool))] ∧ (vote_Box_Reached.j2 k) n t10 t49 h) ?_ ?_
    · refine CW.region ?_
      refine .val (v_move (v := reg (n : Int)) rfl) rfl ?_
      refine .val (v_ilss rfl rfl) rfl ?_
      refine .val (v_move (v := reg ((decide (n < (1 : Int))) : Bool)) rfl) rfl ?_
      refine ifb_cases hh (fun hb_3 hh => ?_) (fun hb_3 hh => ?_)
      · refine .no 44 rfl (congrArg Value.bool hb_3) rfl rfl ?_
        refine .no 44 rfl (congrArg Value.bool hb_3) rfl rfl ?_
        refine .no 44 rfl (congrArg Value.bool hb_3) rfl rfl ?_
        refine .no 44 rfl (congrArg Value.bool hb_3) rfl rfl ?_
        refine .val (v_pickT (v := reg (true : Bool)) rfl hb_3 rfl) rfl ?_
        refine .nil ?_
        exact QN.thenJ ⟨_, true, setl_eq ⟨rfl, ⟨rfl, ⟨rfl, trivial⟩⟩⟩, hh⟩
      · refine .yv 44 rfl (congrArg Value.bool hb_3) rfl (v_move (v := reg (n : Int)) rfl) rfl ?_
        refine .yv 44 rfl (congrArg Value.bool hb_3) rfl (v_move (v := reg (t10 : Mp)) rfl) rfl ?_
        obtain ⟨t47, ⟨xt47, hxt47, hgt47⟩, hh⟩ := hh
        refine .yv 44 rfl (congrArg Value.bool hb_3) rfl (v_lenm mt_118 rfl hxt47 hgt47) rfl ?_
        refine .yv 44 rfl (congrArg Value.bool hb_3) rfl (v_igtr rfl rfl) rfl ?_
        refine .val (v_pickF (v := reg ((decide (t47 < n)) : Bool)) rfl hb_3 rfl) rfl ?_
        refine .nil ?_
        exact QN.thenJ ⟨_, (decide (t47 < n)), setl_eq ⟨rfl, ⟨rfl, ⟨rfl, trivial⟩⟩⟩, hh⟩
    · rintro ρ h ⟨ρ', t49, rfl, hh⟩
      unfold vote_Box_Reached.j2 at hh
      refine CW.cond t49 rfl (fun hb_4 => ?_) (fun hb_4 => ?_)
      · have hh := hh.1 hb_4
        refine CW.seq ?_
        refine CW.region ?_
        refine .val (v_assign (v := reg ((-1 : Int) : Int)) rfl) rfl ?_
        refine .nil ?_
        refine QN.then_ ?_
        refine CW.ret ?_
        refine QN.thenRet ?_
        exact ret1 rfl rfl ⟨((-1 : Int) : Int), rfl, hh⟩
      · have hh := hh.2 hb_4
        refine CW.skip ?_
        refine QN.then_ ?_
        refine CW.seq ?_
        refine CW.region ?_
        refine .val (v_move (v := reg (t10 : Mp)) rfl) rfl ?_
        refine .e (e_callP fn_49 rfl rfl hh ?_)
        intro h t51 hh
        refine .e (e_callP fn_48 rfl rfl hh ?_)
        intro h t52 hh
        refine .val (v_assign (v := reg (t52 : Sl)) rfl) rfl ?_
        refine .nil ?_
        refine QN.then_ ?_
        refine CW.seq ?_
        refine CW.region ?_
        refine .val (v_move (v := reg (t52 : Sl)) rfl) rfl ?_
        refine .val (v_move (v := reg (t52 : Sl)) rfl) rfl ?_
        refine .val (v_len_sl (sl_49).1 rfl) rfl ?_
        refine .val (v_move (v := reg (n : Int)) rfl) rfl ?_
        refine .val (v_isub rfl rfl) rfl ?_
        obtain ⟨t58, ht58, hh⟩ := hh
        refine .val (v_idx_slP sl_49 rfl rfl ht58.1 ht58.2.1 ht58.2.2) rfl ?_
        obtain ⟨t59, ⟨xt59, hxt59, hgt59⟩, hh⟩ := hh
        refine .val (v_ld1 (p := t58) 0 na_3 rfl hxt59 hgt59 get_3_all) rfl ?_
        refine .val (v_assign (v := reg (t59 : Int)) rfl) rfl ?_
        refine .nil ?_
        refine QN.then_ ?_
        refine CW.ret ?_
        exact ret1 rfl rfl ⟨(t59 : Int), rfl, hh⟩
end Go.Proofs.YtimmoekliphobaaDoor
namespace Go.Proofs.YtimmoekliphobaaDoor
open Go Go.Sh
open Go.Sh.Ty (reg)
set_option linter.unusedVariables false
set_option maxRecDepth 100000

/-! keys of lists that maps stand for -/
section
variable {κ ν : Type} [DecidableEq κ]
theorem mins_mem (k : κ) (v : ν) : ∀ (l : List (κ × ν)) (x : κ), x ∈ (mins l k v).map (·.1) ↔ x = k ∨ x ∈ l.map (·.1)
  | [], x => by simp [mins]
  | p :: l, x => by
    unfold mins
    by_cases hc : k = p.1
    · subst hc
      simp
    · rw [if_neg hc]
      simp only [List.map_cons, List.mem_cons, mins_mem k v l x]
      constructor
      · rintro (h | h | h)
        · exact .inr (.inl h)
        · exact .inl h
        · exact .inr (.inr h)
      · rintro (h | h | h)
        · exact .inr (.inl h)
        · exact .inl h
        · exact .inr (.inr h)
theorem mins_nodup (k : κ) (v : ν) : ∀ (l : List (κ × ν)), (l.map (·.1)).Nodup → ((mins l k v).map (·.1)).Nodup
  | [], _ => by simp [mins]
  | p :: l, h => by
    simp only [List.map_cons, List.nodup_cons] at h
    unfold mins
    by_cases hc : k = p.1
    · subst hc; simpa using h
    · rw [if_neg hc]
      simp only [List.map_cons, List.nodup_cons]
      refine ⟨fun hm => ?_, mins_nodup k v l h.2⟩
      rcases (mins_mem k v l p.1).1 hm with h1 | h1
      · exact hc h1.symm
      · exact h.1 h1
theorem mfind_mins (k : κ) (v : ν) : ∀ (l : List (κ × ν)) (x : κ), mfind (mins l k v) x = if x = k then some v else mfind l x
  | [], x => by by_cases h : x = k <;> simp [mins, mfind, h]
  | p :: l, x => by
    unfold mins
    by_cases hc : k = p.1
    · subst hc
      by_cases h : x = p.1
      · simp [mfind, h]
      · simp [mfind, h]
    · rw [if_neg hc]
      by_cases h : x = p.1
      · have : x ≠ k := fun e => hc (by rw [← e, h])
        subst h
        rw [if_neg this]
        simp [mfind]
      · have h1 : mfind (p :: mins l k v) x = mfind (mins l k v) x := by simp [mfind, h]
        have h2 : mfind (p :: l) x = mfind l x := by simp [mfind, h]
        rw [h1, h2]; exact mfind_mins k v l x
theorem mfind_mem {l : List (κ × ν)} {k : κ} {v : ν} (h : mfind l k = some v) : (k, v) ∈ l := by
  unfold mfind at h
  rw [Option.map_eq_some_iff] at h
  obtain ⟨p, hp, rfl⟩ := h
  have h1 := List.mem_of_find?_eq_some hp
  have h2 := List.find?_some hp
  simp only [decide_eq_true_eq] at h2
  subst h2; exact h1
theorem mfind_none {l : List (κ × ν)} {k : κ} : mfind l k = none ↔ k ∉ l.map (·.1) := by
  unfold mfind
  rw [Option.map_eq_none_iff, List.find?_eq_none]
  simp only [decide_eq_true_eq, List.mem_map, not_exists, not_and]
  exact ⟨fun h p hp e => h p hp e.symm, fun h p hp e => h p hp e.symm⟩
theorem mfind_of_mem {l : List (κ × ν)} {k : κ} {v : ν} (hn : (l.map (·.1)).Nodup) (h : (k, v) ∈ l) : mfind l k = some v := by
  induction l with
  | nil => simp at h
  | cons p l ih =>
    simp only [List.map_cons, List.nodup_cons] at hn
    rcases List.mem_cons.1 h with h | h
    · subst h; simp [mfind]
    · have hne : k ≠ p.1 := fun e => hn.1 (by rw [← e]; exact List.mem_map.2 ⟨(k, v), h, rfl⟩)
      have : mfind (p :: l) k = mfind l k := by simp [mfind, hne]
      rw [this]; exact ih hn.2 h
end

/-- who voted in a round or later: a list without doubles -/
theorem Voters_nil_spec (round : Int) {k : Int → H → Prop} {h : H} (hk : ∀ h', Ext h h' → k 0 h') : vote_Box_Voters.b none round k h := by
  unfold vote_Box_Voters.b
  refine (Sat.init h).mkmap_ (κ := Int) (ν := Bool) (fun r h1 hs1 hr => ?_)
  refine ifb_i (fun hc => by cases hc) (fun _ => ?_)
  unfold vote_Box_Voters.j1
  refine hs1.mget_ 0 rfl ?_
  exact hk _ hs1.fr
theorem Voters_spec (p : Addr) (r : Nat) (l : Vts) (round : Int) {k : Int → H → Prop} {h : H} (hb : BoxA p r l h)
    (hk : ∀ (ks : List Int) h', Ext h h' → ks.Nodup → (∀ x, x ∈ ks ↔ ∃ q ∈ l, round ≤ q.1.round ∧ q.1.from_ = x) → k (ks.length : Int) h') : vote_Box_Voters.b (some p) round k h := by
  unfold vote_Box_Voters.b
  have hrlt := mpE_lt hb.2.1
  refine (Sat.init h).mkmap_ (κ := Int) (ν := Bool) (fun sn h1 hs1 hr => ?_)
  refine ifb_i (fun _ => ?_) (fun hc => by cases hc)
  refine nn_i ?_
  refine ld_old (hb.1.at_.ext hs1.fr) ?_
  refine hs1.rng_ (mpE_is (hb.ext hs1.fr).2.1) (fun it h2 o hs2 hR2 hx2 => ?_)
  unfold vote_Box_Voters.l1
  refine ⟨fun _ h' => ∃ (ks : List (Int × Bool)) (o : Obj) (done todo : Vts), Sat h [] h' [rawE it.block o, mpE sn ks] ∧ Rng h' it ⟨some r⟩ todo ∧ (done ++ todo).Perm l ∧ (ks.map (·.1)).Nodup ∧ ∀ x, x ∈ ks.map (·.1) ↔ ∃ q ∈ done, round ≤ q.1.round ∧ q.1.from_ = x,
    fun _ h' => tlen h' it, ⟨[], o, [], l, hs2, hR2, by simp, by simp, by simp⟩, ?_⟩
  clear hs1 hs2 hR2 hx2
  rintro ⟨⟩ h3 ⟨ks, o, done, todo, hs3, hR3, hp3, hn3, hk3⟩
  have ht3 := Rng_tlen hR3
  refine hs3.nxt_ 0 rfl hR3 (fun h0 => ?_) (fun q rest h4 o' hq hs4 hR4 hE4 => ?_)
  · refine ifb_i (fun hc => by cases hc) (fun _ => ?_)
    unfold vote_Box_Voters.j1
    refine hs3.mget_ 1 rfl ?_
    subst h0
    rw [List.append_nil] at hp3
    have := hk (ks.map (·.1)) _ hs3.fr hn3 (fun x => by
      rw [hk3]
      exact ⟨fun ⟨q, hq, h⟩ => ⟨q, hp3.mem_iff.1 hq, h⟩, fun ⟨q, hq, h⟩ => ⟨q, hp3.mem_iff.2 hq, h⟩⟩)
    simpa using this
  · refine ifb_i (fun _ => ?_) (fun hc => by cases hc)
    refine ⟨⟨q.1, q.2⟩, ⟨_, hE4⟩, ?_⟩
    have hlen : rest.length < todo.length := by rw [hq.length_eq]; simp
    have hdone : ((done ++ [q]) ++ rest).Perm l := by
      refine List.Perm.trans ?_ hp3
      rw [List.append_assoc]
      exact List.Perm.append_left _ hq.symm
    refine hs4.box_ (fun at_ h5 hs5 _ _ => ?_)
    refine hs5.st_ 0 rfl len_vote_place (fun h6 hs6 _ => ?_)
    refine hs6.ld_ 0 rfl ?_
    have tr : ∀ {h' L'}, Sat h [] h' L' → h'[it.block]? = some o' → Rng h' it ⟨some r⟩ rest := fun {h' L'} hs' hi' => Rng_tr hR4 (by
        rw [hi']; exact (hs4.at_ (i := 0) rfl).symm) (fun r' hr' => by
        obtain rfl : r = r' := Option.some.inj hr'
        rw [hs'.fr.same r hrlt (by simp), hs4.fr.same r hrlt (by simp)])
    refine ifb_i (fun hc => ?_) (fun hc => ?_)
    · have hc' : round ≤ q.1.round := by simpa using hc
      refine hs6.ld_ 0 rfl ?_
      refine hs6.mput_ 2 rfl (fun h7 hs7 => ?_)
      have hR7 := tr hs7 (hs7.at_ (i := 1) rfl)
      refine ⟨⟨_, o', done ++ [q], rest, hs7.drop (List.sublist_cons_self _ _), hR7, hdone, mins_nodup _ _ _ hn3, fun x => ?_⟩, by dsimp only; rw [Rng_tlen hR7, ht3]; exact hlen⟩
      rw [mins_mem, hk3]
      constructor
      · rintro (rfl | ⟨q', hq', h⟩)
        · exact ⟨q, by simp, hc', rfl⟩
        · exact ⟨q', by simp [hq'], h⟩
      · rintro ⟨q', hq', h⟩
        simp only [List.mem_append, List.mem_singleton] at hq'
        rcases hq' with hq' | rfl
        · exact .inr ⟨q', hq', h⟩
        · exact .inl h.2.symm
    · have hc' : ¬ round ≤ q.1.round := by simpa using hc
      have hR7 := tr hs6 (hs6.at_ (i := 1) rfl)
      refine ⟨⟨ks, o', done ++ [q], rest, hs6.drop (List.sublist_cons_self _ _), hR7, hdone, hn3, fun x => ?_⟩, by dsimp only; rw [Rng_tlen hR7, ht3]; exact hlen⟩
      rw [hk3]
      constructor
      · rintro ⟨q', hq', h⟩; exact ⟨q', by simp [hq'], h⟩
      · rintro ⟨q', hq', h⟩
        simp only [List.mem_append, List.mem_singleton] at hq'
        rcases hq' with hq' | rfl
        · exact ⟨q', hq', h⟩
        · exact absurd h.1 hc'
end Go.Proofs.YtimmoekliphobaaDoor
namespace Go.Proofs.YtimmoekliphobaaDoor
open Go Go.Sh
open Go.Sh.Ty (reg)
set_option linter.unusedVariables false
set_option maxRecDepth 100000

theorem mins_len {κ ν : Type} [DecidableEq κ] (k : κ) (v : ν) : ∀ l : List (κ × ν), (mins l k v).length ≤ l.length + 1
  | [] => by simp [mins]
  | p :: l => by
    unfold mins
    split
    · simp
    · have := mins_len k v l; simp; omega
/-- the last round of each member -/
structure LastOf (ks : List (Int × Int)) (done : Vts) : Prop where
  nodup : (ks.map (·.1)).Nodup
  len : ks.length ≤ done.length
  no : ∀ x, mfind ks x = none ↔ ∀ q ∈ done, q.1.from_ ≠ x
  yes : ∀ x y, mfind ks x = some y → (∃ q ∈ done, q.1.from_ = x ∧ q.1.round = y) ∧ ∀ q ∈ done, q.1.from_ = x → q.1.round ≤ y
theorem LastOf.perm {ks : List (Int × Int)} {a b : Vts} (h : LastOf ks a) (hp : a.Perm b) : LastOf ks b :=
  ⟨h.nodup, by rw [← hp.length_eq]; exact h.len, fun x => by rw [h.no]; exact ⟨fun h q hq => h q (hp.mem_iff.2 hq), fun h q hq => h q (hp.mem_iff.1 hq)⟩,
   fun x y hy => by
    obtain ⟨⟨q, hq, h1⟩, h2⟩ := h.yes x y hy
    exact ⟨⟨q, hp.mem_iff.1 hq, h1⟩, fun q hq => h2 q (hp.mem_iff.2 hq)⟩⟩
theorem LastOf.put {ks : List (Int × Int)} {done : Vts} (h : LastOf ks done) (q : vote_place × api_Vote) (hq : ∀ y, mfind ks q.1.from_ = some y → y < q.1.round) : LastOf (mins ks q.1.from_ q.1.round) (done ++ [q]) := by
  refine ⟨mins_nodup _ _ _ h.nodup, by have := mins_len q.1.from_ q.1.round ks; have := h.len; simp; omega, fun x => ?_, fun x y hy => ?_⟩
  · rw [mfind_mins]
    by_cases hx : x = q.1.from_
    · rw [if_pos hx]
      exact ⟨fun h0 => (by cases h0), fun h0 => absurd hx.symm (h0 q (by simp))⟩
    · rw [if_neg hx, h.no]
      constructor
      · intro h0 q' hq'
        simp only [List.mem_append, List.mem_singleton] at hq'
        rcases hq' with hq' | rfl
        · exact h0 q' hq'
        · exact fun e => hx e.symm
      · exact fun h0 q' hq' => h0 q' (by simp [hq'])
  · rw [mfind_mins] at hy
    by_cases hx : x = q.1.from_
    · rw [if_pos hx] at hy
      obtain rfl := Option.some.inj hy
      refine ⟨⟨q, by simp, hx.symm, rfl⟩, fun q' hq' hf => ?_⟩
      simp only [List.mem_append, List.mem_singleton] at hq'
      rcases hq' with hq' | rfl
      · cases hm : mfind ks q.1.from_ with
        | none => exact absurd (hf.trans hx) ((h.no _).1 hm q' hq')
        | some y => have := (h.yes _ _ hm).2 q' hq' (hf.trans hx); have := hq y hm; omega
      · omega
    · rw [if_neg hx] at hy
      obtain ⟨⟨q', hq', h1⟩, h2⟩ := h.yes x y hy
      refine ⟨⟨q', by simp [hq'], h1⟩, fun q' hq' hf => ?_⟩
      simp only [List.mem_append, List.mem_singleton] at hq'
      rcases hq' with hq' | rfl
      · exact h2 q' hq' hf
      · exact absurd hf.symm hx
theorem LastOf.skip {ks : List (Int × Int)} {done : Vts} (h : LastOf ks done) (q : vote_place × api_Vote) {y : Int} (hy : mfind ks q.1.from_ = some y) (hq : q.1.round ≤ y) : LastOf ks (done ++ [q]) := by
  refine ⟨h.nodup, by have := h.len; simp; omega, fun x => ?_, fun x z hz => ?_⟩
  · rw [h.no]
    constructor
    · intro h0 q' hq'
      simp only [List.mem_append, List.mem_singleton] at hq'
      rcases hq' with hq' | rfl
      · exact h0 q' hq'
      · intro e
        rw [e] at hy
        rw [(h.no x).2 h0] at hy; cases hy
    · exact fun h0 q' hq' => h0 q' (by simp [hq'])
  · obtain ⟨⟨q', hq', h1⟩, h2⟩ := h.yes x z hz
    refine ⟨⟨q', by simp [hq'], h1⟩, fun q' hq' hf => ?_⟩
    simp only [List.mem_append, List.mem_singleton] at hq'
    rcases hq' with hq' | rfl
    · exact h2 q' hq' hf
    · rw [hf, hz] at hy; obtain rfl := Option.some.inj hy; exact hq
def reachedF (ks : List (Int × Int)) (n : Int) : Int := if n < 1 ∨ (ks.length : Int) < n then -1 else ((ks.map (·.2)).mergeSort fun x y => decide (x ≤ y)).getD (ks.length - n).toNat 0
theorem Reached_nil_spec (n : Int) {k : Int → H → Prop} {h : H} (hk : ∀ h', Ext h h' → k (-1) h') : vote_Box_Reached.b none n k h := by
  unfold vote_Box_Reached.b
  refine (Sat.init h).mkmap_ (κ := Int) (ν := Int) (fun r h1 hs1 hr => ?_)
  refine ifb_i (fun hc => by cases hc) (fun _ => ?_)
  unfold vote_Box_Reached.j1
  refine ifb_i (fun hc => ?_) (fun hc => ?_)
  · unfold vote_Box_Reached.j2
    exact ifb_i (fun _ => hk _ hs1.fr) (fun hc => by cases hc)
  · have hn : ¬ n < 1 := by simpa using hc
    refine hs1.mget_ 0 rfl ?_
    unfold vote_Box_Reached.j2
    exact ifb_i (fun _ => hk _ hs1.fr) (fun hc => by simp at hc; omega)
theorem Reached_spec (p : Addr) (r : Nat) (l : Vts) (n : Int) {k : Int → H → Prop} {h : H} (hb : BoxA p r l h) (hl : l.length < 2 ^ 20)
    (hk : ∀ (ks : List (Int × Int)) h', Ext h h' → LastOf ks l → k (reachedF ks n) h') : vote_Box_Reached.b (some p) n k h := by
  unfold vote_Box_Reached.b
  have hrlt := mpE_lt hb.2.1
  refine (Sat.init h).mkmap_ (κ := Int) (ν := Int) (fun sn h1 hs1 hr => ?_)
  refine ifb_i (fun _ => ?_) (fun hc => by cases hc)
  refine nn_i ?_
  refine ld_old (hb.1.at_.ext hs1.fr) ?_
  refine hs1.rng_ (mpE_is (hb.ext hs1.fr).2.1) (fun it h2 o hs2 hR2 hx2 => ?_)
  unfold vote_Box_Reached.l1
  refine ⟨fun _ h' => ∃ (ks : List (Int × Int)) (o : Obj) (done todo : Vts), Sat h [] h' [rawE it.block o, mpE sn ks] ∧ Rng h' it ⟨some r⟩ todo ∧ (done ++ todo).Perm l ∧ LastOf ks done,
    fun _ h' => tlen h' it, ⟨[], o, [], l, hs2, hR2, by simp, ⟨by simp, by simp, by simp [mfind], by simp [mfind]⟩⟩, ?_⟩
  clear hs1 hs2 hR2 hx2
  rintro ⟨⟩ h3 ⟨ks, o, done, todo, hs3, hR3, hp3, hL3⟩
  have ht3 := Rng_tlen hR3
  refine hs3.nxt_ 0 rfl hR3 (fun h0 => ?_) (fun q rest h4 o' hq hs4 hR4 hE4 => ?_)
  · refine ifb_i (fun hc => by cases hc) (fun _ => ?_)
    subst h0
    rw [List.append_nil] at hp3
    have hL := hL3.perm hp3
    unfold vote_Box_Reached.j1
    refine ifb_i (fun hc => ?_) (fun hc => ?_)
    · have hn : n < 1 := by simpa using hc
      unfold vote_Box_Reached.j2
      refine ifb_i (fun _ => ?_) (fun hc => by cases hc)
      have := hk ks _ hs3.fr hL
      unfold reachedF at this
      rw [if_pos (.inl hn)] at this
      exact this
    · have hn : ¬ n < 1 := by simpa using hc
      refine hs3.mget_ 1 rfl ?_
      unfold vote_Box_Reached.j2
      refine ifb_i (fun hc2 => ?_) (fun hc2 => ?_)
      · have hn2 : (ks.length : Int) < n := by simpa using hc2
        have := hk ks _ hs3.fr hL
        unfold reachedF at this
        rw [if_pos (.inr hn2)] at this
        exact this
      · have hn2 : ¬ (ks.length : Int) < n := by simpa using hc2
        have hkl : ks.length < 2 ^ 20 := by have := hL.len; omega
        have hne : ks ≠ [] := by intro h0; subst h0; simp at hn2; omega
        refine sorted_spec sn ks (hs3.at_ (i := 1) rfl) hkl hne (fun s h4 hx4 hv4 => ?_)
        have hs4 := hs3.ext hx4
        have hsl : s.len = ks.length := by rw [hv4.2.1]; simp
        have e1 : isub (s.len : Int) n = ks.length - n := by rw [isub_eq (by omega) (by omega)]; omega
        rw [e1]
        have hlt : (ks.length - n).toNat < ((ks.map (·.2)).mergeSort fun x y => decide (x ≤ y)).length := by simp; omega
        refine sidx_ld len_i hv4 (by omega) (x := ((ks.map (·.2)).mergeSort fun x y => decide (x ≤ y)).getD (ks.length - n).toNat 0) ?_ ?_
        · rw [List.getD_eq_getElem?_getD, List.getElem?_eq_getElem hlt]; rfl
        · have := hk ks _ hs4.fr hL
          unfold reachedF at this
          rw [if_neg (by omega)] at this
          exact this
  · refine ifb_i (fun _ => ?_) (fun hc => by cases hc)
    refine ⟨⟨q.1, q.2⟩, ⟨_, hE4⟩, ?_⟩
    have hlen : rest.length < todo.length := by rw [hq.length_eq]; simp
    have hdone : ((done ++ [q]) ++ rest).Perm l := by
      refine List.Perm.trans ?_ hp3
      rw [List.append_assoc]
      exact List.Perm.append_left _ hq.symm
    have tr : ∀ {h' L'}, Sat h [] h' L' → h'[it.block]? = some o' → Rng h' it ⟨some r⟩ rest := fun {h' L'} hs' hi' => Rng_tr hR4 (by
        rw [hi']; exact (hs4.at_ (i := 0) rfl).symm) (fun r' hr' => by
        obtain rfl : r = r' := Option.some.inj hr'
        rw [hs'.fr.same r hrlt (by simp), hs4.fr.same r hrlt (by simp)])
    refine hs4.box_ (fun at_ h5 hs5 _ _ => ?_)
    refine hs5.st_ 0 rfl len_vote_place (fun h6 hs6 _ => ?_)
    refine hs6.ld_ 0 rfl ?_
    refine hs6.mget_ 2 rfl ?_
    refine hs6.ld_ 0 rfl ?_
    show ifb ((!(mlook (0 : Int) ks q.1.from_).b) || decide ((mlook (0 : Int) ks q.1.from_).a < q.1.round)) _ _ h6
    refine ifb_i (fun hc => ?_) (fun hc => ?_)
    · refine hs6.ld_ 0 rfl ?_
      refine hs6.ld_ 0 rfl ?_
      refine hs6.mput_ 2 rfl (fun h7 hs7 => ?_)
      have hR7 := tr hs7 (hs7.at_ (i := 1) rfl)
      refine ⟨⟨_, o', done ++ [q], rest, hs7.drop (List.sublist_cons_self _ _), hR7, hdone, hL3.put q (fun y hy => ?_)⟩, by dsimp only; rw [Rng_tlen hR7, ht3]; exact hlen⟩
      simpa [mlook, hy] using hc
    · have hR7 := tr hs6 (hs6.at_ (i := 1) rfl)
      cases hm : mfind ks q.1.from_ with
      | none => simp [mlook, hm] at hc
      | some y =>
        have hc' : ¬ y < q.1.round := by simpa [mlook, hm] using hc
        exact ⟨⟨ks, o', done ++ [q], rest, hs6.drop (List.sublist_cons_self _ _), hR7, hdone, hL3.skip q hm (by omega)⟩, by dsimp only; rw [Rng_tlen hR7, ht3]; exact hlen⟩
end Go.Proofs.YtimmoekliphobaaDoor
namespace Go.Proofs.YtimmoekliphobaaDoor
open Go Go.Sh
open Go.Sh.Ty (reg)
set_option linter.unusedVariables false
set_option maxRecDepth 100000
set_option maxHeartbeats 4000000
theorem slices_Compare_byte.ok (s1v : Sl) (s2v : Sl) (k : Int → H → Prop) (h : H) (hh : slices_Compare_byte.b s1v s2v k h) : CallsH Prog 52 [reg s1v, reg s2v].toArray h fun v h' => ∃ r : Int, v = reg r ∧ k r h' := by
  unfold slices_Compare_byte.b at hh
  refine CallsH.of 36 Tryd.func52 rfl Tryd.ntmps52 rfl (fun w0 => ?_)
  refine CW.seq ?_
  refine CW.region ?_
  refine .val (v_assign (v := reg ((0 : Int) : Int)) rfl) rfl ?_
  refine .nil ?_
  refine QN.then_ ?_
  refine CW.join (fun ρ h => ∃ (ρ' : Env), ρ = setl ρ' [(0, reg (s1v : Sl)), (1, reg (s2v : Sl))] ∧ (slices_Compare_byte.j1 k) s1v s2v h) ?_ ?_
  · refine CW.seq ?_
    refine CW.region ?_
    refine .val (v_move (v := reg (s1v : Sl)) rfl) rfl ?_
    refine .val (v_len_sl (sl_130).1 rfl) rfl ?_
    refine .val (v_move (v := reg ((0 : Int) : Int)) rfl) rfl ?_
    refine .nil ?_
    refine QN.then_ ?_
    refine CW.block ?_
    unfold slices_Compare_byte.l1 at hh
    refine CW.loop (fun (σ0 : Int) ρ => match σ0 with | t11 => ∃ ρ' : Env, ρ = setl ρ' [(0, reg (s1v : Sl)), (1, reg (s2v : Sl)), (9, reg (s1v : Sl)), (10, reg ((s1v.len : Int) : Int)), (11, reg (t11 : Int))]) hh ⟨_, setl_eq ⟨rfl, ⟨rfl, ⟨rfl, ⟨rfl, ⟨rfl, trivial⟩⟩⟩⟩⟩⟩ ?_
    clear hh
    rintro s1 t11 ρ h ⟨ρ', rfl⟩ hh
    refine CW.seq ?_
    refine CW.region ?_
    refine .val (v_ilss rfl rfl) rfl ?_
    refine .nil ?_
    refine QN.then_ ?_
    refine CW.seq ?_
    refine CW.cond (decide (t11 < (s1v.len : Int))) rfl (fun hb => ?_) (fun hb => ?_)
    · have hh := hh.1 hb
      refine CW.skip ?_
      refine QN.then_ ?_
      refine CW.seq ?_
      refine CW.block ?_
      refine CW.seq ?_
      refine CW.region ?_
      refine .val (v_move (v := reg (t11 : Int)) rfl) rfl ?_
      obtain ⟨t14, ht14, hh⟩ := hh
      refine .val (v_idx_slP sl_130 rfl rfl ht14.1 ht14.2.1 ht14.2.2) rfl ?_
      obtain ⟨t15, ⟨xt15, hxt15, hgt15⟩, hh⟩ := hh
      refine .val (v_ld1 (p := t14) 0 na_5 rfl hxt15 hgt15 get_5_all) rfl ?_
      refine .val (v_assign (v := reg (t11 : Int)) rfl) rfl ?_
      refine .val (v_assign (v := reg (t15 : UInt8)) rfl) rfl ?_
      refine .nil ?_
      refine QN.then_ ?_
      refine CW.seq ?_
      refine CW.seq ?_
      refine CW.region ?_
      refine .val (v_move (v := reg (t11 : Int)) rfl) rfl ?_
      refine .val (v_move (v := reg (s2v : Sl)) rfl) rfl ?_
      refine .val (v_len_sl (sl_130).1 rfl) rfl ?_
      refine .val (v_igeq rfl rfl) rfl ?_
      refine .nil ?_
      refine QN.then_ ?_
      refine CW.cond (decide ((s2v.len : Int) ≤ t11)) rfl (fun hb_1 => ?_) (fun hb_1 => ?_)
      · have hh := hh.1 hb_1
        refine CW.seq ?_
        refine CW.region ?_
        refine .val (v_assign (v := reg ((1 : Int) : Int)) rfl) rfl ?_
        refine .nil ?_
        refine QN.then_ ?_
        refine CW.ret ?_
        refine QN.thenRet ?_
        refine QN.blockRet ?_
        refine QN.thenRet ?_
        refine QN.thenRet ?_
        refine QN.blockRet ?_
        refine QN.thenRet ?_
        exact ret1 rfl rfl ⟨((1 : Int) : Int), rfl, hh⟩
      · have hh := hh.2 hb_1
        refine CW.skip ?_
        refine QN.then_ ?_
        refine CW.seq ?_
        refine CW.region ?_
        refine .val (v_move (v := reg (s2v : Sl)) rfl) rfl ?_
        refine .val (v_move (v := reg (t11 : Int)) rfl) rfl ?_
        obtain ⟨t22, ht22, hh⟩ := hh
        refine .val (v_idx_slP sl_130 rfl rfl ht22.1 ht22.2.1 ht22.2.2) rfl ?_
        obtain ⟨t23, ⟨xt23, hxt23, hgt23⟩, hh⟩ := hh
        refine .val (v_ld1 (p := t22) 0 na_5 rfl hxt23 hgt23 get_5_all) rfl ?_
        refine .val (v_assign (v := reg (t23 : UInt8)) rfl) rfl ?_
        refine .nil ?_
        refine QN.then_ ?_
        refine CW.seq ?_
        refine CW.region ?_
        refine .val (v_move (v := reg (t15 : UInt8)) rfl) rfl ?_
        refine .val (v_move (v := reg (t23 : UInt8)) rfl) rfl ?_
        refine .e (e_callP fn_86 rfl rfl hh ?_)
        intro h t26 hh
        refine .val (v_assign (v := reg (t26 : Int)) rfl) rfl ?_
        refine .nil ?_
        refine QN.then_ ?_
        refine CW.seq ?_
        refine CW.region ?_
        refine .val (v_move (v := reg (t26 : Int)) rfl) rfl ?_
        refine .val (v_ineq rfl rfl) rfl ?_
        refine .nil ?_
        refine QN.then_ ?_
        refine CW.cond (t26 != (0 : Int)) rfl (fun hb_2 => ?_) (fun hb_2 => ?_)
        · have hh := hh.1 hb_2
          refine CW.seq ?_
          refine CW.region ?_
          refine .val (v_move (v := reg (t26 : Int)) rfl) rfl ?_
          refine .val (v_assign (v := reg (t26 : Int)) rfl) rfl ?_
          refine .nil ?_
          refine QN.then_ ?_
          refine CW.ret ?_
          refine QN.blockRet ?_
          refine QN.thenRet ?_
          refine QN.thenRet ?_
          refine QN.blockRet ?_
          refine QN.thenRet ?_
          exact ret1 rfl rfl ⟨(t26 : Int), rfl, hh⟩
        · have hh := hh.2 hb_2
          refine CW.skip ?_
          refine QN.blockN ?_
          refine QN.then_ ?_
          refine CW.region ?_
          refine .val (v_iadd rfl rfl) rfl ?_
          refine .val (v_move (v := reg ((iadd t11 (1 : Int)) : Int)) rfl) rfl ?_
          refine .nil ?_
          exact QN.thenJ ⟨(iadd t11 (1 : Int)), ⟨_, setl_eq ⟨rfl, ⟨rfl, ⟨rfl, ⟨rfl, ⟨rfl, trivial⟩⟩⟩⟩⟩⟩, hh⟩
    · have hh := hh.2 hb
      refine CW.exit ?_
      refine QN.thenExit ?_
      refine QN.thenExit ?_
      refine QN.blockExit ?_
      exact QN.thenJ ⟨_, setl_eq ⟨rfl, ⟨rfl, trivial⟩⟩, hh⟩
  · rintro ρ h ⟨ρ', rfl, hh⟩
    unfold slices_Compare_byte.j1 at hh
    refine CW.seq ?_
    refine CW.seq ?_
    refine CW.region ?_
    refine .val (v_move (v := reg (s1v : Sl)) rfl) rfl ?_
    refine .val (v_len_sl (sl_130).1 rfl) rfl ?_
    refine .val (v_move (v := reg (s2v : Sl)) rfl) rfl ?_
    refine .val (v_len_sl (sl_130).1 rfl) rfl ?_
    refine .val (v_ilss rfl rfl) rfl ?_
    refine .nil ?_
    refine QN.then_ ?_
    refine CW.cond (decide ((s1v.len : Int) < (s2v.len : Int))) rfl (fun hb_3 => ?_) (fun hb_3 => ?_)
    · have hh := hh.1 hb_3
      refine CW.seq ?_
      refine CW.region ?_
      refine .val (v_assign (v := reg ((-1 : Int) : Int)) rfl) rfl ?_
      refine .nil ?_
      refine QN.then_ ?_
      refine CW.ret ?_
      refine QN.thenRet ?_
      exact ret1 rfl rfl ⟨((-1 : Int) : Int), rfl, hh⟩
    · have hh := hh.2 hb_3
      refine CW.skip ?_
      refine QN.then_ ?_
      refine CW.seq ?_
      refine CW.region ?_
      refine .val (v_assign (v := reg ((0 : Int) : Int)) rfl) rfl ?_
      refine .nil ?_
      refine QN.then_ ?_
      refine CW.ret ?_
      exact ret1 rfl rfl ⟨((0 : Int) : Int), rfl, hh⟩
end Go.Proofs.YtimmoekliphobaaDoor
namespace Go.Proofs.YtimmoekliphobaaDoor
open Go Go.Sh
open Go.Sh.Ty (reg)
set_option linter.unusedVariables false
set_option maxRecDepth 100000
set_option maxHeartbeats 4000000
theorem cmp_Compare_byte.ok (x : UInt8) (y : UInt8) (k : Int → H → Prop) (h : H) (hh : cmp_Compare_byte.b x y k h) : CallsH Prog 86 [reg x, reg y].toArray h fun v h' => ∃ r : Int, v = reg r ∧ k r h' := by
  unfold cmp_Compare_byte.b at hh
  refine CallsH.of 20 Tryd.func86 rfl Tryd.ntmps86 rfl (fun w0 => ?_)
  refine CW.seq ?_
  refine CW.region ?_
  refine .val (v_assign (v := reg ((0 : Int) : Int)) rfl) rfl ?_
  refine .nil ?_
  refine QN.then_ ?_
  refine CW.seq ?_
  refine CW.region ?_
  refine .val (v_move (v := reg (x : UInt8)) rfl) rfl ?_
  refine .e (e_callP fn_113 rfl rfl hh ?_)
  intro h t8 hh
  refine .val (v_assign (v := reg (t8 : Bool)) rfl) rfl ?_
  refine .nil ?_
  refine QN.then_ ?_
  refine CW.seq ?_
  refine CW.region ?_
  refine .val (v_move (v := reg (y : UInt8)) rfl) rfl ?_
  refine .e (e_callP fn_113 rfl rfl hh ?_)
  intro h t10 hh
  refine .val (v_assign (v := reg (t10 : Bool)) rfl) rfl ?_
  refine .nil ?_
  refine QN.then_ ?_
  refine CW.seq ?_
  refine CW.seq ?_
  refine CW.region ?_
  refine .val (v_move (v := reg (t8 : Bool)) rfl) rfl ?_
  refine .nil ?_
  refine QN.then_ ?_
  refine CW.cond t8 rfl (fun hb => ?_) (fun hb => ?_)
  · have hh := hh.1 hb
    refine CW.seq ?_
    refine CW.seq ?_
    refine CW.region ?_
    refine .val (v_move (v := reg (t10 : Bool)) rfl) rfl ?_
    refine .nil ?_
    refine QN.then_ ?_
    refine CW.cond t10 rfl (fun hb_1 => ?_) (fun hb_1 => ?_)
    · have hh := hh.1 hb_1
      refine CW.seq ?_
      refine CW.region ?_
      refine .val (v_assign (v := reg ((0 : Int) : Int)) rfl) rfl ?_
      refine .nil ?_
      refine QN.then_ ?_
      refine CW.ret ?_
      refine QN.thenRet ?_
      refine QN.thenRet ?_
      exact ret1 rfl rfl ⟨((0 : Int) : Int), rfl, hh⟩
    · have hh := hh.2 hb_1
      refine CW.skip ?_
      refine QN.then_ ?_
      refine CW.seq ?_
      refine CW.region ?_
      refine .val (v_assign (v := reg ((-1 : Int) : Int)) rfl) rfl ?_
      refine .nil ?_
      refine QN.then_ ?_
      refine CW.ret ?_
      refine QN.thenRet ?_
      exact ret1 rfl rfl ⟨((-1 : Int) : Int), rfl, hh⟩
  · have hh := hh.2 hb
    refine CW.skip ?_
    refine QN.then_ ?_
    refine CW.seq ?_
    refine CW.seq ?_
    refine CW.region ?_
    refine .val (v_move (v := reg (t10 : Bool)) rfl) rfl ?_
    refine .nil ?_
    refine QN.then_ ?_
    refine CW.cond t10 rfl (fun hb_2 => ?_) (fun hb_2 => ?_)
    · have hh := hh.1 hb_2
      refine CW.seq ?_
      refine CW.region ?_
      refine .val (v_assign (v := reg ((1 : Int) : Int)) rfl) rfl ?_
      refine .nil ?_
      refine QN.then_ ?_
      refine CW.ret ?_
      refine QN.thenRet ?_
      exact ret1 rfl rfl ⟨((1 : Int) : Int), rfl, hh⟩
    · have hh := hh.2 hb_2
      refine CW.skip ?_
      refine QN.then_ ?_
      refine CW.seq ?_
      refine CW.seq ?_
      refine CW.region ?_
      refine .val (v_move (v := reg (x : UInt8)) rfl) rfl ?_
      refine .val (v_move (v := reg (y : UInt8)) rfl) rfl ?_
      refine .val (v_u8lss (a := x) (b := y) rfl rfl) rfl ?_
      refine .nil ?_
      refine QN.then_ ?_
      refine CW.cond (decide (x < y)) rfl (fun hb_3 => ?_) (fun hb_3 => ?_)
      · have hh := hh.1 hb_3
        refine CW.seq ?_
        refine CW.region ?_
        refine .val (v_assign (v := reg ((-1 : Int) : Int)) rfl) rfl ?_
        refine .nil ?_
        refine QN.then_ ?_
        refine CW.ret ?_
        refine QN.thenRet ?_
        exact ret1 rfl rfl ⟨((-1 : Int) : Int), rfl, hh⟩
      · have hh := hh.2 hb_3
        refine CW.skip ?_
        refine QN.then_ ?_
        refine CW.seq ?_
        refine CW.seq ?_
        refine CW.region ?_
        refine .val (v_move (v := reg (x : UInt8)) rfl) rfl ?_
        refine .val (v_move (v := reg (y : UInt8)) rfl) rfl ?_
        refine .val (v_u8gtr (a := x) (b := y) rfl rfl) rfl ?_
        refine .nil ?_
        refine QN.then_ ?_
        refine CW.cond (decide (y < x)) rfl (fun hb_4 => ?_) (fun hb_4 => ?_)
        · have hh := hh.1 hb_4
          refine CW.seq ?_
          refine CW.region ?_
          refine .val (v_assign (v := reg ((1 : Int) : Int)) rfl) rfl ?_
          refine .nil ?_
          refine QN.then_ ?_
          refine CW.ret ?_
          refine QN.thenRet ?_
          exact ret1 rfl rfl ⟨((1 : Int) : Int), rfl, hh⟩
        · have hh := hh.2 hb_4
          refine CW.skip ?_
          refine QN.then_ ?_
          refine CW.seq ?_
          refine CW.region ?_
          refine .val (v_assign (v := reg ((0 : Int) : Int)) rfl) rfl ?_
          refine .nil ?_
          refine QN.then_ ?_
          refine CW.ret ?_
          exact ret1 rfl rfl ⟨((0 : Int) : Int), rfl, hh⟩
end Go.Proofs.YtimmoekliphobaaDoor
namespace Go.Proofs.YtimmoekliphobaaDoor
open Go Go.Sh
open Go.Sh.Ty (reg)
set_option linter.unusedVariables false
set_option maxRecDepth 100000
set_option maxHeartbeats 4000000
theorem cmp_isNaN_byte.ok (x : UInt8) (k : Bool → H → Prop) (h : H) (hh : cmp_isNaN_byte.b x k h) : CallsH Prog 113 [reg x].toArray h fun v h' => ∃ r : Bool, v = reg r ∧ k r h' := by
  unfold cmp_isNaN_byte.b at hh
  refine CallsH.of 6 Tryd.func113 rfl Tryd.ntmps113 rfl (fun w0 => ?_)
  refine CW.seq ?_
  refine CW.region ?_
  refine .val (v_assign (v := reg (false : Bool)) rfl) rfl ?_
  refine .nil ?_
  refine QN.then_ ?_
  refine CW.seq ?_
  refine CW.region ?_
  refine .val (v_move (v := reg (x : UInt8)) rfl) rfl ?_
  refine .val (v_move (v := reg (x : UInt8)) rfl) rfl ?_
  refine .val (v_u8neq (a := x) (b := x) rfl rfl) rfl ?_
  refine .val (v_assign (v := reg ((x != x) : Bool)) rfl) rfl ?_
  refine .nil ?_
  refine QN.then_ ?_
  refine CW.ret ?_
  exact ret1 rfl rfl ⟨((x != x) : Bool), rfl, hh⟩
end Go.Proofs.YtimmoekliphobaaDoor
namespace Go.Proofs.YtimmoekliphobaaDoor
open Go Go.Sh
open Go.Sh.Ty (reg)
set_option linter.unusedVariables false
set_option maxRecDepth 100000
set_option maxHeartbeats 4000000
theorem vote_none.ok (k : (Arr 32 UInt8) → H → Prop) (h : H) (hh : vote_none.b k h) : CallsH Prog 51 ([] : List Value).toArray h fun v h' => ∃ r : Arr 32 UInt8, v = reg r ∧ k r h' := by
  unfold vote_none.b at hh
  refine CallsH.of 3 Tryd.func51 rfl Tryd.ntmps51 rfl (fun w0 => ?_)
  refine CW.seq ?_
  refine CW.region ?_
  refine box_elim hh (fun t0 ht0 hh => ?_)
  refine .e (e_allocP ht0 zo_24 rfl ?_)
  refine .nil ?_
  refine QN.then_ ?_
  refine CW.seq ?_
  refine CW.region ?_
  refine box_elim hh (fun z hz hh => ?_)
  refine .e (e_allocP hz zo_24 rfl ?_)
  refine .nil ?_
  refine QN.then_ ?_
  refine CW.seq ?_
  refine CW.region ?_
  obtain ⟨t2, ⟨xt2, hxt2, hgt2⟩, hh⟩ := hh
  refine .val (v_ldA (p := z) 0 ag_24 rfl hxt2 hgt2 get_24_all (fun _ => (arr_len (n := 32) _)) (fun _ => rfl)) rfl ?_
  obtain ⟨xw, hxw, hwxw, hh⟩ := hh
  refine .e (e_storeN (p := t0) (nv := enc (t2 : Arr 32 UInt8)) 0 rfl rfl rfl sz_24 (one_arr (n := 32) (fun _ => rfl) _) hxw hwxw (arr_len (n := 32) _) (arr_len (n := 32) _) rfl (set_24_all xw (t2 : Arr 32 UInt8)) ?_)
  refine .nil ?_
  refine QN.then_ ?_
  refine CW.ret ?_
  obtain ⟨r0, ⟨xr0, hxr0, hgr0⟩, hh⟩ := hh
  have hr0 := ld_id hxr0 hgr0
  exact retc rfl rfl ag_24 hr0 (arr_len (n := 32) _) ⟨(r0 : Arr 32 UInt8), rfl, hh⟩
end Go.Proofs.YtimmoekliphobaaDoor

/-
  THE CARD OF wapentakelaw13.VoteBoxes: for every input that the row lets in, VoteBoxes returns true and its arguments read as they did. Part 2 of 6. No condition stands ahead of the statement. Parts of this text were printed by a program of ours.
-/
import Derived.Test.YtimmoekliphobaaDoorV01
import Derived.Test.YtimmoekliphobaaDoorChecked
import Derived.KernelRfl
set_option linter.all false
namespace Go.Sh
open Go
open Go.Sh.Ty (reg)

/-- all but the blocks S is as it was -/
structure Fr (S : List Nat) (h h' : H) : Prop where
  size : h.size ≤ h'.size
  same : ∀ i, i < h.size → i ∉ S → h'[i]? = h[i]?
abbrev Ext (h h' : H) : Prop := Fr [] h h'
theorem Fr.refl (S : List Nat) (h : H) : Fr S h h := ⟨Nat.le_refl _, fun _ _ _ => rfl⟩
theorem Fr.trans {S S' : List Nat} {h h' h'' : H} (a : Fr S h h') (b : Fr S' h' h'') (hs : ∀ x ∈ S', x ∈ S ∨ h.size ≤ x) : Fr S h h'' :=
  ⟨Nat.le_trans a.size b.size, fun i hi hn => by
    have h1 := a.same i hi hn
    have h2 := b.same i (Nat.lt_of_lt_of_le hi a.size) (fun hx => by rcases hs i hx with h | h; exact hn h; omega)
    rw [h2, h1]⟩
theorem Ext.trans {h h' h'' : H} (a : Ext h h') (b : Ext h' h'') : Ext h h'' := Fr.trans a b (fun _ hx => by cases hx)
theorem Fr.mono {S S' : List Nat} {h h' : H} (a : Fr S h h') (hs : ∀ x ∈ S, x ∈ S') : Fr S' h h' := ⟨a.size, fun i hi hn => a.same i hi fun hx => hn (hs i hx)⟩
theorem Fr.push (h : H) (o : Obj) : Ext h (h.push o) := ⟨by simp, fun i hi _ => by rw [Array.getElem?_push_lt hi]; simp [hi]⟩
theorem Fr.set (h : H) (b : Nat) (o : Obj) : Fr [b] h (h.setIfInBounds b o) := ⟨by simp, fun i hi hn => by rw [Array.getElem?_setIfInBounds_ne]; simp at hn; omega⟩

theorem AtH.fr {S : List Nat} {h h' : H} (f : Fr S h h') {p : Addr} {cs : List Value} (H : AtH h p cs) (hp : p.block ∉ S) : AtH h' p cs := by
  obtain ⟨hs, arr, T, fr, hb, hc⟩ := H
  refine ⟨hs, arr, T, fr, ?_, hc⟩
  rw [f.same _ (by rw [Array.getElem?_eq_some_iff] at hb; exact hb.1) hp, hb]
theorem SlC.fr {S : List Nat} {h h' : H} (f : Fr S h h') {s : Sl} {sz : Nat} {cs : List Value} (H : SlC h s sz cs) (hp : ∀ a, s.a = some a → a.block ∉ S) : SlC h' s sz cs := by
  rcases H with H | ⟨a, ha, hat, hl⟩
  · exact .inl H
  · exact .inr ⟨a, ha, hat.fr f (hp a ha), hl⟩
theorem SlC.ext {h h' : H} (f : Ext h h') {s : Sl} {sz : Nat} {cs : List Value} (H : SlC h s sz cs) : SlC h' s sz cs := H.fr f fun _ _ hx => by cases hx
theorem AtH.ext {h h' : H} (f : Ext h h') {p : Addr} {cs : List Value} (H : AtH h p cs) : AtH h' p cs := H.fr f fun hx => by cases hx

/-- a whole variable of its own block -/
def Cel (T : Nat) (p : Addr) (cs : List Value) (h : H) : Prop := p = ⟨p.block, 0, none⟩ ∧ h[p.block]? = some (.cells cs.toArray T (0, 0))
theorem Cel.lt {T : Nat} {p : Addr} {cs : List Value} {h : H} (H : Cel T p cs h) : p.block < h.size := by
  have := H.2; rw [Array.getElem?_eq_some_iff] at this; exact this.1
theorem Cel.at_ {T : Nat} {p : Addr} {cs : List Value} {h : H} (H : Cel T p cs h) : AtH h p cs := by
  obtain ⟨hp, hb⟩ := H
  rw [hp]
  exact ⟨rfl, _, T, _, hb, fun i v hi => by simpa using hi⟩
theorem Cel.w {T : Nat} {p : Addr} {cs : List Value} {h : H} (H : Cel T p cs h) : WAt h p cs.length := by
  obtain ⟨hp, hb⟩ := H
  rw [hp]
  exact ⟨rfl, _, T, _, hb, by simp, fun i hi => by simp⟩
theorem Cel.put {T : Nat} {p : Addr} {cs : List Value} {h : H} (H : Cel T p cs h) (off : Nat) (ys : List Value) (hl : off + ys.length ≤ cs.length) :
    Cel T p (cs.take off ++ ys ++ cs.drop (off + ys.length)) (putC h (p.add off) ys) ∧ Fr [p.block] h (putC h (p.add off) ys) ∧ WAt h (p.add off) ys.length := by
  obtain ⟨hp, hb⟩ := H
  obtain ⟨blk, o, sp⟩ := p
  simp only [Addr.mk.injEq, true_and] at hp
  obtain ⟨rfl, rfl⟩ := hp
  simp only at hb
  have e : (⟨blk, 0, none⟩ : Addr).add off = ⟨blk, off, none⟩ := by rw [add_spot rfl]; simp
  rw [e]
  have e2 : putC h ⟨blk, off, none⟩ ys = h.setIfInBounds blk (.cells (splice cs.toArray off ys) T (0, 0)) := by unfold putC; simp only [hb]
  rw [e2]
  refine ⟨⟨rfl, ?_⟩, Fr.set _ _ _, rfl, _, T, _, hb, by simpa using hl, fun i hi => by simp⟩
  rw [Array.getElem?_eq_some_iff] at hb
  obtain ⟨hlt, hb⟩ := hb
  simp [hlt, splice]
theorem Cel.set {T : Nat} {p : Addr} {cs : List Value} {h : H} (H : Cel T p cs h) (ys : List Value) (hl : ys.length = cs.length) :
    Cel T p ys (putC h p ys) ∧ Fr [p.block] h (putC h p ys) := by
  have := H.put 0 ys (by omega)
  have e : p.add 0 = p := rfl
  rw [e, Nat.zero_add, hl] at this
  simp at this
  exact ⟨this.1, this.2.1⟩
theorem Cel.fr {S : List Nat} {h h' : H} (f : Fr S h h') {T : Nat} {p : Addr} {cs : List Value} (H : Cel T p cs h) (hp : p.block ∉ S) : Cel T p cs h' := by
  have hlt := H.lt
  refine ⟨H.1, ?_⟩
  rw [f.same _ hlt hp]; exact H.2
theorem Cel.new (h : H) (T : Nat) (cs : List Value) : Cel T ⟨h.size, 0, none⟩ cs (newC h T cs) := ⟨rfl, by simp [newC]⟩

/-- something that is owned: its blocks, and what is so of them -/
structure En where
  F : List Nat
  A : H → Prop
def Loc (e : En) : Prop := ∀ h h' : H, (∀ b ∈ e.F, h'[b]? = h[b]?) → e.A h → e.A h'
def cel (T : Nat) (p : Addr) (cs : List Value) : En := ⟨[p.block], Cel T p cs⟩
theorem cel_loc (T : Nat) (p : Addr) (cs : List Value) : Loc (cel T p cs) := fun h h' hb H => ⟨H.1, by rw [hb p.block (by simp [cel])]; exact H.2⟩

structure Sat (h0 : H) (S : List Nat) (h : H) (L : List En) : Prop where
  fr : Fr S h0 h
  ok : ∀ e ∈ L, e.A h ∧ Loc e ∧ ∀ b ∈ e.F, b < h.size ∧ (b ∈ S ∨ h0.size ≤ b)
  dis : L.Pairwise fun a b => ∀ x ∈ a.F, x ∉ b.F

section
variable {h0 h h' : H} {S : List Nat} {L : List En}
theorem Sat.init (h : H) : Sat h [] h [] := ⟨Fr.refl _ _, by simp, .nil⟩
theorem Sat.init1 {h : H} {e : En} (ha : e.A h) (hl : Loc e) (hb : ∀ b ∈ e.F, b < h.size) : Sat h e.F h [e] :=
  ⟨Fr.refl _ _, by intro e' he; simp only [List.mem_singleton] at he; subst he; exact ⟨ha, hl, fun b h => ⟨hb b h, .inl h⟩⟩, by simp⟩
theorem Sat.get (hs : Sat h0 S h L) {e : En} (he : e ∈ L) : e.A h := (hs.ok e he).1
theorem Sat.at_ (hs : Sat h0 S h L) {e : En} {i : Nat} (he : L[i]? = some e) : e.A h := (hs.ok e (List.mem_of_getElem? he)).1
/-- other blocks may come, and some of no entry change -/
theorem Sat.ext (hs : Sat h0 S h L) (f : Ext h h') : Sat h0 S h' L :=
  ⟨hs.fr.trans f (fun _ hx => by cases hx), fun e he => by
    obtain ⟨h1, h2, h3⟩ := hs.ok e he
    exact ⟨h2 h h' (fun b hb => f.same b (h3 b hb).1 (by simp)) h1, h2, fun b hb => ⟨Nat.lt_of_lt_of_le (h3 b hb).1 f.size, (h3 b hb).2⟩⟩, hs.dis⟩
/-- a new thing -/
theorem Sat.add (hs : Sat h0 S h L) {e : En} (f : Ext h h') (ha : e.A h') (hl : Loc e) (hb : ∀ b ∈ e.F, h.size ≤ b ∧ b < h'.size) : Sat h0 S h' (e :: L) := by
  have h1 := hs.ext f
  refine ⟨h1.fr, fun e' he => ?_, ?_⟩
  · rcases List.mem_cons.1 he with rfl | he
    · exact ⟨ha, hl, fun b h => ⟨(hb b h).2, .inr (Nat.le_trans hs.fr.size (hb b h).1)⟩⟩
    · exact h1.ok e' he
  · refine List.Pairwise.cons (fun e' he x hx hx' => ?_) hs.dis
    have := (hb x hx).1
    have := ((hs.ok e' he).2.2 x hx').1
    omega
theorem pairwise_set {α : Type} {R : α → α → Prop} (sym : ∀ a b, R a b → R b a) : ∀ {L : List α} {i : Nat} {e e' : α}, L.Pairwise R → L[i]? = some e → (∀ (j : Nat) x, j ≠ i → L[j]? = some x → R e x → R e' x) → (L.set i e').Pairwise R
  | [], _, _, _, h, _, _ => by simpa using h
  | a :: L, 0, e, e', h, hi, hr => by
    simp only [List.getElem?_cons_zero, Option.some.injEq] at hi
    subst hi
    rw [List.set_cons_zero]
    rw [List.pairwise_cons] at h ⊢
    refine ⟨fun x hx => ?_, h.2⟩
    obtain ⟨j, hj⟩ := List.mem_iff_getElem?.1 hx
    exact hr (j + 1) x (by omega) (by simpa using hj) (h.1 x hx)
  | a :: L, i + 1, e, e', h, hi, hr => by
    simp only [List.getElem?_cons_succ] at hi
    rw [List.set_cons_succ]
    rw [List.pairwise_cons] at h ⊢
    refine ⟨fun x hx => ?_, pairwise_set sym h.2 hi (fun j x hj hx => hr (j + 1) x (by omega) (by simpa using hx))⟩
    rcases List.mem_or_eq_of_mem_set hx with hx | rfl
    · exact h.1 x hx
    · exact sym _ _ (hr 0 a (by omega) (by simp) (sym _ _ (h.1 e (List.mem_of_getElem? hi))))
/-- one of the things is changed; all else stays -/
theorem Sat.upd (hs : Sat h0 S h L) {i : Nat} {e e' : En} (hi : L[i]? = some e) (f : Fr e.F h h') (ha : e'.A h') (hl : Loc e') (hb : ∀ b ∈ e'.F, b < h'.size ∧ (b ∈ e.F ∨ h.size ≤ b)) : Sat h0 S h' (L.set i e') := by
  have hei := List.mem_of_getElem? hi
  have hdis : ∀ (j : Nat) x, j ≠ i → L[j]? = some x → ∀ b ∈ x.F, b ∉ e.F := by
    intro j x hj hx b hb hbe
    obtain ⟨hil, hie⟩ := List.getElem?_eq_some_iff.1 hi
    obtain ⟨hjl, hje⟩ := List.getElem?_eq_some_iff.1 hx
    rcases Nat.lt_or_gt_of_ne hj with h1 | h1
    · have := List.pairwise_iff_getElem.1 hs.dis j i hjl hil h1 b (by rw [hje]; exact hb)
      rw [hie] at this; exact this hbe
    · have := List.pairwise_iff_getElem.1 hs.dis i j hil hjl h1 b (by rw [hie]; exact hbe)
      rw [hje] at this; exact this hb
  refine ⟨hs.fr.trans f (fun x hx => ((hs.ok e hei).2.2 x hx).2), fun x hx => ?_, ?_⟩
  · obtain ⟨j, hj⟩ := List.mem_iff_getElem?.1 hx
    rw [List.getElem?_set] at hj
    by_cases hij : i = j
    · subst hij
      split at hj
      · split at hj
        · obtain rfl := Option.some.inj hj
          refine ⟨ha, hl, fun b hb' => ⟨(hb b hb').1, ?_⟩⟩
          rcases (hb b hb').2 with h1 | h1
          · exact ((hs.ok e hei).2.2 b h1).2
          · exact .inr (Nat.le_trans hs.fr.size h1)
        · cases hj
      · rename_i hne; exact absurd rfl hne
    · rw [if_neg hij] at hj
      obtain ⟨h1, h2, h3⟩ := hs.ok x (List.mem_of_getElem? hj)
      exact ⟨h2 h h' (fun b hb' => f.same b (h3 b hb').1 (hdis j x (Ne.symm hij) hj b hb')) h1, h2, fun b hb' => ⟨Nat.lt_of_lt_of_le (h3 b hb').1 f.size, (h3 b hb').2⟩⟩
  · refine pairwise_set (fun a b hab x hx hx' => hab x hx' hx) hs.dis hi (fun j x hj hx _ b hb' hbx => ?_)
    rcases (hb b hb').2 with h1 | h1
    · exact hdis j x hj hx b hbx h1
    · have := ((hs.ok x (List.mem_of_getElem? hx)).2.2 b hbx).1; omega
theorem Sat.drop (hs : Sat h0 S h L) {L' : List En} (hl : L'.Sublist L) : Sat h0 S h L' :=
  ⟨hs.fr, fun e he => hs.ok e (hl.subset he), hs.dis.sublist hl⟩
theorem Sat.old (hs : Sat h0 S h L) {p : Addr} {cs : List Value} (H : AtH h0 p cs) (hp : p.block ∉ S) : AtH h p cs := H.fr hs.fr hp

/-! the words, over what is owned -/
theorem Sat.box_ {α : Type} [Ty α] {T : Nat} {x : α} {k : Addr → H → Prop} (hs : Sat h0 S h L) (hk : ∀ p h', Sat h0 S h' (cel T p (enc x) :: L) → p.block = h.size → Ext h h' → k p h') : box T x k h := by
  intro p hp
  subst hp
  exact hk _ _ (hs.add (Fr.push _ _) (Cel.new h T _) (cel_loc _ _ _) (by intro b hb; simp only [cel, List.mem_singleton] at hb; subst hb; simp [newC])) rfl (Fr.push _ _)
theorem Sat.ld_ {σ α : Type} [Ty σ] {T : Nat} {x : σ} {p : Addr} {g : σ → α} {k : α → H → Prop} (i : Nat) (hs : Sat h0 S h L) (hi : L[i]? = some (cel T p (enc x))) (hk : k (g x) h) : ld p g k h :=
  ⟨_, ⟨x, Cel.at_ (hs.at_ hi), rfl⟩, hk⟩
theorem Sat.chk_ {σ α : Type} [Ty σ] {T : Nat} {x : σ} {p : Addr} {g : σ → α} {y : α} {k : H → Prop} (i : Nat) (hs : Sat h0 S h L) (hi : L[i]? = some (cel T p (enc x))) (hg : g x = y) (hk : k h) : chk p g y k h :=
  ⟨⟨x, Cel.at_ (hs.at_ hi), hg⟩, hk⟩
theorem Sat.st_ {σ : Type} [Ty σ] {T n : Nat} {x : σ} {p : Addr} {u : σ → σ} {k : H → Prop} (i : Nat) (hs : Sat h0 S h L) (hi : L[i]? = some (cel T p (enc x))) (hl : ∀ y : σ, (enc y).length = n)
    (hk : ∀ h', Sat h0 S h' (L.set i (cel T p (enc (u x)))) → h'.size = h.size → k h') : st p u k h := by
  have hc : Cel T p (enc x) h := hs.at_ hi
  have := hc.set (enc (u x)) (by rw [hl, hl])
  refine ⟨x, hc.at_, hc.w, hk _ (hs.upd hi this.2 this.1 (cel_loc _ _ _) ?_) ?_⟩
  · intro b hb
    simp only [cel, List.mem_singleton] at hb
    subst hb
    exact ⟨Nat.lt_of_lt_of_le hc.lt this.2.size, .inl (by simp [cel])⟩
  · unfold putC; split <;> simp
theorem ld_old {σ α : Type} [Ty σ] {x : σ} {p : Addr} {g : σ → α} {k : α → H → Prop} (H : AtH h p (enc x)) (hk : k (g x) h) : ld p g k h := ⟨_, ⟨x, H, rfl⟩, hk⟩
theorem nn_i {p : Addr} {k : Addr → H → Prop} (hk : k p h) : nn (some p) k h := ⟨p, rfl, hk⟩
theorem ifb_i {b : Bool} {x y : H → Prop} (h1 : b = true → x h) (h2 : b = false → y h) : ifb b x y h := ⟨h1, h2⟩
theorem bnd_i {n : Nat} {j : Int} {k : Fin n → H → Prop} (h0 : 0 ≤ j) (h1 : j < n) (hk : ∀ (hl : j.toNat < n), k ⟨j.toNat, hl⟩ h) : bnd j n k h := ⟨⟨j.toNat, by omega⟩, by simp; omega, hk _⟩
end
end Go.Sh
namespace Go.Sh
open Go
open Go.Sh.Ty (reg)

theorem wrap_eq {n : Int} (h1 : -9223372036854775808 ≤ n) (h2 : n < 9223372036854775808) : IntKind.i64.wrap n = n := by
  simp only [IntKind.wrap, IntKind.signed, IntKind.bits, Bool.true_and]
  split <;> simp_all <;> omega
theorem iadd_eq {a b : Int} (h1 : -9223372036854775808 ≤ a + b) (h2 : a + b < 9223372036854775808) : iadd a b = a + b := wrap_eq h1 h2
theorem isub_eq {a b : Int} (h1 : -9223372036854775808 ≤ a - b) (h2 : a - b < 9223372036854775808) : isub a b = a - b := wrap_eq h1 h2
theorem imul_eq {a b : Int} (h1 : -9223372036854775808 ≤ a * b) (h2 : a * b < 9223372036854775808) : imul a b = a * b := wrap_eq h1 h2

/-- a slice whose elements are l, n cells each -/
def SV {α : Type} [Ty α] (n : Nat) (h : H) (s : Sl) (l : List α) : Prop := SlC h s n (l.map enc).flatten ∧ s.len = l.length ∧ s.len ≤ s.cap
section
variable {α : Type} [Ty α] {n : Nat} {h h' : H} {s : Sl} {l : List α}
theorem SV.fr {S : List Nat} (f : Fr S h h') (hv : SV n h s l) (hp : ∀ a, s.a = some a → a.block ∉ S) : SV n h' s l := ⟨hv.1.fr f hp, hv.2⟩
theorem SV.ext (f : Ext h h') (hv : SV n h s l) : SV n h' s l := hv.fr f fun _ _ hx => by cases hx
theorem SV.nil : SV n h Sl.nil ([] : List α) := ⟨.inl ⟨rfl, rfl, rfl⟩, rfl, Nat.le_refl _⟩
theorem AtH.elem {sz : Nat} {p : Addr} {L : List (List Value)} (hsz : ∀ x ∈ L, x.length = sz) (H : AtH h p L.flatten) {i : Nat} {x : List Value} (hi : L[i]? = some x) : AtH h (p.add (i * sz)) x := by
  have := H.sub (i * sz) sz
  rwa [flatten_get sz L i x hsz hi] at this
theorem SV.elem (hn : ∀ y : α, (enc y).length = n) (hv : SV n h s l) {j : Int} {x : α} (h0 : 0 ≤ j) (hx : l[j.toNat]? = some x) : ∃ a, s.a = some a ∧ AtH h (a.add (j.toNat * n)) (enc x) ∧ j < s.len := by
  have hlt : j.toNat < l.length := by rw [List.getElem?_eq_some_iff] at hx; exact hx.1
  obtain ⟨hc, hl, hcap⟩ := hv
  rcases hc with ⟨ha, h1, h2⟩ | ⟨a, ha, hat, hlen⟩
  · omega
  · refine ⟨a, ha, hat.elem (L := l.map enc) (by intro x hx; simp only [List.mem_map] at hx; obtain ⟨y, _, rfl⟩ := hx; exact hn y) (by simp [hx]), by omega⟩
theorem sidx_ld {β : Type} (hn : ∀ y : α, (enc y).length = n) (hv : SV n h s l) {j : Int} {x : α} (h0 : 0 ≤ j) (hx : l[j.toNat]? = some x) {g : α → β} {K : β → H → Prop} (hk : K (g x) h) : sidx s j n (fun t => ld t g K) h := by
  obtain ⟨a, ha, hat, hlt⟩ := hv.elem hn h0 hx
  exact ⟨_, ⟨⟨a, ha, rfl⟩, h0, hlt⟩, ld_old hat hk⟩
theorem SV.cut (hn : ∀ y : α, (enc y).length = n) (hv : SV n h s l) {lo hi mx : Nat} (h1 : lo ≤ hi) (h2 : hi ≤ s.len) (h3 : hi ≤ mx) : SV n h (s.cut n lo hi mx) ((l.drop lo).take (hi - lo)) := by
  obtain ⟨hc, hl, hcap⟩ := hv
  have hlen : ((l.drop lo).take (hi - lo)).length = hi - lo := by simp; omega
  refine ⟨?_, by simp only [Sl.cut]; omega, by simp only [Sl.cut]; omega⟩
  have hfl : ∀ (L : List α), (L.map enc).flatten.length = L.length * n := fun L => by
    rw [flatten_len n]
    · simp
    · intro x hx; simp only [List.mem_map] at hx; obtain ⟨y, _, rfl⟩ := hx; exact hn y
  rcases hc with ⟨ha, h6, h4⟩ | ⟨a, ha, hat, hlen2⟩
  · left
    have : l = [] := List.eq_nil_of_length_eq_zero (by omega)
    subst this
    refine ⟨by simp [Sl.cut, ha], by simp only [Sl.cut]; omega, by simp⟩
  · right
    by_cases hm : mx = lo
    · have hd : hi = lo := by omega
      subst hd
      refine ⟨a, by simp [Sl.cut, hm, ha], ?_, by simp [Sl.cut]⟩
      have := hat.sub 0 0
      rw [show a.add 0 = a from rfl] at this
      simpa using this
    · refine ⟨a.add (lo * n), by simp [Sl.cut, hm, ha], ?_, by rw [hfl, hlen]; simp [Sl.cut]⟩
      have hsub := hat.sub (lo * n) ((hi - lo) * n)
      have e : ((l.map enc).flatten.drop (lo * n)).take ((hi - lo) * n) = (((l.drop lo).take (hi - lo)).map enc).flatten := by
        have e1 : l = l.take lo ++ (l.drop lo).take (hi - lo) ++ l.drop hi := by
          rw [List.append_assoc]
          conv => lhs; rw [← List.take_append_drop lo l]
          congr 1
          conv => lhs; rw [← List.take_append_drop (hi - lo) (l.drop lo)]
          rw [List.drop_drop]
          congr 2
          omega
        have e2 : (l.map enc).flatten = ((l.take lo).map enc).flatten ++ (((l.drop lo).take (hi - lo)).map enc).flatten ++ ((l.drop hi).map enc).flatten := by
          conv => lhs; rw [e1]
          simp
        rw [e2, List.append_assoc, List.drop_left' (by rw [hfl, List.length_take, Nat.min_eq_left (by omega)]), List.take_left' (by rw [hfl, hlen])]
      rwa [e] at hsub
end

/-- n rounds -/
def itF {α : Type} (f : Nat → α → α) : Nat → α → α
  | 0, a => a
  | n + 1, a => f n (itF f n a)
def updN {n : Nat} {α : Type} (x : Arr n α) (i : Nat) (v : α) : Arr n α := fun j => if j.val = i then v else x j
def getN {n : Nat} {α : Type} [Inhabited α] (x : Arr n α) (i : Nat) : α := if h : i < n then x ⟨i, h⟩ else default
theorem upd_N {n : Nat} {α : Type} (x : Arr n α) (i : Fin n) (v : α) : upd x i v = updN x i.val v := by
  funext j; simp only [upd, updN, Fin.ext_iff]
theorem get_N {n : Nat} {α : Type} [Inhabited α] (x : Arr n α) (i : Nat) (h : i < n) : x ⟨i, h⟩ = getN x i := by simp [getN, h]
theorem bnd_N {n : Nat} {j : Int} {h : H} {k : Fin n → H → Prop} (h0 : 0 ≤ j) (h1 : j < n) (hk : ∀ i : Fin n, i.val = j.toNat → k i h) : bnd j n k h := ⟨⟨j.toNat, by omega⟩, by simp; omega, hk _ rfl⟩
theorem getN_fin {n : Nat} {α : Type} [Inhabited α] (x : Arr n α) (i : Fin n) (m : Nat) (h : i.val = m) : x i = getN x m := by subst h; simp [getN]
theorem Sat.bld {h0 h : H} {S : List Nat} {L : List En} {n T : Nat} {α : Type} [Ty α] [Inhabited α] {x : Arr n α} {p : Addr} {j : Int} {K : α → H → Prop} (i : Nat) (hs : Sat h0 S h L) (hi : L[i]? = some (cel T p (enc x))) (h0' : 0 ≤ j) (h1 : j < n) (hk : K (getN x j.toNat) h) :
    bnd j n (fun f => ld p (fun (x : Arr n α) => x f) K) h := by
  refine bnd_N h0' h1 (fun f hf => ?_)
  refine hs.ld_ i hi ?_
  rw [getN_fin x f _ hf]; exact hk
theorem old_bld {h : H} {n : Nat} {α : Type} [Ty α] [Inhabited α] {x : Arr n α} {p : Addr} {j : Int} {K : α → H → Prop} (hp : AtH h p (enc x)) (h0' : 0 ≤ j) (h1 : j < n) (hk : K (getN x j.toNat) h) :
    bnd j n (fun f => ld p (fun (x : Arr n α) => x f) K) h := by
  refine bnd_N h0' h1 (fun f hf => ?_)
  refine ld_old hp ?_
  rw [getN_fin x f _ hf]; exact hk
theorem Sat.bst {h0 h : H} {S : List Nat} {L : List En} {n T m : Nat} {α : Type} [Ty α] {x : Arr n α} {p : Addr} {j : Int} {v : α} {k : H → Prop} (i : Nat) (hs : Sat h0 S h L) (hi : L[i]? = some (cel T p (enc x))) (hl : ∀ y : Arr n α, (enc y).length = m) (h0' : 0 ≤ j) (h1 : j < n) (hk : ∀ h', Sat h0 S h' (L.set i (cel T p (enc (updN x j.toNat v)))) → k h') :
    bnd j n (fun f => Sh.st p (fun (x : Arr n α) => Sh.upd x f v) k) h := by
  refine bnd_N h0' h1 (fun f hf => ?_)
  refine hs.st_ i hi hl (fun h' hs' _ => hk h' ?_)
  rw [upd_N, hf] at hs'
  exact hs'
theorem get_Nf {n : Nat} {α : Type} [Inhabited α] (x : Arr n α) (i : Fin n) : x i = getN x i.val := by simp [getN]
end Go.Sh
namespace Go.Sh
open Go
open Go.Sh.Ty (reg)

/-! arrays of bytes, and slices of bytes -/
theorem map_enc8 (l : List UInt8) : (l.map enc).flatten = l.map (reg : UInt8 → Value) := by
  induction l with
  | nil => rfl
  | cons a l ih => simp only [List.map_cons, List.flatten_cons, ih]; rfl
theorem enc_arrOf {n : Nat} (l : List UInt8) (hl : l.length = n) : enc (arrOf l : Arr n UInt8) = l.map (reg : UInt8 → Value) := by
  have e : enc (arrOf l : Arr n UInt8) = List.ofFn fun i => reg ((arrOf l : Arr n UInt8) i) := rfl
  rw [e]
  apply List.ext_getElem
  · simp [hl]
  · intro i h1 h2
    simp at h1 h2
    simp [arrOf, h2]
theorem arrOf_ofFn {n : Nat} (x : Arr n UInt8) : (arrOf (List.ofFn x) : Arr n UInt8) = x := by
  funext i; simp [arrOf]
theorem enc_ofFn {n : Nat} (x : Arr n UInt8) : enc x = (List.ofFn x).map (reg : UInt8 → Value) := by
  conv => lhs; rw [← arrOf_ofFn x]
  exact enc_arrOf _ (by simp)
theorem updN_arrOf {n : Nat} (l : List UInt8) (i : Nat) (v : UInt8) (hi : i < l.length) : updN (arrOf l : Arr n UInt8) i v = arrOf (l.set i v) := by
  funext j
  simp only [updN, arrOf, List.getD_eq_getElem?_getD, List.getElem?_set]
  by_cases h : j.val = i
  · simp [h, hi]
  · simp [h, Ne.symm h]
theorem one_bytes (l : List UInt8) : (l.map (reg : UInt8 → Value)).all (·.oneCell') = true := by
  rw [List.all_eq_true]; intro v hv; simp only [List.mem_map] at hv; obtain ⟨b, _, rfl⟩ := hv; rfl
theorem SV.bytes {h : H} {s : Sl} {l : List UInt8} (hv : SV 1 h s l) : SlC h s 1 (l.map reg) := by
  have := hv.1; rwa [map_enc8] at this
theorem arr_SV {h : H} {p : Addr} {n : Nat} {l : List UInt8} (hl : l.length = n) (H : AtH h p (enc (arrOf l : Arr n UInt8))) : SV 1 h ⟨some p, n, n⟩ l := by
  refine ⟨.inr ⟨p, rfl, ?_, ?_⟩, hl.symm, Nat.le_refl _⟩
  · rw [map_enc8, ← enc_arrOf l hl]; exact H
  · rw [map_enc8]; simp [hl]
section
variable {h0 h : H} {S : List Nat} {L : List En} {n T : Nat} {p : Addr} {l : List UInt8}
theorem Sat.arrSV (i : Nat) (hs : Sat h0 S h L) (hi : L[i]? = some (cel T p (enc (arrOf l : Arr n UInt8)))) (hl : l.length = n) : SV 1 h ⟨some p, n, n⟩ l := arr_SV hl (Cel.at_ (hs.at_ hi))
theorem Sat.putB (i : Nat) (hs : Sat h0 S h L) (hi : L[i]? = some (cel T p (enc (arrOf l : Arr n UInt8)))) (hl : l.length = n) (off : Nat) (ys : List UInt8) (ho : off + ys.length ≤ n) :
    Sat h0 S (putC h (p.add off) (ys.map reg)) (L.set i (cel T p (enc (arrOf (l.take off ++ ys ++ l.drop (off + ys.length)) : Arr n UInt8)))) ∧ WAt h (p.add off) ys.length := by
  have hc : Cel T p (enc (arrOf l : Arr n UInt8)) h := hs.at_ hi
  rw [enc_arrOf l hl] at hc
  obtain ⟨h1, h2, h3⟩ := hc.put off (ys.map reg) (by simp [hl]; omega)
  have hl2 : (l.take off ++ ys ++ l.drop (off + ys.length)).length = n := by simp; omega
  refine ⟨hs.upd hi h2 ?_ (cel_loc _ _ _) ?_, by simpa using h3⟩
  · show Cel _ _ _ _
    rw [enc_arrOf _ hl2]
    simpa [List.map_take, List.map_drop] using h1
  · intro b hb
    simp only [cel, List.mem_singleton] at hb
    subst hb
    exact ⟨Nat.lt_of_lt_of_le hc.lt h2.size, .inl (by simp [cel])⟩
/-- copy into an array of bytes, from off on -/
theorem Sat.cpy_ {x : Sl} {xs : List UInt8} {k : Int → H → Prop} (i : Nat) (hs : Sat h0 S h L) (hi : L[i]? = some (cel T p (enc (arrOf l : Arr n UInt8)))) (hl : l.length = n) (off : Nat) (ho : off < n) (hx : SV 1 h x xs)
    (hk : ∀ h', Sat h0 S h' (L.set i (cel T p (enc (arrOf (l.take off ++ xs.take (n - off) ++ l.drop (off + (xs.take (n - off)).length)) : Arr n UInt8)))) → k ((min xs.length (n - off) : Nat) : Int) h') :
    cpy 1 ((⟨some p, n, n⟩ : Sl).cut 1 off n n) x k h := by
  have hput := hs.putB i hi hl off (xs.take (n - off)) (by simp; omega)
  have hd : ((⟨some p, n, n⟩ : Sl).cut 1 off n n).a = some (p.add off) := by simp [Sl.cut, show ¬ n = off by omega]
  have hdl : ((⟨some p, n, n⟩ : Sl).cut 1 off n n).len = n - off := rfl
  have hmin : min x.len (n - off) = (xs.take (n - off)).length := by rw [hx.2.1]; simp; omega
  refine ⟨(xs.take (n - off)).map reg, ?_, one_bytes _, ?_, ?_⟩
  · rw [hdl, hmin]
    rcases hx.bytes with ⟨h1, h2, h3⟩ | ⟨a, ha, hat, hlen⟩
    · left
      have : xs = [] := by simpa using h3
      subst this
      exact ⟨h1, by simp, by simp⟩
    · refine .inr ⟨a, ha, ?_, by simp⟩
      have := hat.sub 0 (n - off)
      rw [show a.add 0 = a from rfl] at this
      simpa [List.map_take] using this
  · intro a ha
    rw [hd] at ha
    obtain rfl := Option.some.inj ha
    simpa using hput.2
  · rw [hd, hdl]
    have e : min x.len (n - off) = min xs.length (n - off) := by rw [hx.2.1]
    rw [e]
    exact hk _ hput.1
/-- clear of an array of bytes, from off on -/
theorem Sat.clr_ {k : H → Prop} (i : Nat) (hs : Sat h0 S h L) (hi : L[i]? = some (cel T p (enc (arrOf l : Arr n UInt8)))) (hl : l.length = n) (off : Nat) (ho : off ≤ n)
    (hk : ∀ h', Sat h0 S h' (L.set i (cel T p (enc (arrOf (l.take off ++ List.replicate (n - off) 0) : Arr n UInt8)))) → k h') :
    clr (enc (0 : UInt8)) ((⟨some p, n, n⟩ : Sl).cut 1 off n n) k h := by
  have hdl : ((⟨some p, n, n⟩ : Sl).cut 1 off n n).len = n - off := rfl
  by_cases h1 : off = n
  · subst h1
    refine ⟨fun _ => hk _ ?_, fun a _ hne => absurd (by rw [hdl]; omega) hne⟩
    have e : l.take off ++ List.replicate (off - off) 0 = l := by simp [← hl]
    rw [e]
    have : L.set i (cel T p (enc (arrOf l : Arr off UInt8))) = L := by
      apply List.ext_getElem?
      intro j
      rw [List.getElem?_set]
      split
      · rename_i h; subst h; split <;> simp_all
      · rfl
    rw [this]; exact hs
  · have hd : ((⟨some p, n, n⟩ : Sl).cut 1 off n n).a = some (p.add off) := by simp [Sl.cut, show ¬ n = off by omega]
    have hput := hs.putB i hi hl off (List.replicate (n - off) 0) (by simp; omega)
    refine ⟨fun h => ?_, fun a ha _ => ?_⟩
    · rcases h with h | h
      · rw [hd] at h; cases h
      · rw [hdl] at h; omega
    · rw [hd] at ha
      obtain rfl := Option.some.inj ha
      refine ⟨by rw [hdl, show (enc (0 : UInt8)).length = 1 from rfl, Nat.mul_one]; simpa using hput.2, ?_⟩
      have e1 : (List.replicate ((⟨some p, n, n⟩ : Sl).cut 1 off n n).len (enc (0 : UInt8))).flatten = (List.replicate (n - off) (0 : UInt8)).map reg := by
        rw [hdl]
        rw [← map_enc8]; simp
      rw [e1]
      refine hk _ ?_
      have := hput.1
      rwa [show l.drop (off + (List.replicate (n - off) (0 : UInt8)).length) = [] by simp; omega, List.append_nil] at this
end
end Go.Sh
namespace Go.Sh
open Go
open Go.Sh.Ty (reg)

def blk (s : Sl) : List Nat := match s.a with | some a => [a.block] | none => []
theorem blk_some {s : Sl} {a : Addr} (h : s.a = some a) : blk s = [a.block] := by unfold blk; rw [h]
theorem blk_none {s : Sl} (h : s.a = none) : blk s = [] := by unfold blk; rw [h]
theorem SV.fr' {α : Type} [Ty α] {n : Nat} {h h' : H} {s : Sl} {l : List α} {S : List Nat} (f : Fr S h h') (hv : SV n h s l) (hp : ∀ b ∈ blk s, b ∉ S) : SV n h' s l :=
  hv.fr f fun a ha => hp _ (by rw [blk_some ha]; simp)

/-- a slice whose whole row is owned: elements, and room -/
def OwnA {α : Type} [Ty α] (T n : Nat) (s : Sl) (l : List α) (h : H) : Prop :=
  (s.a = none ∧ s.len = 0 ∧ s.cap = 0 ∧ l = []) ∨ ∃ b spare, s.a = some ⟨b, 0, none⟩ ∧ Cel T ⟨b, 0, none⟩ ((l.map enc).flatten ++ spare) h ∧ s.len = l.length ∧ l.length ≤ s.cap ∧ spare.length = (s.cap - l.length) * n
def own {α : Type} [Ty α] (T n : Nat) (s : Sl) (l : List α) : En := ⟨blk s, OwnA T n s l⟩
theorem own_loc {α : Type} [Ty α] (T n : Nat) (s : Sl) (l : List α) : Loc (own T n s l) := by
  intro h h' hb H
  rcases H with H | ⟨b, spare, ha, hc, h1⟩
  · exact .inl H
  · refine .inr ⟨b, spare, ha, ⟨rfl, ?_⟩, h1⟩
    rw [hb b (by simp only [own]; rw [blk_some ha]; simp)]; exact hc.2
/-- a slice that is only read -/
def rdo {α : Type} [Ty α] (n : Nat) (s : Sl) (l : List α) : En := ⟨blk s, fun h => SV n h s l⟩
theorem rdo_loc {α : Type} [Ty α] (n : Nat) (s : Sl) (l : List α) : Loc (rdo n s l) := by
  intro h h' hb H
  refine ⟨?_, H.2⟩
  rcases H.1 with H1 | ⟨a, ha, ⟨hs, arr, T, fr, hbk, hc⟩, hl⟩
  · exact .inl H1
  · refine .inr ⟨a, ha, ⟨hs, arr, T, fr, ?_, hc⟩, hl⟩
    rw [hb a.block (by simp only [rdo]; rw [blk_some ha]; simp)]; exact hbk

theorem enc_flat_len {α : Type} [Ty α] {n : Nat} (hn : ∀ y : α, (enc y).length = n) (l : List α) : (l.map enc).flatten.length = l.length * n := by
  rw [flatten_len n]
  · simp
  · intro x hx; simp only [List.mem_map] at hx; obtain ⟨y, _, rfl⟩ := hx; exact hn y
theorem OwnA.sv {α : Type} [Ty α] {T n : Nat} {s : Sl} {l : List α} {h : H} (hn : ∀ y : α, (enc y).length = n) (H : OwnA T n s l h) : SV n h s l := by
  rcases H with ⟨h1, h2, h3, h4⟩ | ⟨b, spare, ha, hc, h1, h2, h3⟩
  · subst h4; exact ⟨.inl ⟨h1, h2, rfl⟩, h2, by omega⟩
  · refine ⟨.inr ⟨_, ha, ?_, by rw [enc_flat_len hn, h1]⟩, h1, by omega⟩
    have := hc.at_.sub 0 (l.map enc).flatten.length
    simpa [Addr.add] using this
theorem OwnA.lt {α : Type} [Ty α] {T n : Nat} {s : Sl} {l : List α} {h : H} (H : OwnA T n s l h) : ∀ b ∈ blk s, b < h.size := by
  rcases H with ⟨h1, _⟩ | ⟨b, spare, ha, hc, _⟩
  · rw [blk_none h1]; simp
  · rw [blk_some ha]; intro b' hb'; simp only [List.mem_singleton] at hb'; subst hb'; exact hc.lt
theorem SV.lt {α : Type} [Ty α] {n : Nat} {s : Sl} {l : List α} {h : H} (hv : SV n h s l) : ∀ b ∈ blk s, b < h.size := by
  rcases hv.1 with ⟨h1, _⟩ | ⟨a, ha, ⟨_, arr, T, fr, hb, _⟩, _⟩
  · rw [blk_none h1]; simp
  · rw [blk_some ha]; intro b' hb'; simp only [List.mem_singleton] at hb'; subst hb'
    rw [Array.getElem?_eq_some_iff] at hb; exact hb.1
theorem OwnA.fr {α : Type} [Ty α] {T n : Nat} {s : Sl} {l : List α} {h h' : H} {S : List Nat} (f : Fr S h h') (H : OwnA T n s l h) (hp : ∀ b ∈ blk s, b ∉ S) : OwnA T n s l h' :=
  own_loc T n s l h h' (fun b hb => f.same b (H.lt b hb) (hp b hb)) H

section
variable {h0 h h' : H} {S : List Nat} {L : List En} {α : Type} [Ty α] {T n : Nat}
theorem Sat.disj (hs : Sat h0 S h L) {i j : Nat} {e e' : En} (hi : L[i]? = some e) (hj : L[j]? = some e') (hne : i ≠ j) : ∀ x ∈ e.F, x ∉ e'.F := by
  intro x hx hx'
  obtain ⟨h1, h2⟩ := List.getElem?_eq_some_iff.1 hi
  obtain ⟨h3, h4⟩ := List.getElem?_eq_some_iff.1 hj
  rcases Nat.lt_or_gt_of_ne hne with hl | hl
  · have := List.pairwise_iff_getElem.1 hs.dis i j h1 h3 hl x (by rw [h2]; exact hx)
    rw [h4] at this; exact this hx'
  · have := List.pairwise_iff_getElem.1 hs.dis j i h3 h1 hl x (by rw [h4]; exact hx')
    rw [h2] at this; exact this hx
theorem Sat.add0 (hs : Sat h0 S h L) {e : En} (ha : e.A h) (hl : Loc e) (hF : e.F = []) : Sat h0 S h (e :: L) :=
  hs.add (Fr.refl _ _) ha hl (by rw [hF]; simp)
theorem Sat.nilOwn (hs : Sat h0 S h L) : Sat h0 S h (own T n Sl.nil ([] : List α) :: L) := hs.add0 (.inl ⟨rfl, rfl, rfl, rfl⟩) (own_loc _ _ _ _) rfl
theorem Sat.ownSV (i : Nat) {s : Sl} {l : List α} (hs : Sat h0 S h L) (hi : L[i]? = some (own T n s l)) (hn : ∀ y : α, (enc y).length = n) : SV n h s l := OwnA.sv hn (hs.at_ hi)
theorem Sat.rdoSV (i : Nat) {s : Sl} {l : List α} (hs : Sat h0 S h L) (hi : L[i]? = some (rdo n s l)) : SV n h s l := hs.at_ hi
theorem Sat.mks_ {l : List α} {k : Sl → H → Prop} (hs : Sat h0 S h L) (hk : ∀ s h', Sat h0 S h' (own T n s l :: L) → s.len = l.length → Ext h h' → k s h') : mks T l k h := by
  intro p s hp hss
  subst hp; subst hss
  refine hk _ _ (hs.add (Fr.push _ _) (.inr ⟨h.size, [], rfl, ?_, rfl, Nat.le_refl _, by simp⟩) (own_loc _ _ _ _) ?_) rfl (Fr.push _ _)
  · rw [List.append_nil]; exact Cel.new h T _
  · intro b hb; simp only [own, blk, List.mem_singleton] at hb; subst hb; simp [newC]
theorem Sat.app_ {s x : Sl} {l xl : List α} {bytes : Nat} {z : List Value} {k : Sl → H → Prop} (i : Nat) (hs : Sat h0 S h L) (hi : L[i]? = some (own T n s l)) (hx : SV n h x xl) (hn : ∀ y : α, (enc y).length = n) (h1 : ∀ y : α, (enc y).all (·.oneCell') = true) (hz : z.length = n)
    (hbig : (l.length + xl.length) * bytes ≤ maxBytes) (hlen : l.length + xl.length ≤ 9223372036854775807) (hk : ∀ r h', Sat h0 S h' (L.set i (own T n r (l ++ xl))) → r.len = l.length + xl.length → k r h') : app T n bytes z s x k h := by
  have ho : OwnA T n s l h := hs.at_ hi
  have hsl : s.len = l.length := (ho.sv hn).2.1
  have hxl : x.len = xl.length := hx.2.1
  have hone : ((xl.map enc).flatten).all (·.oneCell') = true := by
    rw [List.all_eq_true]; intro v hv
    simp only [List.mem_flatten, List.mem_map] at hv
    obtain ⟨_, ⟨y, _, rfl⟩, hv⟩ := hv
    exact List.all_eq_true.1 (h1 y) v hv
  refine ⟨(l.map enc).flatten, (xl.map enc).flatten, (ho.sv hn).1, hx.1, hone, fun hroom => ?_, fun hgrow => ⟨by rw [hsl, hxl]; exact hbig, by omega, fun p cap r hp hcap hr => ?_⟩⟩
  · rcases ho with ⟨ha, hl0, hc0, hl⟩ | ⟨b, spare, ha, hc, h2, h3, h4⟩
    · have hx0 : xl = [] := List.eq_nil_of_length_eq_zero (by omega)
      subst hx0; subst hl
      refine ⟨fun a h => (by rw [ha] at h; cases h), fun r hr => ?_⟩
      rw [ha]
      refine hk r h ?_ (by subst hr; simp only; omega)
      have : own T n r (([] : List α) ++ []) = own T n s ([] : List α) := by
        have : r = s := by subst hr; cases s; simp only at hl0 hc0 ha hxl ⊢; simp_all
        rw [this]; rfl
      rw [this]
      have : L.set i (own T n s ([] : List α)) = L := by
        apply List.ext_getElem?
        intro j
        rw [List.getElem?_set]
        split
        · rename_i h; subst h; split <;> simp_all
        · rfl
      rw [this]; exact hs
    · have hput := hc.put (s.len * n) (xl.map enc).flatten (by
        rw [List.length_append, enc_flat_len hn, enc_flat_len hn, h4, hsl, ← Nat.add_mul, ← Nat.add_mul]
        exact Nat.mul_le_mul_right _ (by omega))
      obtain ⟨p1, p2, p3⟩ := hput
      refine ⟨fun a h => (by rw [ha] at h; obtain rfl := Option.some.inj h; exact p3), fun r hr => ?_⟩
      rw [ha]
      refine hk r _ (hs.upd hi (by simp only [own]; rw [blk_some ha]; exact p2) (.inr ⟨b, spare.drop (xl.length * n), by subst hr; exact ha, ?_, by subst hr; simp [hsl, hxl], by subst hr; simp; omega, ?_⟩) (own_loc _ _ _ _) ?_) (by subst hr; simp [hsl, hxl])
      · have e1 : ((l.map enc).flatten ++ spare).take (s.len * n) = (l.map enc).flatten := List.take_left' (by rw [enc_flat_len hn, hsl])
        have e2 : ((l.map enc).flatten ++ spare).drop (s.len * n + (xl.map enc).flatten.length) = spare.drop (xl.length * n) := by
          rw [← List.drop_drop, List.drop_left' (by rw [enc_flat_len hn, hsl]), enc_flat_len hn]
        rw [e1, e2] at p1
        simpa using p1
      · subst hr
        simp only [List.length_drop, h4, List.length_append, ← Nat.sub_mul]
        congr 1; omega
      · subst hr
        intro b' hb'
        simp only [own] at hb' ⊢
        have e : blk (⟨s.a, s.len + x.len, s.cap⟩ : Sl) = blk s := rfl
        rw [e] at hb'
        refine ⟨?_, .inl hb'⟩
        rw [blk_some ha] at hb'
        simp only [List.mem_singleton] at hb'
        subst hb'
        exact Nat.lt_of_lt_of_le hc.lt p2.size
  · subst hp
    have hnew := Cel.new h T ((l.map enc).flatten ++ (xl.map enc).flatten ++ (List.replicate (cap - (s.len + x.len)) z).flatten)
    refine hk r _ (hs.upd hi ((Fr.push _ _).mono (by simp)) (.inr ⟨h.size, (List.replicate (cap - (s.len + x.len)) z).flatten, by subst hr; rfl, ?_, by subst hr; simp [hsl, hxl], by subst hr; simp; omega, ?_⟩) (own_loc _ _ _ _) ?_) (by subst hr; simp [hsl, hxl])
    · simpa using hnew
    · subst hr
      rw [flatten_len n _ (by intro y hy; simp only [List.mem_replicate] at hy; rw [hy.2]; exact hz)]
      simp only [List.length_replicate, List.length_append, hsl, hxl]
    · subst hr
      intro b' hb'
      simp only [own, blk, List.mem_singleton] at hb'
      subst hb'
      exact ⟨by simp [newC], .inr (Nat.le_refl _)⟩
theorem Sat.strish_ {s : Sl} {l : List UInt8} {k : Sl → H → Prop} (i : Nat) (hs : Sat h0 S h L) (hi : L[i]? = some (own T 1 s l)) (hne : l ≠ []) (hk : ∀ h', Sat h0 S h' (L.set i (rdo 1 s l)) → k s h') : strish s k h := by
  have ho : OwnA T 1 s l h := hs.at_ hi
  have hsv := ho.sv len_u8
  rcases ho with ⟨_, _, _, hl⟩ | ⟨b, spare, ha, hc, h2, h3, h4⟩
  · exact absurd hl hne
  · have hb := hc.2
    simp only at hb
    refine ⟨_, _, _, _, ha, hb, hk _ (hs.upd hi ?_ ?_ (rdo_loc _ _ _) ?_)⟩
    · simp only [own]; rw [blk_some ha]
      unfold frz
      simp only [hb]
      exact Fr.set _ _ _
    · refine ⟨?_, hsv.2⟩
      rcases hsv.1 with h5 | ⟨a, ha', ⟨hsp, arr, T', fr, hb', hcc⟩, hl'⟩
      · exact .inl h5
      · rw [ha] at ha'
        obtain rfl := Option.some.inj ha'
        have hlt : b < h.size := hc.lt
        have hfz : ∃ fr', (frz h b)[b]? = some (.cells arr T' fr') := by
          unfold frz
          simp only at hb'
          simp only [hb']
          rw [Array.getElem?_setIfInBounds]
          simp only [hlt, if_true]
          exact ⟨_, rfl⟩
        obtain ⟨fr', hfz⟩ := hfz
        exact .inr ⟨_, ha, ⟨rfl, arr, T', fr', hfz, hcc⟩, hl'⟩
    · intro b' hb'
      simp only [rdo, own] at hb' ⊢
      refine ⟨?_, .inl hb'⟩
      rw [blk_some ha] at hb'
      simp only [List.mem_singleton] at hb'
      subst hb'
      unfold frz
      simp only [hb]
      simpa using hc.lt
/-- what a callee may do to one of the things -/
theorem Sat.old_sv {s : Sl} {l : List α} (hs : Sat h0 S h L) (hv : SV n h0 s l) (hp : ∀ b ∈ blk s, b ∉ S) : SV n h s l := hv.fr' hs.fr hp
end
end Go.Sh
namespace Go.Proofs.YtimmoekliphobaaDoor
open Go Go.Sh
open Go.Sh.Ty (reg)
set_option linter.unusedVariables false
set_option maxRecDepth 100000
set_option maxHeartbeats 4000000
noncomputable abbrev Prog : Program := Tryd.prog
theorem follows_mixed : Prog.follows .mixedOrders = true := by kernel_rfl
structure api_Key where
  Root : Arr 32 UInt8
  Height : Int
def api_Key.zero : api_Key := { Root := (fun _ => 0), Height := 0 }
instance : Ty api_Key := ⟨fun x => .agg (enc x.Root ++ (enc x.Height)).toArray⟩
theorem enc_api_Key (x : api_Key) : enc x = enc x.Root ++ (enc x.Height) := rfl
theorem one_api_Key (x : api_Key) : (enc x).all (·.oneCell') = true := one_app (one_arr (n := 32) (fun _ => rfl) _) ((one_i _))
theorem len_api_Key (x : api_Key) : (enc x).length = 33 := by
  rw [enc_api_Key]; simp only [List.length_append, arr_len, len_i]
structure api_Member where
  Id : Int
  Key : api_Key
def api_Member.zero : api_Member := { Id := 0, Key := api_Key.zero }
instance : Ty api_Member := ⟨fun x => .agg (enc x.Id ++ (enc x.Key)).toArray⟩
theorem enc_api_Member (x : api_Member) : enc x = enc x.Id ++ (enc x.Key) := rfl
theorem one_api_Member (x : api_Member) : (enc x).all (·.oneCell') = true := one_app (one_i _) ((one_api_Key _))
theorem len_api_Member (x : api_Member) : (enc x).length = 34 := by
  rw [enc_api_Member]; simp only [List.length_append, len_api_Key, len_i]
structure vote_place where
  kind : Int
  round : Int
  from_ : Int
deriving DecidableEq
def vote_place.zero : vote_place := { kind := 0, round := 0, from_ := 0 }
instance : Ty vote_place := ⟨fun x => .agg (enc x.kind ++ (enc x.round ++ (enc x.from_))).toArray⟩
theorem enc_vote_place (x : vote_place) : enc x = enc x.kind ++ (enc x.round ++ (enc x.from_)) := rfl
theorem one_vote_place (x : vote_place) : (enc x).all (·.oneCell') = true := one_app (one_i _) (one_app (one_i _) ((one_i _)))
theorem len_vote_place (x : vote_place) : (enc x).length = 3 := by
  rw [enc_vote_place]; simp only [List.length_append, len_i]
structure api_Block where
  Epoch : Int
  Height : Int
  Prev : Arr 32 UInt8
  State : Arr 32 UInt8
  Next : Arr 32 UInt8
  Requests : Sl
def api_Block.zero : api_Block := { Epoch := 0, Height := 0, Prev := (fun _ => 0), State := (fun _ => 0), Next := (fun _ => 0), Requests := Sl.nil }
instance : Ty api_Block := ⟨fun x => .agg (enc x.Epoch ++ (enc x.Height ++ (enc x.Prev ++ (enc x.State ++ (enc x.Next ++ (enc x.Requests)))))).toArray⟩
theorem enc_api_Block (x : api_Block) : enc x = enc x.Epoch ++ (enc x.Height ++ (enc x.Prev ++ (enc x.State ++ (enc x.Next ++ (enc x.Requests))))) := rfl
theorem one_api_Block (x : api_Block) : (enc x).all (·.oneCell') = true := one_app (one_i _) (one_app (one_i _) (one_app (one_arr (n := 32) (fun _ => rfl) _) (one_app (one_arr (n := 32) (fun _ => rfl) _) (one_app (one_arr (n := 32) (fun _ => rfl) _) ((one_sl _))))))
theorem len_api_Block (x : api_Block) : (enc x).length = 99 := by
  rw [enc_api_Block]; simp only [List.length_append, arr_len, len_i, len_sl]
structure round_mark where
  round : Int
  block : api_Block
def round_mark.zero : round_mark := { round := 0, block := api_Block.zero }
instance : Ty round_mark := ⟨fun x => .agg (enc x.round ++ (enc x.block)).toArray⟩
theorem enc_round_mark (x : round_mark) : enc x = enc x.round ++ (enc x.block) := rfl
theorem one_round_mark (x : round_mark) : (enc x).all (·.oneCell') = true := one_app (one_i _) ((one_api_Block _))
theorem len_round_mark (x : round_mark) : (enc x).length = 100 := by
  rw [enc_round_mark]; simp only [List.length_append, len_api_Block, len_i]
structure api_Change where
  Kind : Int
  Id : Int
  New : Int
  Key : api_Key
def api_Change.zero : api_Change := { Kind := 0, Id := 0, New := 0, Key := api_Key.zero }
instance : Ty api_Change := ⟨fun x => .agg (enc x.Kind ++ (enc x.Id ++ (enc x.New ++ (enc x.Key)))).toArray⟩
theorem enc_api_Change (x : api_Change) : enc x = enc x.Kind ++ (enc x.Id ++ (enc x.New ++ (enc x.Key))) := rfl
theorem one_api_Change (x : api_Change) : (enc x).all (·.oneCell') = true := one_app (one_i _) (one_app (one_i _) (one_app (one_i _) ((one_api_Key _))))
theorem len_api_Change (x : api_Change) : (enc x).length = 36 := by
  rw [enc_api_Change]; simp only [List.length_append, len_api_Key, len_i]
structure api_Op where
  Kind : Int
  Key : ByteArray
  Val : ByteArray
  Old : ByteArray
  Change : api_Change
def api_Op.zero : api_Op := { Kind := 0, Key := .empty, Val := .empty, Old := .empty, Change := api_Change.zero }
instance : Ty api_Op := ⟨fun x => .agg (enc x.Kind ++ (enc x.Key ++ (enc x.Val ++ (enc x.Old ++ (enc x.Change))))).toArray⟩
theorem enc_api_Op (x : api_Op) : enc x = enc x.Kind ++ (enc x.Key ++ (enc x.Val ++ (enc x.Old ++ (enc x.Change)))) := rfl
theorem one_api_Op (x : api_Op) : (enc x).all (·.oneCell') = true := one_app (one_i _) (one_app (one_s _) (one_app (one_s _) (one_app (one_s _) ((one_api_Change _)))))
theorem len_api_Op (x : api_Op) : (enc x).length = 40 := by
  rw [enc_api_Op]; simp only [List.length_append, len_api_Change, len_i, len_s]
structure api_Request where
  Client : Int
  Num : Int
  Op : api_Op
def api_Request.zero : api_Request := { Client := 0, Num := 0, Op := api_Op.zero }
instance : Ty api_Request := ⟨fun x => .agg (enc x.Client ++ (enc x.Num ++ (enc x.Op))).toArray⟩
theorem enc_api_Request (x : api_Request) : enc x = enc x.Client ++ (enc x.Num ++ (enc x.Op)) := rfl
theorem one_api_Request (x : api_Request) : (enc x).all (·.oneCell') = true := one_app (one_i _) (one_app (one_i _) ((one_api_Op _)))
theorem len_api_Request (x : api_Request) : (enc x).length = 42 := by
  rw [enc_api_Request]; simp only [List.length_append, len_api_Op, len_i]
structure api_Once where
  Open : Sl
  Shut : Sl
def api_Once.zero : api_Once := { Open := Sl.nil, Shut := Sl.nil }
instance : Ty api_Once := ⟨fun x => .agg (enc x.Open ++ (enc x.Shut)).toArray⟩
theorem enc_api_Once (x : api_Once) : enc x = enc x.Open ++ (enc x.Shut) := rfl
theorem one_api_Once (x : api_Once) : (enc x).all (·.oneCell') = true := one_app (one_sl _) ((one_sl _))
theorem len_api_Once (x : api_Once) : (enc x).length = 2 := by
  rw [enc_api_Once]; simp only [List.length_append, len_sl]
structure api_Sig where
  Leaf : Int
  Once : api_Once
  Path : Sl
def api_Sig.zero : api_Sig := { Leaf := 0, Once := api_Once.zero, Path := Sl.nil }
instance : Ty api_Sig := ⟨fun x => .agg (enc x.Leaf ++ (enc x.Once ++ (enc x.Path))).toArray⟩
theorem enc_api_Sig (x : api_Sig) : enc x = enc x.Leaf ++ (enc x.Once ++ (enc x.Path)) := rfl
theorem one_api_Sig (x : api_Sig) : (enc x).all (·.oneCell') = true := one_app (one_i _) (one_app (one_api_Once _) ((one_sl _)))
theorem len_api_Sig (x : api_Sig) : (enc x).length = 4 := by
  rw [enc_api_Sig]; simp only [List.length_append, len_api_Once, len_i, len_sl]
structure api_Vote where
  Kind : Int
  Epoch : Int
  Height : Int
  Round : Int
  Digest : Arr 32 UInt8
  From : Int
  Sig : api_Sig
def api_Vote.zero : api_Vote := { Kind := 0, Epoch := 0, Height := 0, Round := 0, Digest := (fun _ => 0), From := 0, Sig := api_Sig.zero }
instance : Ty api_Vote := ⟨fun x => .agg (enc x.Kind ++ (enc x.Epoch ++ (enc x.Height ++ (enc x.Round ++ (enc x.Digest ++ (enc x.From ++ (enc x.Sig))))))).toArray⟩
theorem enc_api_Vote (x : api_Vote) : enc x = enc x.Kind ++ (enc x.Epoch ++ (enc x.Height ++ (enc x.Round ++ (enc x.Digest ++ (enc x.From ++ (enc x.Sig)))))) := rfl
theorem one_api_Vote (x : api_Vote) : (enc x).all (·.oneCell') = true := one_app (one_i _) (one_app (one_i _) (one_app (one_i _) (one_app (one_i _) (one_app (one_arr (n := 32) (fun _ => rfl) _) (one_app (one_i _) ((one_api_Sig _)))))))
theorem len_api_Vote (x : api_Vote) : (enc x).length = 41 := by
  rw [enc_api_Vote]; simp only [List.length_append, arr_len, len_api_Sig, len_i]
structure api_Config where
  Epoch : Int
  Members : Sl
def api_Config.zero : api_Config := { Epoch := 0, Members := Sl.nil }
instance : Ty api_Config := ⟨fun x => .agg (enc x.Epoch ++ (enc x.Members)).toArray⟩
theorem enc_api_Config (x : api_Config) : enc x = enc x.Epoch ++ (enc x.Members) := rfl
theorem one_api_Config (x : api_Config) : (enc x).all (·.oneCell') = true := one_app (one_i _) ((one_sl _))
theorem len_api_Config (x : api_Config) : (enc x).length = 2 := by
  rw [enc_api_Config]; simp only [List.length_append, len_i, len_sl]
structure api_Plan where
  Epoch : Int
  Height : Int
  Round : Int
  Valid : Int
  Block : api_Block
  From : Int
  Sig : api_Sig
def api_Plan.zero : api_Plan := { Epoch := 0, Height := 0, Round := 0, Valid := 0, Block := api_Block.zero, From := 0, Sig := api_Sig.zero }
instance : Ty api_Plan := ⟨fun x => .agg (enc x.Epoch ++ (enc x.Height ++ (enc x.Round ++ (enc x.Valid ++ (enc x.Block ++ (enc x.From ++ (enc x.Sig))))))).toArray⟩
theorem enc_api_Plan (x : api_Plan) : enc x = enc x.Epoch ++ (enc x.Height ++ (enc x.Round ++ (enc x.Valid ++ (enc x.Block ++ (enc x.From ++ (enc x.Sig)))))) := rfl
theorem one_api_Plan (x : api_Plan) : (enc x).all (·.oneCell') = true := one_app (one_i _) (one_app (one_i _) (one_app (one_i _) (one_app (one_i _) (one_app (one_api_Block _) (one_app (one_i _) ((one_api_Sig _)))))))
theorem len_api_Plan (x : api_Plan) : (enc x).length = 108 := by
  rw [enc_api_Plan]; simp only [List.length_append, len_api_Block, len_api_Sig, len_i]
structure api_Act where
  Act : Int
  Round : Int
  Kind : Int
  Digest : Arr 32 UInt8
  Valid : Int
  Block : api_Block
def api_Act.zero : api_Act := { Act := 0, Round := 0, Kind := 0, Digest := (fun _ => 0), Valid := 0, Block := api_Block.zero }
instance : Ty api_Act := ⟨fun x => .agg (enc x.Act ++ (enc x.Round ++ (enc x.Kind ++ (enc x.Digest ++ (enc x.Valid ++ (enc x.Block)))))).toArray⟩
theorem enc_api_Act (x : api_Act) : enc x = enc x.Act ++ (enc x.Round ++ (enc x.Kind ++ (enc x.Digest ++ (enc x.Valid ++ (enc x.Block))))) := rfl
theorem one_api_Act (x : api_Act) : (enc x).all (·.oneCell') = true := one_app (one_i _) (one_app (one_i _) (one_app (one_i _) (one_app (one_arr (n := 32) (fun _ => rfl) _) (one_app (one_i _) ((one_api_Block _))))))
theorem len_api_Act (x : api_Act) : (enc x).length = 135 := by
  rw [enc_api_Act]; simp only [List.length_append, arr_len, len_api_Block, len_i]
structure law19_Call where
  Kind : Int
  P : api_Plan
  V : api_Vote
  N : Int
def law19_Call.zero : law19_Call := { Kind := 0, P := api_Plan.zero, V := api_Vote.zero, N := 0 }
instance : Ty law19_Call := ⟨fun x => .agg (enc x.Kind ++ (enc x.P ++ (enc x.V ++ (enc x.N)))).toArray⟩
theorem enc_law19_Call (x : law19_Call) : enc x = enc x.Kind ++ (enc x.P ++ (enc x.V ++ (enc x.N))) := rfl
theorem one_law19_Call (x : law19_Call) : (enc x).all (·.oneCell') = true := one_app (one_i _) (one_app (one_api_Plan _) (one_app (one_api_Vote _) ((one_i _))))
theorem len_law19_Call (x : law19_Call) : (enc x).length = 151 := by
  rw [enc_law19_Call]; simp only [List.length_append, len_api_Plan, len_api_Vote, len_i]
structure law19_Move where
  Kind : Int
  I : Int
  N : Int
  V : api_Vote
  P : api_Plan
def law19_Move.zero : law19_Move := { Kind := 0, I := 0, N := 0, V := api_Vote.zero, P := api_Plan.zero }
instance : Ty law19_Move := ⟨fun x => .agg (enc x.Kind ++ (enc x.I ++ (enc x.N ++ (enc x.V ++ (enc x.P))))).toArray⟩
theorem enc_law19_Move (x : law19_Move) : enc x = enc x.Kind ++ (enc x.I ++ (enc x.N ++ (enc x.V ++ (enc x.P)))) := rfl
theorem one_law19_Move (x : law19_Move) : (enc x).all (·.oneCell') = true := one_app (one_i _) (one_app (one_i _) (one_app (one_i _) (one_app (one_api_Vote _) ((one_api_Plan _)))))
theorem len_law19_Move (x : law19_Move) : (enc x).length = 152 := by
  rw [enc_law19_Move]; simp only [List.length_append, len_api_Plan, len_api_Vote, len_i]
structure vote_Box where
  votes : Mp
def vote_Box.zero : vote_Box := { votes := ⟨none⟩ }
instance : Ty vote_Box := ⟨fun x => .agg (enc x.votes).toArray⟩
theorem enc_vote_Box (x : vote_Box) : enc x = enc x.votes := rfl
theorem one_vote_Box (x : vote_Box) : (enc x).all (·.oneCell') = true := (one_mp _)
theorem len_vote_Box (x : vote_Box) : (enc x).length = 1 := by
  rw [enc_vote_Box]; simp only [List.length_append, len_mp]
structure vote_choice where
  round : Int
  digest : Arr 32 UInt8
deriving DecidableEq
def vote_choice.zero : vote_choice := { round := 0, digest := (fun _ => 0) }
instance : Ty vote_choice := ⟨fun x => .agg (enc x.round ++ (enc x.digest)).toArray⟩
theorem enc_vote_choice (x : vote_choice) : enc x = enc x.round ++ (enc x.digest) := rfl
theorem one_vote_choice (x : vote_choice) : (enc x).all (·.oneCell') = true := one_app (one_i _) ((one_arr (n := 32) (fun _ => rfl) _))
theorem len_vote_choice (x : vote_choice) : (enc x).length = 33 := by
  rw [enc_vote_choice]; simp only [List.length_append, arr_len, len_i]
structure round_Core where
  config : api_Config
  me : Int
  base : Int
  at_ : Cx
  step : Int
  ticks : Int
  locked : round_mark
  valid : round_mark
  plans : Mp
  blocks : Mp
  box : Pt
  fresh : Bool
  decided : Bool
  out : Sl
def round_Core.zero : round_Core := { config := api_Config.zero, me := 0, base := 0, at_ := ⟨0, 0⟩, step := 0, ticks := 0, locked := round_mark.zero, valid := round_mark.zero, plans := ⟨none⟩, blocks := ⟨none⟩, box := none, fresh := false, decided := false, out := Sl.nil }
instance : Ty round_Core := ⟨fun x => .agg (enc x.config ++ (enc x.me ++ (enc x.base ++ (enc x.at_ ++ (enc x.step ++ (enc x.ticks ++ (enc x.locked ++ (enc x.valid ++ (enc x.plans ++ (enc x.blocks ++ (enc x.box ++ (enc x.fresh ++ (enc x.decided ++ (enc x.out)))))))))))))).toArray⟩
theorem enc_round_Core (x : round_Core) : enc x = enc x.config ++ (enc x.me ++ (enc x.base ++ (enc x.at_ ++ (enc x.step ++ (enc x.ticks ++ (enc x.locked ++ (enc x.valid ++ (enc x.plans ++ (enc x.blocks ++ (enc x.box ++ (enc x.fresh ++ (enc x.decided ++ (enc x.out))))))))))))) := rfl
theorem one_round_Core (x : round_Core) : (enc x).all (·.oneCell') = true := one_app (one_api_Config _) (one_app (one_i _) (one_app (one_i _) (one_app (one_cx _) (one_app (one_i _) (one_app (one_i _) (one_app (one_round_mark _) (one_app (one_round_mark _) (one_app (one_mp _) (one_app (one_mp _) (one_app (one_pt _) (one_app (one_b _) (one_app (one_b _) ((one_sl _))))))))))))))
theorem len_round_Core (x : round_Core) : (enc x).length = 213 := by
  rw [enc_round_Core]; simp only [List.length_append, len_api_Config, len_b, len_cx, len_i, len_mp, len_pt, len_round_mark, len_sl]
structure code_Writer where
  b : Sl
def code_Writer.zero : code_Writer := { b := Sl.nil }
instance : Ty code_Writer := ⟨fun x => .agg (enc x.b).toArray⟩
theorem enc_code_Writer (x : code_Writer) : enc x = enc x.b := rfl
theorem one_code_Writer (x : code_Writer) : (enc x).all (·.oneCell') = true := (one_sl _)
theorem len_code_Writer (x : code_Writer) : (enc x).length = 1 := by
  rw [enc_code_Writer]; simp only [List.length_append, len_sl]
structure keys_Tree where
  seed : Arr 32 UInt8
  height : Int
  leaves : Sl
def keys_Tree.zero : keys_Tree := { seed := (fun _ => 0), height := 0, leaves := Sl.nil }
instance : Ty keys_Tree := ⟨fun x => .agg (enc x.seed ++ (enc x.height ++ (enc x.leaves))).toArray⟩
theorem enc_keys_Tree (x : keys_Tree) : enc x = enc x.seed ++ (enc x.height ++ (enc x.leaves)) := rfl
theorem one_keys_Tree (x : keys_Tree) : (enc x).all (·.oneCell') = true := one_app (one_arr (n := 32) (fun _ => rfl) _) (one_app (one_i _) ((one_sl _)))
theorem len_keys_Tree (x : keys_Tree) : (enc x).length = 34 := by
  rw [enc_keys_Tree]; simp only [List.length_append, arr_len, len_i, len_sl]
structure ref13_Box where
  Votes : Sl
def ref13_Box.zero : ref13_Box := { Votes := Sl.nil }
instance : Ty ref13_Box := ⟨fun x => .agg (enc x.Votes).toArray⟩
theorem enc_ref13_Box (x : ref13_Box) : enc x = enc x.Votes := rfl
theorem one_ref13_Box (x : ref13_Box) : (enc x).all (·.oneCell') = true := (one_sl _)
theorem len_ref13_Box (x : ref13_Box) : (enc x).length = 1 := by
  rw [enc_ref13_Box]; simp only [List.length_append, len_sl]
structure law19_Game where
  config : api_Config
  height : Int
  cores : Sl
  plans : Sl
  votes : Sl
  order : Sl
  own : Sl
  decided : Sl
  others : Sl
  made : Int
def law19_Game.zero : law19_Game := { config := api_Config.zero, height := 0, cores := Sl.nil, plans := Sl.nil, votes := Sl.nil, order := Sl.nil, own := Sl.nil, decided := Sl.nil, others := Sl.nil, made := 0 }
instance : Ty law19_Game := ⟨fun x => .agg (enc x.config ++ (enc x.height ++ (enc x.cores ++ (enc x.plans ++ (enc x.votes ++ (enc x.order ++ (enc x.own ++ (enc x.decided ++ (enc x.others ++ (enc x.made)))))))))).toArray⟩
theorem enc_law19_Game (x : law19_Game) : enc x = enc x.config ++ (enc x.height ++ (enc x.cores ++ (enc x.plans ++ (enc x.votes ++ (enc x.order ++ (enc x.own ++ (enc x.decided ++ (enc x.others ++ (enc x.made))))))))) := rfl
theorem one_law19_Game (x : law19_Game) : (enc x).all (·.oneCell') = true := one_app (one_api_Config _) (one_app (one_i _) (one_app (one_sl _) (one_app (one_sl _) (one_app (one_sl _) (one_app (one_sl _) (one_app (one_sl _) (one_app (one_sl _) (one_app (one_sl _) ((one_i _))))))))))
theorem len_law19_Game (x : law19_Game) : (enc x).length = 11 := by
  rw [enc_law19_Game]; simp only [List.length_append, len_api_Config, len_i, len_sl]
theorem ag_107 : IsAgg Prog 107 33 := IsAgg.of (by kernel_rfl) (by kernel_rfl)
theorem ag_110 : IsAgg Prog 110 34 := IsAgg.of (by kernel_rfl) (by kernel_rfl)
theorem ag_115 : IsAgg Prog 115 3 := IsAgg.of (by kernel_rfl) (by kernel_rfl)
theorem ag_136 : IsAgg Prog 136 100 := IsAgg.of (by kernel_rfl) (by kernel_rfl)
theorem ag_178 : IsAgg Prog 178 36 := IsAgg.of (by kernel_rfl) (by kernel_rfl)
theorem ag_182 : IsAgg Prog 182 42 := IsAgg.of (by kernel_rfl) (by kernel_rfl)
theorem ag_215 : IsAgg Prog 215 64 := IsAgg.of (by kernel_rfl) (by kernel_rfl)
theorem ag_24 : IsAgg Prog 24 32 := IsAgg.of (by kernel_rfl) (by kernel_rfl)
theorem ag_33 : IsAgg Prog 33 2 := IsAgg.of (by kernel_rfl) (by kernel_rfl)
theorem ag_35 : IsAgg Prog 35 4 := IsAgg.of (by kernel_rfl) (by kernel_rfl)
theorem ag_37 : IsAgg Prog 37 41 := IsAgg.of (by kernel_rfl) (by kernel_rfl)
theorem ag_54 : IsAgg Prog 54 2 := IsAgg.of (by kernel_rfl) (by kernel_rfl)
theorem ag_75 : IsAgg Prog 75 99 := IsAgg.of (by kernel_rfl) (by kernel_rfl)
theorem ag_77 : IsAgg Prog 77 108 := IsAgg.of (by kernel_rfl) (by kernel_rfl)
theorem ag_80 : IsAgg Prog 80 135 := IsAgg.of (by kernel_rfl) (by kernel_rfl)
theorem ag_88 : IsAgg Prog 88 151 := IsAgg.of (by kernel_rfl) (by kernel_rfl)
theorem ag_95 : IsAgg Prog 95 152 := IsAgg.of (by kernel_rfl) (by kernel_rfl)
theorem ar_186 : ArrT Prog 186 8 185 1 := ⟨by kernel_rfl, SizeOf.of (by kernel_rfl)⟩
theorem ar_187 : ArrT Prog 187 8 185 1 := ⟨by kernel_rfl, SizeOf.of (by kernel_rfl)⟩
theorem ar_188 : ArrT Prog 188 64 5 1 := ⟨by kernel_rfl, SizeOf.of (by kernel_rfl)⟩
theorem ar_192 : ArrT Prog 192 3 9 1 := ⟨by kernel_rfl, SizeOf.of (by kernel_rfl)⟩
theorem ar_215 : ArrT Prog 215 64 185 1 := ⟨by kernel_rfl, SizeOf.of (by kernel_rfl)⟩
theorem ar_218 : ArrT Prog 218 16 5 1 := ⟨by kernel_rfl, SizeOf.of (by kernel_rfl)⟩
theorem ar_220 : ArrT Prog 220 2 24 32 := ⟨by kernel_rfl, SizeOf.of (by kernel_rfl)⟩
theorem ar_24 : ArrT Prog 24 32 5 1 := ⟨by kernel_rfl, SizeOf.of (by kernel_rfl)⟩
theorem bt_24 : BytesT Prog 24 32 := ⟨⟨5, by kernel_rfl, by kernel_rfl, SizeOf.of (by kernel_rfl)⟩, by kernel_rfl⟩
theorem by_110 : (Prog.info? 110).map (·.bytes) = some 48 := by kernel_rfl
theorem by_182 : (Prog.info? 182).map (·.bytes) = some 136 := by kernel_rfl
theorem by_22 : (Prog.info? 22).map (·.bytes) = some 24 := by kernel_rfl
theorem by_24 : (Prog.info? 24).map (·.bytes) = some 32 := by kernel_rfl
theorem by_37 : (Prog.info? 37).map (·.bytes) = some 152 := by kernel_rfl
theorem by_4 : (Prog.info? 4).map (·.bytes) = some 1 := by kernel_rfl
theorem by_5 : (Prog.info? 5).map (·.bytes) = some 1 := by kernel_rfl
theorem by_62 : (Prog.info? 62).map (·.bytes) = some 8 := by kernel_rfl
theorem by_75 : (Prog.info? 75).map (·.bytes) = some 136 := by kernel_rfl
theorem by_77 : (Prog.info? 77).map (·.bytes) = some 256 := by kernel_rfl
theorem by_80 : (Prog.info? 80).map (·.bytes) = some 200 := by kernel_rfl
theorem fl_107_0 : FldAt Prog 107 0 0 := FldAt.of 31 (by kernel_rfl)
theorem fl_107_1 : FldAt Prog 107 1 32 := FldAt.of 0 (by kernel_rfl)
theorem fl_110_0 : FldAt Prog 110 0 0 := FldAt.of 0 (by kernel_rfl)
theorem fl_110_1 : FldAt Prog 110 1 1 := FldAt.of 32 (by kernel_rfl)
theorem fl_113_0 : FldAt Prog 113 0 0 := FldAt.of 0 (by kernel_rfl)
theorem fl_115_0 : FldAt Prog 115 0 0 := FldAt.of 0 (by kernel_rfl)
theorem fl_115_1 : FldAt Prog 115 1 1 := FldAt.of 0 (by kernel_rfl)
theorem fl_115_2 : FldAt Prog 115 2 2 := FldAt.of 0 (by kernel_rfl)
theorem fl_128_0 : FldAt Prog 128 0 0 := FldAt.of 0 (by kernel_rfl)
theorem fl_128_1 : FldAt Prog 128 1 1 := FldAt.of 31 (by kernel_rfl)
theorem fl_136_0 : FldAt Prog 136 0 0 := FldAt.of 0 (by kernel_rfl)
theorem fl_136_1 : FldAt Prog 136 1 1 := FldAt.of 98 (by kernel_rfl)
theorem fl_140_0 : FldAt Prog 140 0 0 := FldAt.of 1 (by kernel_rfl)
theorem fl_140_1 : FldAt Prog 140 1 2 := FldAt.of 0 (by kernel_rfl)
theorem fl_140_10 : FldAt Prog 140 10 209 := FldAt.of 0 (by kernel_rfl)
theorem fl_140_11 : FldAt Prog 140 11 210 := FldAt.of 0 (by kernel_rfl)
theorem fl_140_12 : FldAt Prog 140 12 211 := FldAt.of 0 (by kernel_rfl)
theorem fl_140_13 : FldAt Prog 140 13 212 := FldAt.of 0 (by kernel_rfl)
theorem fl_140_2 : FldAt Prog 140 2 3 := FldAt.of 0 (by kernel_rfl)
theorem fl_140_3 : FldAt Prog 140 3 4 := FldAt.of 0 (by kernel_rfl)
theorem fl_140_4 : FldAt Prog 140 4 5 := FldAt.of 0 (by kernel_rfl)
theorem fl_140_5 : FldAt Prog 140 5 6 := FldAt.of 0 (by kernel_rfl)
theorem fl_140_6 : FldAt Prog 140 6 7 := FldAt.of 99 (by kernel_rfl)
theorem fl_140_7 : FldAt Prog 140 7 107 := FldAt.of 99 (by kernel_rfl)
theorem fl_140_8 : FldAt Prog 140 8 207 := FldAt.of 0 (by kernel_rfl)
theorem fl_140_9 : FldAt Prog 140 9 208 := FldAt.of 0 (by kernel_rfl)
theorem fl_145_0 : FldAt Prog 145 0 0 := FldAt.of 0 (by kernel_rfl)
theorem fl_156_0 : FldAt Prog 156 0 0 := FldAt.of 31 (by kernel_rfl)
theorem fl_156_1 : FldAt Prog 156 1 32 := FldAt.of 0 (by kernel_rfl)
theorem fl_156_2 : FldAt Prog 156 2 33 := FldAt.of 0 (by kernel_rfl)
theorem fl_178_0 : FldAt Prog 178 0 0 := FldAt.of 0 (by kernel_rfl)
theorem fl_178_1 : FldAt Prog 178 1 1 := FldAt.of 0 (by kernel_rfl)
theorem fl_178_2 : FldAt Prog 178 2 2 := FldAt.of 0 (by kernel_rfl)
theorem fl_178_3 : FldAt Prog 178 3 3 := FldAt.of 32 (by kernel_rfl)
theorem fl_180_0 : FldAt Prog 180 0 0 := FldAt.of 0 (by kernel_rfl)
theorem fl_180_1 : FldAt Prog 180 1 1 := FldAt.of 0 (by kernel_rfl)
theorem fl_180_2 : FldAt Prog 180 2 2 := FldAt.of 0 (by kernel_rfl)
theorem fl_180_3 : FldAt Prog 180 3 3 := FldAt.of 0 (by kernel_rfl)
theorem fl_180_4 : FldAt Prog 180 4 4 := FldAt.of 35 (by kernel_rfl)
theorem fl_182_0 : FldAt Prog 182 0 0 := FldAt.of 0 (by kernel_rfl)
theorem fl_182_1 : FldAt Prog 182 1 1 := FldAt.of 0 (by kernel_rfl)
theorem fl_182_2 : FldAt Prog 182 2 2 := FldAt.of 39 (by kernel_rfl)
theorem fl_30_0 : FldAt Prog 30 0 0 := FldAt.of 0 (by kernel_rfl)
theorem fl_33_0 : FldAt Prog 33 0 0 := FldAt.of 0 (by kernel_rfl)
theorem fl_33_1 : FldAt Prog 33 1 1 := FldAt.of 0 (by kernel_rfl)
theorem fl_35_0 : FldAt Prog 35 0 0 := FldAt.of 0 (by kernel_rfl)
theorem fl_35_1 : FldAt Prog 35 1 1 := FldAt.of 1 (by kernel_rfl)
theorem fl_35_2 : FldAt Prog 35 2 3 := FldAt.of 0 (by kernel_rfl)
theorem fl_37_0 : FldAt Prog 37 0 0 := FldAt.of 0 (by kernel_rfl)
theorem fl_37_1 : FldAt Prog 37 1 1 := FldAt.of 0 (by kernel_rfl)
theorem fl_37_2 : FldAt Prog 37 2 2 := FldAt.of 0 (by kernel_rfl)
theorem fl_37_3 : FldAt Prog 37 3 3 := FldAt.of 0 (by kernel_rfl)
theorem fl_37_4 : FldAt Prog 37 4 4 := FldAt.of 31 (by kernel_rfl)
theorem fl_37_5 : FldAt Prog 37 5 36 := FldAt.of 0 (by kernel_rfl)
theorem fl_37_6 : FldAt Prog 37 6 37 := FldAt.of 3 (by kernel_rfl)
theorem fl_54_0 : FldAt Prog 54 0 0 := FldAt.of 0 (by kernel_rfl)
theorem fl_54_1 : FldAt Prog 54 1 1 := FldAt.of 0 (by kernel_rfl)
theorem fl_61_0 : FldAt Prog 61 0 0 := FldAt.of 1 (by kernel_rfl)
theorem fl_61_1 : FldAt Prog 61 1 2 := FldAt.of 0 (by kernel_rfl)
theorem fl_61_2 : FldAt Prog 61 2 3 := FldAt.of 0 (by kernel_rfl)
theorem fl_61_3 : FldAt Prog 61 3 4 := FldAt.of 0 (by kernel_rfl)
theorem fl_61_4 : FldAt Prog 61 4 5 := FldAt.of 0 (by kernel_rfl)
theorem fl_61_5 : FldAt Prog 61 5 6 := FldAt.of 0 (by kernel_rfl)
theorem fl_61_6 : FldAt Prog 61 6 7 := FldAt.of 0 (by kernel_rfl)
theorem fl_61_7 : FldAt Prog 61 7 8 := FldAt.of 0 (by kernel_rfl)
theorem fl_61_8 : FldAt Prog 61 8 9 := FldAt.of 0 (by kernel_rfl)
theorem fl_61_9 : FldAt Prog 61 9 10 := FldAt.of 0 (by kernel_rfl)
theorem fl_75_0 : FldAt Prog 75 0 0 := FldAt.of 0 (by kernel_rfl)
theorem fl_75_1 : FldAt Prog 75 1 1 := FldAt.of 0 (by kernel_rfl)
theorem fl_75_2 : FldAt Prog 75 2 2 := FldAt.of 31 (by kernel_rfl)
theorem fl_75_3 : FldAt Prog 75 3 34 := FldAt.of 31 (by kernel_rfl)
theorem fl_75_4 : FldAt Prog 75 4 66 := FldAt.of 31 (by kernel_rfl)
theorem fl_75_5 : FldAt Prog 75 5 98 := FldAt.of 0 (by kernel_rfl)
theorem fl_77_1 : FldAt Prog 77 1 1 := FldAt.of 0 (by kernel_rfl)
theorem fl_77_2 : FldAt Prog 77 2 2 := FldAt.of 0 (by kernel_rfl)
theorem fl_77_3 : FldAt Prog 77 3 3 := FldAt.of 0 (by kernel_rfl)
theorem fl_77_4 : FldAt Prog 77 4 4 := FldAt.of 98 (by kernel_rfl)
theorem fl_77_5 : FldAt Prog 77 5 103 := FldAt.of 0 (by kernel_rfl)
theorem fl_80_0 : FldAt Prog 80 0 0 := FldAt.of 0 (by kernel_rfl)
theorem fl_80_1 : FldAt Prog 80 1 1 := FldAt.of 0 (by kernel_rfl)
theorem fl_80_2 : FldAt Prog 80 2 2 := FldAt.of 0 (by kernel_rfl)
theorem fl_80_3 : FldAt Prog 80 3 3 := FldAt.of 31 (by kernel_rfl)
theorem fl_80_4 : FldAt Prog 80 4 35 := FldAt.of 0 (by kernel_rfl)
theorem fl_80_5 : FldAt Prog 80 5 36 := FldAt.of 98 (by kernel_rfl)
theorem fl_88_0 : FldAt Prog 88 0 0 := FldAt.of 0 (by kernel_rfl)
theorem fl_88_1 : FldAt Prog 88 1 1 := FldAt.of 107 (by kernel_rfl)
theorem fl_88_2 : FldAt Prog 88 2 109 := FldAt.of 40 (by kernel_rfl)
theorem fl_88_3 : FldAt Prog 88 3 150 := FldAt.of 0 (by kernel_rfl)
theorem fl_95_0 : FldAt Prog 95 0 0 := FldAt.of 0 (by kernel_rfl)
theorem fl_95_1 : FldAt Prog 95 1 1 := FldAt.of 0 (by kernel_rfl)
theorem fl_95_2 : FldAt Prog 95 2 2 := FldAt.of 0 (by kernel_rfl)
theorem fl_95_3 : FldAt Prog 95 3 3 := FldAt.of 40 (by kernel_rfl)
theorem fl_95_4 : FldAt Prog 95 4 44 := FldAt.of 107 (by kernel_rfl)
theorem fn_10 : FnOk Prog 10 := ⟨_, Tryd.func10, by kernel_rfl, by kernel_rfl⟩
theorem fn_100 : FnOk Prog 100 := ⟨_, Tryd.func100, by kernel_rfl, by kernel_rfl⟩
theorem fn_101 : FnOk Prog 101 := ⟨_, Tryd.func101, by kernel_rfl, by kernel_rfl⟩
theorem fn_102 : FnOk Prog 102 := ⟨_, Tryd.func102, by kernel_rfl, by kernel_rfl⟩
theorem fn_103 : FnOk Prog 103 := ⟨_, Tryd.func103, by kernel_rfl, by kernel_rfl⟩
theorem fn_104 : FnOk Prog 104 := ⟨_, Tryd.func104, by kernel_rfl, by kernel_rfl⟩
theorem fn_105 : FnOk Prog 105 := ⟨_, Tryd.func105, by kernel_rfl, by kernel_rfl⟩
theorem fn_106 : FnOk Prog 106 := ⟨_, Tryd.func106, by kernel_rfl, by kernel_rfl⟩
theorem fn_108 : FnOk Prog 108 := ⟨_, Tryd.func108, by kernel_rfl, by kernel_rfl⟩
theorem fn_109 : FnOk Prog 109 := ⟨_, Tryd.func109, by kernel_rfl, by kernel_rfl⟩
theorem fn_11 : FnOk Prog 11 := ⟨_, Tryd.func11, by kernel_rfl, by kernel_rfl⟩
theorem fn_110 : FnOk Prog 110 := ⟨_, Tryd.func110, by kernel_rfl, by kernel_rfl⟩
theorem fn_111 : FnOk Prog 111 := ⟨_, Tryd.func111, by kernel_rfl, by kernel_rfl⟩
theorem fn_112 : FnOk Prog 112 := ⟨_, Tryd.func112, by kernel_rfl, by kernel_rfl⟩
theorem fn_113 : FnOk Prog 113 := ⟨_, Tryd.func113, by kernel_rfl, by kernel_rfl⟩
theorem fn_114 : FnOk Prog 114 := ⟨_, Tryd.func114, by kernel_rfl, by kernel_rfl⟩
theorem fn_115 : FnOk Prog 115 := ⟨_, Tryd.func115, by kernel_rfl, by kernel_rfl⟩
theorem fn_116 : FnOk Prog 116 := ⟨_, Tryd.func116, by kernel_rfl, by kernel_rfl⟩
theorem fn_117 : FnOk Prog 117 := ⟨_, Tryd.func117, by kernel_rfl, by kernel_rfl⟩
theorem fn_118 : FnOk Prog 118 := ⟨_, Tryd.func118, by kernel_rfl, by kernel_rfl⟩
theorem fn_119 : FnOk Prog 119 := ⟨_, Tryd.func119, by kernel_rfl, by kernel_rfl⟩
theorem fn_12 : FnOk Prog 12 := ⟨_, Tryd.func12, by kernel_rfl, by kernel_rfl⟩
theorem fn_120 : FnOk Prog 120 := ⟨_, Tryd.func120, by kernel_rfl, by kernel_rfl⟩
theorem fn_121 : FnOk Prog 121 := ⟨_, Tryd.func121, by kernel_rfl, by kernel_rfl⟩
theorem fn_122 : FnOk Prog 122 := ⟨_, Tryd.func122, by kernel_rfl, by kernel_rfl⟩
theorem fn_123 : FnOk Prog 123 := ⟨_, Tryd.func123, by kernel_rfl, by kernel_rfl⟩
theorem fn_124 : FnOk Prog 124 := ⟨_, Tryd.func124, by kernel_rfl, by kernel_rfl⟩
theorem fn_125 : FnOk Prog 125 := ⟨_, Tryd.func125, by kernel_rfl, by kernel_rfl⟩
theorem fn_126 : FnOk Prog 126 := ⟨_, Tryd.func126, by kernel_rfl, by kernel_rfl⟩
theorem fn_127 : FnOk Prog 127 := ⟨_, Tryd.func127, by kernel_rfl, by kernel_rfl⟩
theorem fn_128 : FnOk Prog 128 := ⟨_, Tryd.func128, by kernel_rfl, by kernel_rfl⟩
theorem fn_129 : FnOk Prog 129 := ⟨_, Tryd.func129, by kernel_rfl, by kernel_rfl⟩
theorem fn_13 : FnOk Prog 13 := ⟨_, Tryd.func13, by kernel_rfl, by kernel_rfl⟩
theorem fn_130 : FnOk Prog 130 := ⟨_, Tryd.func130, by kernel_rfl, by kernel_rfl⟩
theorem fn_132 : FnOk Prog 132 := ⟨_, Tryd.func132, by kernel_rfl, by kernel_rfl⟩
theorem fn_133 : FnOk Prog 133 := ⟨_, Tryd.func133, by kernel_rfl, by kernel_rfl⟩
theorem fn_134 : FnOk Prog 134 := ⟨_, Tryd.func134, by kernel_rfl, by kernel_rfl⟩
theorem fn_135 : FnOk Prog 135 := ⟨_, Tryd.func135, by kernel_rfl, by kernel_rfl⟩
theorem fn_136 : FnOk Prog 136 := ⟨_, Tryd.func136, by kernel_rfl, by kernel_rfl⟩
theorem fn_137 : FnOk Prog 137 := ⟨_, Tryd.func137, by kernel_rfl, by kernel_rfl⟩
theorem fn_138 : FnOk Prog 138 := ⟨_, Tryd.func138, by kernel_rfl, by kernel_rfl⟩
theorem fn_139 : FnOk Prog 139 := ⟨_, Tryd.func139, by kernel_rfl, by kernel_rfl⟩
theorem fn_14 : FnOk Prog 14 := ⟨_, Tryd.func14, by kernel_rfl, by kernel_rfl⟩
theorem fn_140 : FnOk Prog 140 := ⟨_, Tryd.func140, by kernel_rfl, by kernel_rfl⟩
theorem fn_141 : FnOk Prog 141 := ⟨_, Tryd.func141, by kernel_rfl, by kernel_rfl⟩
theorem fn_15 : FnOk Prog 15 := ⟨_, Tryd.func15, by kernel_rfl, by kernel_rfl⟩
theorem fn_16 : FnOk Prog 16 := ⟨_, Tryd.func16, by kernel_rfl, by kernel_rfl⟩
theorem fn_17 : FnOk Prog 17 := ⟨_, Tryd.func17, by kernel_rfl, by kernel_rfl⟩
theorem fn_18 : FnOk Prog 18 := ⟨_, Tryd.func18, by kernel_rfl, by kernel_rfl⟩
theorem fn_19 : FnOk Prog 19 := ⟨_, Tryd.func19, by kernel_rfl, by kernel_rfl⟩
theorem fn_20 : FnOk Prog 20 := ⟨_, Tryd.func20, by kernel_rfl, by kernel_rfl⟩
theorem fn_21 : FnOk Prog 21 := ⟨_, Tryd.func21, by kernel_rfl, by kernel_rfl⟩
theorem fn_22 : FnOk Prog 22 := ⟨_, Tryd.func22, by kernel_rfl, by kernel_rfl⟩
theorem fn_23 : FnOk Prog 23 := ⟨_, Tryd.func23, by kernel_rfl, by kernel_rfl⟩
theorem fn_24 : FnOk Prog 24 := ⟨_, Tryd.func24, by kernel_rfl, by kernel_rfl⟩
theorem fn_25 : FnOk Prog 25 := ⟨_, Tryd.func25, by kernel_rfl, by kernel_rfl⟩
theorem fn_26 : FnOk Prog 26 := ⟨_, Tryd.func26, by kernel_rfl, by kernel_rfl⟩
theorem fn_27 : FnOk Prog 27 := ⟨_, Tryd.func27, by kernel_rfl, by kernel_rfl⟩
theorem fn_28 : FnOk Prog 28 := ⟨_, Tryd.func28, by kernel_rfl, by kernel_rfl⟩
theorem fn_29 : FnOk Prog 29 := ⟨_, Tryd.func29, by kernel_rfl, by kernel_rfl⟩
theorem fn_30 : FnOk Prog 30 := ⟨_, Tryd.func30, by kernel_rfl, by kernel_rfl⟩
theorem fn_31 : FnOk Prog 31 := ⟨_, Tryd.func31, by kernel_rfl, by kernel_rfl⟩
theorem fn_32 : FnOk Prog 32 := ⟨_, Tryd.func32, by kernel_rfl, by kernel_rfl⟩
theorem fn_33 : FnOk Prog 33 := ⟨_, Tryd.func33, by kernel_rfl, by kernel_rfl⟩
theorem fn_34 : FnOk Prog 34 := ⟨_, Tryd.func34, by kernel_rfl, by kernel_rfl⟩
theorem fn_35 : FnOk Prog 35 := ⟨_, Tryd.func35, by kernel_rfl, by kernel_rfl⟩
theorem fn_36 : FnOk Prog 36 := ⟨_, Tryd.func36, by kernel_rfl, by kernel_rfl⟩
theorem fn_37 : FnOk Prog 37 := ⟨_, Tryd.func37, by kernel_rfl, by kernel_rfl⟩
theorem fn_38 : FnOk Prog 38 := ⟨_, Tryd.func38, by kernel_rfl, by kernel_rfl⟩
theorem fn_39 : FnOk Prog 39 := ⟨_, Tryd.func39, by kernel_rfl, by kernel_rfl⟩
theorem fn_40 : FnOk Prog 40 := ⟨_, Tryd.func40, by kernel_rfl, by kernel_rfl⟩
theorem fn_41 : FnOk Prog 41 := ⟨_, Tryd.func41, by kernel_rfl, by kernel_rfl⟩
theorem fn_42 : FnOk Prog 42 := ⟨_, Tryd.func42, by kernel_rfl, by kernel_rfl⟩
theorem fn_43 : FnOk Prog 43 := ⟨_, Tryd.func43, by kernel_rfl, by kernel_rfl⟩
theorem fn_44 : FnOk Prog 44 := ⟨_, Tryd.func44, by kernel_rfl, by kernel_rfl⟩
theorem fn_45 : FnOk Prog 45 := ⟨_, Tryd.func45, by kernel_rfl, by kernel_rfl⟩
theorem fn_46 : FnOk Prog 46 := ⟨_, Tryd.func46, by kernel_rfl, by kernel_rfl⟩
theorem fn_47 : FnOk Prog 47 := ⟨_, Tryd.func47, by kernel_rfl, by kernel_rfl⟩
theorem fn_48 : FnOk Prog 48 := ⟨_, Tryd.func48, by kernel_rfl, by kernel_rfl⟩
theorem fn_49 : FnOk Prog 49 := ⟨_, Tryd.func49, by kernel_rfl, by kernel_rfl⟩
theorem fn_50 : FnOk Prog 50 := ⟨_, Tryd.func50, by kernel_rfl, by kernel_rfl⟩
theorem fn_51 : FnOk Prog 51 := ⟨_, Tryd.func51, by kernel_rfl, by kernel_rfl⟩
theorem fn_52 : FnOk Prog 52 := ⟨_, Tryd.func52, by kernel_rfl, by kernel_rfl⟩
theorem fn_53 : FnOk Prog 53 := ⟨_, Tryd.func53, by kernel_rfl, by kernel_rfl⟩
theorem fn_54 : FnOk Prog 54 := ⟨_, Tryd.func54, by kernel_rfl, by kernel_rfl⟩
theorem fn_55 : FnOk Prog 55 := ⟨_, Tryd.func55, by kernel_rfl, by kernel_rfl⟩
theorem fn_56 : FnOk Prog 56 := ⟨_, Tryd.func56, by kernel_rfl, by kernel_rfl⟩
theorem fn_57 : FnOk Prog 57 := ⟨_, Tryd.func57, by kernel_rfl, by kernel_rfl⟩
theorem fn_58 : FnOk Prog 58 := ⟨_, Tryd.func58, by kernel_rfl, by kernel_rfl⟩
theorem fn_59 : FnOk Prog 59 := ⟨_, Tryd.func59, by kernel_rfl, by kernel_rfl⟩
theorem fn_60 : FnOk Prog 60 := ⟨_, Tryd.func60, by kernel_rfl, by kernel_rfl⟩
theorem fn_61 : FnOk Prog 61 := ⟨_, Tryd.func61, by kernel_rfl, by kernel_rfl⟩
theorem fn_62 : FnOk Prog 62 := ⟨_, Tryd.func62, by kernel_rfl, by kernel_rfl⟩
theorem fn_63 : FnOk Prog 63 := ⟨_, Tryd.func63, by kernel_rfl, by kernel_rfl⟩
theorem fn_64 : FnOk Prog 64 := ⟨_, Tryd.func64, by kernel_rfl, by kernel_rfl⟩
theorem fn_65 : FnOk Prog 65 := ⟨_, Tryd.func65, by kernel_rfl, by kernel_rfl⟩
theorem fn_66 : FnOk Prog 66 := ⟨_, Tryd.func66, by kernel_rfl, by kernel_rfl⟩
theorem fn_67 : FnOk Prog 67 := ⟨_, Tryd.func67, by kernel_rfl, by kernel_rfl⟩
theorem fn_68 : FnOk Prog 68 := ⟨_, Tryd.func68, by kernel_rfl, by kernel_rfl⟩
theorem fn_69 : FnOk Prog 69 := ⟨_, Tryd.func69, by kernel_rfl, by kernel_rfl⟩
theorem fn_70 : FnOk Prog 70 := ⟨_, Tryd.func70, by kernel_rfl, by kernel_rfl⟩
theorem fn_71 : FnOk Prog 71 := ⟨_, Tryd.func71, by kernel_rfl, by kernel_rfl⟩
theorem fn_72 : FnOk Prog 72 := ⟨_, Tryd.func72, by kernel_rfl, by kernel_rfl⟩
theorem fn_73 : FnOk Prog 73 := ⟨_, Tryd.func73, by kernel_rfl, by kernel_rfl⟩
theorem fn_74 : FnOk Prog 74 := ⟨_, Tryd.func74, by kernel_rfl, by kernel_rfl⟩
theorem fn_75 : FnOk Prog 75 := ⟨_, Tryd.func75, by kernel_rfl, by kernel_rfl⟩
theorem fn_76 : FnOk Prog 76 := ⟨_, Tryd.func76, by kernel_rfl, by kernel_rfl⟩
theorem fn_77 : FnOk Prog 77 := ⟨_, Tryd.func77, by kernel_rfl, by kernel_rfl⟩
theorem fn_78 : FnOk Prog 78 := ⟨_, Tryd.func78, by kernel_rfl, by kernel_rfl⟩
theorem fn_79 : FnOk Prog 79 := ⟨_, Tryd.func79, by kernel_rfl, by kernel_rfl⟩
theorem fn_8 : FnOk Prog 8 := ⟨_, Tryd.func8, by kernel_rfl, by kernel_rfl⟩
theorem fn_80 : FnOk Prog 80 := ⟨_, Tryd.func80, by kernel_rfl, by kernel_rfl⟩
theorem fn_81 : FnOk Prog 81 := ⟨_, Tryd.func81, by kernel_rfl, by kernel_rfl⟩
theorem fn_82 : FnOk Prog 82 := ⟨_, Tryd.func82, by kernel_rfl, by kernel_rfl⟩
theorem fn_84 : FnOk Prog 84 := ⟨_, Tryd.func84, by kernel_rfl, by kernel_rfl⟩
theorem fn_85 : FnOk Prog 85 := ⟨_, Tryd.func85, by kernel_rfl, by kernel_rfl⟩
theorem fn_86 : FnOk Prog 86 := ⟨_, Tryd.func86, by kernel_rfl, by kernel_rfl⟩
theorem fn_87 : FnOk Prog 87 := ⟨_, Tryd.func87, by kernel_rfl, by kernel_rfl⟩
theorem fn_88 : FnOk Prog 88 := ⟨_, Tryd.func88, by kernel_rfl, by kernel_rfl⟩
theorem fn_89 : FnOk Prog 89 := ⟨_, Tryd.func89, by kernel_rfl, by kernel_rfl⟩
theorem fn_9 : FnOk Prog 9 := ⟨_, Tryd.func9, by kernel_rfl, by kernel_rfl⟩
theorem fn_90 : FnOk Prog 90 := ⟨_, Tryd.func90, by kernel_rfl, by kernel_rfl⟩
theorem fn_91 : FnOk Prog 91 := ⟨_, Tryd.func91, by kernel_rfl, by kernel_rfl⟩
theorem fn_92 : FnOk Prog 92 := ⟨_, Tryd.func92, by kernel_rfl, by kernel_rfl⟩
theorem fn_93 : FnOk Prog 93 := ⟨_, Tryd.func93, by kernel_rfl, by kernel_rfl⟩
theorem fn_94 : FnOk Prog 94 := ⟨_, Tryd.func94, by kernel_rfl, by kernel_rfl⟩
theorem fn_95 : FnOk Prog 95 := ⟨_, Tryd.func95, by kernel_rfl, by kernel_rfl⟩
theorem fn_96 : FnOk Prog 96 := ⟨_, Tryd.func96, by kernel_rfl, by kernel_rfl⟩
theorem fn_97 : FnOk Prog 97 := ⟨_, Tryd.func97, by kernel_rfl, by kernel_rfl⟩
theorem fn_98 : FnOk Prog 98 := ⟨_, Tryd.func98, by kernel_rfl, by kernel_rfl⟩
theorem fn_99 : FnOk Prog 99 := ⟨_, Tryd.func99, by kernel_rfl, by kernel_rfl⟩
theorem get_107_Height (x : api_Key) : (enc x)[32]? = some (reg x.Height) := get_one (get_skip (arr_len (n := 32) _) (get_last (len_i _)))
theorem get_107_Root (x : api_Key) : ((enc x).drop 0).take 32 = enc x.Root := get_here (arr_len (n := 32) _)
theorem get_110_Id (x : api_Member) : (enc x)[0]? = some (reg x.Id) := get_one (get_here (len_i _))
theorem get_110_Key_Height (x : api_Member) : (enc x)[33]? = some (reg x.Key.Height) := get_one (get_sub (n := 33) (M := enc x.Key) (get_skip (len_i _) (get_last (len_api_Key _))) (get_skip (arr_len (n := 32) _) (get_last (len_i _))) rfl)
theorem get_110_Key (x : api_Member) : ((enc x).drop 1).take 33 = enc x.Key := get_skip (len_i _) (get_last (len_api_Key _))
theorem get_110_all (x : api_Member) : ((enc x).drop 0).take 34 = enc x := get_last (len_api_Member x)
theorem get_113_votes (x : vote_Box) : (enc x)[0]? = some (reg x.votes) := get_one (get_last (len_mp _))
theorem get_115_from (x : vote_place) : (enc x)[2]? = some (reg x.from_) := get_one (get_skip (len_i _) (get_skip (len_i _) (get_last (len_i _))))
theorem get_115_kind (x : vote_place) : (enc x)[0]? = some (reg x.kind) := get_one (get_here (len_i _))
theorem get_115_round (x : vote_place) : (enc x)[1]? = some (reg x.round) := get_one (get_skip (len_i _) (get_here (len_i _)))
theorem get_115_all (x : vote_place) : ((enc x).drop 0).take 3 = enc x := get_last (len_vote_place x)
theorem get_118_all (x : Mp) : (enc x)[0]? = some (reg x) := get_one (get_last (len_mp x))
theorem get_128_digest (x : vote_choice) : ((enc x).drop 1).take 32 = enc x.digest := get_skip (len_i _) (get_last (arr_len (n := 32) _))
theorem get_128_round (x : vote_choice) : (enc x)[0]? = some (reg x.round) := get_one (get_here (len_i _))
theorem get_130_all (x : Sl) : (enc x)[0]? = some (reg x) := get_one (get_last (len_sl x))
theorem get_136_block (x : round_mark) : ((enc x).drop 1).take 99 = enc x.block := get_skip (len_i _) (get_last (len_api_Block _))
theorem get_136_round (x : round_mark) : (enc x)[0]? = some (reg x.round) := get_one (get_here (len_i _))
theorem get_140_at (x : round_Core) : (enc x)[4]? = some (reg x.at_) := get_one (get_skip (len_api_Config _) (get_skip (len_i _) (get_skip (len_i _) (get_here (len_cx _)))))
theorem get_140_base (x : round_Core) : (enc x)[3]? = some (reg x.base) := get_one (get_skip (len_api_Config _) (get_skip (len_i _) (get_here (len_i _))))
theorem get_140_blocks (x : round_Core) : (enc x)[208]? = some (reg x.blocks) := get_one (get_skip (len_api_Config _) (get_skip (len_i _) (get_skip (len_i _) (get_skip (len_cx _) (get_skip (len_i _) (get_skip (len_i _) (get_skip (len_round_mark _) (get_skip (len_round_mark _) (get_skip (len_mp _) (get_here (len_mp _)))))))))))
theorem get_140_box (x : round_Core) : (enc x)[209]? = some (reg x.box) := get_one (get_skip (len_api_Config _) (get_skip (len_i _) (get_skip (len_i _) (get_skip (len_cx _) (get_skip (len_i _) (get_skip (len_i _) (get_skip (len_round_mark _) (get_skip (len_round_mark _) (get_skip (len_mp _) (get_skip (len_mp _) (get_here (len_pt _))))))))))))
theorem get_140_config_Members (x : round_Core) : (enc x)[1]? = some (reg x.config.Members) := get_one (get_sub (n := 2) (M := enc x.config) (get_here (len_api_Config _)) (get_skip (len_i _) (get_last (len_sl _))) rfl)
theorem get_140_config (x : round_Core) : ((enc x).drop 0).take 2 = enc x.config := get_here (len_api_Config _)
theorem get_140_decided (x : round_Core) : (enc x)[211]? = some (reg x.decided) := get_one (get_skip (len_api_Config _) (get_skip (len_i _) (get_skip (len_i _) (get_skip (len_cx _) (get_skip (len_i _) (get_skip (len_i _) (get_skip (len_round_mark _) (get_skip (len_round_mark _) (get_skip (len_mp _) (get_skip (len_mp _) (get_skip (len_pt _) (get_skip (len_b _) (get_here (len_b _))))))))))))))
theorem get_140_fresh (x : round_Core) : (enc x)[210]? = some (reg x.fresh) := get_one (get_skip (len_api_Config _) (get_skip (len_i _) (get_skip (len_i _) (get_skip (len_cx _) (get_skip (len_i _) (get_skip (len_i _) (get_skip (len_round_mark _) (get_skip (len_round_mark _) (get_skip (len_mp _) (get_skip (len_mp _) (get_skip (len_pt _) (get_here (len_b _)))))))))))))
theorem get_140_locked_round (x : round_Core) : (enc x)[7]? = some (reg x.locked.round) := get_one (get_sub (n := 100) (M := enc x.locked) (get_skip (len_api_Config _) (get_skip (len_i _) (get_skip (len_i _) (get_skip (len_cx _) (get_skip (len_i _) (get_skip (len_i _) (get_here (len_round_mark _)))))))) (get_here (len_i _)) rfl)
theorem get_140_locked (x : round_Core) : ((enc x).drop 7).take 100 = enc x.locked := get_skip (len_api_Config _) (get_skip (len_i _) (get_skip (len_i _) (get_skip (len_cx _) (get_skip (len_i _) (get_skip (len_i _) (get_here (len_round_mark _)))))))
theorem get_140_me (x : round_Core) : (enc x)[2]? = some (reg x.me) := get_one (get_skip (len_api_Config _) (get_here (len_i _)))
theorem get_140_out (x : round_Core) : (enc x)[212]? = some (reg x.out) := get_one (get_skip (len_api_Config _) (get_skip (len_i _) (get_skip (len_i _) (get_skip (len_cx _) (get_skip (len_i _) (get_skip (len_i _) (get_skip (len_round_mark _) (get_skip (len_round_mark _) (get_skip (len_mp _) (get_skip (len_mp _) (get_skip (len_pt _) (get_skip (len_b _) (get_skip (len_b _) (get_last (len_sl _)))))))))))))))
theorem get_140_plans (x : round_Core) : (enc x)[207]? = some (reg x.plans) := get_one (get_skip (len_api_Config _) (get_skip (len_i _) (get_skip (len_i _) (get_skip (len_cx _) (get_skip (len_i _) (get_skip (len_i _) (get_skip (len_round_mark _) (get_skip (len_round_mark _) (get_here (len_mp _))))))))))
theorem get_140_step (x : round_Core) : (enc x)[5]? = some (reg x.step) := get_one (get_skip (len_api_Config _) (get_skip (len_i _) (get_skip (len_i _) (get_skip (len_cx _) (get_here (len_i _))))))
theorem get_140_ticks (x : round_Core) : (enc x)[6]? = some (reg x.ticks) := get_one (get_skip (len_api_Config _) (get_skip (len_i _) (get_skip (len_i _) (get_skip (len_cx _) (get_skip (len_i _) (get_here (len_i _)))))))
theorem get_140_valid_block (x : round_Core) : ((enc x).drop 108).take 99 = enc x.valid.block := get_sub (n := 100) (M := enc x.valid) (get_skip (len_api_Config _) (get_skip (len_i _) (get_skip (len_i _) (get_skip (len_cx _) (get_skip (len_i _) (get_skip (len_i _) (get_skip (len_round_mark _) (get_here (len_round_mark _))))))))) (get_skip (len_i _) (get_last (len_api_Block _))) rfl
theorem get_140_valid_round (x : round_Core) : (enc x)[107]? = some (reg x.valid.round) := get_one (get_sub (n := 100) (M := enc x.valid) (get_skip (len_api_Config _) (get_skip (len_i _) (get_skip (len_i _) (get_skip (len_cx _) (get_skip (len_i _) (get_skip (len_i _) (get_skip (len_round_mark _) (get_here (len_round_mark _))))))))) (get_here (len_i _)) rfl)
theorem get_145_b (x : code_Writer) : (enc x)[0]? = some (reg x.b) := get_one (get_last (len_sl _))
theorem get_156_height (x : keys_Tree) : (enc x)[32]? = some (reg x.height) := get_one (get_skip (arr_len (n := 32) _) (get_here (len_i _)))
theorem get_156_leaves (x : keys_Tree) : (enc x)[33]? = some (reg x.leaves) := get_one (get_skip (arr_len (n := 32) _) (get_skip (len_i _) (get_last (len_sl _))))
theorem get_156_seed (x : keys_Tree) : ((enc x).drop 0).take 32 = enc x.seed := get_here (arr_len (n := 32) _)
theorem get_178_Id (x : api_Change) : (enc x)[1]? = some (reg x.Id) := get_one (get_skip (len_i _) (get_here (len_i _)))
theorem get_178_Key_Height (x : api_Change) : (enc x)[35]? = some (reg x.Key.Height) := get_one (get_sub (n := 33) (M := enc x.Key) (get_skip (len_i _) (get_skip (len_i _) (get_skip (len_i _) (get_last (len_api_Key _))))) (get_skip (arr_len (n := 32) _) (get_last (len_i _))) rfl)
theorem get_178_Key_Root (x : api_Change) : ((enc x).drop 3).take 32 = enc x.Key.Root := get_sub (n := 33) (M := enc x.Key) (get_skip (len_i _) (get_skip (len_i _) (get_skip (len_i _) (get_last (len_api_Key _))))) (get_here (arr_len (n := 32) _)) rfl
theorem get_178_Kind (x : api_Change) : (enc x)[0]? = some (reg x.Kind) := get_one (get_here (len_i _))
theorem get_178_New (x : api_Change) : (enc x)[2]? = some (reg x.New) := get_one (get_skip (len_i _) (get_skip (len_i _) (get_here (len_i _))))
theorem get_182_Client (x : api_Request) : (enc x)[0]? = some (reg x.Client) := get_one (get_here (len_i _))
theorem get_182_Num (x : api_Request) : (enc x)[1]? = some (reg x.Num) := get_one (get_skip (len_i _) (get_here (len_i _)))
theorem get_182_Op_Change (x : api_Request) : ((enc x).drop 6).take 36 = enc x.Op.Change := get_sub (n := 40) (M := enc x.Op) (get_skip (len_i _) (get_skip (len_i _) (get_last (len_api_Op _)))) (get_skip (len_i _) (get_skip (len_s _) (get_skip (len_s _) (get_skip (len_s _) (get_last (len_api_Change _)))))) rfl
theorem get_182_Op_Key (x : api_Request) : (enc x)[3]? = some (reg x.Op.Key) := get_one (get_sub (n := 40) (M := enc x.Op) (get_skip (len_i _) (get_skip (len_i _) (get_last (len_api_Op _)))) (get_skip (len_i _) (get_here (len_s _))) rfl)
theorem get_182_Op_Kind (x : api_Request) : (enc x)[2]? = some (reg x.Op.Kind) := get_one (get_sub (n := 40) (M := enc x.Op) (get_skip (len_i _) (get_skip (len_i _) (get_last (len_api_Op _)))) (get_here (len_i _)) rfl)
theorem get_182_Op_Old (x : api_Request) : (enc x)[5]? = some (reg x.Op.Old) := get_one (get_sub (n := 40) (M := enc x.Op) (get_skip (len_i _) (get_skip (len_i _) (get_last (len_api_Op _)))) (get_skip (len_i _) (get_skip (len_s _) (get_skip (len_s _) (get_here (len_s _))))) rfl)
theorem get_182_Op_Val (x : api_Request) : (enc x)[4]? = some (reg x.Op.Val) := get_one (get_sub (n := 40) (M := enc x.Op) (get_skip (len_i _) (get_skip (len_i _) (get_last (len_api_Op _)))) (get_skip (len_i _) (get_skip (len_s _) (get_here (len_s _)))) rfl)
theorem get_182_all (x : api_Request) : ((enc x).drop 0).take 42 = enc x := get_last (len_api_Request x)
theorem get_215_all (x : Arr 64 UInt32) : ((enc x).drop 0).take 64 = enc x := get_last (arr_len (n := 64) x)
theorem get_22_all (x : Sl) : (enc x)[0]? = some (reg x) := get_one (get_last (len_sl x))
theorem get_232_all (x : UInt64) : (enc x)[0]? = some (reg x) := get_one (get_last (len_u64 x))
theorem get_24_all (x : Arr 32 UInt8) : ((enc x).drop 0).take 32 = enc x := get_last (arr_len (n := 32) x)
theorem get_3_all (x : Int) : (enc x)[0]? = some (reg x) := get_one (get_last (len_i x))
theorem get_30_Votes (x : ref13_Box) : (enc x)[0]? = some (reg x.Votes) := get_one (get_last (len_sl _))
theorem get_33_Open (x : api_Once) : (enc x)[0]? = some (reg x.Open) := get_one (get_here (len_sl _))
theorem get_33_Shut (x : api_Once) : (enc x)[1]? = some (reg x.Shut) := get_one (get_skip (len_sl _) (get_last (len_sl _)))
theorem get_33_all (x : api_Once) : ((enc x).drop 0).take 2 = enc x := get_last (len_api_Once x)
theorem get_35_Leaf (x : api_Sig) : (enc x)[0]? = some (reg x.Leaf) := get_one (get_here (len_i _))
theorem get_35_Once_Open (x : api_Sig) : (enc x)[1]? = some (reg x.Once.Open) := get_one (get_sub (n := 2) (M := enc x.Once) (get_skip (len_i _) (get_here (len_api_Once _))) (get_here (len_sl _)) rfl)
theorem get_35_Once_Shut (x : api_Sig) : (enc x)[2]? = some (reg x.Once.Shut) := get_one (get_sub (n := 2) (M := enc x.Once) (get_skip (len_i _) (get_here (len_api_Once _))) (get_skip (len_sl _) (get_last (len_sl _))) rfl)
theorem get_35_Once (x : api_Sig) : ((enc x).drop 1).take 2 = enc x.Once := get_skip (len_i _) (get_here (len_api_Once _))
theorem get_35_Path (x : api_Sig) : (enc x)[3]? = some (reg x.Path) := get_one (get_skip (len_i _) (get_skip (len_api_Once _) (get_last (len_sl _))))
theorem get_37_Digest (x : api_Vote) : ((enc x).drop 4).take 32 = enc x.Digest := get_skip (len_i _) (get_skip (len_i _) (get_skip (len_i _) (get_skip (len_i _) (get_here (arr_len (n := 32) _)))))
theorem get_37_Epoch (x : api_Vote) : (enc x)[1]? = some (reg x.Epoch) := get_one (get_skip (len_i _) (get_here (len_i _)))
theorem get_37_From (x : api_Vote) : (enc x)[36]? = some (reg x.From) := get_one (get_skip (len_i _) (get_skip (len_i _) (get_skip (len_i _) (get_skip (len_i _) (get_skip (arr_len (n := 32) _) (get_here (len_i _)))))))
theorem get_37_Height (x : api_Vote) : (enc x)[2]? = some (reg x.Height) := get_one (get_skip (len_i _) (get_skip (len_i _) (get_here (len_i _))))
theorem get_37_Kind (x : api_Vote) : (enc x)[0]? = some (reg x.Kind) := get_one (get_here (len_i _))
theorem get_37_Round (x : api_Vote) : (enc x)[3]? = some (reg x.Round) := get_one (get_skip (len_i _) (get_skip (len_i _) (get_skip (len_i _) (get_here (len_i _)))))
theorem get_37_Sig (x : api_Vote) : ((enc x).drop 37).take 4 = enc x.Sig := get_skip (len_i _) (get_skip (len_i _) (get_skip (len_i _) (get_skip (len_i _) (get_skip (arr_len (n := 32) _) (get_skip (len_i _) (get_last (len_api_Sig _)))))))
theorem get_37_all (x : api_Vote) : ((enc x).drop 0).take 41 = enc x := get_last (len_api_Vote x)
theorem get_4_all (x : Bool) : (enc x)[0]? = some (reg x) := get_one (get_last (len_b x))
theorem get_5_all (x : UInt8) : (enc x)[0]? = some (reg x) := get_one (get_last (len_u8 x))
theorem get_54_Epoch (x : api_Config) : (enc x)[0]? = some (reg x.Epoch) := get_one (get_here (len_i _))
theorem get_54_Members (x : api_Config) : (enc x)[1]? = some (reg x.Members) := get_one (get_skip (len_i _) (get_last (len_sl _)))
theorem get_54_all (x : api_Config) : ((enc x).drop 0).take 2 = enc x := get_last (len_api_Config x)
theorem get_61_config_Members (x : law19_Game) : (enc x)[1]? = some (reg x.config.Members) := get_one (get_sub (n := 2) (M := enc x.config) (get_here (len_api_Config _)) (get_skip (len_i _) (get_last (len_sl _))) rfl)
theorem get_61_config (x : law19_Game) : ((enc x).drop 0).take 2 = enc x.config := get_here (len_api_Config _)
theorem get_61_cores (x : law19_Game) : (enc x)[3]? = some (reg x.cores) := get_one (get_skip (len_api_Config _) (get_skip (len_i _) (get_here (len_sl _))))
theorem get_61_decided (x : law19_Game) : (enc x)[8]? = some (reg x.decided) := get_one (get_skip (len_api_Config _) (get_skip (len_i _) (get_skip (len_sl _) (get_skip (len_sl _) (get_skip (len_sl _) (get_skip (len_sl _) (get_skip (len_sl _) (get_here (len_sl _)))))))))
theorem get_61_height (x : law19_Game) : (enc x)[2]? = some (reg x.height) := get_one (get_skip (len_api_Config _) (get_here (len_i _)))
theorem get_61_made (x : law19_Game) : (enc x)[10]? = some (reg x.made) := get_one (get_skip (len_api_Config _) (get_skip (len_i _) (get_skip (len_sl _) (get_skip (len_sl _) (get_skip (len_sl _) (get_skip (len_sl _) (get_skip (len_sl _) (get_skip (len_sl _) (get_skip (len_sl _) (get_last (len_i _)))))))))))
theorem get_61_order (x : law19_Game) : (enc x)[6]? = some (reg x.order) := get_one (get_skip (len_api_Config _) (get_skip (len_i _) (get_skip (len_sl _) (get_skip (len_sl _) (get_skip (len_sl _) (get_here (len_sl _)))))))
theorem get_61_others (x : law19_Game) : (enc x)[9]? = some (reg x.others) := get_one (get_skip (len_api_Config _) (get_skip (len_i _) (get_skip (len_sl _) (get_skip (len_sl _) (get_skip (len_sl _) (get_skip (len_sl _) (get_skip (len_sl _) (get_skip (len_sl _) (get_here (len_sl _))))))))))
theorem get_61_own (x : law19_Game) : (enc x)[7]? = some (reg x.own) := get_one (get_skip (len_api_Config _) (get_skip (len_i _) (get_skip (len_sl _) (get_skip (len_sl _) (get_skip (len_sl _) (get_skip (len_sl _) (get_here (len_sl _))))))))
theorem get_61_plans (x : law19_Game) : (enc x)[4]? = some (reg x.plans) := get_one (get_skip (len_api_Config _) (get_skip (len_i _) (get_skip (len_sl _) (get_here (len_sl _)))))
theorem get_61_votes (x : law19_Game) : (enc x)[5]? = some (reg x.votes) := get_one (get_skip (len_api_Config _) (get_skip (len_i _) (get_skip (len_sl _) (get_skip (len_sl _) (get_here (len_sl _))))))
theorem get_62_all (x : Pt) : (enc x)[0]? = some (reg x) := get_one (get_last (len_pt x))
theorem get_75_Epoch (x : api_Block) : (enc x)[0]? = some (reg x.Epoch) := get_one (get_here (len_i _))
theorem get_75_Height (x : api_Block) : (enc x)[1]? = some (reg x.Height) := get_one (get_skip (len_i _) (get_here (len_i _)))
theorem get_75_Next (x : api_Block) : ((enc x).drop 66).take 32 = enc x.Next := get_skip (len_i _) (get_skip (len_i _) (get_skip (arr_len (n := 32) _) (get_skip (arr_len (n := 32) _) (get_here (arr_len (n := 32) _)))))
theorem get_75_Prev (x : api_Block) : ((enc x).drop 2).take 32 = enc x.Prev := get_skip (len_i _) (get_skip (len_i _) (get_here (arr_len (n := 32) _)))
theorem get_75_Requests (x : api_Block) : (enc x)[98]? = some (reg x.Requests) := get_one (get_skip (len_i _) (get_skip (len_i _) (get_skip (arr_len (n := 32) _) (get_skip (arr_len (n := 32) _) (get_skip (arr_len (n := 32) _) (get_last (len_sl _)))))))
theorem get_75_State (x : api_Block) : ((enc x).drop 34).take 32 = enc x.State := get_skip (len_i _) (get_skip (len_i _) (get_skip (arr_len (n := 32) _) (get_here (arr_len (n := 32) _))))
theorem get_75_all (x : api_Block) : ((enc x).drop 0).take 99 = enc x := get_last (len_api_Block x)
theorem get_77_Block_Height (x : api_Plan) : (enc x)[5]? = some (reg x.Block.Height) := get_one (get_sub (n := 99) (M := enc x.Block) (get_skip (len_i _) (get_skip (len_i _) (get_skip (len_i _) (get_skip (len_i _) (get_here (len_api_Block _)))))) (get_skip (len_i _) (get_here (len_i _))) rfl)
theorem get_77_Block (x : api_Plan) : ((enc x).drop 4).take 99 = enc x.Block := get_skip (len_i _) (get_skip (len_i _) (get_skip (len_i _) (get_skip (len_i _) (get_here (len_api_Block _)))))
theorem get_77_From (x : api_Plan) : (enc x)[103]? = some (reg x.From) := get_one (get_skip (len_i _) (get_skip (len_i _) (get_skip (len_i _) (get_skip (len_i _) (get_skip (len_api_Block _) (get_here (len_i _)))))))
theorem get_77_Height (x : api_Plan) : (enc x)[1]? = some (reg x.Height) := get_one (get_skip (len_i _) (get_here (len_i _)))
theorem get_77_Round (x : api_Plan) : (enc x)[2]? = some (reg x.Round) := get_one (get_skip (len_i _) (get_skip (len_i _) (get_here (len_i _))))
theorem get_77_Valid (x : api_Plan) : (enc x)[3]? = some (reg x.Valid) := get_one (get_skip (len_i _) (get_skip (len_i _) (get_skip (len_i _) (get_here (len_i _)))))
theorem get_77_all (x : api_Plan) : ((enc x).drop 0).take 108 = enc x := get_last (len_api_Plan x)
theorem get_80_Act (x : api_Act) : (enc x)[0]? = some (reg x.Act) := get_one (get_here (len_i _))
theorem get_80_Block (x : api_Act) : ((enc x).drop 36).take 99 = enc x.Block := get_skip (len_i _) (get_skip (len_i _) (get_skip (len_i _) (get_skip (arr_len (n := 32) _) (get_skip (len_i _) (get_last (len_api_Block _))))))
theorem get_80_Digest (x : api_Act) : ((enc x).drop 3).take 32 = enc x.Digest := get_skip (len_i _) (get_skip (len_i _) (get_skip (len_i _) (get_here (arr_len (n := 32) _))))
theorem get_80_Kind (x : api_Act) : (enc x)[2]? = some (reg x.Kind) := get_one (get_skip (len_i _) (get_skip (len_i _) (get_here (len_i _))))
theorem get_80_Round (x : api_Act) : (enc x)[1]? = some (reg x.Round) := get_one (get_skip (len_i _) (get_here (len_i _)))
theorem get_80_Valid (x : api_Act) : (enc x)[35]? = some (reg x.Valid) := get_one (get_skip (len_i _) (get_skip (len_i _) (get_skip (len_i _) (get_skip (arr_len (n := 32) _) (get_here (len_i _))))))
theorem get_80_all (x : api_Act) : ((enc x).drop 0).take 135 = enc x := get_last (len_api_Act x)
theorem get_88_Kind (x : law19_Call) : (enc x)[0]? = some (reg x.Kind) := get_one (get_here (len_i _))
theorem get_88_N (x : law19_Call) : (enc x)[150]? = some (reg x.N) := get_one (get_skip (len_i _) (get_skip (len_api_Plan _) (get_skip (len_api_Vote _) (get_last (len_i _)))))
theorem get_88_P (x : law19_Call) : ((enc x).drop 1).take 108 = enc x.P := get_skip (len_i _) (get_here (len_api_Plan _))
theorem get_88_V (x : law19_Call) : ((enc x).drop 109).take 41 = enc x.V := get_skip (len_i _) (get_skip (len_api_Plan _) (get_here (len_api_Vote _)))
theorem get_88_all (x : law19_Call) : ((enc x).drop 0).take 151 = enc x := get_last (len_law19_Call x)
theorem get_9_all (x : ByteArray) : (enc x)[0]? = some (reg x) := get_one (get_last (len_s x))
theorem get_95_I (x : law19_Move) : (enc x)[1]? = some (reg x.I) := get_one (get_skip (len_i _) (get_here (len_i _)))
theorem get_95_Kind (x : law19_Move) : (enc x)[0]? = some (reg x.Kind) := get_one (get_here (len_i _))
theorem get_95_N (x : law19_Move) : (enc x)[2]? = some (reg x.N) := get_one (get_skip (len_i _) (get_skip (len_i _) (get_here (len_i _))))
theorem get_95_P (x : law19_Move) : ((enc x).drop 44).take 108 = enc x.P := get_skip (len_i _) (get_skip (len_i _) (get_skip (len_i _) (get_skip (len_api_Vote _) (get_last (len_api_Plan _)))))
theorem get_95_V (x : law19_Move) : ((enc x).drop 3).take 41 = enc x.V := get_skip (len_i _) (get_skip (len_i _) (get_skip (len_i _) (get_here (len_api_Vote _))))
theorem get_95_all (x : law19_Move) : ((enc x).drop 0).take 152 = enc x := get_last (len_law19_Move x)
theorem mt_111 : Prog.underlying 111 = some (.map 115 37) := by kernel_rfl
theorem mt_117 : Prog.underlying 117 = some (.map 3 4) := by kernel_rfl
theorem mt_118 : Prog.underlying 118 = some (.map 3 3) := by kernel_rfl
theorem mt_126 : Prog.underlying 126 = some (.map 128 3) := by kernel_rfl
theorem mt_137 : Prog.underlying 137 = some (.map 3 77) := by kernel_rfl
theorem mt_138 : Prog.underlying 138 = some (.map 24 75) := by kernel_rfl
theorem na_111 : NotAgg Prog 111 := NotAgg.of (by kernel_rfl)
theorem na_118 : NotAgg Prog 118 := NotAgg.of (by kernel_rfl)
theorem na_130 : NotAgg Prog 130 := NotAgg.of (by kernel_rfl)
theorem na_137 : NotAgg Prog 137 := NotAgg.of (by kernel_rfl)
theorem na_138 : NotAgg Prog 138 := NotAgg.of (by kernel_rfl)
theorem na_185 : NotAgg Prog 185 := NotAgg.of (by kernel_rfl)
theorem na_22 : NotAgg Prog 22 := NotAgg.of (by kernel_rfl)
theorem na_232 : NotAgg Prog 232 := NotAgg.of (by kernel_rfl)
theorem na_26 : NotAgg Prog 26 := NotAgg.of (by kernel_rfl)
theorem na_3 : NotAgg Prog 3 := NotAgg.of (by kernel_rfl)
theorem na_31 : NotAgg Prog 31 := NotAgg.of (by kernel_rfl)
theorem na_4 : NotAgg Prog 4 := NotAgg.of (by kernel_rfl)
theorem na_5 : NotAgg Prog 5 := NotAgg.of (by kernel_rfl)
theorem na_52 : NotAgg Prog 52 := NotAgg.of (by kernel_rfl)
theorem na_55 : NotAgg Prog 55 := NotAgg.of (by kernel_rfl)
theorem na_56 : NotAgg Prog 56 := NotAgg.of (by kernel_rfl)
theorem na_57 : NotAgg Prog 57 := NotAgg.of (by kernel_rfl)
theorem na_58 : NotAgg Prog 58 := NotAgg.of (by kernel_rfl)
theorem na_59 : NotAgg Prog 59 := NotAgg.of (by kernel_rfl)
theorem na_62 : NotAgg Prog 62 := NotAgg.of (by kernel_rfl)
theorem na_65 : NotAgg Prog 65 := NotAgg.of (by kernel_rfl)
theorem na_68 : NotAgg Prog 68 := NotAgg.of (by kernel_rfl)
theorem na_73 : NotAgg Prog 73 := NotAgg.of (by kernel_rfl)
theorem na_9 : NotAgg Prog 9 := NotAgg.of (by kernel_rfl)
theorem pl_107 : PlacesT Prog 107 [(0, 32), (32, 1)] := PlacesT.of (by kernel_rfl)
theorem pl_110 : PlacesT Prog 110 [(0, 1), (1, 33)] := PlacesT.of (by kernel_rfl)
theorem pl_113 : PlacesT Prog 113 [(0, 1)] := PlacesT.of (by kernel_rfl)
theorem pl_115 : PlacesT Prog 115 [(0, 1), (1, 1), (2, 1)] := PlacesT.of (by kernel_rfl)
theorem pl_128 : PlacesT Prog 128 [(0, 1), (1, 32)] := PlacesT.of (by kernel_rfl)
theorem pl_136 : PlacesT Prog 136 [(0, 1), (1, 99)] := PlacesT.of (by kernel_rfl)
theorem pl_140 : PlacesT Prog 140 [(0, 2), (2, 1), (3, 1), (4, 1), (5, 1), (6, 1), (7, 100), (107, 100), (207, 1), (208, 1), (209, 1), (210, 1), (211, 1), (212, 1)] := PlacesT.of (by kernel_rfl)
theorem pl_145 : PlacesT Prog 145 [(0, 1)] := PlacesT.of (by kernel_rfl)
theorem pl_156 : PlacesT Prog 156 [(0, 32), (32, 1), (33, 1)] := PlacesT.of (by kernel_rfl)
theorem pl_30 : PlacesT Prog 30 [(0, 1)] := PlacesT.of (by kernel_rfl)
theorem pl_35 : PlacesT Prog 35 [(0, 1), (1, 2), (3, 1)] := PlacesT.of (by kernel_rfl)
theorem pl_37 : PlacesT Prog 37 [(0, 1), (1, 1), (2, 1), (3, 1), (4, 32), (36, 1), (37, 4)] := PlacesT.of (by kernel_rfl)
theorem pl_54 : PlacesT Prog 54 [(0, 1), (1, 1)] := PlacesT.of (by kernel_rfl)
theorem pl_61 : PlacesT Prog 61 [(0, 2), (2, 1), (3, 1), (4, 1), (5, 1), (6, 1), (7, 1), (8, 1), (9, 1), (10, 1)] := PlacesT.of (by kernel_rfl)
theorem pl_75 : PlacesT Prog 75 [(0, 1), (1, 1), (2, 32), (34, 32), (66, 32), (98, 1)] := PlacesT.of (by kernel_rfl)
theorem pl_77 : PlacesT Prog 77 [(0, 1), (1, 1), (2, 1), (3, 1), (4, 99), (103, 1), (104, 4)] := PlacesT.of (by kernel_rfl)
theorem pl_80 : PlacesT Prog 80 [(0, 1), (1, 1), (2, 1), (3, 32), (35, 1), (36, 99)] := PlacesT.of (by kernel_rfl)
theorem pt_143 : PtT Prog 143 := ⟨145, by kernel_rfl⟩
theorem pt_26 : PtT Prog 26 := ⟨113, by kernel_rfl⟩
theorem pt_62 : PtT Prog 62 := ⟨140, by kernel_rfl⟩
theorem pt_98 : PtT Prog 98 := ⟨156, by kernel_rfl⟩
theorem set_107_Height (x : api_Key) (v : Int) : (enc x).take 32 ++ enc v ++ (enc x).drop (32 + (enc v).length) = enc ({ x with Height := v } : api_Key) := set_skip (arr_len (n := 32) _) (set_last (((len_i _)).trans ((len_i _)).symm))
theorem set_107_Root (x : api_Key) (v : Arr 32 UInt8) : (enc x).take 0 ++ enc v ++ (enc x).drop (0 + (enc v).length) = enc ({ x with Root := v } : api_Key) := set_here (((arr_len (n := 32) _)).trans ((arr_len (n := 32) _)).symm)
theorem set_107_all (x : api_Key) (v : api_Key) : (enc x).take 0 ++ enc v ++ (enc x).drop (0 + (enc v).length) = enc v := set_last (((len_api_Key _)).trans ((len_api_Key _)).symm)
theorem set_110_Id (x : api_Member) (v : Int) : (enc x).take 0 ++ enc v ++ (enc x).drop (0 + (enc v).length) = enc ({ x with Id := v } : api_Member) := set_here (((len_i _)).trans ((len_i _)).symm)
theorem set_110_Key (x : api_Member) (v : api_Key) : (enc x).take 1 ++ enc v ++ (enc x).drop (1 + (enc v).length) = enc ({ x with Key := v } : api_Member) := set_skip (len_i _) (set_last (((len_api_Key _)).trans ((len_api_Key _)).symm))
theorem set_110_all (x : api_Member) (v : api_Member) : (enc x).take 0 ++ enc v ++ (enc x).drop (0 + (enc v).length) = enc v := set_last (((len_api_Member _)).trans ((len_api_Member _)).symm)
theorem set_113_votes (x : vote_Box) (v : Mp) : (enc x).take 0 ++ enc v ++ (enc x).drop (0 + (enc v).length) = enc ({ x with votes := v } : vote_Box) := set_last (((len_mp _)).trans ((len_mp _)).symm)
theorem set_115_from (x : vote_place) (v : Int) : (enc x).take 2 ++ enc v ++ (enc x).drop (2 + (enc v).length) = enc ({ x with from_ := v } : vote_place) := set_skip (len_i _) (set_skip (len_i _) (set_last (((len_i _)).trans ((len_i _)).symm)))
theorem set_115_kind (x : vote_place) (v : Int) : (enc x).take 0 ++ enc v ++ (enc x).drop (0 + (enc v).length) = enc ({ x with kind := v } : vote_place) := set_here (((len_i _)).trans ((len_i _)).symm)
theorem set_115_round (x : vote_place) (v : Int) : (enc x).take 1 ++ enc v ++ (enc x).drop (1 + (enc v).length) = enc ({ x with round := v } : vote_place) := set_skip (len_i _) (set_here (((len_i _)).trans ((len_i _)).symm))
theorem set_115_all (x : vote_place) (v : vote_place) : (enc x).take 0 ++ enc v ++ (enc x).drop (0 + (enc v).length) = enc v := set_last (((len_vote_place _)).trans ((len_vote_place _)).symm)
theorem set_128_digest (x : vote_choice) (v : Arr 32 UInt8) : (enc x).take 1 ++ enc v ++ (enc x).drop (1 + (enc v).length) = enc ({ x with digest := v } : vote_choice) := set_skip (len_i _) (set_last (((arr_len (n := 32) _)).trans ((arr_len (n := 32) _)).symm))
theorem set_128_round (x : vote_choice) (v : Int) : (enc x).take 0 ++ enc v ++ (enc x).drop (0 + (enc v).length) = enc ({ x with round := v } : vote_choice) := set_here (((len_i _)).trans ((len_i _)).symm)
theorem set_128_all (x : vote_choice) (v : vote_choice) : (enc x).take 0 ++ enc v ++ (enc x).drop (0 + (enc v).length) = enc v := set_last (((len_vote_choice _)).trans ((len_vote_choice _)).symm)
theorem set_136_block (x : round_mark) (v : api_Block) : (enc x).take 1 ++ enc v ++ (enc x).drop (1 + (enc v).length) = enc ({ x with block := v } : round_mark) := set_skip (len_i _) (set_last (((len_api_Block _)).trans ((len_api_Block _)).symm))
theorem set_136_round (x : round_mark) (v : Int) : (enc x).take 0 ++ enc v ++ (enc x).drop (0 + (enc v).length) = enc ({ x with round := v } : round_mark) := set_here (((len_i _)).trans ((len_i _)).symm)
theorem set_140_at (x : round_Core) (v : Cx) : (enc x).take 4 ++ enc v ++ (enc x).drop (4 + (enc v).length) = enc ({ x with at_ := v } : round_Core) := set_skip (len_api_Config _) (set_skip (len_i _) (set_skip (len_i _) (set_here (((len_cx _)).trans ((len_cx _)).symm))))
theorem set_140_base (x : round_Core) (v : Int) : (enc x).take 3 ++ enc v ++ (enc x).drop (3 + (enc v).length) = enc ({ x with base := v } : round_Core) := set_skip (len_api_Config _) (set_skip (len_i _) (set_here (((len_i _)).trans ((len_i _)).symm)))
theorem set_140_blocks (x : round_Core) (v : Mp) : (enc x).take 208 ++ enc v ++ (enc x).drop (208 + (enc v).length) = enc ({ x with blocks := v } : round_Core) := set_skip (len_api_Config _) (set_skip (len_i _) (set_skip (len_i _) (set_skip (len_cx _) (set_skip (len_i _) (set_skip (len_i _) (set_skip (len_round_mark _) (set_skip (len_round_mark _) (set_skip (len_mp _) (set_here (((len_mp _)).trans ((len_mp _)).symm))))))))))
theorem set_140_box (x : round_Core) (v : Pt) : (enc x).take 209 ++ enc v ++ (enc x).drop (209 + (enc v).length) = enc ({ x with box := v } : round_Core) := set_skip (len_api_Config _) (set_skip (len_i _) (set_skip (len_i _) (set_skip (len_cx _) (set_skip (len_i _) (set_skip (len_i _) (set_skip (len_round_mark _) (set_skip (len_round_mark _) (set_skip (len_mp _) (set_skip (len_mp _) (set_here (((len_pt _)).trans ((len_pt _)).symm)))))))))))
theorem set_140_config (x : round_Core) (v : api_Config) : (enc x).take 0 ++ enc v ++ (enc x).drop (0 + (enc v).length) = enc ({ x with config := v } : round_Core) := set_here (((len_api_Config _)).trans ((len_api_Config _)).symm)
theorem set_140_decided (x : round_Core) (v : Bool) : (enc x).take 211 ++ enc v ++ (enc x).drop (211 + (enc v).length) = enc ({ x with decided := v } : round_Core) := set_skip (len_api_Config _) (set_skip (len_i _) (set_skip (len_i _) (set_skip (len_cx _) (set_skip (len_i _) (set_skip (len_i _) (set_skip (len_round_mark _) (set_skip (len_round_mark _) (set_skip (len_mp _) (set_skip (len_mp _) (set_skip (len_pt _) (set_skip (len_b _) (set_here (((len_b _)).trans ((len_b _)).symm)))))))))))))
theorem set_140_fresh (x : round_Core) (v : Bool) : (enc x).take 210 ++ enc v ++ (enc x).drop (210 + (enc v).length) = enc ({ x with fresh := v } : round_Core) := set_skip (len_api_Config _) (set_skip (len_i _) (set_skip (len_i _) (set_skip (len_cx _) (set_skip (len_i _) (set_skip (len_i _) (set_skip (len_round_mark _) (set_skip (len_round_mark _) (set_skip (len_mp _) (set_skip (len_mp _) (set_skip (len_pt _) (set_here (((len_b _)).trans ((len_b _)).symm))))))))))))
theorem set_140_locked (x : round_Core) (v : round_mark) : (enc x).take 7 ++ enc v ++ (enc x).drop (7 + (enc v).length) = enc ({ x with locked := v } : round_Core) := set_skip (len_api_Config _) (set_skip (len_i _) (set_skip (len_i _) (set_skip (len_cx _) (set_skip (len_i _) (set_skip (len_i _) (set_here (((len_round_mark _)).trans ((len_round_mark _)).symm)))))))
theorem set_140_me (x : round_Core) (v : Int) : (enc x).take 2 ++ enc v ++ (enc x).drop (2 + (enc v).length) = enc ({ x with me := v } : round_Core) := set_skip (len_api_Config _) (set_here (((len_i _)).trans ((len_i _)).symm))
theorem set_140_out (x : round_Core) (v : Sl) : (enc x).take 212 ++ enc v ++ (enc x).drop (212 + (enc v).length) = enc ({ x with out := v } : round_Core) := set_skip (len_api_Config _) (set_skip (len_i _) (set_skip (len_i _) (set_skip (len_cx _) (set_skip (len_i _) (set_skip (len_i _) (set_skip (len_round_mark _) (set_skip (len_round_mark _) (set_skip (len_mp _) (set_skip (len_mp _) (set_skip (len_pt _) (set_skip (len_b _) (set_skip (len_b _) (set_last (((len_sl _)).trans ((len_sl _)).symm))))))))))))))
theorem set_140_plans (x : round_Core) (v : Mp) : (enc x).take 207 ++ enc v ++ (enc x).drop (207 + (enc v).length) = enc ({ x with plans := v } : round_Core) := set_skip (len_api_Config _) (set_skip (len_i _) (set_skip (len_i _) (set_skip (len_cx _) (set_skip (len_i _) (set_skip (len_i _) (set_skip (len_round_mark _) (set_skip (len_round_mark _) (set_here (((len_mp _)).trans ((len_mp _)).symm)))))))))
theorem set_140_step (x : round_Core) (v : Int) : (enc x).take 5 ++ enc v ++ (enc x).drop (5 + (enc v).length) = enc ({ x with step := v } : round_Core) := set_skip (len_api_Config _) (set_skip (len_i _) (set_skip (len_i _) (set_skip (len_cx _) (set_here (((len_i _)).trans ((len_i _)).symm)))))
theorem set_140_ticks (x : round_Core) (v : Int) : (enc x).take 6 ++ enc v ++ (enc x).drop (6 + (enc v).length) = enc ({ x with ticks := v } : round_Core) := set_skip (len_api_Config _) (set_skip (len_i _) (set_skip (len_i _) (set_skip (len_cx _) (set_skip (len_i _) (set_here (((len_i _)).trans ((len_i _)).symm))))))
theorem set_140_valid (x : round_Core) (v : round_mark) : (enc x).take 107 ++ enc v ++ (enc x).drop (107 + (enc v).length) = enc ({ x with valid := v } : round_Core) := set_skip (len_api_Config _) (set_skip (len_i _) (set_skip (len_i _) (set_skip (len_cx _) (set_skip (len_i _) (set_skip (len_i _) (set_skip (len_round_mark _) (set_here (((len_round_mark _)).trans ((len_round_mark _)).symm))))))))
theorem set_145_b (x : code_Writer) (v : Sl) : (enc x).take 0 ++ enc v ++ (enc x).drop (0 + (enc v).length) = enc ({ x with b := v } : code_Writer) := set_last (((len_sl _)).trans ((len_sl _)).symm)
theorem set_156_height (x : keys_Tree) (v : Int) : (enc x).take 32 ++ enc v ++ (enc x).drop (32 + (enc v).length) = enc ({ x with height := v } : keys_Tree) := set_skip (arr_len (n := 32) _) (set_here (((len_i _)).trans ((len_i _)).symm))
theorem set_156_leaves (x : keys_Tree) (v : Sl) : (enc x).take 33 ++ enc v ++ (enc x).drop (33 + (enc v).length) = enc ({ x with leaves := v } : keys_Tree) := set_skip (arr_len (n := 32) _) (set_skip (len_i _) (set_last (((len_sl _)).trans ((len_sl _)).symm)))
theorem set_156_seed (x : keys_Tree) (v : Arr 32 UInt8) : (enc x).take 0 ++ enc v ++ (enc x).drop (0 + (enc v).length) = enc ({ x with seed := v } : keys_Tree) := set_here (((arr_len (n := 32) _)).trans ((arr_len (n := 32) _)).symm)
theorem set_178_all (x : api_Change) (v : api_Change) : (enc x).take 0 ++ enc v ++ (enc x).drop (0 + (enc v).length) = enc v := set_last (((len_api_Change _)).trans ((len_api_Change _)).symm)
theorem set_182_all (x : api_Request) (v : api_Request) : (enc x).take 0 ++ enc v ++ (enc x).drop (0 + (enc v).length) = enc v := set_last (((len_api_Request _)).trans ((len_api_Request _)).symm)
theorem set_187_all (x : Arr 8 UInt32) (v : Arr 8 UInt32) : (enc x).take 0 ++ enc v ++ (enc x).drop (0 + (enc v).length) = enc v := set_last (((arr_len (n := 8) _)).trans ((arr_len (n := 8) _)).symm)
theorem set_22_all (x : Sl) (v : Sl) : (enc x).take 0 ++ enc v ++ (enc x).drop (0 + (enc v).length) = enc v := set_last (((len_sl _)).trans ((len_sl _)).symm)
theorem set_220_all (x : ArrA 2 (Arr 32 UInt8)) (v : ArrA 2 (Arr 32 UInt8)) : (enc x).take 0 ++ enc v ++ (enc x).drop (0 + (enc v).length) = enc v := set_last (((arrA_len (fun y => (arr_len (n := 32) y)) _)).trans ((arrA_len (fun y => (arr_len (n := 32) y)) _)).symm)
theorem set_232_all (x : UInt64) (v : UInt64) : (enc x).take 0 ++ enc v ++ (enc x).drop (0 + (enc v).length) = enc v := set_last (((len_u64 _)).trans ((len_u64 _)).symm)
theorem set_24_all (x : Arr 32 UInt8) (v : Arr 32 UInt8) : (enc x).take 0 ++ enc v ++ (enc x).drop (0 + (enc v).length) = enc v := set_last (((arr_len (n := 32) _)).trans ((arr_len (n := 32) _)).symm)
theorem set_3_all (x : Int) (v : Int) : (enc x).take 0 ++ enc v ++ (enc x).drop (0 + (enc v).length) = enc v := set_last (((len_i _)).trans ((len_i _)).symm)
theorem set_30_Votes (x : ref13_Box) (v : Sl) : (enc x).take 0 ++ enc v ++ (enc x).drop (0 + (enc v).length) = enc ({ x with Votes := v } : ref13_Box) := set_last (((len_sl _)).trans ((len_sl _)).symm)
theorem set_33_Open (x : api_Once) (v : Sl) : (enc x).take 0 ++ enc v ++ (enc x).drop (0 + (enc v).length) = enc ({ x with Open := v } : api_Once) := set_here (((len_sl _)).trans ((len_sl _)).symm)
theorem set_33_Shut (x : api_Once) (v : Sl) : (enc x).take 1 ++ enc v ++ (enc x).drop (1 + (enc v).length) = enc ({ x with Shut := v } : api_Once) := set_skip (len_sl _) (set_last (((len_sl _)).trans ((len_sl _)).symm))
theorem set_33_all (x : api_Once) (v : api_Once) : (enc x).take 0 ++ enc v ++ (enc x).drop (0 + (enc v).length) = enc v := set_last (((len_api_Once _)).trans ((len_api_Once _)).symm)
theorem set_35_Leaf (x : api_Sig) (v : Int) : (enc x).take 0 ++ enc v ++ (enc x).drop (0 + (enc v).length) = enc ({ x with Leaf := v } : api_Sig) := set_here (((len_i _)).trans ((len_i _)).symm)
theorem set_35_Once (x : api_Sig) (v : api_Once) : (enc x).take 1 ++ enc v ++ (enc x).drop (1 + (enc v).length) = enc ({ x with Once := v } : api_Sig) := set_skip (len_i _) (set_here (((len_api_Once _)).trans ((len_api_Once _)).symm))
theorem set_35_Path (x : api_Sig) (v : Sl) : (enc x).take 3 ++ enc v ++ (enc x).drop (3 + (enc v).length) = enc ({ x with Path := v } : api_Sig) := set_skip (len_i _) (set_skip (len_api_Once _) (set_last (((len_sl _)).trans ((len_sl _)).symm)))
theorem set_35_all (x : api_Sig) (v : api_Sig) : (enc x).take 0 ++ enc v ++ (enc x).drop (0 + (enc v).length) = enc v := set_last (((len_api_Sig _)).trans ((len_api_Sig _)).symm)
theorem set_37_Digest (x : api_Vote) (v : Arr 32 UInt8) : (enc x).take 4 ++ enc v ++ (enc x).drop (4 + (enc v).length) = enc ({ x with Digest := v } : api_Vote) := set_skip (len_i _) (set_skip (len_i _) (set_skip (len_i _) (set_skip (len_i _) (set_here (((arr_len (n := 32) _)).trans ((arr_len (n := 32) _)).symm)))))
theorem set_37_From (x : api_Vote) (v : Int) : (enc x).take 36 ++ enc v ++ (enc x).drop (36 + (enc v).length) = enc ({ x with From := v } : api_Vote) := set_skip (len_i _) (set_skip (len_i _) (set_skip (len_i _) (set_skip (len_i _) (set_skip (arr_len (n := 32) _) (set_here (((len_i _)).trans ((len_i _)).symm))))))
theorem set_37_Height (x : api_Vote) (v : Int) : (enc x).take 2 ++ enc v ++ (enc x).drop (2 + (enc v).length) = enc ({ x with Height := v } : api_Vote) := set_skip (len_i _) (set_skip (len_i _) (set_here (((len_i _)).trans ((len_i _)).symm)))
theorem set_37_Kind (x : api_Vote) (v : Int) : (enc x).take 0 ++ enc v ++ (enc x).drop (0 + (enc v).length) = enc ({ x with Kind := v } : api_Vote) := set_here (((len_i _)).trans ((len_i _)).symm)
theorem set_37_Round (x : api_Vote) (v : Int) : (enc x).take 3 ++ enc v ++ (enc x).drop (3 + (enc v).length) = enc ({ x with Round := v } : api_Vote) := set_skip (len_i _) (set_skip (len_i _) (set_skip (len_i _) (set_here (((len_i _)).trans ((len_i _)).symm))))
theorem set_37_Sig (x : api_Vote) (v : api_Sig) : (enc x).take 37 ++ enc v ++ (enc x).drop (37 + (enc v).length) = enc ({ x with Sig := v } : api_Vote) := set_skip (len_i _) (set_skip (len_i _) (set_skip (len_i _) (set_skip (len_i _) (set_skip (arr_len (n := 32) _) (set_skip (len_i _) (set_last (((len_api_Sig _)).trans ((len_api_Sig _)).symm)))))))
theorem set_37_all (x : api_Vote) (v : api_Vote) : (enc x).take 0 ++ enc v ++ (enc x).drop (0 + (enc v).length) = enc v := set_last (((len_api_Vote _)).trans ((len_api_Vote _)).symm)
theorem set_54_Members (x : api_Config) (v : Sl) : (enc x).take 1 ++ enc v ++ (enc x).drop (1 + (enc v).length) = enc ({ x with Members := v } : api_Config) := set_skip (len_i _) (set_last (((len_sl _)).trans ((len_sl _)).symm))
theorem set_61_config_Members (x : law19_Game) (v : Sl) : (enc x).take 1 ++ enc v ++ (enc x).drop (1 + (enc v).length) = enc ({ x with config.Members := v } : law19_Game) := set_nest (n := 2) (M := enc x.config) (M' := enc ({ x.config with Members := v } : api_Config)) (get_here (len_api_Config _)) (set_skip (len_i _) (set_last (((len_sl _)).trans ((len_sl _)).symm))) (set_here (((len_api_Config _)).trans ((len_api_Config _)).symm)) (len_api_Config _) rfl
theorem set_61_cores (x : law19_Game) (v : Sl) : (enc x).take 3 ++ enc v ++ (enc x).drop (3 + (enc v).length) = enc ({ x with cores := v } : law19_Game) := set_skip (len_api_Config _) (set_skip (len_i _) (set_here (((len_sl _)).trans ((len_sl _)).symm)))
theorem set_61_decided (x : law19_Game) (v : Sl) : (enc x).take 8 ++ enc v ++ (enc x).drop (8 + (enc v).length) = enc ({ x with decided := v } : law19_Game) := set_skip (len_api_Config _) (set_skip (len_i _) (set_skip (len_sl _) (set_skip (len_sl _) (set_skip (len_sl _) (set_skip (len_sl _) (set_skip (len_sl _) (set_here (((len_sl _)).trans ((len_sl _)).symm))))))))
theorem set_61_height (x : law19_Game) (v : Int) : (enc x).take 2 ++ enc v ++ (enc x).drop (2 + (enc v).length) = enc ({ x with height := v } : law19_Game) := set_skip (len_api_Config _) (set_here (((len_i _)).trans ((len_i _)).symm))
theorem set_61_made (x : law19_Game) (v : Int) : (enc x).take 10 ++ enc v ++ (enc x).drop (10 + (enc v).length) = enc ({ x with made := v } : law19_Game) := set_skip (len_api_Config _) (set_skip (len_i _) (set_skip (len_sl _) (set_skip (len_sl _) (set_skip (len_sl _) (set_skip (len_sl _) (set_skip (len_sl _) (set_skip (len_sl _) (set_skip (len_sl _) (set_last (((len_i _)).trans ((len_i _)).symm))))))))))
theorem set_61_order (x : law19_Game) (v : Sl) : (enc x).take 6 ++ enc v ++ (enc x).drop (6 + (enc v).length) = enc ({ x with order := v } : law19_Game) := set_skip (len_api_Config _) (set_skip (len_i _) (set_skip (len_sl _) (set_skip (len_sl _) (set_skip (len_sl _) (set_here (((len_sl _)).trans ((len_sl _)).symm))))))
theorem set_61_others (x : law19_Game) (v : Sl) : (enc x).take 9 ++ enc v ++ (enc x).drop (9 + (enc v).length) = enc ({ x with others := v } : law19_Game) := set_skip (len_api_Config _) (set_skip (len_i _) (set_skip (len_sl _) (set_skip (len_sl _) (set_skip (len_sl _) (set_skip (len_sl _) (set_skip (len_sl _) (set_skip (len_sl _) (set_here (((len_sl _)).trans ((len_sl _)).symm)))))))))
theorem set_61_own (x : law19_Game) (v : Sl) : (enc x).take 7 ++ enc v ++ (enc x).drop (7 + (enc v).length) = enc ({ x with own := v } : law19_Game) := set_skip (len_api_Config _) (set_skip (len_i _) (set_skip (len_sl _) (set_skip (len_sl _) (set_skip (len_sl _) (set_skip (len_sl _) (set_here (((len_sl _)).trans ((len_sl _)).symm)))))))
theorem set_61_plans (x : law19_Game) (v : Sl) : (enc x).take 4 ++ enc v ++ (enc x).drop (4 + (enc v).length) = enc ({ x with plans := v } : law19_Game) := set_skip (len_api_Config _) (set_skip (len_i _) (set_skip (len_sl _) (set_here (((len_sl _)).trans ((len_sl _)).symm))))
theorem set_61_votes (x : law19_Game) (v : Sl) : (enc x).take 5 ++ enc v ++ (enc x).drop (5 + (enc v).length) = enc ({ x with votes := v } : law19_Game) := set_skip (len_api_Config _) (set_skip (len_i _) (set_skip (len_sl _) (set_skip (len_sl _) (set_here (((len_sl _)).trans ((len_sl _)).symm)))))
theorem set_62_all (x : Pt) (v : Pt) : (enc x).take 0 ++ enc v ++ (enc x).drop (0 + (enc v).length) = enc v := set_last (((len_pt _)).trans ((len_pt _)).symm)
theorem set_75_Height (x : api_Block) (v : Int) : (enc x).take 1 ++ enc v ++ (enc x).drop (1 + (enc v).length) = enc ({ x with Height := v } : api_Block) := set_skip (len_i _) (set_here (((len_i _)).trans ((len_i _)).symm))
theorem set_75_Prev (x : api_Block) (v : Arr 32 UInt8) : (enc x).take 2 ++ enc v ++ (enc x).drop (2 + (enc v).length) = enc ({ x with Prev := v } : api_Block) := set_skip (len_i _) (set_skip (len_i _) (set_here (((arr_len (n := 32) _)).trans ((arr_len (n := 32) _)).symm)))
theorem set_75_Requests (x : api_Block) (v : Sl) : (enc x).take 98 ++ enc v ++ (enc x).drop (98 + (enc v).length) = enc ({ x with Requests := v } : api_Block) := set_skip (len_i _) (set_skip (len_i _) (set_skip (arr_len (n := 32) _) (set_skip (arr_len (n := 32) _) (set_skip (arr_len (n := 32) _) (set_last (((len_sl _)).trans ((len_sl _)).symm))))))
theorem set_75_all (x : api_Block) (v : api_Block) : (enc x).take 0 ++ enc v ++ (enc x).drop (0 + (enc v).length) = enc v := set_last (((len_api_Block _)).trans ((len_api_Block _)).symm)
theorem set_77_Block_Height (x : api_Plan) (v : Int) : (enc x).take 5 ++ enc v ++ (enc x).drop (5 + (enc v).length) = enc ({ x with Block.Height := v } : api_Plan) := set_nest (n := 99) (M := enc x.Block) (M' := enc ({ x.Block with Height := v } : api_Block)) (get_skip (len_i _) (get_skip (len_i _) (get_skip (len_i _) (get_skip (len_i _) (get_here (len_api_Block _)))))) (set_skip (len_i _) (set_here (((len_i _)).trans ((len_i _)).symm))) (set_skip (len_i _) (set_skip (len_i _) (set_skip (len_i _) (set_skip (len_i _) (set_here (((len_api_Block _)).trans ((len_api_Block _)).symm)))))) (len_api_Block _) rfl
theorem set_77_Block (x : api_Plan) (v : api_Block) : (enc x).take 4 ++ enc v ++ (enc x).drop (4 + (enc v).length) = enc ({ x with Block := v } : api_Plan) := set_skip (len_i _) (set_skip (len_i _) (set_skip (len_i _) (set_skip (len_i _) (set_here (((len_api_Block _)).trans ((len_api_Block _)).symm)))))
theorem set_77_From (x : api_Plan) (v : Int) : (enc x).take 103 ++ enc v ++ (enc x).drop (103 + (enc v).length) = enc ({ x with From := v } : api_Plan) := set_skip (len_i _) (set_skip (len_i _) (set_skip (len_i _) (set_skip (len_i _) (set_skip (len_api_Block _) (set_here (((len_i _)).trans ((len_i _)).symm))))))
theorem set_77_Height (x : api_Plan) (v : Int) : (enc x).take 1 ++ enc v ++ (enc x).drop (1 + (enc v).length) = enc ({ x with Height := v } : api_Plan) := set_skip (len_i _) (set_here (((len_i _)).trans ((len_i _)).symm))
theorem set_77_Round (x : api_Plan) (v : Int) : (enc x).take 2 ++ enc v ++ (enc x).drop (2 + (enc v).length) = enc ({ x with Round := v } : api_Plan) := set_skip (len_i _) (set_skip (len_i _) (set_here (((len_i _)).trans ((len_i _)).symm)))
theorem set_77_Valid (x : api_Plan) (v : Int) : (enc x).take 3 ++ enc v ++ (enc x).drop (3 + (enc v).length) = enc ({ x with Valid := v } : api_Plan) := set_skip (len_i _) (set_skip (len_i _) (set_skip (len_i _) (set_here (((len_i _)).trans ((len_i _)).symm))))
theorem set_77_all (x : api_Plan) (v : api_Plan) : (enc x).take 0 ++ enc v ++ (enc x).drop (0 + (enc v).length) = enc v := set_last (((len_api_Plan _)).trans ((len_api_Plan _)).symm)
theorem set_80_Act (x : api_Act) (v : Int) : (enc x).take 0 ++ enc v ++ (enc x).drop (0 + (enc v).length) = enc ({ x with Act := v } : api_Act) := set_here (((len_i _)).trans ((len_i _)).symm)
theorem set_80_Block (x : api_Act) (v : api_Block) : (enc x).take 36 ++ enc v ++ (enc x).drop (36 + (enc v).length) = enc ({ x with Block := v } : api_Act) := set_skip (len_i _) (set_skip (len_i _) (set_skip (len_i _) (set_skip (arr_len (n := 32) _) (set_skip (len_i _) (set_last (((len_api_Block _)).trans ((len_api_Block _)).symm))))))
theorem set_80_Digest (x : api_Act) (v : Arr 32 UInt8) : (enc x).take 3 ++ enc v ++ (enc x).drop (3 + (enc v).length) = enc ({ x with Digest := v } : api_Act) := set_skip (len_i _) (set_skip (len_i _) (set_skip (len_i _) (set_here (((arr_len (n := 32) _)).trans ((arr_len (n := 32) _)).symm))))
theorem set_80_Kind (x : api_Act) (v : Int) : (enc x).take 2 ++ enc v ++ (enc x).drop (2 + (enc v).length) = enc ({ x with Kind := v } : api_Act) := set_skip (len_i _) (set_skip (len_i _) (set_here (((len_i _)).trans ((len_i _)).symm)))
theorem set_80_Round (x : api_Act) (v : Int) : (enc x).take 1 ++ enc v ++ (enc x).drop (1 + (enc v).length) = enc ({ x with Round := v } : api_Act) := set_skip (len_i _) (set_here (((len_i _)).trans ((len_i _)).symm))
theorem set_80_Valid (x : api_Act) (v : Int) : (enc x).take 35 ++ enc v ++ (enc x).drop (35 + (enc v).length) = enc ({ x with Valid := v } : api_Act) := set_skip (len_i _) (set_skip (len_i _) (set_skip (len_i _) (set_skip (arr_len (n := 32) _) (set_here (((len_i _)).trans ((len_i _)).symm)))))
theorem set_80_all (x : api_Act) (v : api_Act) : (enc x).take 0 ++ enc v ++ (enc x).drop (0 + (enc v).length) = enc v := set_last (((len_api_Act _)).trans ((len_api_Act _)).symm)
theorem set_88_all (x : law19_Call) (v : law19_Call) : (enc x).take 0 ++ enc v ++ (enc x).drop (0 + (enc v).length) = enc v := set_last (((len_law19_Call _)).trans ((len_law19_Call _)).symm)
theorem set_95_all (x : law19_Move) (v : law19_Move) : (enc x).take 0 ++ enc v ++ (enc x).drop (0 + (enc v).length) = enc v := set_last (((len_law19_Move _)).trans ((len_law19_Move _)).symm)
theorem sl_130 : SlT Prog 130 5 1 := ⟨by kernel_rfl, SizeOf.of (by kernel_rfl)⟩
theorem sl_184 : SlT Prog 184 130 1 := ⟨by kernel_rfl, SizeOf.of (by kernel_rfl)⟩
theorem sl_22 : SlT Prog 22 37 41 := ⟨by kernel_rfl, SizeOf.of (by kernel_rfl)⟩
theorem sl_231 : SlT Prog 231 9 1 := ⟨by kernel_rfl, SizeOf.of (by kernel_rfl)⟩
theorem sl_31 : SlT Prog 31 24 32 := ⟨by kernel_rfl, SizeOf.of (by kernel_rfl)⟩
theorem sl_49 : SlT Prog 49 3 1 := ⟨by kernel_rfl, SizeOf.of (by kernel_rfl)⟩
theorem sl_52 : SlT Prog 52 110 34 := ⟨by kernel_rfl, SizeOf.of (by kernel_rfl)⟩
theorem sl_55 : SlT Prog 55 62 1 := ⟨by kernel_rfl, SizeOf.of (by kernel_rfl)⟩
theorem sl_56 : SlT Prog 56 77 108 := ⟨by kernel_rfl, SizeOf.of (by kernel_rfl)⟩
theorem sl_57 : SlT Prog 57 4 1 := ⟨by kernel_rfl, SizeOf.of (by kernel_rfl)⟩
theorem sl_58 : SlT Prog 58 22 1 := ⟨by kernel_rfl, SizeOf.of (by kernel_rfl)⟩
theorem sl_59 : SlT Prog 59 75 99 := ⟨by kernel_rfl, SizeOf.of (by kernel_rfl)⟩
theorem sl_68 : SlT Prog 68 80 135 := ⟨by kernel_rfl, SizeOf.of (by kernel_rfl)⟩
theorem sl_73 : SlT Prog 73 182 42 := ⟨by kernel_rfl, SizeOf.of (by kernel_rfl)⟩
theorem sl_85 : SlT Prog 85 88 151 := ⟨by kernel_rfl, SizeOf.of (by kernel_rfl)⟩
theorem sl_93 : SlT Prog 93 95 152 := ⟨by kernel_rfl, SizeOf.of (by kernel_rfl)⟩
theorem sz_107 : SizeOf Prog 107 33 := SizeOf.of (by kernel_rfl)
theorem sz_110 : SizeOf Prog 110 34 := SizeOf.of (by kernel_rfl)
theorem sz_115 : SizeOf Prog 115 3 := SizeOf.of (by kernel_rfl)
theorem sz_128 : SizeOf Prog 128 33 := SizeOf.of (by kernel_rfl)
theorem sz_130 : SizeOf Prog 130 1 := SizeOf.of (by kernel_rfl)
theorem sz_136 : SizeOf Prog 136 100 := SizeOf.of (by kernel_rfl)
theorem sz_178 : SizeOf Prog 178 36 := SizeOf.of (by kernel_rfl)
theorem sz_182 : SizeOf Prog 182 42 := SizeOf.of (by kernel_rfl)
theorem sz_185 : SizeOf Prog 185 1 := SizeOf.of (by kernel_rfl)
theorem sz_187 : SizeOf Prog 187 8 := SizeOf.of (by kernel_rfl)
theorem sz_22 : SizeOf Prog 22 1 := SizeOf.of (by kernel_rfl)
theorem sz_220 : SizeOf Prog 220 64 := SizeOf.of (by kernel_rfl)
theorem sz_232 : SizeOf Prog 232 1 := SizeOf.of (by kernel_rfl)
theorem sz_24 : SizeOf Prog 24 32 := SizeOf.of (by kernel_rfl)
theorem sz_3 : SizeOf Prog 3 1 := SizeOf.of (by kernel_rfl)
theorem sz_31 : SizeOf Prog 31 1 := SizeOf.of (by kernel_rfl)
theorem sz_33 : SizeOf Prog 33 2 := SizeOf.of (by kernel_rfl)
theorem sz_35 : SizeOf Prog 35 4 := SizeOf.of (by kernel_rfl)
theorem sz_37 : SizeOf Prog 37 41 := SizeOf.of (by kernel_rfl)
theorem sz_4 : SizeOf Prog 4 1 := SizeOf.of (by kernel_rfl)
theorem sz_5 : SizeOf Prog 5 1 := SizeOf.of (by kernel_rfl)
theorem sz_52 : SizeOf Prog 52 1 := SizeOf.of (by kernel_rfl)
theorem sz_55 : SizeOf Prog 55 1 := SizeOf.of (by kernel_rfl)
theorem sz_56 : SizeOf Prog 56 1 := SizeOf.of (by kernel_rfl)
theorem sz_57 : SizeOf Prog 57 1 := SizeOf.of (by kernel_rfl)
theorem sz_58 : SizeOf Prog 58 1 := SizeOf.of (by kernel_rfl)
theorem sz_59 : SizeOf Prog 59 1 := SizeOf.of (by kernel_rfl)
theorem sz_62 : SizeOf Prog 62 1 := SizeOf.of (by kernel_rfl)
theorem sz_65 : SizeOf Prog 65 1 := SizeOf.of (by kernel_rfl)
theorem sz_68 : SizeOf Prog 68 1 := SizeOf.of (by kernel_rfl)
theorem sz_73 : SizeOf Prog 73 1 := SizeOf.of (by kernel_rfl)
theorem sz_75 : SizeOf Prog 75 99 := SizeOf.of (by kernel_rfl)
theorem sz_77 : SizeOf Prog 77 108 := SizeOf.of (by kernel_rfl)
theorem sz_80 : SizeOf Prog 80 135 := SizeOf.of (by kernel_rfl)
theorem sz_88 : SizeOf Prog 88 151 := SizeOf.of (by kernel_rfl)
theorem sz_95 : SizeOf Prog 95 152 := SizeOf.of (by kernel_rfl)
theorem un_141 : Prog.underlying 141 = some (.float .f64) := by kernel_rfl
theorem un_185 : Prog.underlying 185 = some (.int .u32) := by kernel_rfl
theorem un_190 : Prog.underlying 190 = some (.int .u64) := by kernel_rfl
theorem un_232 : Prog.underlying 232 = some (.int .u64) := by kernel_rfl
theorem un_3 : Prog.underlying 3 = some (.int .i64) := by kernel_rfl
theorem un_4 : Prog.underlying 4 = some (.bool) := by kernel_rfl
theorem un_5 : Prog.underlying 5 = some (.int .u8) := by kernel_rfl
theorem un_71 : Prog.underlying 71 = some (.int .u64) := by kernel_rfl
theorem un_9 : Prog.underlying 9 = some (.string) := by kernel_rfl
theorem zo_107 : ZeroOf Prog 107 (enc (api_Key.zero : api_Key)) := ZeroOf.of (by kernel_rfl)
theorem zo_110 : ZeroOf Prog 110 (enc (api_Member.zero : api_Member)) := ZeroOf.of (by kernel_rfl)
theorem zo_113 : ZeroOf Prog 113 (enc (vote_Box.zero : vote_Box)) := ZeroOf.of (by kernel_rfl)
theorem zo_115 : ZeroOf Prog 115 (enc (vote_place.zero : vote_place)) := ZeroOf.of (by kernel_rfl)
theorem zo_128 : ZeroOf Prog 128 (enc (vote_choice.zero : vote_choice)) := ZeroOf.of (by kernel_rfl)
theorem zo_130 : ZeroOf Prog 130 (enc (Sl.nil : Sl)) := ZeroOf.of (by kernel_rfl)
theorem zo_136 : ZeroOf Prog 136 (enc (round_mark.zero : round_mark)) := ZeroOf.of (by kernel_rfl)
theorem zo_140 : ZeroOf Prog 140 (enc (round_Core.zero : round_Core)) := ZeroOf.of (by kernel_rfl)
theorem zo_145 : ZeroOf Prog 145 (enc (code_Writer.zero : code_Writer)) := ZeroOf.of (by kernel_rfl)
theorem zo_156 : ZeroOf Prog 156 (enc (keys_Tree.zero : keys_Tree)) := ZeroOf.of (by kernel_rfl)
theorem zo_178 : ZeroOf Prog 178 (enc (api_Change.zero : api_Change)) := ZeroOf.of (by kernel_rfl)
theorem zo_182 : ZeroOf Prog 182 (enc (api_Request.zero : api_Request)) := ZeroOf.of (by kernel_rfl)
theorem zo_186 : ZeroOf Prog 186 (enc ((fun _ => 0) : Arr 8 UInt32)) := ZeroOf.of (by kernel_rfl)
theorem zo_187 : ZeroOf Prog 187 (enc ((fun _ => 0) : Arr 8 UInt32)) := ZeroOf.of (by kernel_rfl)
theorem zo_188 : ZeroOf Prog 188 (enc ((fun _ => 0) : Arr 64 UInt8)) := ZeroOf.of (by kernel_rfl)
theorem zo_192 : ZeroOf Prog 192 (enc ((fun _ => .empty) : Arr 3 ByteArray)) := ZeroOf.of (by kernel_rfl)
theorem zo_215 : ZeroOf Prog 215 (enc ((fun _ => 0) : Arr 64 UInt32)) := ZeroOf.of (by kernel_rfl)
theorem zo_218 : ZeroOf Prog 218 (enc ((fun _ => 0) : Arr 16 UInt8)) := ZeroOf.of (by kernel_rfl)
theorem zo_22 : ZeroOf Prog 22 (enc (Sl.nil : Sl)) := ZeroOf.of (by kernel_rfl)
theorem zo_220 : ZeroOf Prog 220 (enc (⟨fun _ => (fun _ => 0)⟩ : ArrA 2 (Arr 32 UInt8))) := ZeroOf.of (by kernel_rfl)
theorem zo_232 : ZeroOf Prog 232 (enc (0 : UInt64)) := ZeroOf.of (by kernel_rfl)
theorem zo_24 : ZeroOf Prog 24 (enc ((fun _ => 0) : Arr 32 UInt8)) := ZeroOf.of (by kernel_rfl)
theorem zo_3 : ZeroOf Prog 3 (enc (0 : Int)) := ZeroOf.of (by kernel_rfl)
theorem zo_30 : ZeroOf Prog 30 (enc (ref13_Box.zero : ref13_Box)) := ZeroOf.of (by kernel_rfl)
theorem zo_33 : ZeroOf Prog 33 (enc (api_Once.zero : api_Once)) := ZeroOf.of (by kernel_rfl)
theorem zo_35 : ZeroOf Prog 35 (enc (api_Sig.zero : api_Sig)) := ZeroOf.of (by kernel_rfl)
theorem zo_37 : ZeroOf Prog 37 (enc (api_Vote.zero : api_Vote)) := ZeroOf.of (by kernel_rfl)
theorem zo_4 : ZeroOf Prog 4 (enc (false : Bool)) := ZeroOf.of (by kernel_rfl)
theorem zo_5 : ZeroOf Prog 5 (enc (0 : UInt8)) := ZeroOf.of (by kernel_rfl)
theorem zo_54 : ZeroOf Prog 54 (enc (api_Config.zero : api_Config)) := ZeroOf.of (by kernel_rfl)
theorem zo_61 : ZeroOf Prog 61 (enc (law19_Game.zero : law19_Game)) := ZeroOf.of (by kernel_rfl)
theorem zo_62 : ZeroOf Prog 62 (enc (none : Pt)) := ZeroOf.of (by kernel_rfl)
theorem zo_75 : ZeroOf Prog 75 (enc (api_Block.zero : api_Block)) := ZeroOf.of (by kernel_rfl)
theorem zo_77 : ZeroOf Prog 77 (enc (api_Plan.zero : api_Plan)) := ZeroOf.of (by kernel_rfl)
theorem zo_80 : ZeroOf Prog 80 (enc (api_Act.zero : api_Act)) := ZeroOf.of (by kernel_rfl)
theorem zo_88 : ZeroOf Prog 88 (enc (law19_Call.zero : law19_Call)) := ZeroOf.of (by kernel_rfl)
theorem zo_9 : ZeroOf Prog 9 (enc (.empty : ByteArray)) := ZeroOf.of (by kernel_rfl)
theorem zo_95 : ZeroOf Prog 95 (enc (law19_Move.zero : law19_Move)) := ZeroOf.of (by kernel_rfl)
theorem zv_3 : ZeroV Prog 3 (reg (0 : Int)) := ZeroV.of (by kernel_rfl)
theorem zv_37 : ZeroV Prog 37 (reg (api_Vote.zero : api_Vote)) := ZeroV.of (by kernel_rfl)
theorem zv_75 : ZeroV Prog 75 (reg (api_Block.zero : api_Block)) := ZeroV.of (by kernel_rfl)
theorem zv_77 : ZeroV Prog 77 (reg (api_Plan.zero : api_Plan)) := ZeroV.of (by kernel_rfl)
end Go.Proofs.YtimmoekliphobaaDoor
namespace Go.Proofs.YtimmoekliphobaaDoor
open Go Go.Sh
open Go.Sh.Ty (reg)
set_option maxRecDepth 100000
theorem kt_3 : KeyT Prog 3 Int := KeyT.int (by kernel_rfl)
theorem kt_24 : KeyT Prog 24 (Arr 32 UInt8) := KeyT.bytes bt_24
theorem sz3 : SizeOf Prog 3 1 := SizeOf.of (by kernel_rfl)
theorem na3 : NotAgg Prog 3 := NotAgg.of (by kernel_rfl)
theorem u3 : Prog.underlying 3 = some (.int .i64) := by kernel_rfl
theorem fo115 : Prog.underlying 115 = some (.struct (Prog.fieldsOf 115)) := by kernel_rfl
theorem fo128 : Prog.underlying 128 = some (.struct (Prog.fieldsOf 128)) := by kernel_rfl
theorem fields_115 : (Prog.fieldsOf 115).toList.map trip = [(true, 3, 0), (true, 3, 1), (true, 3, 2)] := by kernel_rfl
theorem fields_128 : (Prog.fieldsOf 128).toList.map trip = [(true, 3, 0), (true, 24, 1)] := by kernel_rfl
theorem ag24 : IsAgg Prog 24 32 := IsAgg.of (by kernel_rfl) (by kernel_rfl)
theorem kt_115 : KeyT Prog 115 vote_place where
  eq a b w := by
    have hr : ∀ a : vote_place, reg a = .agg #[.int .i64 a.kind, .int .i64 a.round, .int .i64 a.from_] := fun a => rfl
    show (Op.equalIn (9998 + 1 + 1) 115 (reg a) (reg b)).run Prog w = _
    rw [hr, hr, run_equalIn_struct w (9998 + 1) 115 _ _ fo115 (by kernel_rfl), eqFields_trip, fields_115]
    have p : ∀ (cs : Array Value) (o : Nat) (v : Value) (w : World), cs[o]? = some v → (part 3 cs o).run Prog w = .ok v w := fun cs o v w h => part_one na3 h w
    have e : ∀ (a b : Int) (w : World), (Op.equalIn (9998 + 1) 3 (.int .i64 a) (.int .i64 b)).run Prog w = .ok (decide (a = b)) w := fun a b w => eqIn_int u3 9998 a b w
    simp only [eqT, if_true, Sem.run_bind]
    rw [p _ 0 (.int .i64 a.kind) w rfl, Result.andThen_ok, p _ 0 (.int .i64 b.kind) w rfl, Result.andThen_ok, e, Result.andThen_ok]
    obtain ⟨a1, a2, a3⟩ := a
    obtain ⟨b1, b2, b3⟩ := b
    simp only [vote_place.mk.injEq]
    by_cases h1 : a1 = b1
    · simp only [h1, decide_true, Bool.not_true, Bool.false_eq_true, if_false, Sem.run_bind, true_and]
      rw [p _ 1 (.int .i64 a2) w rfl, Result.andThen_ok, p _ 1 (.int .i64 b2) w rfl, Result.andThen_ok, e, Result.andThen_ok]
      by_cases h2 : a2 = b2
      · simp only [h2, decide_true, Bool.not_true, Bool.false_eq_true, if_false, Sem.run_bind, true_and]
        rw [p _ 2 (.int .i64 a3) w rfl, Result.andThen_ok, p _ 2 (.int .i64 b3) w rfl, Result.andThen_ok, e, Result.andThen_ok]
        by_cases h3 : a3 = b3 <;> simp [h3]
      · simp [h2]
    · simp [h1]
  ok em a w := by
    have hr : reg a = .agg #[.int .i64 a.kind, .int .i64 a.round, .int .i64 a.from_] := rfl
    rw [hr]
    show (Instr.checkKey em (9998 + 1 + 1) 115 _).run Prog w = _
    rw [ck_trip em (9998 + 1) 115 _ fo115, fields_115]
    have p : ∀ (cs : Array Value) (o : Nat) (v : Value) (w : World), cs[o]? = some v → (part 3 cs o).run Prog w = .ok v w := fun cs o v w h => part_one na3 h w
    simp only [ckT, if_true, Sem.run_bind]
    rw [p _ 0 (.int .i64 a.kind) w rfl, Result.andThen_ok, ck_int u3, Result.andThen_ok, p _ 1 (.int .i64 a.round) w rfl, Result.andThen_ok, ck_int u3, Result.andThen_ok, p _ 2 (.int .i64 a.from_) w rfl, Result.andThen_ok, ck_int u3, Result.andThen_ok]
    rfl
  same a := by
    have hr : reg a = .agg ([.int .i64 a.kind, .int .i64 a.round, .int .i64 a.from_] : List Value).toArray := rfl
    rw [hr]
    exact sb_agg 9999 _ (by intro x hx; simp only [List.mem_cons, List.not_mem_nil, or_false] at hx; rcases hx with rfl | rfl | rfl <;> exact sb_int _ _ _)
  now := ⟨_, fo115, .inr fun a b => rfl⟩
theorem dig_ext {a : Arr 32 UInt8} (x : Value) (l : List Value) (hl : l = enc a) : (#[x] ++ l.toArray : Array Value).extract 1 (1 + 32) = (enc a).toArray := by
  subst hl
  have := arr_len a
  apply Array.ext'
  simp only [Array.toList_extract, Array.toList_append, List.extract]
  show List.take (1 + 32 - 1) (List.drop 1 (x :: enc a)) = enc a
  rw [List.drop_one, List.tail_cons, List.take_of_length_le (by omega)]
theorem enc_arr {n : Nat} {α : Type} [Ty α] (x : Arr n α) : enc x = List.ofFn fun i => reg (x i) := rfl
theorem reg128 (a : vote_choice) : reg a = .agg (#[.int .i64 a.round] ++ (enc a.digest).toArray) := by
  have h1 : reg a = .agg (enc a.round ++ enc a.digest).toArray := rfl
  have h2 : enc a.round = [.int .i64 a.round] := rfl
  rw [h1, h2]
  generalize enc a.digest = l
  simp
theorem kt_128 : KeyT Prog 128 vote_choice where
  eq a b w := by
    show (Op.equalIn (9998 + 1 + 1) 128 (reg a) (reg b)).run Prog w = _
    rw [reg128, reg128, run_equalIn_struct w (9998 + 1) 128 _ _ fo128 (by kernel_rfl), eqFields_trip, fields_128]
    have p : ∀ (cs : Array Value) (o : Nat) (v : Value) (w : World), cs[o]? = some v → (part 3 cs o).run Prog w = .ok v w := fun cs o v w h => part_one na3 h w
    have e : ∀ (a b : Int) (w : World), (Op.equalIn (9998 + 1) 3 (.int .i64 a) (.int .i64 b)).run Prog w = .ok (decide (a = b)) w := fun a b w => eqIn_int u3 9998 a b w
    simp only [eqT, if_true, Sem.run_bind]
    rw [p _ 0 (.int .i64 a.round) w (by simp), Result.andThen_ok, p _ 0 (.int .i64 b.round) w (by simp), Result.andThen_ok, e, Result.andThen_ok]
    obtain ⟨a1, a2⟩ := a
    obtain ⟨b1, b2⟩ := b
    simp only [vote_choice.mk.injEq]
    by_cases h1 : a1 = b1
    · simp only [h1, decide_true, Bool.not_true, Bool.false_eq_true, if_false, Sem.run_bind, true_and]
      rw [part_agg ag24, Result.andThen_ok, part_agg ag24, Result.andThen_ok, dig_ext _ _ rfl, dig_ext _ _ rfl]
      have h2 : (Op.equalIn (9998 + 1) 24 (.agg (enc a2).toArray) (.agg (enc b2).toArray)).run Prog w = .ok (decide (a2 = b2)) w := by
        exact equalIn_arr8 bt_24 9997 a2 b2 w
      rw [h2]
      by_cases h3 : a2 = b2 <;> simp [h3]
    · simp [h1]
  ok em a w := by
    rw [reg128]
    show (Instr.checkKey em (9998 + 1 + 1) 128 _).run Prog w = _
    rw [ck_trip em (9998 + 1) 128 _ fo128, fields_128]
    have p : ∀ (cs : Array Value) (o : Nat) (v : Value) (w : World), cs[o]? = some v → (part 3 cs o).run Prog w = .ok v w := fun cs o v w h => part_one na3 h w
    simp only [ckT, if_true, Sem.run_bind]
    rw [p _ 0 (.int .i64 a.round) w (by simp), Result.andThen_ok, ck_int u3, Result.andThen_ok, part_agg ag24, Result.andThen_ok, dig_ext _ _ rfl]
    have h2 := ck_bytes bt_24 (9997) em a.digest w
    have e1 : reg a.digest = .agg (enc a.digest).toArray := rfl
    rw [e1] at h2
    rw [show (9998 + 1 : Nat) = 9997 + 2 from rfl, h2, Result.andThen_ok]
    rfl
  same a := by
    have hr : reg a = .agg (enc a.round ++ enc a.digest).toArray := rfl
    rw [hr]
    refine sb_agg 9999 _ (by
      intro x hx
      rw [List.mem_append] at hx
      rcases hx with hx | hx
      · have : enc a.round = [.int .i64 a.round] := rfl
        rw [this] at hx; simp only [List.mem_singleton] at hx; subst hx; exact sb_int _ _ _
      · rw [enc_arr, List.mem_ofFn] at hx; obtain ⟨i, hi⟩ := hx; rw [← hi]; exact sb_int _ _ _)
  now := ⟨_, fo128, .inr fun a b => rfl⟩
end Go.Proofs.YtimmoekliphobaaDoor
namespace Go.Proofs.YtimmoekliphobaaDoor
open Go Go.Sh
open Go.Sh.Ty (reg)
set_option linter.unusedVariables false
set_option maxRecDepth 100000
set_option maxHeartbeats 4000000
def law13_VoteBoxes.j2 (k : Bool → H → Prop) (s1 : Int → H → Prop) (list_2 : Sl) (kind_2 : Int) (round_2 : Int) (quorum_2 : Int) (d_3 : Addr) (b_1 : Pt) (m_1 : Addr) (v_1 : Addr) (t40_1 : Sl) (t41_1 : Int) (t42_1 : Int) (t53 : Bool) : H → Prop :=
  ifb t53 (k (true : Bool)) (ld v_1 (fun (x : api_Vote) => x) fun t55 => ld v_1 (fun (x : api_Vote) => x) fun t58 => call (β := Bool) Prog 12 [reg (b_1 : Pt), reg (t55 : api_Vote)] fun t56 => chk v_1 (fun (x : api_Vote) => x) t58 <| call (β := Bool) Prog 13 [reg ((some m_1) : Pt), reg (t58 : api_Vote)] fun t59 => ifb (t56 != t59) (k (false : Bool)) (s1 (iadd t42_1 (1 : Int))))
def law13_VoteBoxes.l1 (j1 : Sl → Int → Int → Int → Addr → Pt → Addr → H → Prop) (k : Bool → H → Prop) (list_1 : Sl) (kind_1 : Int) (round_1 : Int) (quorum_1 : Int) (d_2 : Addr) (b : Pt) (m : Addr) (t40 : Sl) (t41 : Int) : Int → H → Prop := Lp fun s1 t42 =>
  ifb (decide (t42 < t41)) (sidx t40 t42 41 fun t44 => ld t44 (fun (x : api_Vote) => x) fun t45 => box 37 (api_Vote.zero : api_Vote) fun v => st v (fun (_ : api_Vote) => t45) <| ld v (fun (x : api_Vote) => x) fun t46 => call (β := Bool) Prog 10 [reg (t46 : api_Vote)] fun t47 => ifb (!t47) ((law13_VoteBoxes.j2 k s1) list_1 kind_1 round_1 quorum_1 d_2 b m v t40 t41 t42 true) (ld v (fun (x : api_Vote) => x.Sig) fun t51 => call (β := Bool) Prog 11 [reg (t51 : api_Sig)] fun t52 => (law13_VoteBoxes.j2 k s1) list_1 kind_1 round_1 quorum_1 d_2 b m v t40 t41 t42 t52)) (j1 list_1 kind_1 round_1 quorum_1 d_2 b m)
def law13_VoteBoxes.l2 (j4 : Sl → Int → Int → Int → Addr → Pt → Addr → H → Prop) (k : Bool → H → Prop) (list_5 : Sl) (kind_5 : Int) (round_5 : Int) (quorum_5 : Int) (d_6 : Addr) (b_4 : Pt) (m_4 : Addr) (x_1 : Sl) (y_1 : Sl) (t111 : Int) : Int → H → Prop := Lp fun s2 t112 =>
  ifb (decide (t112 < t111)) (sidx x_1 t112 41 fun t117 => ld t117 (fun (x : api_Vote) => x) fun t118 => sidx y_1 t112 41 fun t121 => ld t121 (fun (x : api_Vote) => x) fun t122 => call (β := Bool) Prog 21 [reg (t118 : api_Vote), reg (t122 : api_Vote)] fun t123 => ifb (!t123) (k (false : Bool)) (s2 (iadd t112 (1 : Int)))) (j4 list_5 kind_5 round_5 quorum_5 d_6 b_4 m_4)
def law13_VoteBoxes.j7 (k : Bool → H → Prop) (s3 : Int → H → Prop) (kind_9 : Int) (round_9 : Int) (quorum_9 : Int) (d_10 : Addr) (m_8 : Addr) (e_3 : Addr) (at__2 : Int) (is_2 : Bool) (t178_1 : Sl) (t179_1 : Int) (t180_1 : Int) (t219 : Bool) : H → Prop :=
  ifb t219 (k (false : Bool)) (s3 (iadd t180_1 (1 : Int)))
def law13_VoteBoxes.l3 (j6 : Int → Int → Int → Addr → H → Prop) (k : Bool → H → Prop) (kind_8 : Int) (round_8 : Int) (quorum_8 : Int) (d_9 : Addr) (m_7 : Addr) (e_2 : Addr) (at__1 : Int) (is_1 : Bool) (t178 : Sl) (t179 : Int) : Int → H → Prop := Lp fun s3 t180 =>
  ifb (decide (t180 < t179)) (sidx t178 t180 41 fun t182 => ld t182 (fun (x : api_Vote) => x) fun t183 => box 37 (api_Vote.zero : api_Vote) fun v_2 => st v_2 (fun (_ : api_Vote) => t183) <| ld v_2 (fun (x : api_Vote) => x.Round) fun t187 => ld v_2 (fun (x : api_Vote) => x.Kind) fun t193 => ifb ((is_1 && (t187 == at__1)) && (t193 == kind_8)) (ld v_2 (fun (x : api_Vote) => x.Digest) fun t199 => ifb (!decide (t199 = (arrOf [0, 0, 0, 0, 0, 0, 0, 0, 0, 0, 0, 0, 0, 0, 0, 0, 0, 0, 0, 0, 0, 0, 0, 0, 0, 0, 0, 0, 0, 0, 0, 0] : Arr 32 UInt8))) (ld v_2 (fun (x : api_Vote) => x.Digest) fun t205 => ld e_2 (fun (x : Arr 32 UInt8) => x) fun t206 => call (β := Bool) Prog 24 [reg (t205 : Arr 32 UInt8), reg (t206 : Arr 32 UInt8)] fun t207 => ifb t207 (ld v_2 (fun (x : api_Vote) => x.Digest) fun t214 => call (β := Sl) Prog 15 [reg ((some m_7) : Pt), reg (kind_8 : Int), reg (at__1 : Int), reg (t214 : Arr 32 UInt8)] fun t215 => (law13_VoteBoxes.j7 k s3) kind_8 round_8 quorum_8 d_9 m_7 e_2 at__1 is_1 t178 t179 t180 (decide (quorum_8 ≤ (t215.len : Int)))) ((law13_VoteBoxes.j7 k s3) kind_8 round_8 quorum_8 d_9 m_7 e_2 at__1 is_1 t178 t179 t180 false)) ((law13_VoteBoxes.j7 k s3) kind_8 round_8 quorum_8 d_9 m_7 e_2 at__1 is_1 t178 t179 t180 false)) ((law13_VoteBoxes.j7 k s3) kind_8 round_8 quorum_8 d_9 m_7 e_2 at__1 is_1 t178 t179 t180 false)) (j6 kind_8 round_8 quorum_8 d_9)
def law13_VoteBoxes.j8 (k : Bool → H → Prop) (t10 : Bool) : H → Prop :=
  k (t10 : Bool)
def law13_VoteBoxes.j6 (k : Bool → H → Prop) (kind_10 : Int) (round_10 : Int) (quorum_10 : Int) (d_11 : Addr) : H → Prop :=
  call (β := T3 (Arr 32 UInt8) Int Bool) Prog 22 [reg ((none : Pt) : Pt), reg (kind_10 : Int), reg (quorum_10 : Int)] fun t225 => box 24 ((fun _ => 0) : Arr 32 UInt8) fun t25 => st t25 (fun (_ : Arr 32 UInt8) => t225.a) <| ifb (!t225.c) (call (β := Bool) Prog 12 [reg ((none : Pt) : Pt), reg (api_Vote.zero : api_Vote)] fun t234 => ifb (!t234) (ld d_11 (fun (x : Arr 32 UInt8) => x) fun t241 => call (β := Int) Prog 16 [reg ((none : Pt) : Pt), reg (kind_10 : Int), reg (round_10 : Int), reg (t241 : Arr 32 UInt8)] fun t242 => ifb (t242 == (0 : Int)) (call (β := Int) Prog 17 [reg ((none : Pt) : Pt), reg (round_10 : Int)] fun t248 => ifb (t248 == (0 : Int)) (call (β := Int) Prog 19 [reg ((none : Pt) : Pt), reg (quorum_10 : Int)] fun t254 => ifb (t254 == (-1 : Int)) (ld d_11 (fun (x : Arr 32 UInt8) => x) fun t261 => call (β := Sl) Prog 14 [reg ((none : Pt) : Pt), reg (kind_10 : Int), reg (round_10 : Int), reg (t261 : Arr 32 UInt8)] fun t262 => (law13_VoteBoxes.j8 k) ((t262.len : Int) == (0 : Int))) ((law13_VoteBoxes.j8 k) false)) ((law13_VoteBoxes.j8 k) false)) ((law13_VoteBoxes.j8 k) false)) ((law13_VoteBoxes.j8 k) false)) ((law13_VoteBoxes.j8 k) false)
def law13_VoteBoxes.j5 (k : Bool → H → Prop) (list_7 : Sl) (kind_7 : Int) (round_7 : Int) (quorum_7 : Int) (d_8 : Addr) (m_6 : Addr) (e_1 : Addr) (at_ : Int) (is : Bool) (t177 : Bool) : H → Prop :=
  ifb t177 (k (false : Bool)) (law13_VoteBoxes.l3 (law13_VoteBoxes.j6 k) k kind_7 round_7 quorum_7 d_8 m_6 e_1 at_ is list_7 (list_7.len : Int) (0 : Int))
def law13_VoteBoxes.j4 (k : Bool → H → Prop) (list_6 : Sl) (kind_6 : Int) (round_6 : Int) (quorum_6 : Int) (d_7 : Addr) (b_5 : Pt) (m_5 : Addr) : H → Prop :=
  call (β := T3 (Arr 32 UInt8) Int Bool) Prog 22 [reg (b_5 : Pt), reg (kind_6 : Int), reg (quorum_6 : Int)] fun t130 => box 24 ((fun _ => 0) : Arr 32 UInt8) fun e => st e (fun (_ : Arr 32 UInt8) => t130.a) <| call (β := Int) Prog 23 [reg ((some m_5) : Pt), reg (kind_6 : Int), reg (quorum_6 : Int)] fun t137 => ifb (t130.c != (decide ((0 : Int) ≤ t137))) ((law13_VoteBoxes.j5 k) list_6 kind_6 round_6 quorum_6 d_7 m_5 e t130.b t130.c true) (ifb t130.c (ifb (t130.b != t137) ((law13_VoteBoxes.j5 k) list_6 kind_6 round_6 quorum_6 d_7 m_5 e t130.b t130.c true) (ld e (fun (x : Arr 32 UInt8) => x) fun t149 => ifb (decide (t149 = (arrOf [0, 0, 0, 0, 0, 0, 0, 0, 0, 0, 0, 0, 0, 0, 0, 0, 0, 0, 0, 0, 0, 0, 0, 0, 0, 0, 0, 0, 0, 0, 0, 0] : Arr 32 UInt8))) ((law13_VoteBoxes.j5 k) list_6 kind_6 round_6 quorum_6 d_7 m_5 e t130.b t130.c true) (ld e (fun (x : Arr 32 UInt8) => x) fun t157 => call (β := Sl) Prog 15 [reg ((some m_5) : Pt), reg (kind_6 : Int), reg (t130.b : Int), reg (t157 : Arr 32 UInt8)] fun t158 => ifb (decide ((t158.len : Int) < quorum_6)) ((law13_VoteBoxes.j5 k) list_6 kind_6 round_6 quorum_6 d_7 m_5 e t130.b t130.c true) (ifb (!t130.c) (ifb (t130.b != (0 : Int)) ((law13_VoteBoxes.j5 k) list_6 kind_6 round_6 quorum_6 d_7 m_5 e t130.b t130.c true) (ld e (fun (x : Arr 32 UInt8) => x) fun t172 => (law13_VoteBoxes.j5 k) list_6 kind_6 round_6 quorum_6 d_7 m_5 e t130.b t130.c (!decide (t172 = (arrOf [0, 0, 0, 0, 0, 0, 0, 0, 0, 0, 0, 0, 0, 0, 0, 0, 0, 0, 0, 0, 0, 0, 0, 0, 0, 0, 0, 0, 0, 0, 0, 0] : Arr 32 UInt8))))) ((law13_VoteBoxes.j5 k) list_6 kind_6 round_6 quorum_6 d_7 m_5 e t130.b t130.c false))))) (ifb (!t130.c) (ifb (t130.b != (0 : Int)) ((law13_VoteBoxes.j5 k) list_6 kind_6 round_6 quorum_6 d_7 m_5 e t130.b t130.c true) (ld e (fun (x : Arr 32 UInt8) => x) fun t172_1 => (law13_VoteBoxes.j5 k) list_6 kind_6 round_6 quorum_6 d_7 m_5 e t130.b t130.c (!decide (t172_1 = (arrOf [0, 0, 0, 0, 0, 0, 0, 0, 0, 0, 0, 0, 0, 0, 0, 0, 0, 0, 0, 0, 0, 0, 0, 0, 0, 0, 0, 0, 0, 0, 0, 0] : Arr 32 UInt8))))) ((law13_VoteBoxes.j5 k) list_6 kind_6 round_6 quorum_6 d_7 m_5 e t130.b t130.c false)))
def law13_VoteBoxes.j3 (k : Bool → H → Prop) (list_4 : Sl) (kind_4 : Int) (round_4 : Int) (quorum_4 : Int) (d_5 : Addr) (b_3 : Pt) (m_3 : Addr) (x : Sl) (y : Sl) (t109 : Bool) : H → Prop :=
  ifb t109 (k (false : Bool)) (law13_VoteBoxes.l2 (law13_VoteBoxes.j4 k) k list_4 kind_4 round_4 quorum_4 d_5 b_3 m_3 x y (x.len : Int) (0 : Int))
def law13_VoteBoxes.j1 (k : Bool → H → Prop) (list_3 : Sl) (kind_3 : Int) (round_3 : Int) (quorum_3 : Int) (d_4 : Addr) (b_2 : Pt) (m_2 : Addr) : H → Prop :=
  ld d_4 (fun (x : Arr 32 UInt8) => x) fun t65 => ld d_4 (fun (x : Arr 32 UInt8) => x) fun t70 => call (β := Sl) Prog 14 [reg (b_2 : Pt), reg (kind_3 : Int), reg (round_3 : Int), reg (t65 : Arr 32 UInt8)] fun t66 => chk d_4 (fun (x : Arr 32 UInt8) => x) t70 <| call (β := Sl) Prog 15 [reg ((some m_2) : Pt), reg (kind_3 : Int), reg (round_3 : Int), reg (t70 : Arr 32 UInt8)] fun t71 => ifb ((t66.len : Int) != (t71.len : Int)) ((law13_VoteBoxes.j3 k) list_3 kind_3 round_3 quorum_3 d_4 b_2 m_2 t66 t71 true) (ld d_4 (fun (x : Arr 32 UInt8) => x) fun t81 => call (β := Int) Prog 16 [reg (b_2 : Pt), reg (kind_3 : Int), reg (round_3 : Int), reg (t81 : Arr 32 UInt8)] fun t82 => ifb (t82 != (t71.len : Int)) ((law13_VoteBoxes.j3 k) list_3 kind_3 round_3 quorum_3 d_4 b_2 m_2 t66 t71 true) (call (β := Int) Prog 17 [reg (b_2 : Pt), reg (round_3 : Int)] fun t90 => call (β := Int) Prog 18 [reg ((some m_2) : Pt), reg (round_3 : Int)] fun t93 => ifb (t90 != t93) ((law13_VoteBoxes.j3 k) list_3 kind_3 round_3 quorum_3 d_4 b_2 m_2 t66 t71 true) (call (β := Int) Prog 19 [reg (b_2 : Pt), reg (quorum_3 : Int)] fun t99 => call (β := Int) Prog 20 [reg ((some m_2) : Pt), reg (quorum_3 : Int)] fun t102 => ifb (t99 != t102) ((law13_VoteBoxes.j3 k) list_3 kind_3 round_3 quorum_3 d_4 b_2 m_2 t66 t71 true) (call (β := Int) Prog 19 [reg (b_2 : Pt), reg ((0 : Int) : Int)] fun t107 => (law13_VoteBoxes.j3 k) list_3 kind_3 round_3 quorum_3 d_4 b_2 m_2 t66 t71 (t107 != (-1 : Int))))))
def law13_VoteBoxes.b (list : Sl) (kind : Int) (round : Int) (d : Arr 32 UInt8) (quorum : Int) (k : Bool → H → Prop) : H → Prop :=
  box 24 (d : Arr 32 UInt8) fun d_1 => call (β := Bool) Prog 8 [] fun t28 => ifb (!t28) (k (false : Bool)) (ifb ((decide ((60 : Int) < (list.len : Int))) || (decide (quorum < (1 : Int)))) (k (true : Bool)) (call (β := Pt) Prog 9 [] fun t37 => box 30 (ref13_Box.zero : ref13_Box) fun t39 => law13_VoteBoxes.l1 (law13_VoteBoxes.j1 k) k list kind round quorum d_1 t37 t39 list (list.len : Int) (0 : Int)))
def law13_alive.j1 (k : Bool → H → Prop) (t0 : Bool) : H → Prop :=
  k (t0 : Bool)
def law13_alive.b (k : Bool → H → Prop) : H → Prop :=
  call (β := T2 Pt Int) Prog 43 [reg ((arrOf [(1 : UInt8), 0, 0, 0, 0, 0, 0, 0, 0, 0, 0, 0, 0, 0, 0, 0, 0, 0, 0, 0, 0, 0, 0, 0, 0, 0, 0, 0, 0, 0, 0, 0] : Arr 32 UInt8) : Arr 32 UInt8), reg ((0 : Int) : Int)] fun t7 => ifb (t7.b != (0 : Int)) (k (false : Bool)) (box 37 (api_Vote.zero : api_Vote) fun v => st v (fun (_ : api_Vote) => ({ api_Vote.zero with Kind := (1 : Int), Height := (1 : Int), From := (1 : Int) } : api_Vote)) <| ld v (fun (x : api_Vote) => x) fun t15 => call (β := Arr 32 UInt8) Prog 45 [reg (t15 : api_Vote)] fun t16 => call (β := T2 api_Sig Int) Prog 44 [reg (t7.a : Pt), reg ((0 : Int) : Int), reg (t16 : Arr 32 UInt8)] fun t17 => st v (fun (x : api_Vote) => { x with Sig := t17.a }) <| call (β := Pt) Prog 9 [] fun t21 => ifb (t17.b == (0 : Int)) (ld v (fun (x : api_Vote) => x) fun t30 => call (β := api_Key) Prog 47 [reg (t7.a : Pt)] fun t26 => chk v (fun (x : api_Vote) => x) t30 <| mks 110 [(({ Id := (1 : Int), Key := t26 } : api_Member) : api_Member)] fun t28 => chk v (fun (x : api_Vote) => x) t30 <| call (β := Bool) Prog 46 [reg (({ api_Config.zero with Members := t28 } : api_Config) : api_Config), reg (t30 : api_Vote)] fun t31 => ifb t31 (ld v (fun (x : api_Vote) => x) fun t35 => call (β := Bool) Prog 12 [reg (t21 : Pt), reg (t35 : api_Vote)] fun t36 => ifb t36 (ld v (fun (x : api_Vote) => x) fun t40 => call (β := Bool) Prog 12 [reg (t21 : Pt), reg (t40 : api_Vote)] fun t41 => ifb (!t41) (call (β := Int) Prog 16 [reg (t21 : Pt), reg ((1 : Int) : Int), reg ((0 : Int) : Int), reg ((arrOf [0, 0, 0, 0, 0, 0, 0, 0, 0, 0, 0, 0, 0, 0, 0, 0, 0, 0, 0, 0, 0, 0, 0, 0, 0, 0, 0, 0, 0, 0, 0, 0] : Arr 32 UInt8) : Arr 32 UInt8)] fun t47 => (law13_alive.j1 k) (t47 == (1 : Int))) ((law13_alive.j1 k) false)) ((law13_alive.j1 k) false)) ((law13_alive.j1 k) false)) ((law13_alive.j1 k) false))
def vote_NewBox.b (k : Pt → H → Prop) : H → Prop :=
  mkmap fun t1 => box 113 (({ votes := t1 } : vote_Box) : vote_Box) fun t3 => k ((some t3) : Pt)
def ref13_Good.b (v : api_Vote) (k : Bool → H → Prop) : H → Prop :=
  box 37 (v : api_Vote) fun v_1 => ld v_1 (fun (x : api_Vote) => x.Kind) fun t4 => ld v_1 (fun (x : api_Vote) => x.Kind) fun t8 => ld v_1 (fun (x : api_Vote) => x.Epoch) fun t13 => ld v_1 (fun (x : api_Vote) => x.Epoch) fun t18 => ld v_1 (fun (x : api_Vote) => x.Height) fun t23 => ld v_1 (fun (x : api_Vote) => x.Height) fun t28 => ifb ((((((t4 != (1 : Int)) && (t8 != (2 : Int))) || (decide (t13 < (0 : Int)))) || (decide ((1073741824 : Int) < t18))) || (decide (t23 < (1 : Int)))) || (decide ((1024 : Int) < t28))) (k (false : Bool)) (ld v_1 (fun (x : api_Vote) => x.Round) fun t32 => ld v_1 (fun (x : api_Vote) => x.Round) fun t36 => ld v_1 (fun (x : api_Vote) => x.From) fun t41 => ld v_1 (fun (x : api_Vote) => x.From) fun t46 => k (((((decide ((0 : Int) ≤ t32)) && (decide (t36 ≤ (1024 : Int)))) && (decide ((1 : Int) ≤ t41))) && (decide (t46 ≤ (63 : Int)))) : Bool))
def law13_great.b (s : api_Sig) (k : Bool → H → Prop) : H → Prop :=
  box 35 (s : api_Sig) fun s_1 => ld s_1 (fun (x : api_Sig) => x.Once.Open) fun t5 => ld s_1 (fun (x : api_Sig) => x.Once.Shut) fun t11 => ld s_1 (fun (x : api_Sig) => x.Path) fun t17 => k ((((decide ((200 : Int) < (t5.len : Int))) || (decide ((200 : Int) < (t11.len : Int)))) || (decide ((200 : Int) < (t17.len : Int)))) : Bool)
def vote_Box_Add.b (b : Pt) (v : api_Vote) (k : Bool → H → Prop) : H → Prop :=
  box 37 (v : api_Vote) fun v_1 => ifb b.isNone (k (false : Bool)) (ld v_1 (fun (x : api_Vote) => x.Kind) fun t11 => ld v_1 (fun (x : api_Vote) => x.Round) fun t13 => ld v_1 (fun (x : api_Vote) => x.From) fun t15 => box 115 (vote_place.zero : vote_place) fun at_ => st at_ (fun (_ : vote_place) => ({ kind := t11, round := t13, from_ := t15 } : vote_place)) <| nn b fun p => ld p (fun (x : vote_Box) => x.votes) fun t21 => ld at_ (fun (x : vote_place) => x) fun t22 => mget t21 (fun (l : List (vote_place × api_Vote)) => mlook (api_Vote.zero : api_Vote) l (t22 : vote_place)) fun t23 => box 37 (api_Vote.zero : api_Vote) fun t6 => chk p (fun (x : vote_Box) => x.votes) t21 <| chk at_ (fun (x : vote_place) => x) t22 <| mchk t21 (fun (l : List (vote_place × api_Vote)) => mlook (api_Vote.zero : api_Vote) l (t22 : vote_place)) t23 <| st t6 (fun (_ : api_Vote) => t23.a) <| ifb t23.b (k (false : Bool)) (ld p (fun (x : vote_Box) => x.votes) fun t30 => ld at_ (fun (x : vote_place) => x) fun t31 => ld v_1 (fun (x : api_Vote) => x) fun t32 => mput t30 (t31 : vote_place) (t32 : api_Vote) <| k (true : Bool)))
def ref13_Box_Add.l1 (j1 : Pt → Addr → H → Prop) (k : Bool → H → Prop) (b_1 : Pt) (v_2 : Addr) (t10_1 : Sl) (t11 : Int) : Int → H → Prop := Lp fun s1 t12 =>
  ifb (decide (t12 < t11)) (sidx t10_1 t12 41 fun t14 => ld t14 (fun (x : api_Vote) => x) fun t15 => box 37 (api_Vote.zero : api_Vote) fun x => st x (fun (_ : api_Vote) => t15) <| ld x (fun (x : api_Vote) => x.Kind) fun t17 => ld v_2 (fun (x : api_Vote) => x.Kind) fun t19 => ld x (fun (x : api_Vote) => x.Round) fun t23 => ld v_2 (fun (x : api_Vote) => x.Round) fun t25 => ld x (fun (x : api_Vote) => x.From) fun t30 => ld v_2 (fun (x : api_Vote) => x.From) fun t32 => ifb (((t17 == t19) && (t23 == t25)) && (t30 == t32)) (k (false : Bool)) (s1 (iadd t12 (1 : Int)))) (j1 b_1 v_2)
def ref13_Box_Add.j2 (k : Bool → H → Prop) : H → Prop :=
  k (true : Bool)
def ref13_Box_Add.j1 (k : Bool → H → Prop) (b_2 : Pt) (v_3 : Addr) : H → Prop :=
  nn b_2 fun p_1 => ld p_1 (fun (x : ref13_Box) => x.Votes) fun t41 => ld v_3 (fun (x : api_Vote) => x) fun t43 => both (mks 37 ([] : List api_Vote) fun t37 => chk p_1 (fun (x : ref13_Box) => x.Votes) t41 <| chk v_3 (fun (x : api_Vote) => x) t43 <| both (app 37 41 152 (enc (api_Vote.zero : api_Vote)) t37 t41 fun t42 => chk v_3 (fun (x : api_Vote) => x) t43 <| mks 37 [(t43 : api_Vote)] fun t44 => chk p_1 (fun (x : ref13_Box) => x.Votes) t41 <| app 37 41 152 (enc (api_Vote.zero : api_Vote)) t42 t44 fun t45 => st p_1 (fun (x : ref13_Box) => { x with Votes := t45 }) <| (ref13_Box_Add.j2 k)) (mks 37 [(t43 : api_Vote)] fun t44_1 => chk p_1 (fun (x : ref13_Box) => x.Votes) t41 <| app 37 41 152 (enc (api_Vote.zero : api_Vote)) t37 t41 fun t42_1 => chk v_3 (fun (x : api_Vote) => x) t43 <| app 37 41 152 (enc (api_Vote.zero : api_Vote)) t42_1 t44_1 fun t45_1 => st p_1 (fun (x : ref13_Box) => { x with Votes := t45_1 }) <| (ref13_Box_Add.j2 k))) (mks 37 [(t43 : api_Vote)] fun t44_2 => chk p_1 (fun (x : ref13_Box) => x.Votes) t41 <| mks 37 ([] : List api_Vote) fun t37_1 => chk p_1 (fun (x : ref13_Box) => x.Votes) t41 <| chk v_3 (fun (x : api_Vote) => x) t43 <| app 37 41 152 (enc (api_Vote.zero : api_Vote)) t37_1 t41 fun t42_2 => chk v_3 (fun (x : api_Vote) => x) t43 <| app 37 41 152 (enc (api_Vote.zero : api_Vote)) t42_2 t44_2 fun t45_2 => st p_1 (fun (x : ref13_Box) => { x with Votes := t45_2 }) <| (ref13_Box_Add.j2 k))
def ref13_Box_Add.b (b : Pt) (v : api_Vote) (k : Bool → H → Prop) : H → Prop :=
  box 37 (v : api_Vote) fun v_1 => nn b fun p => ld p (fun (x : ref13_Box) => x.Votes) fun t10 => ref13_Box_Add.l1 (ref13_Box_Add.j1 k) k b v_1 t10 (t10.len : Int) (0 : Int)
def vote_Box_For.j2 (s1 : (Sl × Int) → H → Prop) (b_2 : Pt) (kind_2 : Int) (round_2 : Int) (d_3 : Addr) (out_1 : Sl) (from__1 : Int) : H → Prop :=
  s1 (out_1, (iadd from__1 (1 : Int)))
def vote_Box_For.l1 (j1 : Sl → H → Prop) (b_1 : Pt) (kind_1 : Int) (round_1 : Int) (d_2 : Addr) : (Sl × Int) → H → Prop := Lp fun s1 (out, from_) =>
  ifb (b_1.isSome && (decide (from_ ≤ (63 : Int)))) (nn b_1 fun p => ld p (fun (x : vote_Box) => x.votes) fun t25 => mget t25 (fun (l : List (vote_place × api_Vote)) => mlook (api_Vote.zero : api_Vote) l (({ kind := kind_1, round := round_1, from_ := from_ } : vote_place) : vote_place)) fun t30 => box 37 (api_Vote.zero : api_Vote) fun v => st v (fun (_ : api_Vote) => t30.a) <| ld v (fun (x : api_Vote) => x.Digest) fun t36 => ld d_2 (fun (x : Arr 32 UInt8) => x) fun t37 => ifb (t30.b && (decide (t36 = t37))) (ld v (fun (x : api_Vote) => x) fun t41 => mks 37 [(t41 : api_Vote)] fun t42 => app 37 41 152 (enc (api_Vote.zero : api_Vote)) out t42 fun t43 => (vote_Box_For.j2 s1) b_1 kind_1 round_1 d_2 t43 from_) ((vote_Box_For.j2 s1) b_1 kind_1 round_1 d_2 out from_)) (j1 out)
def vote_Box_For.j1 (k : Sl → H → Prop) (out_2 : Sl) : H → Prop :=
  k (out_2 : Sl)
def vote_Box_For.b (b : Pt) (kind : Int) (round : Int) (d : Arr 32 UInt8) (k : Sl → H → Prop) : H → Prop :=
  box 24 (d : Arr 32 UInt8) fun d_1 => vote_Box_For.l1 (vote_Box_For.j1 k) b kind round d_1 (Sl.nil, (1 : Int))
def ref13_Box_For.j3 (s2 : (Sl × Int) → H → Prop) (b_3 : Pt) (kind_3 : Int) (round_3 : Int) (d_4 : Addr) (out_2 : Sl) (from__2 : Int) (t20_2 : Sl) (t21_1 : Int) (t22_1 : Int) : H → Prop :=
  s2 (out_2, (iadd t22_1 (1 : Int)))
def ref13_Box_For.l2 (j2 : Pt → Int → Int → Addr → Sl → Int → H → Prop) (b_2 : Pt) (kind_2 : Int) (round_2 : Int) (d_3 : Addr) (from__1 : Int) (t20_1 : Sl) (t21 : Int) : (Sl × Int) → H → Prop := Lp fun s2 (out_1, t22) =>
  ifb (decide (t22 < t21)) (sidx t20_1 t22 41 fun t24 => ld t24 (fun (x : api_Vote) => x) fun t25 => box 37 (api_Vote.zero : api_Vote) fun v => st v (fun (_ : api_Vote) => t25) <| ld v (fun (x : api_Vote) => x.Kind) fun t27 => ld v (fun (x : api_Vote) => x.Round) fun t32 => ld v (fun (x : api_Vote) => x.Digest) fun t38 => ld d_3 (fun (x : Arr 32 UInt8) => x) fun t39 => ld v (fun (x : api_Vote) => x.From) fun t44 => ifb ((((t27 == kind_2) && (t32 == round_2)) && (decide (t38 = t39))) && (t44 == from__1)) (ld v (fun (x : api_Vote) => x) fun t49 => mks 37 [(t49 : api_Vote)] fun t50 => app 37 41 152 (enc (api_Vote.zero : api_Vote)) out_1 t50 fun t51 => (ref13_Box_For.j3 s2) b_2 kind_2 round_2 d_3 t51 from__1 t20_1 t21 t22) ((ref13_Box_For.j3 s2) b_2 kind_2 round_2 d_3 out_1 from__1 t20_1 t21 t22)) (j2 b_2 kind_2 round_2 d_3 out_1 from__1)
def ref13_Box_For.j2 (s1 : (Sl × Int) → H → Prop) (b_4 : Pt) (kind_4 : Int) (round_4 : Int) (d_5 : Addr) (out_3 : Sl) (from__3 : Int) : H → Prop :=
  s1 (out_3, (iadd from__3 (1 : Int)))
def ref13_Box_For.l1 (j1 : Sl → H → Prop) (b_1 : Pt) (kind_1 : Int) (round_1 : Int) (d_2 : Addr) : (Sl × Int) → H → Prop := Lp fun s1 (out, from_) =>
  ifb (decide (from_ ≤ (63 : Int))) (nn b_1 fun p => ld p (fun (x : ref13_Box) => x.Votes) fun t20 => ref13_Box_For.l2 (ref13_Box_For.j2 s1) b_1 kind_1 round_1 d_2 from_ t20 (t20.len : Int) (out, (0 : Int))) (j1 out)
def ref13_Box_For.j1 (k : Sl → H → Prop) (out_4 : Sl) : H → Prop :=
  k (out_4 : Sl)
def ref13_Box_For.b (b : Pt) (kind : Int) (round : Int) (d : Arr 32 UInt8) (k : Sl → H → Prop) : H → Prop :=
  box 24 (d : Arr 32 UInt8) fun d_1 => ref13_Box_For.l1 (ref13_Box_For.j1 k) b kind round d_1 (Sl.nil, (1 : Int))
def vote_Box_Count.b (b : Pt) (kind : Int) (round : Int) (d : Arr 32 UInt8) (k : Int → H → Prop) : H → Prop :=
  box 24 (d : Arr 32 UInt8) fun d_1 => ld d_1 (fun (x : Arr 32 UInt8) => x) fun t12 => call (β := Sl) Prog 14 [reg (b : Pt), reg (kind : Int), reg (round : Int), reg (t12 : Arr 32 UInt8)] fun t13 => k ((t13.len : Int) : Int)
def vote_Box_Voters.l1 (j1 : Mp → H → Prop) (round_1 : Int) (seen : Mp) (t14_1 : Addr) : Unit → H → Prop := Lp fun s1 _ =>
  nxt (κ := vote_place) (ν := api_Vote) t14_1 fun t15 => ifb t15.o.isSome (ent (κ := vote_place) (ν := api_Vote) t14_1 fun t17 => box 115 (vote_place.zero : vote_place) fun at_ => st at_ (fun (_ : vote_place) => t17.a) <| ld at_ (fun (x : vote_place) => x.round) fun t20 => ifb (decide (round_1 ≤ t20)) (ld at_ (fun (x : vote_place) => x.from_) fun t25 => mput seen (t25 : Int) (true : Bool) <| s1 ()) (s1 ())) (j1 seen)
def vote_Box_Voters.j1 (k : Int → H → Prop) (seen_1 : Mp) : H → Prop :=
  mget seen_1 (fun (l : List (Int × Bool)) => (l.length : Int)) fun t27 => k (t27 : Int)
def vote_Box_Voters.b (b : Pt) (round : Int) (k : Int → H → Prop) : H → Prop :=
  mkmap fun t7 => ifb b.isSome (nn b fun p => ld p (fun (x : vote_Box) => x.votes) fun t13 => rng t13 ([] : List (vote_place × api_Vote)) fun t14 => vote_Box_Voters.l1 (vote_Box_Voters.j1 k) round t7 t14 ()) ((vote_Box_Voters.j1 k) t7)
def ref13_Box_Voters.j4 (s2 : (Bool × Int) → H → Prop) (b_3 : Pt) (round_3 : Int) (n_2 : Int) (from__2 : Int) (is_1 : Bool) (t17_2 : Sl) (t18_1 : Int) (t19_1 : Int) : H → Prop :=
  s2 (is_1, (iadd t19_1 (1 : Int)))
def ref13_Box_Voters.l2 (j3 : Pt → Int → Int → Int → Bool → H → Prop) (b_2 : Pt) (round_2 : Int) (n_1 : Int) (from__1 : Int) (t17_1 : Sl) (t18 : Int) : (Bool × Int) → H → Prop := Lp fun s2 (is, t19) =>
  ifb (decide (t19 < t18)) (sidx t17_1 t19 41 fun t21 => ld t21 (fun (x : api_Vote) => x) fun t22 => box 37 (api_Vote.zero : api_Vote) fun v => st v (fun (_ : api_Vote) => t22) <| ifb is ((ref13_Box_Voters.j4 s2) b_2 round_2 n_1 from__1 true t17_1 t18 t19) (ld v (fun (x : api_Vote) => x.From) fun t26 => ld v (fun (x : api_Vote) => x.Round) fun t31 => (ref13_Box_Voters.j4 s2) b_2 round_2 n_1 from__1 ((t26 == from__1) && (decide (round_2 ≤ t31))) t17_1 t18 t19)) (j3 b_2 round_2 n_1 from__1 is)
def ref13_Box_Voters.j3 (j2 : Pt → Int → Int → Int → H → Prop) (b_4 : Pt) (round_4 : Int) (n_3 : Int) (from__3 : Int) (is_2 : Bool) : H → Prop :=
  ifb is_2 (j2 b_4 round_4 (iadd n_3 (1 : Int)) from__3) (j2 b_4 round_4 n_3 from__3)
def ref13_Box_Voters.j2 (s1 : (Int × Int) → H → Prop) (b_5 : Pt) (round_5 : Int) (n_4 : Int) (from__4 : Int) : H → Prop :=
  s1 (n_4, (iadd from__4 (1 : Int)))
def ref13_Box_Voters.l1 (j1 : Int → H → Prop) (b_1 : Pt) (round_1 : Int) : (Int × Int) → H → Prop := Lp fun s1 (n, from_) =>
  ifb (decide (from_ ≤ (63 : Int))) (nn b_1 fun p => ld p (fun (x : ref13_Box) => x.Votes) fun t17 => ref13_Box_Voters.l2 (ref13_Box_Voters.j3 (ref13_Box_Voters.j2 s1)) b_1 round_1 n from_ t17 (t17.len : Int) (false, (0 : Int))) (j1 n)
def ref13_Box_Voters.j1 (k : Int → H → Prop) (n_5 : Int) : H → Prop :=
  k (n_5 : Int)
def ref13_Box_Voters.b (b : Pt) (round : Int) (k : Int → H → Prop) : H → Prop :=
  ref13_Box_Voters.l1 (ref13_Box_Voters.j1 k) b round ((0 : Int), (1 : Int))
def vote_Box_Reached.l1 (j1 : Int → Mp → H → Prop) (n_1 : Int) (last : Mp) (t17_1 : Addr) : Unit → H → Prop := Lp fun s1 _ =>
  nxt (κ := vote_place) (ν := api_Vote) t17_1 fun t18 => ifb t18.o.isSome (ent (κ := vote_place) (ν := api_Vote) t17_1 fun t20 => box 115 (vote_place.zero : vote_place) fun at_ => st at_ (fun (_ : vote_place) => t20.a) <| ld at_ (fun (x : vote_place) => x.from_) fun t25 => mget last (fun (l : List (Int × Int)) => mlook (0 : Int) l (t25 : Int)) fun t26 => ld at_ (fun (x : vote_place) => x.round) fun t33 => ifb ((!t26.b) || (decide (t26.a < t33))) (ld at_ (fun (x : vote_place) => x.from_) fun t39 => ld at_ (fun (x : vote_place) => x.round) fun t41 => mput last (t39 : Int) (t41 : Int) <| s1 ()) (s1 ())) (j1 n_1 last)
def vote_Box_Reached.j2 (k : Int → H → Prop) (n_3 : Int) (last_2 : Mp) (t49 : Bool) : H → Prop :=
  ifb t49 (k ((-1 : Int) : Int)) (call (β := Fv) Prog 49 [reg (last_2 : Mp)] fun t51 => call (β := Sl) Prog 48 [reg (t51 : Fv)] fun t52 => sidx t52 (isub (t52.len : Int) n_3) 1 fun t58 => ld t58 (fun (x : Int) => x) fun t59 => k (t59 : Int))
def vote_Box_Reached.j1 (k : Int → H → Prop) (n_2 : Int) (last_1 : Mp) : H → Prop :=
  ifb (decide (n_2 < (1 : Int))) ((vote_Box_Reached.j2 k) n_2 last_1 true) (mget last_1 (fun (l : List (Int × Int)) => (l.length : Int)) fun t47 => (vote_Box_Reached.j2 k) n_2 last_1 (decide (t47 < n_2)))
def vote_Box_Reached.b (b : Pt) (n : Int) (k : Int → H → Prop) : H → Prop :=
  mkmap fun t10 => ifb b.isSome (nn b fun p => ld p (fun (x : vote_Box) => x.votes) fun t16 => rng t16 ([] : List (vote_place × api_Vote)) fun t17 => vote_Box_Reached.l1 (vote_Box_Reached.j1 k) n t10 t17 ()) ((vote_Box_Reached.j1 k) n t10)
def ref13_Box_Reached.j3 (j2 : Pt → Int → Int → Sl → Int → Int → H → Prop) (b_2 : Pt) (n_2 : Int) (best_1 : Int) (v_1 : Addr) (t11_2 : Sl) (t12_1 : Int) (t13_1 : Int) (t32 : Bool) : H → Prop :=
  ifb t32 (ld v_1 (fun (x : api_Vote) => x.Round) fun t34 => j2 b_2 n_2 t34 t11_2 t12_1 t13_1) (j2 b_2 n_2 best_1 t11_2 t12_1 t13_1)
def ref13_Box_Reached.j2 (s1 : (Int × Int) → H → Prop) (b_3 : Pt) (n_3 : Int) (best_2 : Int) (t11_3 : Sl) (t12_2 : Int) (t13_2 : Int) : H → Prop :=
  s1 (best_2, (iadd t13_2 (1 : Int)))
def ref13_Box_Reached.l1 (j1 : Int → H → Prop) (b_1 : Pt) (n_1 : Int) (t11_1 : Sl) (t12 : Int) : (Int × Int) → H → Prop := Lp fun s1 (best, t13) =>
  ifb (decide (t13 < t12)) (sidx t11_1 t13 41 fun t15 => ld t15 (fun (x : api_Vote) => x) fun t16 => box 37 (api_Vote.zero : api_Vote) fun v => st v (fun (_ : api_Vote) => t16) <| ld v (fun (x : api_Vote) => x.Round) fun t21 => ifb ((decide ((1 : Int) ≤ n_1)) && (decide (best < t21))) (ld v (fun (x : api_Vote) => x.Round) fun t28 => call (β := Int) Prog 18 [reg (b_1 : Pt), reg (t28 : Int)] fun t29 => (ref13_Box_Reached.j3 (ref13_Box_Reached.j2 s1)) b_1 n_1 best v t11_1 t12 t13 (decide (n_1 ≤ t29))) ((ref13_Box_Reached.j3 (ref13_Box_Reached.j2 s1)) b_1 n_1 best v t11_1 t12 t13 false)) (j1 best)
def ref13_Box_Reached.j1 (k : Int → H → Prop) (best_3 : Int) : H → Prop :=
  k (best_3 : Int)
def ref13_Box_Reached.b (b : Pt) (n : Int) (k : Int → H → Prop) : H → Prop :=
  nn b fun p => ld p (fun (x : ref13_Box) => x.Votes) fun t11 => ref13_Box_Reached.l1 (ref13_Box_Reached.j1 k) b n t11 (t11.len : Int) ((-1 : Int), (0 : Int))
def ref13_Same.j1 (k : Bool → H → Prop) (t4 : Bool) : H → Prop :=
  k (t4 : Bool)
def ref13_Same.b (a : api_Vote) (b : api_Vote) (k : Bool → H → Prop) : H → Prop :=
  box 37 (a : api_Vote) fun a_1 => box 37 (b : api_Vote) fun b_1 => ld a_1 (fun (x : api_Vote) => x.Kind) fun t6 => ld b_1 (fun (x : api_Vote) => x.Kind) fun t8 => ld a_1 (fun (x : api_Vote) => x.Epoch) fun t12 => ld b_1 (fun (x : api_Vote) => x.Epoch) fun t14 => ld a_1 (fun (x : api_Vote) => x.Height) fun t19 => ld b_1 (fun (x : api_Vote) => x.Height) fun t21 => ld a_1 (fun (x : api_Vote) => x.Round) fun t26 => ld b_1 (fun (x : api_Vote) => x.Round) fun t28 => ld a_1 (fun (x : api_Vote) => x.Digest) fun t33 => ld b_1 (fun (x : api_Vote) => x.Digest) fun t35 => ld a_1 (fun (x : api_Vote) => x.From) fun t40 => ld b_1 (fun (x : api_Vote) => x.From) fun t42 => ifb ((((((t6 == t8) && (t12 == t14)) && (t19 == t21)) && (t26 == t28)) && (decide (t33 = t35))) && (t40 == t42)) (ld a_1 (fun (x : api_Vote) => x.Sig) fun t47 => ld b_1 (fun (x : api_Vote) => x.Sig) fun t49 => call (β := Bool) Prog 50 [reg (t47 : api_Sig), reg (t49 : api_Sig)] fun t50 => (ref13_Same.j1 k) t50) ((ref13_Same.j1 k) false)
def vote_Box_Winner.j2 (s1 : Unit → H → Prop) (kind_2 : Int) (quorum_2 : Int) (t6_2 : Addr) (best_2 : Addr) (at__1 : Int) (found_1 : Bool) (counts_1 : Mp) (p_2 : Addr) (v_1 : Addr) (t27_2 : Addr) (t42 : Bool) : H → Prop :=
  ifb t42 (ld p_2 (fun (x : vote_place) => x.round) fun t45 => ld v_1 (fun (x : api_Vote) => x.Digest) fun t47 => mget counts_1 (fun (l : List (vote_choice × Int)) => (mlook (0 : Int) l (({ round := t45, digest := t47 } : vote_choice) : vote_choice)).a) fun t49 => ment (0 : Int) counts_1 (({ round := t45, digest := t47 } : vote_choice) : vote_choice) fun t51 => mchk counts_1 (fun (l : List (vote_choice × Int)) => (mlook (0 : Int) l (({ round := t45, digest := t47 } : vote_choice) : vote_choice)).a) t49 <| mste ([] : List (vote_choice × Int)) counts_1 t51.b ((iadd t49 (1 : Int)) : Int) <| s1 ()) (s1 ())
def vote_Box_Winner.l1 (j1 : Int → Addr → Addr → Int → Bool → Mp → H → Prop) (kind_1 : Int) (quorum_1 : Int) (t6_1 : Addr) (best_1 : Addr) (at_ : Int) (found : Bool) (counts : Mp) (t27_1 : Addr) : Unit → H → Prop := Lp fun s1 _ =>
  nxt (κ := vote_place) (ν := api_Vote) t27_1 fun t28 => ifb t28.o.isSome (ent (κ := vote_place) (ν := api_Vote) t27_1 fun t30 => box 115 (vote_place.zero : vote_place) fun p_1 => box 37 (api_Vote.zero : api_Vote) fun v => st p_1 (fun (_ : vote_place) => t30.a) <| st v (fun (_ : api_Vote) => t30.b) <| ld p_1 (fun (x : vote_place) => x.kind) fun t34 => ifb (t34 == kind_1) (ld v (fun (x : api_Vote) => x.Digest) fun t39 => call (β := Arr 32 UInt8) Prog 51 [] fun t40 => chk v (fun (x : api_Vote) => x.Digest) t39 <| (vote_Box_Winner.j2 s1) kind_1 quorum_1 t6_1 best_1 at_ found counts p_1 v t27_1 (!decide (t39 = t40))) ((vote_Box_Winner.j2 s1) kind_1 quorum_1 t6_1 best_1 at_ found counts p_1 v t27_1 false)) (j1 quorum_1 t6_1 best_1 at_ found counts)
def vote_Box_Winner.j4 (s2 : (Int × Bool) → H → Prop) (quorum_5 : Int) (t6_5 : Addr) (best_5 : Addr) (at__4 : Int) (found_4 : Bool) (c_1 : Addr) (n : Int) (first : Bool) (t54_2 : Addr) : H → Prop :=
  ifb ((decide (quorum_5 ≤ n)) && first) (ld c_1 (fun (x : vote_choice) => x.digest) fun t88 => ld c_1 (fun (x : vote_choice) => x.round) fun t90 => st best_5 (fun (_ : Arr 32 UInt8) => t88) <| s2 (t90, true)) (s2 (at__4, found_4))
def vote_Box_Winner.l2 (j3 : Addr → Addr → Int → Bool → H → Prop) (quorum_4 : Int) (t6_4 : Addr) (best_4 : Addr) (t54_1 : Addr) : (Int × Bool) → H → Prop := Lp fun s2 (at__3, found_3) =>
  nxt (κ := vote_choice) (ν := Int) t54_1 fun t55 => ifb t55.o.isSome (ent (κ := vote_choice) (ν := Int) t54_1 fun t57 => box 128 (vote_choice.zero : vote_choice) fun c => st c (fun (_ : vote_choice) => t57.a) <| ld c (fun (x : vote_choice) => x.round) fun t64 => ifb ((!found_3) || (decide (at__3 < t64))) ((vote_Box_Winner.j4 s2) quorum_4 t6_4 best_4 at__3 found_3 c t57.b true t54_1) (ld c (fun (x : vote_choice) => x.round) fun t70 => ifb (t70 == at__3) (call (β := Int) Prog 52 [reg (((⟨some (c.add 1), 32, 32⟩ : Sl).cut 1 0 32 32) : Sl), reg (((⟨some best_4, 32, 32⟩ : Sl).cut 1 0 32 32) : Sl)] fun t77 => (vote_Box_Winner.j4 s2) quorum_4 t6_4 best_4 at__3 found_3 c t57.b (decide (t77 < (0 : Int))) t54_1) ((vote_Box_Winner.j4 s2) quorum_4 t6_4 best_4 at__3 found_3 c t57.b false t54_1))) (j3 t6_4 best_4 at__3 found_3)
def vote_Box_Winner.j3 (k : (T3 (Arr 32 UInt8) Int Bool) → H → Prop) (t6_6 : Addr) (best_6 : Addr) (at__5 : Int) (found_5 : Bool) : H → Prop :=
  ld best_6 (fun (x : Arr 32 UInt8) => x) fun t91 => st t6_6 (fun (_ : Arr 32 UInt8) => t91) <| ld t6_6 (fun (x : Arr 32 UInt8) => x) fun r6_1 => k (⟨r6_1, at__5, found_5⟩ : T3 (Arr 32 UInt8) Int Bool)
def vote_Box_Winner.j1 (k : (T3 (Arr 32 UInt8) Int Bool) → H → Prop) (quorum_3 : Int) (t6_3 : Addr) (best_3 : Addr) (at__2 : Int) (found_2 : Bool) (counts_2 : Mp) : H → Prop :=
  rng counts_2 ([] : List (vote_choice × Int)) fun t54 => vote_Box_Winner.l2 (vote_Box_Winner.j3 k) quorum_3 t6_3 best_3 t54 (at__2, found_2)
def vote_Box_Winner.b (b : Pt) (kind : Int) (quorum : Int) (k : (T3 (Arr 32 UInt8) Int Bool) → H → Prop) : H → Prop :=
  box 24 ((fun _ => 0) : Arr 32 UInt8) fun t6 => call (β := Arr 32 UInt8) Prog 51 [] fun t18 => box 24 ((fun _ => 0) : Arr 32 UInt8) fun best => st best (fun (_ : Arr 32 UInt8) => t18) <| ifb b.isNone (call (β := Arr 32 UInt8) Prog 51 [] fun t21 => st t6 (fun (_ : Arr 32 UInt8) => t21) <| ld t6 (fun (x : Arr 32 UInt8) => x) fun r6 => k (⟨r6, (0 : Int), false⟩ : T3 (Arr 32 UInt8) Int Bool)) (mkmap fun t22 => nn b fun p => ld p (fun (x : vote_Box) => x.votes) fun t26 => rng t26 ([] : List (vote_place × api_Vote)) fun t27 => vote_Box_Winner.l1 (vote_Box_Winner.j1 k) kind quorum t6 best (0 : Int) false t22 t27 ())
def ref13_Box_Winner.j3 (j2 : Pt → Int → Int → Int → Sl → Int → Int → H → Prop) (b_2 : Pt) (kind_2 : Int) (quorum_2 : Int) (best_1 : Int) (v_1 : Addr) (t13_2 : Sl) (t14_1 : Int) (t15_1 : Int) (t46 : Bool) : H → Prop :=
  ifb t46 (ld v_1 (fun (x : api_Vote) => x.Round) fun t48 => j2 b_2 kind_2 quorum_2 t48 t13_2 t14_1 t15_1) (j2 b_2 kind_2 quorum_2 best_1 t13_2 t14_1 t15_1)
def ref13_Box_Winner.j2 (s1 : (Int × Int) → H → Prop) (b_3 : Pt) (kind_3 : Int) (quorum_3 : Int) (best_2 : Int) (t13_3 : Sl) (t14_2 : Int) (t15_2 : Int) : H → Prop :=
  s1 (best_2, (iadd t15_2 (1 : Int)))
def ref13_Box_Winner.l1 (j1 : Int → H → Prop) (b_1 : Pt) (kind_1 : Int) (quorum_1 : Int) (t13_1 : Sl) (t14 : Int) : (Int × Int) → H → Prop := Lp fun s1 (best, t15) =>
  ifb (decide (t15 < t14)) (sidx t13_1 t15 41 fun t17 => ld t17 (fun (x : api_Vote) => x) fun t18 => box 37 (api_Vote.zero : api_Vote) fun v => st v (fun (_ : api_Vote) => t18) <| ld v (fun (x : api_Vote) => x.Kind) fun t20 => ifb (t20 == kind_1) (ld v (fun (x : api_Vote) => x.Digest) fun t25 => ld v (fun (x : api_Vote) => x.Round) fun t31 => ifb ((!decide (t25 = (arrOf [0, 0, 0, 0, 0, 0, 0, 0, 0, 0, 0, 0, 0, 0, 0, 0, 0, 0, 0, 0, 0, 0, 0, 0, 0, 0, 0, 0, 0, 0, 0, 0] : Arr 32 UInt8))) && (decide (best < t31))) (ld v (fun (x : api_Vote) => x.Round) fun t39 => ld v (fun (x : api_Vote) => x.Digest) fun t41 => call (β := Sl) Prog 15 [reg (b_1 : Pt), reg (kind_1 : Int), reg (t39 : Int), reg (t41 : Arr 32 UInt8)] fun t42 => (ref13_Box_Winner.j3 (ref13_Box_Winner.j2 s1)) b_1 kind_1 quorum_1 best v t13_1 t14 t15 (decide (quorum_1 ≤ (t42.len : Int)))) ((ref13_Box_Winner.j3 (ref13_Box_Winner.j2 s1)) b_1 kind_1 quorum_1 best v t13_1 t14 t15 false)) ((ref13_Box_Winner.j3 (ref13_Box_Winner.j2 s1)) b_1 kind_1 quorum_1 best v t13_1 t14 t15 false)) (j1 best)
def ref13_Box_Winner.j1 (k : Int → H → Prop) (best_3 : Int) : H → Prop :=
  k (best_3 : Int)
def ref13_Box_Winner.b (b : Pt) (kind : Int) (quorum : Int) (k : Int → H → Prop) : H → Prop :=
  nn b fun p => ld p (fun (x : ref13_Box) => x.Votes) fun t13 => ref13_Box_Winner.l1 (ref13_Box_Winner.j1 k) b kind quorum t13 (t13.len : Int) ((-1 : Int), (0 : Int))
def ref06_Before.l1 (j1 : H → Prop) (k : Bool → H → Prop) (a_2 : Addr) (b_2 : Addr) : Int → H → Prop := Lp fun s1 t6 =>
  ifb (decide (t6 < (32 : Int))) (bnd t6 32 fun i10 => ld a_2 (fun (x : Arr 32 UInt8) => x i10) fun t11 => bnd t6 32 fun i13 => ld b_2 (fun (x : Arr 32 UInt8) => x i13) fun t14 => ifb (t11 != t14) (bnd t6 32 fun i17 => ld a_2 (fun (x : Arr 32 UInt8) => x i17) fun t18 => bnd t6 32 fun i20 => ld b_2 (fun (x : Arr 32 UInt8) => x i20) fun t21 => k ((decide (t18 < t21)) : Bool)) (s1 (iadd t6 (1 : Int)))) (j1)
def ref06_Before.j1 (k : Bool → H → Prop) : H → Prop :=
  k (false : Bool)
def ref06_Before.b (a : Arr 32 UInt8) (b : Arr 32 UInt8) (k : Bool → H → Prop) : H → Prop :=
  box 24 (a : Arr 32 UInt8) fun a_1 => box 24 (b : Arr 32 UInt8) fun b_1 => ref06_Before.l1 (ref06_Before.j1 k) k a_1 b_1 (0 : Int)
def keys_New.l1 (j1 : Addr → H → Prop) (seed_2 : Addr) (t : Addr) (t19 : Int) : Int → H → Prop := Lp fun s1 t20 =>
  ifb (decide (t20 < t19)) (ld t (fun (x : keys_Tree) => x.leaves) fun t27 => ld seed_2 (fun (x : Arr 32 UInt8) => x) fun t28 => call (β := Arr 32 UInt8) Prog 73 [reg (t28 : Arr 32 UInt8), reg (t20 : Int)] fun t30 => chk t (fun (x : keys_Tree) => x.leaves) t27 <| call (β := Arr 32 UInt8) Prog 72 [reg (t30 : Arr 32 UInt8)] fun t31 => chk t (fun (x : keys_Tree) => x.leaves) t27 <| mks 24 [(t31 : Arr 32 UInt8)] fun t32 => chk t (fun (x : keys_Tree) => x.leaves) t27 <| app 24 32 32 (enc ((fun _ => 0) : Arr 32 UInt8)) t27 t32 fun t33 => st t (fun (x : keys_Tree) => { x with leaves := t33 }) <| s1 (iadd t20 (1 : Int))) (j1 t)
def keys_New.j1 (k : (T2 Pt Int) → H → Prop) (t_1 : Addr) : H → Prop :=
  k (⟨(some t_1), (0 : Int)⟩ : T2 Pt Int)
def keys_New.b (seed : Arr 32 UInt8) (height : Int) (k : (T2 Pt Int) → H → Prop) : H → Prop :=
  box 24 (seed : Arr 32 UInt8) fun seed_1 => ifb ((decide (height < (0 : Int))) || (decide ((6 : Int) < height))) (k (⟨(none : Pt), (1 : Int)⟩ : T2 Pt Int)) (ld seed_1 (fun (x : Arr 32 UInt8) => x) fun t14 => box 156 (({ keys_Tree.zero with seed := t14, height := height } : keys_Tree) : keys_Tree) fun t17 => must (0 ≤ height) <| keys_New.l1 (keys_New.j1 k) seed_1 t17 (ishl (1 : Int) height.toNat) (0 : Int))
def keys_Tree_Sign.b (t : Pt) (n : Int) (d : Arr 32 UInt8) (k : (T2 api_Sig Int) → H → Prop) : H → Prop :=
  box 24 (d : Arr 32 UInt8) fun d_1 => box 35 (api_Sig.zero : api_Sig) fun t6 => ifb t.isNone (st t6 (fun (_ : api_Sig) => api_Sig.zero) <| ld t6 (fun (x : api_Sig) => x) fun r6 => k (⟨r6, (2 : Int)⟩ : T2 api_Sig Int)) (nn t fun p => ld p (fun (x : keys_Tree) => x.leaves) fun t18 => call (β := T2 Sl Bool) Prog 74 [reg (n : Int), reg (t18 : Sl)] fun t19 => ifb (!t19.b) (st t6 (fun (_ : api_Sig) => api_Sig.zero) <| ld t6 (fun (x : api_Sig) => x) fun r6_1 => k (⟨r6_1, (1 : Int)⟩ : T2 api_Sig Int)) (ld p (fun (x : keys_Tree) => x.seed) fun t29 => ld d_1 (fun (x : Arr 32 UInt8) => x) fun t31 => call (β := api_Once) Prog 75 [reg (t29 : Arr 32 UInt8), reg (n : Int), reg (t31 : Arr 32 UInt8)] fun t32 => st t6 (fun (_ : api_Sig) => ({ Leaf := n, Once := t32, Path := t19.a } : api_Sig)) <| ld t6 (fun (x : api_Sig) => x) fun r6_2 => k (⟨r6_2, (0 : Int)⟩ : T2 api_Sig Int)))
def vote_Signs.b (v : api_Vote) (k : (Arr 32 UInt8) → H → Prop) : H → Prop :=
  box 37 (v : api_Vote) fun v_1 => box 24 ((fun _ => 0) : Arr 32 UInt8) fun t2 => box 145 (code_Writer.zero : code_Writer) fun t5 => ld v_1 (fun (x : api_Vote) => x) fun t7 => call (β := Unit) Prog 76 [reg ((some t5) : Pt), reg (t7 : api_Vote)] fun t8 => mks 5 [((118 : UInt8) : UInt8), ((111 : UInt8) : UInt8), ((116 : UInt8) : UInt8), ((101 : UInt8) : UInt8)] fun t9 => strish t9 fun t10 => call (β := Sl) Prog 61 [reg ((some t5) : Pt)] fun t12 => mks 130 [(t10 : Sl), (t12 : Sl)] fun t13 => call (β := Arr 32 UInt8) Prog 60 [reg (t13 : Sl)] fun t14 => st t2 (fun (_ : Arr 32 UInt8) => t14) <| ld t2 (fun (x : Arr 32 UInt8) => x) fun r2 => k (r2 : Arr 32 UInt8)
def vote_Right.j1 (k : Bool → H → Prop) (t4 : Bool) : H → Prop :=
  k (t4 : Bool)
def vote_Right.b (c : api_Config) (v : api_Vote) (k : Bool → H → Prop) : H → Prop :=
  box 54 (c : api_Config) fun c_1 => box 37 (v : api_Vote) fun v_1 => ld c_1 (fun (x : api_Config) => x) fun t9 => ld v_1 (fun (x : api_Vote) => x.From) fun t11 => call (β := T3 api_Member Int Bool) Prog 77 [reg (t9 : api_Config), reg (t11 : Int)] fun t12 => box 110 (api_Member.zero : api_Member) fun m => st m (fun (_ : api_Member) => t12.a) <| ifb t12.c (ld v_1 (fun (x : api_Vote) => x) fun t18 => call (β := Bool) Prog 78 [reg (t18 : api_Vote)] fun t19 => ld v_1 (fun (x : api_Vote) => x.Epoch) fun t23 => ld c_1 (fun (x : api_Config) => x.Epoch) fun t25 => ifb (t19 && (t23 == t25)) (ld m (fun (x : api_Member) => x.Key) fun t30 => ld v_1 (fun (x : api_Vote) => x) fun t31 => ld v_1 (fun (x : api_Vote) => x.Sig) fun t34 => call (β := Arr 32 UInt8) Prog 45 [reg (t31 : api_Vote)] fun t32 => chk m (fun (x : api_Member) => x.Key) t30 <| chk v_1 (fun (x : api_Vote) => x.Sig) t34 <| call (β := Bool) Prog 79 [reg (t30 : api_Key), reg (t32 : Arr 32 UInt8), reg (t34 : api_Sig)] fun t35 => (vote_Right.j1 k) t35) ((vote_Right.j1 k) false)) ((vote_Right.j1 k) false)
def keys_Tree_Key.b (t : Pt) (k : api_Key → H → Prop) : H → Prop :=
  box 107 (api_Key.zero : api_Key) fun t2 => ifb t.isNone (st t2 (fun (_ : api_Key) => api_Key.zero) <| ld t2 (fun (x : api_Key) => x) fun r2 => k (r2 : api_Key)) (nn t fun p => ld p (fun (x : keys_Tree) => x.leaves) fun t9 => ld p (fun (x : keys_Tree) => x.height) fun t14 => call (β := Arr 32 UInt8) Prog 80 [reg (t9 : Sl)] fun t10 => chk p (fun (x : keys_Tree) => x.height) t14 <| st t2 (fun (_ : api_Key) => ({ Root := t10, Height := t14 } : api_Key)) <| ld t2 (fun (x : api_Key) => x) fun r2_1 => k (r2_1 : api_Key))
def maps_Values_int.b (m : Mp) (k : Fv → H → Prop) : H → Prop :=
  box 118 (m : Mp) fun m_1 => k ((⟨83, #[.pointer (some m_1)]⟩ : Fv) : Fv)
def ref05_Same.j1 (k : Bool → H → Prop) (t4 : Bool) : H → Prop :=
  k (t4 : Bool)
def ref05_Same.b (a : api_Sig) (b : api_Sig) (k : Bool → H → Prop) : H → Prop :=
  box 35 (a : api_Sig) fun a_1 => box 35 (b : api_Sig) fun b_1 => ld a_1 (fun (x : api_Sig) => x.Leaf) fun t6 => ld b_1 (fun (x : api_Sig) => x.Leaf) fun t8 => ifb (t6 == t8) (ld a_1 (fun (x : api_Sig) => x.Once) fun t12 => ld b_1 (fun (x : api_Sig) => x.Once) fun t14 => call (β := Bool) Prog 84 [reg (t12 : api_Once), reg (t14 : api_Once)] fun t15 => ifb t15 (ld a_1 (fun (x : api_Sig) => x.Path) fun t19 => ld b_1 (fun (x : api_Sig) => x.Path) fun t21 => call (β := Bool) Prog 85 [reg (t19 : Sl), reg (t21 : Sl)] fun t22 => (ref05_Same.j1 k) t22) ((ref05_Same.j1 k) false)) ((ref05_Same.j1 k) false)
def vote_none.b (k : (Arr 32 UInt8) → H → Prop) : H → Prop :=
  box 24 ((fun _ => 0) : Arr 32 UInt8) fun t0 => box 24 ((fun _ => 0) : Arr 32 UInt8) fun z => ld z (fun (x : Arr 32 UInt8) => x) fun t2 => st t0 (fun (_ : Arr 32 UInt8) => t2) <| ld t0 (fun (x : Arr 32 UInt8) => x) fun r0 => k (r0 : Arr 32 UInt8)
def slices_Compare_byte.l1 (j1 : Sl → Sl → H → Prop) (k : Int → H → Prop) (s1v_1 : Sl) (s2v_1 : Sl) (t9 : Sl) (t10 : Int) : Int → H → Prop := Lp fun s1 t11 =>
  ifb (decide (t11 < t10)) (sidx t9 t11 1 fun t14 => ld t14 (fun (x : UInt8) => x) fun t15 => ifb (decide ((s2v_1.len : Int) ≤ t11)) (k ((1 : Int) : Int)) (sidx s2v_1 t11 1 fun t22 => ld t22 (fun (x : UInt8) => x) fun t23 => call (β := Int) Prog 86 [reg (t15 : UInt8), reg (t23 : UInt8)] fun t26 => ifb (t26 != (0 : Int)) (k (t26 : Int)) (s1 (iadd t11 (1 : Int))))) (j1 s1v_1 s2v_1)
def slices_Compare_byte.j1 (k : Int → H → Prop) (s1v_2 : Sl) (s2v_2 : Sl) : H → Prop :=
  ifb (decide ((s1v_2.len : Int) < (s2v_2.len : Int))) (k ((-1 : Int) : Int)) (k ((0 : Int) : Int))
def slices_Compare_byte.b (s1v : Sl) (s2v : Sl) (k : Int → H → Prop) : H → Prop :=
  slices_Compare_byte.l1 (slices_Compare_byte.j1 k) k s1v s2v s1v (s1v.len : Int) (0 : Int)
def sha_Of.l2 (j2 : Addr → Addr → Addr → Int → Int → Sl → Int → Int → H → Prop) (t2_2 : Addr) (hv_2 : Addr) (buf_2 : Addr) (n_1 : Int) (t14_1 : Sl) (t15_1 : Int) (t16_1 : Int) : (Int × Sl) → H → Prop := Lp fun s2 (at__1, p) =>
  ifb (decide ((0 : Int) < (p.len : Int))) (must (0 ≤ at__1 ∧ at__1 ≤ (64 : Int)) <| cpy 1 ((⟨some buf_2, 64, 64⟩ : Sl).cut 1 at__1.toNat 64 64) p fun t30 => must (0 ≤ t30 ∧ t30 ≤ (p.len : Int)) <| ifb ((iadd at__1 t30) == (64 : Int)) (call (β := Unit) Prog 95 [reg ((some hv_2) : Pt), reg (((⟨some buf_2, 64, 64⟩ : Sl).cut 1 0 64 64) : Sl)] fun t40 => s2 ((0 : Int), (p.cut 1 t30.toNat p.len p.cap))) (s2 ((iadd at__1 t30), (p.cut 1 t30.toNat p.len p.cap)))) (j2 t2_2 hv_2 buf_2 n_1 at__1 t14_1 t15_1 t16_1)
def sha_Of.j2 (s1 : (Int × Int × Int) → H → Prop) (t2_3 : Addr) (hv_3 : Addr) (buf_3 : Addr) (n_2 : Int) (at__2 : Int) (t14_2 : Sl) (t15_2 : Int) (t16_2 : Int) : H → Prop :=
  s1 (n_2, at__2, (iadd t16_2 (1 : Int)))
def sha_Of.l1 (j1 : Addr → Addr → Addr → Int → Int → H → Prop) (t2_1 : Addr) (hv_1 : Addr) (buf_1 : Addr) (t14 : Sl) (t15 : Int) : (Int × Int × Int) → H → Prop := Lp fun s1 (n, at_, t16) =>
  ifb (decide (t16 < t15)) (sidx t14 t16 1 fun t18 => ld t18 (fun (x : Sl) => x) fun t19 => sha_Of.l2 (sha_Of.j2 s1) t2_1 hv_1 buf_1 (iadd n (t19.len : Int)) t14 t15 t16 (at_, t19)) (j1 t2_1 hv_1 buf_1 n at_)
def sha_Of.l3 (j4 : Addr → Addr → Addr → H → Prop) (t2_6 : Addr) (hv_6 : Addr) (buf_6 : Addr) (n_5 : Int) : Int → H → Prop := Lp fun s3 t52 =>
  ifb (decide (t52 < (8 : Int))) (must (0 ≤ (isub (56 : Int) (imul (8 : Int) t52))) <| bnd (iadd (56 : Int) t52) 64 fun i65 => st buf_6 (fun (x : Arr 64 UInt8) => upd x i65 (toU8 ((shr64 (shl64 (toU64 n_5) 3) (isub (56 : Int) (imul (8 : Int) t52)).toNat).toNat : Int))) <| s3 (iadd t52 (1 : Int))) (j4 t2_6 hv_6 buf_6)
def sha_Of.l4 (j5 : Addr → Addr → H → Prop) (t2_8 : Addr) (hv_8 : Addr) (out_1 : Addr) : Int → H → Prop := Lp fun s4 t69 =>
  ifb (decide (t69 < (32 : Int))) (bnd (iquo t69 (4 : Int)) 8 fun i75 => ld hv_8 (fun (x : Arr 8 UInt32) => x i75) fun t76 => must (0 ≤ (isub (24 : Int) (imul (8 : Int) (irem t69 (4 : Int))))) <| bnd t69 32 fun i83 => st out_1 (fun (x : Arr 32 UInt8) => upd x i83 (toU8 ((shr32 t76 (isub (24 : Int) (imul (8 : Int) (irem t69 (4 : Int)))).toNat).toNat : Int))) <| s4 (iadd t69 (1 : Int))) (j5 t2_8 out_1)
def sha_Of.j5 (k : (Arr 32 UInt8) → H → Prop) (t2_9 : Addr) (out_2 : Addr) : H → Prop :=
  ld out_2 (fun (x : Arr 32 UInt8) => x) fun t85 => st t2_9 (fun (_ : Arr 32 UInt8) => t85) <| ld t2_9 (fun (x : Arr 32 UInt8) => x) fun r2 => k (r2 : Arr 32 UInt8)
def sha_Of.j4 (k : (Arr 32 UInt8) → H → Prop) (t2_7 : Addr) (hv_7 : Addr) (buf_7 : Addr) : H → Prop :=
  call (β := Unit) Prog 95 [reg ((some hv_7) : Pt), reg (((⟨some buf_7, 64, 64⟩ : Sl).cut 1 0 64 64) : Sl)] fun t68 => box 24 ((fun _ => 0) : Arr 32 UInt8) fun out => sha_Of.l4 (sha_Of.j5 k) t2_7 hv_7 out (0 : Int)
def sha_Of.j3 (k : (Arr 32 UInt8) → H → Prop) (t2_5 : Addr) (hv_5 : Addr) (buf_5 : Addr) (n_4 : Int) : H → Prop :=
  sha_Of.l3 (sha_Of.j4 k) t2_5 hv_5 buf_5 n_4 (0 : Int)
def sha_Of.j1 (k : (Arr 32 UInt8) → H → Prop) (t2_4 : Addr) (hv_4 : Addr) (buf_4 : Addr) (n_3 : Int) (at__3 : Int) : H → Prop :=
  bnd at__3 64 fun i43 => st buf_4 (fun (x : Arr 64 UInt8) => upd x i43 (128 : UInt8)) <| must (0 ≤ (iadd at__3 (1 : Int)) ∧ (iadd at__3 (1 : Int)) ≤ (64 : Int)) <| clr (enc (0 : UInt8)) ((⟨some buf_4, 64, 64⟩ : Sl).cut 1 (iadd at__3 (1 : Int)).toNat 64 64) <| ifb (decide ((56 : Int) ≤ at__3)) (call (β := Unit) Prog 95 [reg ((some hv_4) : Pt), reg (((⟨some buf_4, 64, 64⟩ : Sl).cut 1 0 64 64) : Sl)] fun t50 => clr (enc (0 : UInt8)) ((⟨some buf_4, 64, 64⟩ : Sl).cut 1 0 64 64) <| (sha_Of.j3 k) t2_4 hv_4 buf_4 n_3) ((sha_Of.j3 k) t2_4 hv_4 buf_4 n_3)
def sha_Of.b (pieces : Sl) (k : (Arr 32 UInt8) → H → Prop) : H → Prop :=
  box 24 ((fun _ => 0) : Arr 32 UInt8) fun t2 => box 187 ((fun _ => 0) : Arr 8 UInt32) fun hv => st hv (fun (_ : Arr 8 UInt32) => (arrOf [(1779033703 : UInt32), (3144134277 : UInt32), (1013904242 : UInt32), (2773480762 : UInt32), (1359893119 : UInt32), (2600822924 : UInt32), (528734635 : UInt32), (1541459225 : UInt32)] : Arr 8 UInt32)) <| box 188 ((fun _ => 0) : Arr 64 UInt8) fun buf => sha_Of.l1 (sha_Of.j1 k) t2 hv buf pieces (pieces.len : Int) ((0 : Int), (0 : Int), (0 : Int))
def code_Writer_Bytes.b (w : Pt) (k : Sl → H → Prop) : H → Prop :=
  ifb w.isNone (k (Sl.nil : Sl)) (nn w fun p => ld p (fun (x : code_Writer) => x.b) fun t8 => must (0 ≤ (0 : Int) ∧ (0 : Int) ≤ (0 : Int) ∧ (0 : Int) ≤ (t8.cap : Int)) <| ld p (fun (x : code_Writer) => x.b) fun t13 => app 5 1 1 (enc (0 : UInt8)) (t8.cut 1 0 (0 : Int).toNat (0 : Int).toNat) t13 fun t14 => k (t14 : Sl))
def keys_leaf.b (p : Arr 32 UInt8) (k : (Arr 32 UInt8) → H → Prop) : H → Prop :=
  box 24 (p : Arr 32 UInt8) fun p_1 => box 24 ((fun _ => 0) : Arr 32 UInt8) fun t2 => call (β := Arr 32 UInt8) Prog 100 [reg (((⟨some p_1, 32, 32⟩ : Sl).cut 1 0 32 32) : Sl)] fun t4 => st t2 (fun (_ : Arr 32 UInt8) => t4) <| ld t2 (fun (x : Arr 32 UInt8) => x) fun r2 => k (r2 : Arr 32 UInt8)
def once_Public.l1 (j1 : Addr → Sl → H → Prop) (leaf_1 : Int) (seed_2 : Addr) (t4_1 : Addr) : (Sl × Int) → H → Prop := Lp fun s1 (list, t7) =>
  ifb (decide (t7 < (32 : Int))) (ld seed_2 (fun (x : Arr 32 UInt8) => x) fun t11 => ld seed_2 (fun (x : Arr 32 UInt8) => x) fun t16 => call (β := Arr 32 UInt8) Prog 102 [reg (t11 : Arr 32 UInt8), reg (leaf_1 : Int), reg (t7 : Int), reg ((0 : Int) : Int)] fun t14 => chk seed_2 (fun (x : Arr 32 UInt8) => x) t16 <| call (β := Arr 32 UInt8) Prog 101 [reg (t14 : Arr 32 UInt8)] fun t15 => chk seed_2 (fun (x : Arr 32 UInt8) => x) t16 <| call (β := Arr 32 UInt8) Prog 102 [reg (t16 : Arr 32 UInt8), reg (leaf_1 : Int), reg (t7 : Int), reg ((1 : Int) : Int)] fun t19 => call (β := Arr 32 UInt8) Prog 101 [reg (t19 : Arr 32 UInt8)] fun t20 => mks 24 [(t15 : Arr 32 UInt8), (t20 : Arr 32 UInt8)] fun t21 => app 24 32 32 (enc ((fun _ => 0) : Arr 32 UInt8)) list t21 fun t22 => s1 (t22, (iadd t7 (1 : Int)))) (j1 t4_1 list)
def once_Public.j1 (k : (Arr 32 UInt8) → H → Prop) (t4_2 : Addr) (list_1 : Sl) : H → Prop :=
  call (β := Arr 32 UInt8) Prog 103 [reg (list_1 : Sl)] fun t25 => st t4_2 (fun (_ : Arr 32 UInt8) => t25) <| ld t4_2 (fun (x : Arr 32 UInt8) => x) fun r4 => k (r4 : Arr 32 UInt8)
def once_Public.b (seed : Arr 32 UInt8) (leaf : Int) (k : (Arr 32 UInt8) → H → Prop) : H → Prop :=
  box 24 (seed : Arr 32 UInt8) fun seed_1 => box 24 ((fun _ => 0) : Arr 32 UInt8) fun t4 => once_Public.l1 (once_Public.j1 k) leaf seed_1 t4 (Sl.nil, (0 : Int))
def tree_Path.j2 (s1 : (Int × Sl × Sl) → H → Prop) (at__2 : Int) (out_1 : Sl) (row_1 : Sl) : H → Prop :=
  call (β := Sl) Prog 104 [reg (row_1 : Sl)] fun t24 => s1 ((iquo at__2 (2 : Int)), out_1, t24)
def tree_Path.l1 (j1 : Sl → H → Prop) : (Int × Sl × Sl) → H → Prop := Lp fun s1 (at__1, out, row) =>
  ifb (decide ((1 : Int) < (row.len : Int))) (ifb (decide ((ixor at__1 (1 : Int)) < (row.len : Int))) (sidx row (ixor at__1 (1 : Int)) 32 fun t36 => ld t36 (fun (x : Arr 32 UInt8) => x) fun t37 => mks 24 [(t37 : Arr 32 UInt8)] fun t38 => app 24 32 32 (enc ((fun _ => 0) : Arr 32 UInt8)) out t38 fun t39 => (tree_Path.j2 s1) at__1 t39 row) ((tree_Path.j2 s1) at__1 out row)) (j1 out)
def tree_Path.j1 (k : (T2 Sl Bool) → H → Prop) (out_2 : Sl) : H → Prop :=
  k (⟨out_2, true⟩ : T2 Sl Bool)
def tree_Path.b (at_ : Int) (leaves : Sl) (k : (T2 Sl Bool) → H → Prop) : H → Prop :=
  ifb ((decide (at_ < (0 : Int))) || (decide ((leaves.len : Int) ≤ at_))) (k (⟨Sl.nil, false⟩ : T2 Sl Bool)) (mks 24 ([] : List (Arr 32 UInt8)) fun t17 => app 24 32 32 (enc ((fun _ => 0) : Arr 32 UInt8)) t17 leaves fun t19 => tree_Path.l1 (tree_Path.j1 k) (at_, Sl.nil, t19))
def once_Sign.l1 (j1 : Addr → Addr → H → Prop) (leaf_1 : Int) (seed_2 : Addr) (d_2 : Addr) (t6_1 : Addr) (o_1 : Addr) : Int → H → Prop := Lp fun s1 t10 =>
  ifb (decide (t10 < (32 : Int))) (ld d_2 (fun (x : Arr 32 UInt8) => x) fun t13 => call (β := Int) Prog 105 [reg (t13 : Arr 32 UInt8), reg (t10 : Int)] fun t15 => ld o_1 (fun (x : api_Once) => x.Open) fun t17 => ld seed_2 (fun (x : Arr 32 UInt8) => x) fun t18 => call (β := Arr 32 UInt8) Prog 102 [reg (t18 : Arr 32 UInt8), reg (leaf_1 : Int), reg (t10 : Int), reg (t15 : Int)] fun t22 => chk o_1 (fun (x : api_Once) => x.Open) t17 <| mks 24 [(t22 : Arr 32 UInt8)] fun t23 => chk o_1 (fun (x : api_Once) => x.Open) t17 <| app 24 32 32 (enc ((fun _ => 0) : Arr 32 UInt8)) t17 t23 fun t24 => st o_1 (fun (x : api_Once) => { x with Open := t24 }) <| ld o_1 (fun (x : api_Once) => x.Shut) fun t27 => ld seed_2 (fun (x : Arr 32 UInt8) => x) fun t28 => call (β := Arr 32 UInt8) Prog 102 [reg (t28 : Arr 32 UInt8), reg (leaf_1 : Int), reg (t10 : Int), reg ((isub (1 : Int) t15) : Int)] fun t33 => chk o_1 (fun (x : api_Once) => x.Shut) t27 <| call (β := Arr 32 UInt8) Prog 101 [reg (t33 : Arr 32 UInt8)] fun t34 => chk o_1 (fun (x : api_Once) => x.Shut) t27 <| mks 24 [(t34 : Arr 32 UInt8)] fun t35 => chk o_1 (fun (x : api_Once) => x.Shut) t27 <| app 24 32 32 (enc ((fun _ => 0) : Arr 32 UInt8)) t27 t35 fun t36 => st o_1 (fun (x : api_Once) => { x with Shut := t36 }) <| s1 (iadd t10 (1 : Int))) (j1 t6_1 o_1)
def once_Sign.j1 (k : api_Once → H → Prop) (t6_2 : Addr) (o_2 : Addr) : H → Prop :=
  ld o_2 (fun (x : api_Once) => x) fun t39 => st t6_2 (fun (_ : api_Once) => t39) <| ld t6_2 (fun (x : api_Once) => x) fun r6 => k (r6 : api_Once)
def once_Sign.b (seed : Arr 32 UInt8) (leaf : Int) (d : Arr 32 UInt8) (k : api_Once → H → Prop) : H → Prop :=
  box 24 (seed : Arr 32 UInt8) fun seed_1 => box 24 (d : Arr 32 UInt8) fun d_1 => box 33 (api_Once.zero : api_Once) fun t6 => box 33 (api_Once.zero : api_Once) fun o => once_Sign.l1 (once_Sign.j1 k) leaf seed_1 d_1 t6 o (0 : Int)
def vote_head.b (w : Pt) (v : api_Vote) (k : Unit → H → Prop) : H → Prop :=
  box 37 (v : api_Vote) fun v_1 => ld v_1 (fun (x : api_Vote) => x.Kind) fun t6 => ld v_1 (fun (x : api_Vote) => x.Epoch) fun t8 => ld v_1 (fun (x : api_Vote) => x.Height) fun t10 => ld v_1 (fun (x : api_Vote) => x.Round) fun t12 => ld v_1 (fun (x : api_Vote) => x.From) fun t14 => mks 3 [(t6 : Int), (t8 : Int), (t10 : Int), (t12 : Int), (t14 : Int)] fun t15 => call (β := Unit) Prog 92 [reg (w : Pt), reg (t15 : Sl)] fun t16 => ld v_1 (fun (x : api_Vote) => x.Digest) fun t19 => mks 24 [(t19 : Arr 32 UInt8)] fun t20 => call (β := Unit) Prog 93 [reg (w : Pt), reg (t20 : Sl)] fun t21 => k ()
def config_Find.b (c : api_Config) (id : Int) (k : (T3 api_Member Int Bool) → H → Prop) : H → Prop :=
  box 54 (c : api_Config) fun c_1 => box 3 (id : Int) fun id_1 => box 110 (api_Member.zero : api_Member) fun t4 => ld c_1 (fun (x : api_Config) => x.Members) fun t9 => call (β := Int) Prog 106 [reg (t9 : Sl), reg ((⟨107, #[.pointer (some id_1)]⟩ : Fv) : Fv)] fun t11 => ifb (decide (t11 < (0 : Int))) (st t4 (fun (_ : api_Member) => api_Member.zero) <| ld t4 (fun (x : api_Member) => x) fun r4 => k (⟨r4, (0 : Int), false⟩ : T3 api_Member Int Bool)) (ld c_1 (fun (x : api_Config) => x.Members) fun t16 => sidx t16 t11 34 fun t18 => ld t18 (fun (x : api_Member) => x) fun t19 => st t4 (fun (_ : api_Member) => t19) <| ld t4 (fun (x : api_Member) => x) fun r4_1 => k (⟨r4_1, t11, true⟩ : T3 api_Member Int Bool))
def vote_Good.b (v : api_Vote) (k : Bool → H → Prop) : H → Prop :=
  box 37 (v : api_Vote) fun v_1 => ld v_1 (fun (x : api_Vote) => x.Kind) fun t4 => ld v_1 (fun (x : api_Vote) => x.Kind) fun t8 => ld v_1 (fun (x : api_Vote) => x.Epoch) fun t13 => ld v_1 (fun (x : api_Vote) => x.Epoch) fun t18 => ld v_1 (fun (x : api_Vote) => x.Height) fun t23 => ld v_1 (fun (x : api_Vote) => x.Height) fun t28 => ld v_1 (fun (x : api_Vote) => x.Round) fun t33 => ld v_1 (fun (x : api_Vote) => x.Round) fun t38 => ld v_1 (fun (x : api_Vote) => x.From) fun t43 => ld v_1 (fun (x : api_Vote) => x.From) fun t48 => k (((((((((((decide ((1 : Int) ≤ t4)) && (decide (t8 ≤ (2 : Int)))) && (decide ((0 : Int) ≤ t13))) && (decide (t18 ≤ (1073741824 : Int)))) && (decide ((1 : Int) ≤ t23))) && (decide (t28 ≤ (1024 : Int)))) && (decide ((0 : Int) ≤ t33))) && (decide (t38 ≤ (1024 : Int)))) && (decide ((1 : Int) ≤ t43))) && (decide (t48 ≤ (63 : Int)))) : Bool)
def keys_Check.j1 (k : Bool → H → Prop) (t6 : Bool) : H → Prop :=
  k (t6 : Bool)
def keys_Check.b (kv : api_Key) (d : Arr 32 UInt8) (s : api_Sig) (k : Bool → H → Prop) : H → Prop :=
  box 107 (kv : api_Key) fun kv_1 => box 24 (d : Arr 32 UInt8) fun d_1 => box 35 (s : api_Sig) fun s_1 => ld d_1 (fun (x : Arr 32 UInt8) => x) fun t10 => ld s_1 (fun (x : api_Sig) => x.Once) fun t12 => call (β := T2 (Arr 32 UInt8) Bool) Prog 108 [reg (t10 : Arr 32 UInt8), reg (t12 : api_Once)] fun t13 => box 24 ((fun _ => 0) : Arr 32 UInt8) fun p => st p (fun (_ : Arr 32 UInt8) => t13.a) <| ld kv_1 (fun (x : api_Key) => x.Height) fun t19 => ld kv_1 (fun (x : api_Key) => x.Height) fun t24 => ifb ((t13.b && (decide ((0 : Int) ≤ t19))) && (decide (t24 ≤ (6 : Int)))) (ld kv_1 (fun (x : api_Key) => x.Root) fun t29 => ld p (fun (x : Arr 32 UInt8) => x) fun t30 => ld s_1 (fun (x : api_Sig) => x.Leaf) fun t33 => ld kv_1 (fun (x : api_Key) => x.Height) fun t35 => must (0 ≤ t35) <| ld s_1 (fun (x : api_Sig) => x.Path) fun t38 => call (β := Arr 32 UInt8) Prog 72 [reg (t30 : Arr 32 UInt8)] fun t31 => chk kv_1 (fun (x : api_Key) => x.Root) t29 <| chk s_1 (fun (x : api_Sig) => x.Leaf) t33 <| chk kv_1 (fun (x : api_Key) => x.Height) t35 <| chk s_1 (fun (x : api_Sig) => x.Path) t38 <| call (β := Bool) Prog 109 [reg (t29 : Arr 32 UInt8), reg (t31 : Arr 32 UInt8), reg (t33 : Int), reg ((ishl (1 : Int) t35.toNat) : Int), reg (t38 : Sl)] fun t39 => (keys_Check.j1 k) t39) ((keys_Check.j1 k) false)
def tree_Root.l1 (j1 : Addr → Sl → H → Prop) (t2_1 : Addr) : Sl → H → Prop := Lp fun s1 row =>
  ifb (decide ((1 : Int) < (row.len : Int))) (call (β := Sl) Prog 104 [reg (row : Sl)] fun t15 => s1 t15) (j1 t2_1 row)
def tree_Root.j1 (k : (Arr 32 UInt8) → H → Prop) (t2_2 : Addr) (row_1 : Sl) : H → Prop :=
  sidx row_1 (0 : Int) 32 fun t17 => ld t17 (fun (x : Arr 32 UInt8) => x) fun t18 => st t2_2 (fun (_ : Arr 32 UInt8) => t18) <| ld t2_2 (fun (x : Arr 32 UInt8) => x) fun r2_1 => k (r2_1 : Arr 32 UInt8)
def tree_Root.b (leaves : Sl) (k : (Arr 32 UInt8) → H → Prop) : H → Prop :=
  box 24 ((fun _ => 0) : Arr 32 UInt8) fun t2 => ifb ((leaves.len : Int) == (0 : Int)) (call (β := Arr 32 UInt8) Prog 60 [reg (Sl.nil : Sl)] fun t7 => st t2 (fun (_ : Arr 32 UInt8) => t7) <| ld t2 (fun (x : Arr 32 UInt8) => x) fun r2 => k (r2 : Arr 32 UInt8)) (mks 24 ([] : List (Arr 32 UInt8)) fun t8 => app 24 32 32 (enc ((fun _ => 0) : Arr 32 UInt8)) t8 leaves fun t10 => tree_Root.l1 (tree_Root.j1 k) t2 t10)
def ref04_Same.j1 (k : Bool → H → Prop) (t4 : Bool) : H → Prop :=
  k (t4 : Bool)
def ref04_Same.b (a : api_Once) (b : api_Once) (k : Bool → H → Prop) : H → Prop :=
  box 33 (a : api_Once) fun a_1 => box 33 (b : api_Once) fun b_1 => ld a_1 (fun (x : api_Once) => x.Open) fun t6 => ld b_1 (fun (x : api_Once) => x.Open) fun t8 => call (β := Bool) Prog 85 [reg (t6 : Sl), reg (t8 : Sl)] fun t9 => ifb t9 (ld a_1 (fun (x : api_Once) => x.Shut) fun t12 => ld b_1 (fun (x : api_Once) => x.Shut) fun t14 => call (β := Bool) Prog 85 [reg (t12 : Sl), reg (t14 : Sl)] fun t15 => (ref04_Same.j1 k) t15) ((ref04_Same.j1 k) false)
def ref03_Same.l1 (j1 : H → Prop) (k : Bool → H → Prop) (a_1 : Sl) (b_1 : Sl) (t12 : Int) : Int → H → Prop := Lp fun s1 t13 =>
  ifb (decide (t13 < t12)) (sidx a_1 t13 32 fun t18 => ld t18 (fun (x : Arr 32 UInt8) => x) fun t19 => sidx b_1 t13 32 fun t22 => ld t22 (fun (x : Arr 32 UInt8) => x) fun t23 => ifb (!decide (t19 = t23)) (k (false : Bool)) (s1 (iadd t13 (1 : Int)))) (j1)
def ref03_Same.j1 (k : Bool → H → Prop) : H → Prop :=
  k (true : Bool)
def ref03_Same.b (a : Sl) (b : Sl) (k : Bool → H → Prop) : H → Prop :=
  ifb ((a.len : Int) != (b.len : Int)) (k (false : Bool)) (ref03_Same.l1 (ref03_Same.j1 k) k a b (a.len : Int) (0 : Int))
def cmp_Compare_byte.b (x : UInt8) (y : UInt8) (k : Int → H → Prop) : H → Prop :=
  call (β := Bool) Prog 113 [reg (x : UInt8)] fun t8 => call (β := Bool) Prog 113 [reg (y : UInt8)] fun t10 => ifb t8 (ifb t10 (k ((0 : Int) : Int)) (k ((-1 : Int) : Int))) (ifb t10 (k ((1 : Int) : Int)) (ifb (decide (x < y)) (k ((-1 : Int) : Int)) (ifb (decide (y < x)) (k ((1 : Int) : Int)) (k ((0 : Int) : Int)))))
def code_Writer_Num.l2 (j1 : Pt → Sl → Int → Int → H → Prop) (w_2 : Pt) (n : Int) (t9_1 : Sl) (t10_1 : Int) (t11_1 : Int) : Int → H → Prop := Lp fun s2 i =>
  ifb (decide ((0 : Int) ≤ i)) (nn w_2 fun p => ld p (fun (x : code_Writer) => x.b) fun t23 => must (0 ≤ i) <| mks 5 [((toU8 ((shr64 (toU64 n) i.toNat).toNat : Int)) : UInt8)] fun t29 => chk p (fun (x : code_Writer) => x.b) t23 <| app 5 1 1 (enc (0 : UInt8)) t23 t29 fun t30 => st p (fun (x : code_Writer) => { x with b := t30 }) <| s2 (isub i (8 : Int))) (j1 w_2 t9_1 t10_1 t11_1)
def code_Writer_Num.j1 (s1 : Int → H → Prop) (w_4 : Pt) (t9_2 : Sl) (t10_2 : Int) (t11_2 : Int) : H → Prop :=
  s1 (iadd t11_2 (1 : Int))
def code_Writer_Num.l1 (k : Unit → H → Prop) (w_1 : Pt) (t9 : Sl) (t10 : Int) : Int → H → Prop := Lp fun s1 t11 =>
  ifb (decide (t11 < t10)) (sidx t9 t11 1 fun t13 => ld t13 (fun (x : Int) => x) fun t14 => code_Writer_Num.l2 (code_Writer_Num.j1 s1) w_1 t14 t9 t10 t11 (56 : Int)) (k ())
def code_Writer_Num.b (w : Pt) (list : Sl) (k : Unit → H → Prop) : H → Prop :=
  ifb w.isNone (k ()) (code_Writer_Num.l1 k w list (list.len : Int) (0 : Int))
def code_Writer_Digest.l1 (k : Unit → H → Prop) (w_1 : Pt) (t8 : Sl) (t9 : Int) : Int → H → Prop := Lp fun s1 t10 =>
  ifb (decide (t10 < t9)) (sidx t8 t10 32 fun t12 => ld t12 (fun (x : Arr 32 UInt8) => x) fun t13 => box 24 ((fun _ => 0) : Arr 32 UInt8) fun d => st d (fun (_ : Arr 32 UInt8) => t13) <| nn w_1 fun p => ld p (fun (x : code_Writer) => x.b) fun t18 => app 5 1 1 (enc (0 : UInt8)) t18 ((⟨some d, 32, 32⟩ : Sl).cut 1 0 32 32) fun t20 => st p (fun (x : code_Writer) => { x with b := t20 }) <| s1 (iadd t10 (1 : Int))) (k ())
def code_Writer_Digest.b (w : Pt) (list : Sl) (k : Unit → H → Prop) : H → Prop :=
  ifb w.isNone (k ()) (code_Writer_Digest.l1 k w list (list.len : Int) (0 : Int))
def sha_state_block.l1 (j1 : Pt → Addr → H → Prop) (hv_1 : Pt) (b_1 : Sl) (w_1 : Addr) : Int → H → Prop := Lp fun s1 t26 =>
  ifb (decide (t26 < (16 : Int))) (must (0 ≤ (imul (4 : Int) t26) ∧ (imul (4 : Int) t26) ≤ (b_1.len : Int)) <| call (β := UInt32) Prog 119 [reg ((b_1.cut 1 (imul (4 : Int) t26).toNat b_1.len b_1.cap) : Sl)] fun t34 => bnd t26 64 fun i35 => st w_1 (fun (x : Arr 64 UInt32) => upd x i35 t34) <| s1 (iadd t26 (1 : Int))) (j1 hv_1 w_1)
def sha_state_block.l2 (j2 : Pt → Addr → H → Prop) (hv_3 : Pt) (w_4 : Addr) : Int → H → Prop := Lp fun s2 i =>
  ifb (decide (i < (64 : Int))) (bnd (isub i (15 : Int)) 64 fun i43 => ld w_4 (fun (x : Arr 64 UInt32) => x i43) fun t44 => bnd (isub i (2 : Int)) 64 fun i47 => ld w_4 (fun (x : Arr 64 UInt32) => x i47) fun t48 => call (β := UInt32) Prog 120 [reg (t44 : UInt32), reg ((-7 : Int) : Int)] fun t50 => call (β := UInt32) Prog 120 [reg (t44 : UInt32), reg ((-18 : Int) : Int)] fun t52 => call (β := UInt32) Prog 120 [reg (t48 : UInt32), reg ((-17 : Int) : Int)] fun t58 => call (β := UInt32) Prog 120 [reg (t48 : UInt32), reg ((-19 : Int) : Int)] fun t60 => bnd (isub i (16 : Int)) 64 fun i68 => ld w_4 (fun (x : Arr 64 UInt32) => x i68) fun t69 => bnd (isub i (7 : Int)) 64 fun i74 => ld w_4 (fun (x : Arr 64 UInt32) => x i74) fun t75 => bnd i 64 fun i79 => st w_4 (fun (x : Arr 64 UInt32) => upd x i79 (((t69 + ((t50 ^^^ t52) ^^^ (shr32 t44 3))) + t75) + ((t58 ^^^ t60) ^^^ (shr32 t48 10)))) <| s2 (iadd i (1 : Int))) (j2 hv_3 w_4)
def sha_state_block.l3 (j3 : Pt → UInt32 → UInt32 → UInt32 → UInt32 → UInt32 → UInt32 → UInt32 → UInt32 → H → Prop) (hv_5 : Pt) (t112_1 : Arr 64 UInt32) : (UInt32 × UInt32 × UInt32 × UInt32 × UInt32 × UInt32 × UInt32 × UInt32 × Int) → H → Prop := Lp fun s3 (a, c, d, e, f, g, kv, l, t113) =>
  ifb (decide (t113 < (64 : Int))) (bnd t113 64 fun i116 => call (β := UInt32) Prog 120 [reg (f : UInt32), reg ((-6 : Int) : Int)] fun t118 => call (β := UInt32) Prog 120 [reg (f : UInt32), reg ((-11 : Int) : Int)] fun t120 => call (β := UInt32) Prog 120 [reg (f : UInt32), reg ((-25 : Int) : Int)] fun t123 => bnd t113 64 fun i138 => ld (⟨0, 0, none⟩ : Addr) (fun (x : Arr 64 UInt32) => x i138) fun t139 => call (β := UInt32) Prog 120 [reg (a : UInt32), reg ((-2 : Int) : Int)] fun t144 => call (β := UInt32) Prog 120 [reg (a : UInt32), reg ((-13 : Int) : Int)] fun t146 => call (β := UInt32) Prog 120 [reg (a : UInt32), reg ((-22 : Int) : Int)] fun t149 => s3 ((((((l + ((t118 ^^^ t120) ^^^ t123)) + ((f &&& g) ^^^ ((~~~f) &&& kv))) + t139) + (t112_1 i116)) + (((t144 ^^^ t146) ^^^ t149) + (((a &&& c) ^^^ (a &&& d)) ^^^ (c &&& d)))), a, c, d, (e + ((((l + ((t118 ^^^ t120) ^^^ t123)) + ((f &&& g) ^^^ ((~~~f) &&& kv))) + t139) + (t112_1 i116))), f, g, kv, (iadd t113 (1 : Int)))) (j3 hv_5 a c d e f g kv l)
def sha_state_block.l4 (k : Unit → H → Prop) (hv_7 : Pt) (t185 : Arr 8 UInt32) : Int → H → Prop := Lp fun s4 t186 =>
  ifb (decide (t186 < (8 : Int))) (bnd t186 8 fun i189 => nn hv_7 fun p_1 => bnd t186 8 fun i193 => ld p_1 (fun (x : Arr 8 UInt32) => x i193) fun t194 => bnd t186 8 fun i198 => st p_1 (fun (x : Arr 8 UInt32) => upd x i198 (t194 + (t185 i189))) <| s4 (iadd t186 (1 : Int))) (k ())
def sha_state_block.j3 (k : Unit → H → Prop) (hv_6 : Pt) (a_1 : UInt32) (c_1 : UInt32) (d_1 : UInt32) (e_1 : UInt32) (f_1 : UInt32) (g_1 : UInt32) (kv_1 : UInt32) (l_1 : UInt32) : H → Prop :=
  sha_state_block.l4 k hv_6 (arrOf [a_1, c_1, d_1, e_1, f_1, g_1, kv_1, l_1] : Arr 8 UInt32) (0 : Int)
def sha_state_block.j2 (k : Unit → H → Prop) (hv_4 : Pt) (w_6 : Addr) : H → Prop :=
  nn hv_4 fun p => bnd (0 : Int) 8 fun i82 => ld p (fun (x : Arr 8 UInt32) => x i82) fun t83 => bnd (1 : Int) 8 fun i86 => ld p (fun (x : Arr 8 UInt32) => x i86) fun t87 => bnd (2 : Int) 8 fun i90 => ld p (fun (x : Arr 8 UInt32) => x i90) fun t91 => bnd (3 : Int) 8 fun i94 => ld p (fun (x : Arr 8 UInt32) => x i94) fun t95 => bnd (4 : Int) 8 fun i98 => ld p (fun (x : Arr 8 UInt32) => x i98) fun t99 => bnd (5 : Int) 8 fun i102 => ld p (fun (x : Arr 8 UInt32) => x i102) fun t103 => bnd (6 : Int) 8 fun i106 => ld p (fun (x : Arr 8 UInt32) => x i106) fun t107 => bnd (7 : Int) 8 fun i110 => ld p (fun (x : Arr 8 UInt32) => x i110) fun t111 => ld w_6 (fun (x : Arr 64 UInt32) => x) fun t112 => sha_state_block.l3 (sha_state_block.j3 k) hv_4 t112 (t83, t87, t91, t95, t99, t103, t107, t111, (0 : Int))
def sha_state_block.j1 (k : Unit → H → Prop) (hv_2 : Pt) (w_3 : Addr) : H → Prop :=
  sha_state_block.l2 (sha_state_block.j2 k) hv_2 w_3 (16 : Int)
def sha_state_block.b (hv : Pt) (b : Sl) (k : Unit → H → Prop) : H → Prop :=
  box 215 ((fun _ => 0) : Arr 64 UInt32) fun w => sha_state_block.l1 (sha_state_block.j1 k) hv b w (0 : Int)
def tree_Leaf.b (b : Sl) (k : (Arr 32 UInt8) → H → Prop) : H → Prop :=
  box 24 ((fun _ => 0) : Arr 32 UInt8) fun t2 => mks 5 [((0 : UInt8) : UInt8)] fun t3 => mks 130 [(t3 : Sl), (b : Sl)] fun t5 => call (β := Arr 32 UInt8) Prog 60 [reg (t5 : Sl)] fun t6 => st t2 (fun (_ : Arr 32 UInt8) => t6) <| ld t2 (fun (x : Arr 32 UInt8) => x) fun r2 => k (r2 : Arr 32 UInt8)
def once_shut.b (s : Arr 32 UInt8) (k : (Arr 32 UInt8) → H → Prop) : H → Prop :=
  box 24 (s : Arr 32 UInt8) fun s_1 => box 24 ((fun _ => 0) : Arr 32 UInt8) fun t2 => mks 130 [(((⟨some s_1, 32, 32⟩ : Sl).cut 1 0 32 32) : Sl)] fun t4 => call (β := Arr 32 UInt8) Prog 60 [reg (t4 : Sl)] fun t5 => st t2 (fun (_ : Arr 32 UInt8) => t5) <| ld t2 (fun (x : Arr 32 UInt8) => x) fun r2 => k (r2 : Arr 32 UInt8)
def once_secret.l1 (j1 : Addr → Addr → Addr → H → Prop) (leaf_1 : Int) (bit_1 : Int) (is_1 : Int) (seed_2 : Addr) (t8_1 : Addr) (nums_1 : Addr) : Int → H → Prop := Lp fun s1 t11 =>
  ifb (decide (t11 < (8 : Int))) (must (0 ≤ (isub (56 : Int) (imul (8 : Int) t11))) <| must (0 ≤ (isub (56 : Int) (imul (8 : Int) t11))) <| bnd t11 16 fun i34 => st nums_1 (fun (x : Arr 16 UInt8) => upd x i34 (toU8 ((shr64 (toU64 leaf_1) (isub (56 : Int) (imul (8 : Int) t11)).toNat).toNat : Int))) <| bnd (iadd (8 : Int) t11) 16 fun i35 => st nums_1 (fun (x : Arr 16 UInt8) => upd x i35 (toU8 ((shr64 (toU64 (iadd (imul (2 : Int) bit_1) is_1)) (isub (56 : Int) (imul (8 : Int) t11)).toNat).toNat : Int))) <| s1 (iadd t11 (1 : Int))) (j1 seed_2 t8_1 nums_1)
def once_secret.j1 (k : (Arr 32 UInt8) → H → Prop) (seed_3 : Addr) (t8_2 : Addr) (nums_2 : Addr) : H → Prop :=
  mks 5 [((2 : UInt8) : UInt8)] fun t37 => mks 130 [(t37 : Sl), (((⟨some seed_3, 32, 32⟩ : Sl).cut 1 0 32 32) : Sl), (((⟨some nums_2, 16, 16⟩ : Sl).cut 1 0 16 16) : Sl)] fun t40 => call (β := Arr 32 UInt8) Prog 60 [reg (t40 : Sl)] fun t41 => st t8_2 (fun (_ : Arr 32 UInt8) => t41) <| ld t8_2 (fun (x : Arr 32 UInt8) => x) fun r8 => k (r8 : Arr 32 UInt8)
def once_secret.b (seed : Arr 32 UInt8) (leaf : Int) (bit : Int) (is : Int) (k : (Arr 32 UInt8) → H → Prop) : H → Prop :=
  box 24 (seed : Arr 32 UInt8) fun seed_1 => box 24 ((fun _ => 0) : Arr 32 UInt8) fun t8 => box 218 ((fun _ => 0) : Arr 16 UInt8) fun nums => once_secret.l1 (once_secret.j1 k) leaf bit is seed_1 t8 nums (0 : Int)
def once_whole.b (list : Sl) (k : (Arr 32 UInt8) → H → Prop) : H → Prop :=
  box 24 ((fun _ => 0) : Arr 32 UInt8) fun t2 => box 145 (code_Writer.zero : code_Writer) fun t5 => call (β := Unit) Prog 93 [reg ((some t5) : Pt), reg (list : Sl)] fun t8 => call (β := Sl) Prog 61 [reg ((some t5) : Pt)] fun t10 => mks 130 [(t10 : Sl)] fun t11 => call (β := Arr 32 UInt8) Prog 60 [reg (t11 : Sl)] fun t12 => st t2 (fun (_ : Arr 32 UInt8) => t12) <| ld t2 (fun (x : Arr 32 UInt8) => x) fun r2 => k (r2 : Arr 32 UInt8)
def once_bit.b (d : Arr 32 UInt8) (i : Int) (k : Int → H → Prop) : H → Prop :=
  box 24 (d : Arr 32 UInt8) fun d_1 => bnd (iquo i (8 : Int)) 32 fun i7 => ld d_1 (fun (x : Arr 32 UInt8) => x i7) fun t8 => must (0 ≤ (isub (7 : Int) (irem i (8 : Int)))) <| k ((iand (toI64 ((shr8 t8 (isub (7 : Int) (irem i (8 : Int))).toNat).toNat : Int)) (1 : Int)) : Int)
def slices_IndexFunc_Member.l1 (j1 : H → Prop) (k : Int → H → Prop) (s_1 : Sl) (f_1 : Fv) (t7 : Int) : Int → H → Prop := Lp fun s1 t8 =>
  ifb (decide (t8 < t7)) (sidx s_1 t8 34 fun t14 => ld t14 (fun (x : api_Member) => x) fun t15 => callv (β := Bool) Prog f_1 [reg (t15 : api_Member)] fun t16 => ifb t16 (k (t8 : Int)) (s1 (iadd t8 (1 : Int)))) (j1)
def slices_IndexFunc_Member.j1 (k : Int → H → Prop) : H → Prop :=
  k ((-1 : Int) : Int)
def slices_IndexFunc_Member.b (s : Sl) (f : Fv) (k : Int → H → Prop) : H → Prop :=
  slices_IndexFunc_Member.l1 (slices_IndexFunc_Member.j1 k) k s f (s.len : Int) (0 : Int)
def config_Find_c1.b (m : api_Member) (c1 : Addr) (k : Bool → H → Prop) : H → Prop :=
  box 110 (m : api_Member) fun m_1 => ld m_1 (fun (x : api_Member) => x.Id) fun t5 => ld c1 (fun (x : Int) => x) fun t6 => k ((t5 == t6) : Bool)
def once_Of.j2 (s1 : (Sl × Int) → H → Prop) (d_3 : Addr) (o_3 : Addr) (t4_2 : Addr) (list_1 : Sl) (i : Int) (pair_1 : Addr) (t21_1 : Int) : H → Prop :=
  ld d_3 (fun (x : Arr 32 UInt8) => x) fun t36 => call (β := Int) Prog 105 [reg (t36 : Arr 32 UInt8), reg (i : Int)] fun t38 => bnd t38 2 fun i41 => ld pair_1 (fun (x : ArrA 2 (Arr 32 UInt8)) => x.f i41) fun t42 => bnd (isub (1 : Int) t38) 2 fun i45 => ld pair_1 (fun (x : ArrA 2 (Arr 32 UInt8)) => x.f i45) fun t46 => mks 24 [(t42 : Arr 32 UInt8), (t46 : Arr 32 UInt8)] fun t47 => app 24 32 32 (enc ((fun _ => 0) : Arr 32 UInt8)) list_1 t47 fun t48 => s1 (t48, (iadd t21_1 (1 : Int)))
def once_Of.l1 (j1 : Addr → Sl → H → Prop) (d_2 : Addr) (o_2 : Addr) (t4_1 : Addr) : (Sl × Int) → H → Prop := Lp fun s1 (list, t21) =>
  ifb (decide (t21 < (32 : Int))) (ld o_2 (fun (x : api_Once) => x.Open) fun t25 => sidx t25 t21 32 fun t27 => ld t27 (fun (x : Arr 32 UInt8) => x) fun t28 => ld o_2 (fun (x : api_Once) => x.Shut) fun t31 => sidx t31 t21 32 fun t33 => ld t33 (fun (x : Arr 32 UInt8) => x) fun t34 => both (call (β := Arr 32 UInt8) Prog 101 [reg (t28 : Arr 32 UInt8)] fun t29 => chk o_2 (fun (x : api_Once) => x.Shut) t31 <| chk t33 (fun (x : Arr 32 UInt8) => x) t34 <| box 220 (⟨fun _ => (fun _ => 0)⟩ : ArrA 2 (Arr 32 UInt8)) fun pair => chk o_2 (fun (x : api_Once) => x.Open) t25 <| chk t27 (fun (x : Arr 32 UInt8) => x) t28 <| chk o_2 (fun (x : api_Once) => x.Shut) t31 <| chk t33 (fun (x : Arr 32 UInt8) => x) t34 <| st pair (fun (_ : ArrA 2 (Arr 32 UInt8)) => (arrA ((fun _ => 0) : Arr 32 UInt8) [t29, t34] : ArrA 2 (Arr 32 UInt8))) <| (once_Of.j2 s1) d_2 o_2 t4_1 list t21 pair t21) (box 220 (⟨fun _ => (fun _ => 0)⟩ : ArrA 2 (Arr 32 UInt8)) fun pair_2 => chk o_2 (fun (x : api_Once) => x.Open) t25 <| chk t27 (fun (x : Arr 32 UInt8) => x) t28 <| chk o_2 (fun (x : api_Once) => x.Shut) t31 <| chk t33 (fun (x : Arr 32 UInt8) => x) t34 <| call (β := Arr 32 UInt8) Prog 101 [reg (t28 : Arr 32 UInt8)] fun t29_1 => chk o_2 (fun (x : api_Once) => x.Shut) t31 <| chk t33 (fun (x : Arr 32 UInt8) => x) t34 <| st pair_2 (fun (_ : ArrA 2 (Arr 32 UInt8)) => (arrA ((fun _ => 0) : Arr 32 UInt8) [t29_1, t34] : ArrA 2 (Arr 32 UInt8))) <| (once_Of.j2 s1) d_2 o_2 t4_1 list t21 pair_2 t21)) (j1 t4_1 list)
def once_Of.j1 (k : (T2 (Arr 32 UInt8) Bool) → H → Prop) (t4_3 : Addr) (list_2 : Sl) : H → Prop :=
  call (β := Arr 32 UInt8) Prog 103 [reg (list_2 : Sl)] fun t51 => st t4_3 (fun (_ : Arr 32 UInt8) => t51) <| ld t4_3 (fun (x : Arr 32 UInt8) => x) fun r4_1 => k (⟨r4_1, true⟩ : T2 (Arr 32 UInt8) Bool)
def once_Of.b (d : Arr 32 UInt8) (o : api_Once) (k : (T2 (Arr 32 UInt8) Bool) → H → Prop) : H → Prop :=
  box 24 (d : Arr 32 UInt8) fun d_1 => box 33 (o : api_Once) fun o_1 => box 24 ((fun _ => 0) : Arr 32 UInt8) fun t4 => ld o_1 (fun (x : api_Once) => x.Open) fun t11 => ld o_1 (fun (x : api_Once) => x.Shut) fun t16 => ifb (((t11.len : Int) != (32 : Int)) || ((t16.len : Int) != (32 : Int))) (st t4 (fun (_ : Arr 32 UInt8) => (arrOf [0, 0, 0, 0, 0, 0, 0, 0, 0, 0, 0, 0, 0, 0, 0, 0, 0, 0, 0, 0, 0, 0, 0, 0, 0, 0, 0, 0, 0, 0, 0, 0] : Arr 32 UInt8)) <| ld t4 (fun (x : Arr 32 UInt8) => x) fun r4 => k (⟨r4, false⟩ : T2 (Arr 32 UInt8) Bool)) (once_Of.l1 (once_Of.j1 k) d_1 o_1 t4 (Sl.nil, (0 : Int)))
def tree_Check.j3 (j2 : Int → Int → Sl → Addr → Addr → H → Prop) (at__3 : Int) (count_3 : Int) (path_3 : Sl) (root_4 : Addr) (leaf_4 : Addr) : H → Prop :=
  must (0 ≤ (1 : Int) ∧ (1 : Int) ≤ (path_3.len : Int)) <| j2 at__3 count_3 (path_3.cut 32 (1 : Int).toNat path_3.len path_3.cap) root_4 leaf_4
def tree_Check.j2 (s1 : (Int × Int × Sl) → H → Prop) (at__2 : Int) (count_2 : Int) (path_2 : Sl) (root_3 : Addr) (leaf_3 : Addr) : H → Prop :=
  s1 ((iquo at__2 (2 : Int)), (iadd (iquo (isub count_2 (1 : Int)) (2 : Int)) (1 : Int)), path_2)
def tree_Check.l1 (j1 : Sl → Addr → Addr → H → Prop) (k : Bool → H → Prop) (root_2 : Addr) (leaf_2 : Addr) : (Int × Int × Sl) → H → Prop := Lp fun s1 (at__1, count_1, path_1) =>
  ifb (decide ((1 : Int) < count_1)) (ifb (decide (count_1 ≤ (ixor at__1 (1 : Int)))) ((tree_Check.j2 s1) at__1 count_1 path_1 root_2 leaf_2) (ifb ((path_1.len : Int) == (0 : Int)) (k (false : Bool)) (ifb (decide ((ixor at__1 (1 : Int)) < at__1)) (sidx path_1 (0 : Int) 32 fun t39 => ld t39 (fun (x : Arr 32 UInt8) => x) fun t40 => ld leaf_2 (fun (x : Arr 32 UInt8) => x) fun t41 => call (β := Arr 32 UInt8) Prog 121 [reg ((1 : UInt8) : UInt8), reg (t40 : Arr 32 UInt8), reg (t41 : Arr 32 UInt8)] fun t42 => st leaf_2 (fun (_ : Arr 32 UInt8) => t42) <| (tree_Check.j3 (tree_Check.j2 s1)) at__1 count_1 path_1 root_2 leaf_2) (ld leaf_2 (fun (x : Arr 32 UInt8) => x) fun t43 => sidx path_1 (0 : Int) 32 fun t45 => ld t45 (fun (x : Arr 32 UInt8) => x) fun t46 => call (β := Arr 32 UInt8) Prog 121 [reg ((1 : UInt8) : UInt8), reg (t43 : Arr 32 UInt8), reg (t46 : Arr 32 UInt8)] fun t47 => st leaf_2 (fun (_ : Arr 32 UInt8) => t47) <| (tree_Check.j3 (tree_Check.j2 s1)) at__1 count_1 path_1 root_2 leaf_2)))) (j1 path_1 root_2 leaf_2)
def tree_Check.j1 (k : Bool → H → Prop) (path_4 : Sl) (root_5 : Addr) (leaf_5 : Addr) : H → Prop :=
  ld leaf_5 (fun (x : Arr 32 UInt8) => x) fun t54 => ld root_5 (fun (x : Arr 32 UInt8) => x) fun t55 => k ((((path_4.len : Int) == (0 : Int)) && (decide (t54 = t55))) : Bool)
def tree_Check.b (root : Arr 32 UInt8) (leaf : Arr 32 UInt8) (at_ : Int) (count : Int) (path : Sl) (k : Bool → H → Prop) : H → Prop :=
  box 24 (root : Arr 32 UInt8) fun root_1 => box 24 (leaf : Arr 32 UInt8) fun leaf_1 => ifb ((decide (at_ < (0 : Int))) || (decide (count ≤ at_))) (k (false : Bool)) (tree_Check.l1 (tree_Check.j1 k) k root_1 leaf_1 (at_, count, path))
def cmp_isNaN_byte.b (x : UInt8) (k : Bool → H → Prop) : H → Prop :=
  k ((x != x) : Bool)
def sha_word.b (b : Sl) (k : UInt32 → H → Prop) : H → Prop :=
  sidx b (0 : Int) 1 fun t4 => ld t4 (fun (x : UInt8) => x) fun t5 => sidx b (1 : Int) 1 fun t9 => ld t9 (fun (x : UInt8) => x) fun t10 => sidx b (2 : Int) 1 fun t15 => ld t15 (fun (x : UInt8) => x) fun t16 => sidx b (3 : Int) 1 fun t21 => ld t21 (fun (x : UInt8) => x) fun t22 => k (((((shl32 (toU32 (t5.toNat : Int)) 24) ||| (shl32 (toU32 (t10.toNat : Int)) 16)) ||| (shl32 (toU32 (t16.toNat : Int)) 8)) ||| (toU32 (t22.toNat : Int))) : UInt32)
def math_bits_RotateLeft32.b (x : UInt32) (kv : Int) (k : UInt32 → H → Prop) : H → Prop :=
  k (((shl32 x ((toU64 kv) &&& (31 : UInt64)).toNat) ||| (shr32 x ((32 : UInt64) - ((toU64 kv) &&& (31 : UInt64))).toNat)) : UInt32)
def sha_Pair.b (mark : UInt8) (a : Arr 32 UInt8) (b : Arr 32 UInt8) (k : (Arr 32 UInt8) → H → Prop) : H → Prop :=
  box 24 (a : Arr 32 UInt8) fun a_1 => box 24 (b : Arr 32 UInt8) fun b_1 => box 24 ((fun _ => 0) : Arr 32 UInt8) fun t6 => mks 5 [(mark : UInt8)] fun t8 => mks 130 [(t8 : Sl), (((⟨some a_1, 32, 32⟩ : Sl).cut 1 0 32 32) : Sl), (((⟨some b_1, 32, 32⟩ : Sl).cut 1 0 32 32) : Sl)] fun t11 => call (β := Arr 32 UInt8) Prog 60 [reg (t11 : Sl)] fun t12 => st t6 (fun (_ : Arr 32 UInt8) => t12) <| ld t6 (fun (x : Arr 32 UInt8) => x) fun r6 => k (r6 : Arr 32 UInt8)
end Go.Proofs.YtimmoekliphobaaDoor

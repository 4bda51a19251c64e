/-
  THE CARD OF wapentakelaw19.RoundQuick: for every input that the row lets in, RoundQuick returns true and its arguments read as they did. Part 2 of 14. No condition stands ahead of the statement. Parts of this text were printed by a program of ours.
-/
import Derived.Test.YtimmoekliphobaaDoorQ01
import Derived.KernelRfl
import Derived.Test.YtimmoekliphobaaDoorChecked
set_option linter.all false
set_option maxRecDepth 100000
set_option maxHeartbeats 4000000
namespace Go.Sh
open Go
open Go.Sh.Ty (reg)
/-! arrays of bytes, and slices of bytes -/
theorem map_enc8 (l : List UInt8) : (l.map enc).flatten = l.map (reg : UInt8 → Value) := by
  induction l with
  | nil => rfl
  | cons a l ih => simp only [List.map_cons, List.flatten_cons, ih]; rfl
theorem enc_arrOf {n : Nat} (l : List UInt8) (hl : l.length = n) : enc (arrOf l : Arr n UInt8) = l.map (reg : UInt8 → Value) := by
  have e : enc (arrOf l : Arr n UInt8) = List.ofFn fun i => reg ((arrOf l : Arr n UInt8) i) := rfl
  rw [e]
  apply List.ext_getElem
  · simp [hl]
  · intro i h1 h2
    simp at h1 h2
    simp [arrOf, h2]
theorem arrOf_ofFn {n : Nat} (x : Arr n UInt8) : (arrOf (List.ofFn x) : Arr n UInt8) = x := by
  funext i; simp [arrOf]
theorem updN_arrOf {n : Nat} (l : List UInt8) (i : Nat) (v : UInt8) (hi : i < l.length) : updN (arrOf l : Arr n UInt8) i v = arrOf (l.set i v) := by
  funext j
  simp only [updN, arrOf, List.getD_eq_getElem?_getD, List.getElem?_set]
  by_cases h : j.val = i
  · simp [h, hi]
  · simp [h, Ne.symm h]
theorem one_bytes (l : List UInt8) : (l.map (reg : UInt8 → Value)).all (·.oneCell') = true := by
  rw [List.all_eq_true]; intro v hv; simp only [List.mem_map] at hv; obtain ⟨b, _, rfl⟩ := hv; rfl
theorem SV.bytes {h : H} {s : Sl} {l : List UInt8} (hv : SV 1 h s l) : SlC h s 1 (l.map reg) := by
  have := hv.1; rwa [map_enc8] at this
theorem arr_SV {h : H} {p : Addr} {n : Nat} {l : List UInt8} (hl : l.length = n) (H : AtH h p (enc (arrOf l : Arr n UInt8))) : SV 1 h ⟨some p, n, n⟩ l := by
  refine ⟨.inr ⟨p, rfl, ?_, ?_⟩, hl.symm, Nat.le_refl _⟩
  · rw [map_enc8, ← enc_arrOf l hl]; exact H
  · rw [map_enc8]; simp [hl]
section
variable {h0 h : H} {S : List Nat} {L : List En} {n T : Nat} {p : Addr} {l : List UInt8}
theorem Sat.arrSV (i : Nat) (hs : Sat h0 S h L) (hi : L[i]? = some (cel T p (enc (arrOf l : Arr n UInt8)))) (hl : l.length = n) : SV 1 h ⟨some p, n, n⟩ l := arr_SV hl (Cel.at_ (hs.at_ hi))
theorem Sat.putB (i : Nat) (hs : Sat h0 S h L) (hi : L[i]? = some (cel T p (enc (arrOf l : Arr n UInt8)))) (hl : l.length = n) (off : Nat) (ys : List UInt8) (ho : off + ys.length ≤ n) :
    Sat h0 S (putC h (p.add off) (ys.map reg)) (L.set i (cel T p (enc (arrOf (l.take off ++ ys ++ l.drop (off + ys.length)) : Arr n UInt8)))) ∧ WAt h (p.add off) ys.length := by
  have hc : Cel T p (enc (arrOf l : Arr n UInt8)) h := hs.at_ hi
  rw [enc_arrOf l hl] at hc
  obtain ⟨h1, h2, h3⟩ := hc.put off (ys.map reg) (by simp [hl]; omega)
  have hl2 : (l.take off ++ ys ++ l.drop (off + ys.length)).length = n := by simp; omega
  refine ⟨hs.upd hi h2 ?_ (cel_loc _ _ _) ?_, by simpa using h3⟩
  · show Cel _ _ _ _
    rw [enc_arrOf _ hl2]
    simpa [List.map_take, List.map_drop] using h1
  · intro b hb
    simp only [cel, List.mem_singleton] at hb
    subst hb
    exact ⟨Nat.lt_of_lt_of_le hc.lt h2.size, .inl (by simp [cel])⟩
/-- copy into an array of bytes, from off on -/
theorem Sat.cpy_ {x : Sl} {xs : List UInt8} {k : Int → H → Prop} (i : Nat) (hs : Sat h0 S h L) (hi : L[i]? = some (cel T p (enc (arrOf l : Arr n UInt8)))) (hl : l.length = n) (off : Nat) (ho : off < n) (hx : SV 1 h x xs)
    (hk : ∀ h', Sat h0 S h' (L.set i (cel T p (enc (arrOf (l.take off ++ xs.take (n - off) ++ l.drop (off + (xs.take (n - off)).length)) : Arr n UInt8)))) → k ((min xs.length (n - off) : Nat) : Int) h') :
    cpy 1 ((⟨some p, n, n⟩ : Sl).cut 1 off n n) x k h := by
  have hput := hs.putB i hi hl off (xs.take (n - off)) (by simp; omega)
  have hd : ((⟨some p, n, n⟩ : Sl).cut 1 off n n).a = some (p.add off) := by simp [Sl.cut, show ¬ n = off by omega]
  have hdl : ((⟨some p, n, n⟩ : Sl).cut 1 off n n).len = n - off := rfl
  have hmin : min x.len (n - off) = (xs.take (n - off)).length := by rw [hx.2.1]; simp; omega
  refine ⟨(xs.take (n - off)).map reg, ?_, one_bytes _, ?_, ?_⟩
  · rw [hdl, hmin]
    rcases hx.bytes with ⟨h1, h2, h3⟩ | ⟨a, ha, hat, hlen⟩
    · left
      have : xs = [] := by simpa using h3
      subst this
      exact ⟨h1, by simp, by simp⟩
    · refine .inr ⟨a, ha, ?_, by simp⟩
      have := hat.sub 0 (n - off)
      rw [show a.add 0 = a from rfl] at this
      simpa [List.map_take] using this
  · intro a ha
    rw [hd] at ha
    obtain rfl := Option.some.inj ha
    simpa using hput.2
  · rw [hd, hdl]
    have e : min x.len (n - off) = min xs.length (n - off) := by rw [hx.2.1]
    rw [e]
    exact hk _ hput.1
/-- clear of an array of bytes, from off on -/
theorem Sat.clr_ {k : H → Prop} (i : Nat) (hs : Sat h0 S h L) (hi : L[i]? = some (cel T p (enc (arrOf l : Arr n UInt8)))) (hl : l.length = n) (off : Nat) (ho : off ≤ n)
    (hk : ∀ h', Sat h0 S h' (L.set i (cel T p (enc (arrOf (l.take off ++ List.replicate (n - off) 0) : Arr n UInt8)))) → k h') :
    clr (enc (0 : UInt8)) ((⟨some p, n, n⟩ : Sl).cut 1 off n n) k h := by
  have hdl : ((⟨some p, n, n⟩ : Sl).cut 1 off n n).len = n - off := rfl
  by_cases h1 : off = n
  · subst h1
    refine ⟨fun _ => hk _ ?_, fun a _ hne => absurd (by rw [hdl]; omega) hne⟩
    have e : l.take off ++ List.replicate (off - off) 0 = l := by simp [← hl]
    rw [e]
    have : L.set i (cel T p (enc (arrOf l : Arr off UInt8))) = L := by
      apply List.ext_getElem?
      intro j
      rw [List.getElem?_set]
      split
      · rename_i h; subst h; split <;> simp_all
      · rfl
    rw [this]; exact hs
  · have hd : ((⟨some p, n, n⟩ : Sl).cut 1 off n n).a = some (p.add off) := by simp [Sl.cut, show ¬ n = off by omega]
    have hput := hs.putB i hi hl off (List.replicate (n - off) 0) (by simp; omega)
    refine ⟨fun h => ?_, fun a ha _ => ?_⟩
    · rcases h with h | h
      · rw [hd] at h; cases h
      · rw [hdl] at h; omega
    · rw [hd] at ha
      obtain rfl := Option.some.inj ha
      refine ⟨by rw [hdl, show (enc (0 : UInt8)).length = 1 from rfl, Nat.mul_one]; simpa using hput.2, ?_⟩
      have e1 : (List.replicate ((⟨some p, n, n⟩ : Sl).cut 1 off n n).len (enc (0 : UInt8))).flatten = (List.replicate (n - off) (0 : UInt8)).map reg := by
        rw [hdl]
        rw [← map_enc8]; simp
      rw [e1]
      refine hk _ ?_
      have := hput.1
      rwa [show l.drop (off + (List.replicate (n - off) (0 : UInt8)).length) = [] by simp; omega, List.append_nil] at this
end
end Go.Sh
namespace Go.Sh
open Go
open Go.Sh.Ty (reg)
def blk (s : Sl) : List Nat := match s.a with | some a => [a.block] | none => []
theorem blk_some {s : Sl} {a : Addr} (h : s.a = some a) : blk s = [a.block] := by unfold blk; rw [h]
theorem blk_none {s : Sl} (h : s.a = none) : blk s = [] := by unfold blk; rw [h]
theorem SV.fr' {α : Type} [Ty α] {n : Nat} {h h' : H} {s : Sl} {l : List α} {S : List Nat} (f : Fr S h h') (hv : SV n h s l) (hp : ∀ b ∈ blk s, b ∉ S) : SV n h' s l :=
  hv.fr f fun a ha => hp _ (by rw [blk_some ha]; simp)
/-- a slice whose whole row is owned: elements, and room -/
def OwnA {α : Type} [Ty α] (T n : Nat) (s : Sl) (l : List α) (h : H) : Prop :=
  (s.a = none ∧ s.len = 0 ∧ s.cap = 0 ∧ l = []) ∨ ∃ b spare, s.a = some ⟨b, 0, none⟩ ∧ Cel T ⟨b, 0, none⟩ ((l.map enc).flatten ++ spare) h ∧ s.len = l.length ∧ l.length ≤ s.cap ∧ spare.length = (s.cap - l.length) * n
def own {α : Type} [Ty α] (T n : Nat) (s : Sl) (l : List α) : En := ⟨blk s, OwnA T n s l⟩
theorem own_loc {α : Type} [Ty α] (T n : Nat) (s : Sl) (l : List α) : Loc (own T n s l) := by
  intro h h' hb H
  rcases H with H | ⟨b, spare, ha, hc, h1⟩
  · exact .inl H
  · refine .inr ⟨b, spare, ha, ⟨rfl, ?_⟩, h1⟩
    rw [hb b (by simp only [own]; rw [blk_some ha]; simp)]; exact hc.2
/-- a slice that is only read -/
def rdo {α : Type} [Ty α] (n : Nat) (s : Sl) (l : List α) : En := ⟨blk s, fun h => SV n h s l⟩
theorem rdo_loc {α : Type} [Ty α] (n : Nat) (s : Sl) (l : List α) : Loc (rdo n s l) := by
  intro h h' hb H
  refine ⟨?_, H.2⟩
  rcases H.1 with H1 | ⟨a, ha, ⟨hs, arr, T, fr, hbk, hc⟩, hl⟩
  · exact .inl H1
  · refine .inr ⟨a, ha, ⟨hs, arr, T, fr, ?_, hc⟩, hl⟩
    rw [hb a.block (by simp only [rdo]; rw [blk_some ha]; simp)]; exact hbk
theorem enc_flat_len {α : Type} [Ty α] {n : Nat} (hn : ∀ y : α, (enc y).length = n) (l : List α) : (l.map enc).flatten.length = l.length * n := by
  rw [flatten_len n]
  · simp
  · intro x hx; simp only [List.mem_map] at hx; obtain ⟨y, _, rfl⟩ := hx; exact hn y
theorem OwnA.sv {α : Type} [Ty α] {T n : Nat} {s : Sl} {l : List α} {h : H} (hn : ∀ y : α, (enc y).length = n) (H : OwnA T n s l h) : SV n h s l := by
  rcases H with ⟨h1, h2, h3, h4⟩ | ⟨b, spare, ha, hc, h1, h2, h3⟩
  · subst h4; exact ⟨.inl ⟨h1, h2, rfl⟩, h2, by omega⟩
  · refine ⟨.inr ⟨_, ha, ?_, by rw [enc_flat_len hn, h1]⟩, h1, by omega⟩
    have := hc.at_.sub 0 (l.map enc).flatten.length
    simpa [Addr.add] using this
theorem OwnA.lt {α : Type} [Ty α] {T n : Nat} {s : Sl} {l : List α} {h : H} (H : OwnA T n s l h) : ∀ b ∈ blk s, b < h.size := by
  rcases H with ⟨h1, _⟩ | ⟨b, spare, ha, hc, _⟩
  · rw [blk_none h1]; simp
  · rw [blk_some ha]; intro b' hb'; simp only [List.mem_singleton] at hb'; subst hb'; exact hc.lt
theorem SV.lt {α : Type} [Ty α] {n : Nat} {s : Sl} {l : List α} {h : H} (hv : SV n h s l) : ∀ b ∈ blk s, b < h.size := by
  rcases hv.1 with ⟨h1, _⟩ | ⟨a, ha, ⟨_, arr, T, fr, hb, _⟩, _⟩
  · rw [blk_none h1]; simp
  · rw [blk_some ha]; intro b' hb'; simp only [List.mem_singleton] at hb'; subst hb'
    rw [Array.getElem?_eq_some_iff] at hb; exact hb.1
theorem OwnA.fr {α : Type} [Ty α] {T n : Nat} {s : Sl} {l : List α} {h h' : H} {S : List Nat} (f : Fr S h h') (H : OwnA T n s l h) (hp : ∀ b ∈ blk s, b ∉ S) : OwnA T n s l h' :=
  own_loc T n s l h h' (fun b hb => f.same b (H.lt b hb) (hp b hb)) H
section
variable {h0 h h' : H} {S : List Nat} {L : List En} {α : Type} [Ty α] {T n : Nat}
theorem Sat.disj (hs : Sat h0 S h L) {i j : Nat} {e e' : En} (hi : L[i]? = some e) (hj : L[j]? = some e') (hne : i ≠ j) : ∀ x ∈ e.F, x ∉ e'.F := by
  intro x hx hx'
  obtain ⟨h1, h2⟩ := List.getElem?_eq_some_iff.1 hi
  obtain ⟨h3, h4⟩ := List.getElem?_eq_some_iff.1 hj
  rcases Nat.lt_or_gt_of_ne hne with hl | hl
  · have := List.pairwise_iff_getElem.1 hs.dis i j h1 h3 hl x (by rw [h2]; exact hx)
    rw [h4] at this; exact this hx'
  · have := List.pairwise_iff_getElem.1 hs.dis j i h3 h1 hl x (by rw [h4]; exact hx')
    rw [h2] at this; exact this hx
theorem Sat.add0 (hs : Sat h0 S h L) {e : En} (ha : e.A h) (hl : Loc e) (hF : e.F = []) : Sat h0 S h (e :: L) :=
  hs.add (Fr.refl _ _) ha hl (by rw [hF]; simp)
theorem Sat.nilOwn (hs : Sat h0 S h L) : Sat h0 S h (own T n Sl.nil ([] : List α) :: L) := hs.add0 (.inl ⟨rfl, rfl, rfl, rfl⟩) (own_loc _ _ _ _) rfl
theorem Sat.ownSV (i : Nat) {s : Sl} {l : List α} (hs : Sat h0 S h L) (hi : L[i]? = some (own T n s l)) (hn : ∀ y : α, (enc y).length = n) : SV n h s l := OwnA.sv hn (hs.at_ hi)
theorem Sat.rdoSV (i : Nat) {s : Sl} {l : List α} (hs : Sat h0 S h L) (hi : L[i]? = some (rdo n s l)) : SV n h s l := hs.at_ hi
theorem Sat.mks_ {l : List α} {k : Sl → H → Prop} (hs : Sat h0 S h L) (hk : ∀ s h', Sat h0 S h' (own T n s l :: L) → s.len = l.length → Ext h h' → k s h') : mks T l k h := by
  intro p s hp hss
  subst hp; subst hss
  refine hk _ _ (hs.add (Fr.push _ _) (.inr ⟨h.size, [], rfl, ?_, rfl, Nat.le_refl _, by simp⟩) (own_loc _ _ _ _) ?_) rfl (Fr.push _ _)
  · rw [List.append_nil]; exact Cel.new h T _
  · intro b hb; simp only [own, blk, List.mem_singleton] at hb; subst hb; simp [newC]
theorem Sat.appR_ {s x : Sl} {l xl : List α} {bytes : Nat} {z : List Value} {k : Sl → H → Prop} (i : Nat) (hs : Sat h0 S h L) (hi : L[i]? = some (own T n s l)) (hx : SlR h x n (xl.map enc).flatten) (hxl : x.len = xl.length) (hn : ∀ y : α, (enc y).length = n) (h1 : ∀ y : α, (enc y).all (·.oneCell') = true) (hz : z.length = n)
    (hbig : (l.length + xl.length) * bytes ≤ maxBytes) (hlen : l.length + xl.length ≤ 9223372036854775807) (hk : ∀ r h', Sat h0 S h' (L.set i (own T n r (l ++ xl))) → r.len = l.length + xl.length → k r h') : app T n bytes z s x k h := by
  have ho : OwnA T n s l h := hs.at_ hi
  have hsl : s.len = l.length := (ho.sv hn).2.1
  have hone : ((xl.map enc).flatten).all (·.oneCell') = true := by
    rw [List.all_eq_true]; intro v hv
    simp only [List.mem_flatten, List.mem_map] at hv
    obtain ⟨_, ⟨y, _, rfl⟩, hv⟩ := hv
    exact List.all_eq_true.1 (h1 y) v hv
  refine ⟨(l.map enc).flatten, (xl.map enc).flatten, (ho.sv hn).1, hx, hone, fun hroom => ?_, fun hgrow => ⟨by rw [hsl, hxl]; exact hbig, by omega, fun p cap r hp hcap hr => ?_⟩⟩
  · rcases ho with ⟨ha, hl0, hc0, hl⟩ | ⟨b, spare, ha, hc, h2, h3, h4⟩
    · have hx0 : xl = [] := List.eq_nil_of_length_eq_zero (by omega)
      subst hx0; subst hl
      refine ⟨fun a h => (by rw [ha] at h; cases h), fun r hr => ?_⟩
      rw [ha]
      refine hk r h ?_ (by subst hr; simp only; omega)
      have : own T n r (([] : List α) ++ []) = own T n s ([] : List α) := by
        have : r = s := by subst hr; cases s; simp only at hl0 hc0 ha hxl ⊢; simp_all
        rw [this]; rfl
      rw [this]
      have : L.set i (own T n s ([] : List α)) = L := by
        apply List.ext_getElem?
        intro j
        rw [List.getElem?_set]
        split
        · rename_i h; subst h; split <;> simp_all
        · rfl
      rw [this]; exact hs
    · have hput := hc.put (s.len * n) (xl.map enc).flatten (by
        rw [List.length_append, enc_flat_len hn, enc_flat_len hn, h4, hsl, ← Nat.add_mul, ← Nat.add_mul]
        exact Nat.mul_le_mul_right _ (by omega))
      obtain ⟨p1, p2, p3⟩ := hput
      refine ⟨fun a h => (by rw [ha] at h; obtain rfl := Option.some.inj h; exact p3), fun r hr => ?_⟩
      rw [ha]
      refine hk r _ (hs.upd hi (by simp only [own]; rw [blk_some ha]; exact p2) (.inr ⟨b, spare.drop (xl.length * n), by subst hr; exact ha, ?_, by subst hr; simp [hsl, hxl], by subst hr; simp; omega, ?_⟩) (own_loc _ _ _ _) ?_) (by subst hr; simp [hsl, hxl])
      · have e1 : ((l.map enc).flatten ++ spare).take (s.len * n) = (l.map enc).flatten := List.take_left' (by rw [enc_flat_len hn, hsl])
        have e2 : ((l.map enc).flatten ++ spare).drop (s.len * n + (xl.map enc).flatten.length) = spare.drop (xl.length * n) := by
          rw [← List.drop_drop, List.drop_left' (by rw [enc_flat_len hn, hsl]), enc_flat_len hn]
        rw [e1, e2] at p1
        simpa using p1
      · subst hr
        simp only [List.length_drop, h4, List.length_append, ← Nat.sub_mul]
        congr 1; omega
      · subst hr
        intro b' hb'
        simp only [own] at hb' ⊢
        have e : blk (⟨s.a, s.len + x.len, s.cap⟩ : Sl) = blk s := rfl
        rw [e] at hb'
        refine ⟨?_, .inl hb'⟩
        rw [blk_some ha] at hb'
        simp only [List.mem_singleton] at hb'
        subst hb'
        exact Nat.lt_of_lt_of_le hc.lt p2.size
  · subst hp
    have hnew := Cel.new h T ((l.map enc).flatten ++ (xl.map enc).flatten ++ (List.replicate (cap - (s.len + x.len)) z).flatten)
    refine hk r _ (hs.upd hi ((Fr.push _ _).mono (by simp)) (.inr ⟨h.size, (List.replicate (cap - (s.len + x.len)) z).flatten, by subst hr; rfl, ?_, by subst hr; simp [hsl, hxl], by subst hr; simp; omega, ?_⟩) (own_loc _ _ _ _) ?_) (by subst hr; simp [hsl, hxl])
    · simpa using hnew
    · subst hr
      rw [flatten_len n _ (by intro y hy; simp only [List.mem_replicate] at hy; rw [hy.2]; exact hz)]
      simp only [List.length_replicate, List.length_append, hsl, hxl]
    · subst hr
      intro b' hb'
      simp only [own, blk, List.mem_singleton] at hb'
      subst hb'
      exact ⟨by simp [newC], .inr (Nat.le_refl _)⟩
theorem Sat.app_ {s x : Sl} {l xl : List α} {bytes : Nat} {z : List Value} {k : Sl → H → Prop} (i : Nat) (hs : Sat h0 S h L) (hi : L[i]? = some (own T n s l)) (hx : SV n h x xl) (hn : ∀ y : α, (enc y).length = n) (h1 : ∀ y : α, (enc y).all (·.oneCell') = true) (hz : z.length = n)
    (hbig : (l.length + xl.length) * bytes ≤ maxBytes) (hlen : l.length + xl.length ≤ 9223372036854775807) (hk : ∀ r h', Sat h0 S h' (L.set i (own T n r (l ++ xl))) → r.len = l.length + xl.length → k r h') : app T n bytes z s x k h :=
  hs.appR_ i hi (.inl hx.1) hx.2.1 hn h1 hz hbig hlen hk
theorem Sat.strish_ {s : Sl} {l : List UInt8} {k : Sl → H → Prop} (i : Nat) (hs : Sat h0 S h L) (hi : L[i]? = some (own T 1 s l)) (hne : l ≠ []) (hk : ∀ h', Sat h0 S h' (L.set i (rdo 1 s l)) → k s h') : strish s k h := by
  have ho : OwnA T 1 s l h := hs.at_ hi
  have hsv := ho.sv len_u8
  rcases ho with ⟨_, _, _, hl⟩ | ⟨b, spare, ha, hc, h2, h3, h4⟩
  · exact absurd hl hne
  · have hb := hc.2
    simp only at hb
    refine ⟨_, _, _, _, ha, hb, hk _ (hs.upd hi ?_ ?_ (rdo_loc _ _ _) ?_)⟩
    · simp only [own]; rw [blk_some ha]
      unfold frz
      simp only [hb]
      exact Fr.set _ _ _
    · refine ⟨?_, hsv.2⟩
      rcases hsv.1 with h5 | ⟨a, ha', ⟨hsp, arr, T', fr, hb', hcc⟩, hl'⟩
      · exact .inl h5
      · rw [ha] at ha'
        obtain rfl := Option.some.inj ha'
        have hlt : b < h.size := hc.lt
        have hfz : ∃ fr', (frz h b)[b]? = some (.cells arr T' fr') := by
          unfold frz
          simp only at hb'
          simp only [hb']
          rw [Array.getElem?_setIfInBounds]
          simp only [hlt, if_true]
          exact ⟨_, rfl⟩
        obtain ⟨fr', hfz⟩ := hfz
        exact .inr ⟨_, ha, ⟨rfl, arr, T', fr', hfz, hcc⟩, hl'⟩
    · intro b' hb'
      simp only [rdo, own] at hb' ⊢
      refine ⟨?_, .inl hb'⟩
      rw [blk_some ha] at hb'
      simp only [List.mem_singleton] at hb'
      subst hb'
      unfold frz
      simp only [hb]
      simpa using hc.lt
end
end Go.Sh
namespace Go.Proofs.YtimmoekliphobaaDoor
open Go Go.Sh
open Go.Sh.Ty (reg)
noncomputable abbrev Prog : Program := Tryd.prog
theorem follows_mixed : Prog.follows .mixedOrders = true := by kernel_rfl
structure api_Key where
  Root : Arr 32 UInt8
  Height : Int
def api_Key.zero : api_Key := { Root := (fun _ => 0), Height := 0 }
instance : Ty api_Key := ⟨fun x => .agg (enc x.Root ++ (enc x.Height)).toArray⟩
theorem enc_api_Key (x : api_Key) : enc x = enc x.Root ++ (enc x.Height) := rfl
theorem one_api_Key (x : api_Key) : (enc x).all (·.oneCell') = true := one_app (one_arr (n := 32) (fun _ => rfl) _) ((one_i _))
theorem len_api_Key (x : api_Key) : (enc x).length = 33 := by
  rw [enc_api_Key]; simp only [List.length_append, arr_len, len_i]
structure api_Member where
  Id : Int
  Key : api_Key
def api_Member.zero : api_Member := { Id := 0, Key := api_Key.zero }
instance : Ty api_Member := ⟨fun x => .agg (enc x.Id ++ (enc x.Key)).toArray⟩
theorem enc_api_Member (x : api_Member) : enc x = enc x.Id ++ (enc x.Key) := rfl
theorem one_api_Member (x : api_Member) : (enc x).all (·.oneCell') = true := one_app (one_i _) ((one_api_Key _))
theorem len_api_Member (x : api_Member) : (enc x).length = 34 := by
  rw [enc_api_Member]; simp only [List.length_append, len_api_Key, len_i]
structure vote_place where
  kind : Int
  round : Int
  from_ : Int
deriving DecidableEq
def vote_place.zero : vote_place := { kind := 0, round := 0, from_ := 0 }
instance : Ty vote_place := ⟨fun x => .agg (enc x.kind ++ (enc x.round ++ (enc x.from_))).toArray⟩
theorem enc_vote_place (x : vote_place) : enc x = enc x.kind ++ (enc x.round ++ (enc x.from_)) := rfl
theorem one_vote_place (x : vote_place) : (enc x).all (·.oneCell') = true := one_app (one_i _) (one_app (one_i _) ((one_i _)))
theorem len_vote_place (x : vote_place) : (enc x).length = 3 := by
  rw [enc_vote_place]; simp only [List.length_append, len_i]
structure api_Block where
  Epoch : Int
  Height : Int
  Prev : Arr 32 UInt8
  State : Arr 32 UInt8
  Next : Arr 32 UInt8
  Requests : Sl
def api_Block.zero : api_Block := { Epoch := 0, Height := 0, Prev := (fun _ => 0), State := (fun _ => 0), Next := (fun _ => 0), Requests := Sl.nil }
instance : Ty api_Block := ⟨fun x => .agg (enc x.Epoch ++ (enc x.Height ++ (enc x.Prev ++ (enc x.State ++ (enc x.Next ++ (enc x.Requests)))))).toArray⟩
theorem enc_api_Block (x : api_Block) : enc x = enc x.Epoch ++ (enc x.Height ++ (enc x.Prev ++ (enc x.State ++ (enc x.Next ++ (enc x.Requests))))) := rfl
theorem one_api_Block (x : api_Block) : (enc x).all (·.oneCell') = true := one_app (one_i _) (one_app (one_i _) (one_app (one_arr (n := 32) (fun _ => rfl) _) (one_app (one_arr (n := 32) (fun _ => rfl) _) (one_app (one_arr (n := 32) (fun _ => rfl) _) ((one_sl _))))))
theorem len_api_Block (x : api_Block) : (enc x).length = 99 := by
  rw [enc_api_Block]; simp only [List.length_append, arr_len, len_i, len_sl]
structure round_mark where
  round : Int
  block : api_Block
def round_mark.zero : round_mark := { round := 0, block := api_Block.zero }
instance : Ty round_mark := ⟨fun x => .agg (enc x.round ++ (enc x.block)).toArray⟩
theorem enc_round_mark (x : round_mark) : enc x = enc x.round ++ (enc x.block) := rfl
theorem one_round_mark (x : round_mark) : (enc x).all (·.oneCell') = true := one_app (one_i _) ((one_api_Block _))
theorem len_round_mark (x : round_mark) : (enc x).length = 100 := by
  rw [enc_round_mark]; simp only [List.length_append, len_api_Block, len_i]
structure api_Change where
  Kind : Int
  Id : Int
  New : Int
  Key : api_Key
def api_Change.zero : api_Change := { Kind := 0, Id := 0, New := 0, Key := api_Key.zero }
instance : Ty api_Change := ⟨fun x => .agg (enc x.Kind ++ (enc x.Id ++ (enc x.New ++ (enc x.Key)))).toArray⟩
theorem enc_api_Change (x : api_Change) : enc x = enc x.Kind ++ (enc x.Id ++ (enc x.New ++ (enc x.Key))) := rfl
theorem one_api_Change (x : api_Change) : (enc x).all (·.oneCell') = true := one_app (one_i _) (one_app (one_i _) (one_app (one_i _) ((one_api_Key _))))
theorem len_api_Change (x : api_Change) : (enc x).length = 36 := by
  rw [enc_api_Change]; simp only [List.length_append, len_api_Key, len_i]
structure api_Op where
  Kind : Int
  Key : ByteArray
  Val : ByteArray
  Old : ByteArray
  Change : api_Change
def api_Op.zero : api_Op := { Kind := 0, Key := .empty, Val := .empty, Old := .empty, Change := api_Change.zero }
instance : Ty api_Op := ⟨fun x => .agg (enc x.Kind ++ (enc x.Key ++ (enc x.Val ++ (enc x.Old ++ (enc x.Change))))).toArray⟩
theorem enc_api_Op (x : api_Op) : enc x = enc x.Kind ++ (enc x.Key ++ (enc x.Val ++ (enc x.Old ++ (enc x.Change)))) := rfl
theorem one_api_Op (x : api_Op) : (enc x).all (·.oneCell') = true := one_app (one_i _) (one_app (one_s _) (one_app (one_s _) (one_app (one_s _) ((one_api_Change _)))))
theorem len_api_Op (x : api_Op) : (enc x).length = 40 := by
  rw [enc_api_Op]; simp only [List.length_append, len_api_Change, len_i, len_s]
structure api_Request where
  Client : Int
  Num : Int
  Op : api_Op
def api_Request.zero : api_Request := { Client := 0, Num := 0, Op := api_Op.zero }
instance : Ty api_Request := ⟨fun x => .agg (enc x.Client ++ (enc x.Num ++ (enc x.Op))).toArray⟩
theorem enc_api_Request (x : api_Request) : enc x = enc x.Client ++ (enc x.Num ++ (enc x.Op)) := rfl
theorem one_api_Request (x : api_Request) : (enc x).all (·.oneCell') = true := one_app (one_i _) (one_app (one_i _) ((one_api_Op _)))
theorem len_api_Request (x : api_Request) : (enc x).length = 42 := by
  rw [enc_api_Request]; simp only [List.length_append, len_api_Op, len_i]
structure api_Once where
  Open : Sl
  Shut : Sl
def api_Once.zero : api_Once := { Open := Sl.nil, Shut := Sl.nil }
instance : Ty api_Once := ⟨fun x => .agg (enc x.Open ++ (enc x.Shut)).toArray⟩
theorem enc_api_Once (x : api_Once) : enc x = enc x.Open ++ (enc x.Shut) := rfl
theorem one_api_Once (x : api_Once) : (enc x).all (·.oneCell') = true := one_app (one_sl _) ((one_sl _))
theorem len_api_Once (x : api_Once) : (enc x).length = 2 := by
  rw [enc_api_Once]; simp only [List.length_append, len_sl]
structure api_Sig where
  Leaf : Int
  Once : api_Once
  Path : Sl
def api_Sig.zero : api_Sig := { Leaf := 0, Once := api_Once.zero, Path := Sl.nil }
instance : Ty api_Sig := ⟨fun x => .agg (enc x.Leaf ++ (enc x.Once ++ (enc x.Path))).toArray⟩
theorem enc_api_Sig (x : api_Sig) : enc x = enc x.Leaf ++ (enc x.Once ++ (enc x.Path)) := rfl
theorem one_api_Sig (x : api_Sig) : (enc x).all (·.oneCell') = true := one_app (one_i _) (one_app (one_api_Once _) ((one_sl _)))
theorem len_api_Sig (x : api_Sig) : (enc x).length = 4 := by
  rw [enc_api_Sig]; simp only [List.length_append, len_api_Once, len_i, len_sl]
structure api_Vote where
  Kind : Int
  Epoch : Int
  Height : Int
  Round : Int
  Digest : Arr 32 UInt8
  From : Int
  Sig : api_Sig
def api_Vote.zero : api_Vote := { Kind := 0, Epoch := 0, Height := 0, Round := 0, Digest := (fun _ => 0), From := 0, Sig := api_Sig.zero }
instance : Ty api_Vote := ⟨fun x => .agg (enc x.Kind ++ (enc x.Epoch ++ (enc x.Height ++ (enc x.Round ++ (enc x.Digest ++ (enc x.From ++ (enc x.Sig))))))).toArray⟩
theorem enc_api_Vote (x : api_Vote) : enc x = enc x.Kind ++ (enc x.Epoch ++ (enc x.Height ++ (enc x.Round ++ (enc x.Digest ++ (enc x.From ++ (enc x.Sig)))))) := rfl
theorem one_api_Vote (x : api_Vote) : (enc x).all (·.oneCell') = true := one_app (one_i _) (one_app (one_i _) (one_app (one_i _) (one_app (one_i _) (one_app (one_arr (n := 32) (fun _ => rfl) _) (one_app (one_i _) ((one_api_Sig _)))))))
theorem len_api_Vote (x : api_Vote) : (enc x).length = 41 := by
  rw [enc_api_Vote]; simp only [List.length_append, arr_len, len_api_Sig, len_i]
structure api_Config where
  Epoch : Int
  Members : Sl
def api_Config.zero : api_Config := { Epoch := 0, Members := Sl.nil }
instance : Ty api_Config := ⟨fun x => .agg (enc x.Epoch ++ (enc x.Members)).toArray⟩
theorem enc_api_Config (x : api_Config) : enc x = enc x.Epoch ++ (enc x.Members) := rfl
theorem len_api_Config (x : api_Config) : (enc x).length = 2 := by
  rw [enc_api_Config]; simp only [List.length_append, len_i, len_sl]
structure api_Plan where
  Epoch : Int
  Height : Int
  Round : Int
  Valid : Int
  Block : api_Block
  From : Int
  Sig : api_Sig
def api_Plan.zero : api_Plan := { Epoch := 0, Height := 0, Round := 0, Valid := 0, Block := api_Block.zero, From := 0, Sig := api_Sig.zero }
instance : Ty api_Plan := ⟨fun x => .agg (enc x.Epoch ++ (enc x.Height ++ (enc x.Round ++ (enc x.Valid ++ (enc x.Block ++ (enc x.From ++ (enc x.Sig))))))).toArray⟩
theorem enc_api_Plan (x : api_Plan) : enc x = enc x.Epoch ++ (enc x.Height ++ (enc x.Round ++ (enc x.Valid ++ (enc x.Block ++ (enc x.From ++ (enc x.Sig)))))) := rfl
theorem one_api_Plan (x : api_Plan) : (enc x).all (·.oneCell') = true := one_app (one_i _) (one_app (one_i _) (one_app (one_i _) (one_app (one_i _) (one_app (one_api_Block _) (one_app (one_i _) ((one_api_Sig _)))))))
theorem len_api_Plan (x : api_Plan) : (enc x).length = 108 := by
  rw [enc_api_Plan]; simp only [List.length_append, len_api_Block, len_api_Sig, len_i]
structure api_Act where
  Act : Int
  Round : Int
  Kind : Int
  Digest : Arr 32 UInt8
  Valid : Int
  Block : api_Block
def api_Act.zero : api_Act := { Act := 0, Round := 0, Kind := 0, Digest := (fun _ => 0), Valid := 0, Block := api_Block.zero }
instance : Ty api_Act := ⟨fun x => .agg (enc x.Act ++ (enc x.Round ++ (enc x.Kind ++ (enc x.Digest ++ (enc x.Valid ++ (enc x.Block)))))).toArray⟩
theorem enc_api_Act (x : api_Act) : enc x = enc x.Act ++ (enc x.Round ++ (enc x.Kind ++ (enc x.Digest ++ (enc x.Valid ++ (enc x.Block))))) := rfl
theorem one_api_Act (x : api_Act) : (enc x).all (·.oneCell') = true := one_app (one_i _) (one_app (one_i _) (one_app (one_i _) (one_app (one_arr (n := 32) (fun _ => rfl) _) (one_app (one_i _) ((one_api_Block _))))))
theorem len_api_Act (x : api_Act) : (enc x).length = 135 := by
  rw [enc_api_Act]; simp only [List.length_append, arr_len, len_api_Block, len_i]
structure law19_Call where
  Kind : Int
  P : api_Plan
  V : api_Vote
  N : Int
def law19_Call.zero : law19_Call := { Kind := 0, P := api_Plan.zero, V := api_Vote.zero, N := 0 }
instance : Ty law19_Call := ⟨fun x => .agg (enc x.Kind ++ (enc x.P ++ (enc x.V ++ (enc x.N)))).toArray⟩
structure law19_Move where
  Kind : Int
  I : Int
  N : Int
  V : api_Vote
  P : api_Plan
def law19_Move.zero : law19_Move := { Kind := 0, I := 0, N := 0, V := api_Vote.zero, P := api_Plan.zero }
instance : Ty law19_Move := ⟨fun x => .agg (enc x.Kind ++ (enc x.I ++ (enc x.N ++ (enc x.V ++ (enc x.P))))).toArray⟩
structure vote_Box where
  votes : Mp
def vote_Box.zero : vote_Box := { votes := ⟨none⟩ }
instance : Ty vote_Box := ⟨fun x => .agg (enc x.votes).toArray⟩
theorem enc_vote_Box (x : vote_Box) : enc x = enc x.votes := rfl
theorem len_vote_Box (x : vote_Box) : (enc x).length = 1 := by
  rw [enc_vote_Box]; simp only [List.length_append, len_mp]
structure vote_choice where
  round : Int
  digest : Arr 32 UInt8
deriving DecidableEq
def vote_choice.zero : vote_choice := { round := 0, digest := (fun _ => 0) }
instance : Ty vote_choice := ⟨fun x => .agg (enc x.round ++ (enc x.digest)).toArray⟩
theorem enc_vote_choice (x : vote_choice) : enc x = enc x.round ++ (enc x.digest) := rfl
theorem one_vote_choice (x : vote_choice) : (enc x).all (·.oneCell') = true := one_app (one_i _) ((one_arr (n := 32) (fun _ => rfl) _))
theorem len_vote_choice (x : vote_choice) : (enc x).length = 33 := by
  rw [enc_vote_choice]; simp only [List.length_append, arr_len, len_i]
structure round_Core where
  config : api_Config
  me : Int
  base : Int
  at_ : Cx
  step : Int
  ticks : Int
  locked : round_mark
  valid : round_mark
  plans : Mp
  blocks : Mp
  box : Pt
  fresh : Bool
  decided : Bool
  out : Sl
def round_Core.zero : round_Core := { config := api_Config.zero, me := 0, base := 0, at_ := ⟨0, 0⟩, step := 0, ticks := 0, locked := round_mark.zero, valid := round_mark.zero, plans := ⟨none⟩, blocks := ⟨none⟩, box := none, fresh := false, decided := false, out := Sl.nil }
instance : Ty round_Core := ⟨fun x => .agg (enc x.config ++ (enc x.me ++ (enc x.base ++ (enc x.at_ ++ (enc x.step ++ (enc x.ticks ++ (enc x.locked ++ (enc x.valid ++ (enc x.plans ++ (enc x.blocks ++ (enc x.box ++ (enc x.fresh ++ (enc x.decided ++ (enc x.out)))))))))))))).toArray⟩
theorem enc_round_Core (x : round_Core) : enc x = enc x.config ++ (enc x.me ++ (enc x.base ++ (enc x.at_ ++ (enc x.step ++ (enc x.ticks ++ (enc x.locked ++ (enc x.valid ++ (enc x.plans ++ (enc x.blocks ++ (enc x.box ++ (enc x.fresh ++ (enc x.decided ++ (enc x.out))))))))))))) := rfl
theorem len_round_Core (x : round_Core) : (enc x).length = 213 := by
  rw [enc_round_Core]; simp only [List.length_append, len_api_Config, len_b, len_cx, len_i, len_mp, len_pt, len_round_mark, len_sl]
structure code_Writer where
  b : Sl
def code_Writer.zero : code_Writer := { b := Sl.nil }
instance : Ty code_Writer := ⟨fun x => .agg (enc x.b).toArray⟩
theorem enc_code_Writer (x : code_Writer) : enc x = enc x.b := rfl
theorem len_code_Writer (x : code_Writer) : (enc x).length = 1 := by
  rw [enc_code_Writer]; simp only [List.length_append, len_sl]
structure keys_Tree where
  seed : Arr 32 UInt8
  height : Int
  leaves : Sl
def keys_Tree.zero : keys_Tree := { seed := (fun _ => 0), height := 0, leaves := Sl.nil }
instance : Ty keys_Tree := ⟨fun x => .agg (enc x.seed ++ (enc x.height ++ (enc x.leaves))).toArray⟩
structure ref13_Box where
  Votes : Sl
def ref13_Box.zero : ref13_Box := { Votes := Sl.nil }
instance : Ty ref13_Box := ⟨fun x => .agg (enc x.Votes).toArray⟩
structure law19_Game where
  config : api_Config
  height : Int
  cores : Sl
  plans : Sl
  votes : Sl
  order : Sl
  own : Sl
  decided : Sl
  others : Sl
  made : Int
def law19_Game.zero : law19_Game := { config := api_Config.zero, height := 0, cores := Sl.nil, plans := Sl.nil, votes := Sl.nil, order := Sl.nil, own := Sl.nil, decided := Sl.nil, others := Sl.nil, made := 0 }
instance : Ty law19_Game := ⟨fun x => .agg (enc x.config ++ (enc x.height ++ (enc x.cores ++ (enc x.plans ++ (enc x.votes ++ (enc x.order ++ (enc x.own ++ (enc x.decided ++ (enc x.others ++ (enc x.made)))))))))).toArray⟩
theorem enc_law19_Game (x : law19_Game) : enc x = enc x.config ++ (enc x.height ++ (enc x.cores ++ (enc x.plans ++ (enc x.votes ++ (enc x.order ++ (enc x.own ++ (enc x.decided ++ (enc x.others ++ (enc x.made))))))))) := rfl
theorem len_law19_Game (x : law19_Game) : (enc x).length = 11 := by
  rw [enc_law19_Game]; simp only [List.length_append, len_api_Config, len_i, len_sl]
theorem ag_110 : IsAgg Prog 110 34 := IsAgg.of (by kernel_rfl) (by kernel_rfl)
theorem ag_115 : IsAgg Prog 115 3 := IsAgg.of (by kernel_rfl) (by kernel_rfl)
theorem ag_136 : IsAgg Prog 136 100 := IsAgg.of (by kernel_rfl) (by kernel_rfl)
theorem ag_178 : IsAgg Prog 178 36 := IsAgg.of (by kernel_rfl) (by kernel_rfl)
theorem ag_182 : IsAgg Prog 182 42 := IsAgg.of (by kernel_rfl) (by kernel_rfl)
theorem ag_215 : IsAgg Prog 215 64 := IsAgg.of (by kernel_rfl) (by kernel_rfl)
theorem ag_24 : IsAgg Prog 24 32 := IsAgg.of (by kernel_rfl) (by kernel_rfl)
theorem ag_37 : IsAgg Prog 37 41 := IsAgg.of (by kernel_rfl) (by kernel_rfl)
theorem ag_54 : IsAgg Prog 54 2 := IsAgg.of (by kernel_rfl) (by kernel_rfl)
theorem ag_75 : IsAgg Prog 75 99 := IsAgg.of (by kernel_rfl) (by kernel_rfl)
theorem ag_77 : IsAgg Prog 77 108 := IsAgg.of (by kernel_rfl) (by kernel_rfl)
theorem ag_80 : IsAgg Prog 80 135 := IsAgg.of (by kernel_rfl) (by kernel_rfl)
theorem ar_186 : ArrT Prog 186 8 185 1 := ⟨by kernel_rfl, SizeOf.of (by kernel_rfl)⟩
theorem ar_187 : ArrT Prog 187 8 185 1 := ⟨by kernel_rfl, SizeOf.of (by kernel_rfl)⟩
theorem ar_188 : ArrT Prog 188 64 5 1 := ⟨by kernel_rfl, SizeOf.of (by kernel_rfl)⟩
theorem ar_215 : ArrT Prog 215 64 185 1 := ⟨by kernel_rfl, SizeOf.of (by kernel_rfl)⟩
theorem ar_24 : ArrT Prog 24 32 5 1 := ⟨by kernel_rfl, SizeOf.of (by kernel_rfl)⟩
theorem bt_24 : BytesT Prog 24 32 := ⟨⟨5, by kernel_rfl, by kernel_rfl, SizeOf.of (by kernel_rfl)⟩, by kernel_rfl⟩
theorem by_110 : (Prog.info? 110).map (·.bytes) = some 48 := by kernel_rfl
theorem by_182 : (Prog.info? 182).map (·.bytes) = some 136 := by kernel_rfl
theorem by_22 : (Prog.info? 22).map (·.bytes) = some 24 := by kernel_rfl
theorem by_24 : (Prog.info? 24).map (·.bytes) = some 32 := by kernel_rfl
theorem by_37 : (Prog.info? 37).map (·.bytes) = some 152 := by kernel_rfl
theorem by_4 : (Prog.info? 4).map (·.bytes) = some 1 := by kernel_rfl
theorem by_5 : (Prog.info? 5).map (·.bytes) = some 1 := by kernel_rfl
theorem by_62 : (Prog.info? 62).map (·.bytes) = some 8 := by kernel_rfl
theorem by_77 : (Prog.info? 77).map (·.bytes) = some 256 := by kernel_rfl
theorem by_80 : (Prog.info? 80).map (·.bytes) = some 200 := by kernel_rfl
theorem fl_107_0 : FldAt Prog 107 0 0 := FldAt.of 31 (by kernel_rfl)
theorem fl_107_1 : FldAt Prog 107 1 32 := FldAt.of 0 (by kernel_rfl)
theorem fl_110_0 : FldAt Prog 110 0 0 := FldAt.of 0 (by kernel_rfl)
theorem fl_110_1 : FldAt Prog 110 1 1 := FldAt.of 32 (by kernel_rfl)
theorem fl_113_0 : FldAt Prog 113 0 0 := FldAt.of 0 (by kernel_rfl)
theorem fl_115_0 : FldAt Prog 115 0 0 := FldAt.of 0 (by kernel_rfl)
theorem fl_115_1 : FldAt Prog 115 1 1 := FldAt.of 0 (by kernel_rfl)
theorem fl_115_2 : FldAt Prog 115 2 2 := FldAt.of 0 (by kernel_rfl)
theorem fl_128_0 : FldAt Prog 128 0 0 := FldAt.of 0 (by kernel_rfl)
theorem fl_128_1 : FldAt Prog 128 1 1 := FldAt.of 31 (by kernel_rfl)
theorem fl_136_0 : FldAt Prog 136 0 0 := FldAt.of 0 (by kernel_rfl)
theorem fl_136_1 : FldAt Prog 136 1 1 := FldAt.of 98 (by kernel_rfl)
theorem fl_140_0 : FldAt Prog 140 0 0 := FldAt.of 1 (by kernel_rfl)
theorem fl_140_1 : FldAt Prog 140 1 2 := FldAt.of 0 (by kernel_rfl)
theorem fl_140_10 : FldAt Prog 140 10 209 := FldAt.of 0 (by kernel_rfl)
theorem fl_140_11 : FldAt Prog 140 11 210 := FldAt.of 0 (by kernel_rfl)
theorem fl_140_12 : FldAt Prog 140 12 211 := FldAt.of 0 (by kernel_rfl)
theorem fl_140_13 : FldAt Prog 140 13 212 := FldAt.of 0 (by kernel_rfl)
theorem fl_140_3 : FldAt Prog 140 3 4 := FldAt.of 0 (by kernel_rfl)
theorem fl_140_4 : FldAt Prog 140 4 5 := FldAt.of 0 (by kernel_rfl)
theorem fl_140_5 : FldAt Prog 140 5 6 := FldAt.of 0 (by kernel_rfl)
theorem fl_140_6 : FldAt Prog 140 6 7 := FldAt.of 99 (by kernel_rfl)
theorem fl_140_7 : FldAt Prog 140 7 107 := FldAt.of 99 (by kernel_rfl)
theorem fl_140_8 : FldAt Prog 140 8 207 := FldAt.of 0 (by kernel_rfl)
theorem fl_140_9 : FldAt Prog 140 9 208 := FldAt.of 0 (by kernel_rfl)
theorem fl_145_0 : FldAt Prog 145 0 0 := FldAt.of 0 (by kernel_rfl)
theorem fl_178_0 : FldAt Prog 178 0 0 := FldAt.of 0 (by kernel_rfl)
theorem fl_178_1 : FldAt Prog 178 1 1 := FldAt.of 0 (by kernel_rfl)
theorem fl_178_2 : FldAt Prog 178 2 2 := FldAt.of 0 (by kernel_rfl)
theorem fl_178_3 : FldAt Prog 178 3 3 := FldAt.of 32 (by kernel_rfl)
theorem fl_180_0 : FldAt Prog 180 0 0 := FldAt.of 0 (by kernel_rfl)
theorem fl_180_1 : FldAt Prog 180 1 1 := FldAt.of 0 (by kernel_rfl)
theorem fl_180_2 : FldAt Prog 180 2 2 := FldAt.of 0 (by kernel_rfl)
theorem fl_180_3 : FldAt Prog 180 3 3 := FldAt.of 0 (by kernel_rfl)
theorem fl_180_4 : FldAt Prog 180 4 4 := FldAt.of 35 (by kernel_rfl)
theorem fl_182_0 : FldAt Prog 182 0 0 := FldAt.of 0 (by kernel_rfl)
theorem fl_182_1 : FldAt Prog 182 1 1 := FldAt.of 0 (by kernel_rfl)
theorem fl_182_2 : FldAt Prog 182 2 2 := FldAt.of 39 (by kernel_rfl)
theorem fl_37_0 : FldAt Prog 37 0 0 := FldAt.of 0 (by kernel_rfl)
theorem fl_37_2 : FldAt Prog 37 2 2 := FldAt.of 0 (by kernel_rfl)
theorem fl_37_3 : FldAt Prog 37 3 3 := FldAt.of 0 (by kernel_rfl)
theorem fl_37_4 : FldAt Prog 37 4 4 := FldAt.of 31 (by kernel_rfl)
theorem fl_37_5 : FldAt Prog 37 5 36 := FldAt.of 0 (by kernel_rfl)
theorem fl_54_0 : FldAt Prog 54 0 0 := FldAt.of 0 (by kernel_rfl)
theorem fl_54_1 : FldAt Prog 54 1 1 := FldAt.of 0 (by kernel_rfl)
theorem fl_61_0 : FldAt Prog 61 0 0 := FldAt.of 1 (by kernel_rfl)
theorem fl_61_1 : FldAt Prog 61 1 2 := FldAt.of 0 (by kernel_rfl)
theorem fl_61_2 : FldAt Prog 61 2 3 := FldAt.of 0 (by kernel_rfl)
theorem fl_61_3 : FldAt Prog 61 3 4 := FldAt.of 0 (by kernel_rfl)
theorem fl_61_4 : FldAt Prog 61 4 5 := FldAt.of 0 (by kernel_rfl)
theorem fl_61_5 : FldAt Prog 61 5 6 := FldAt.of 0 (by kernel_rfl)
theorem fl_61_6 : FldAt Prog 61 6 7 := FldAt.of 0 (by kernel_rfl)
theorem fl_61_7 : FldAt Prog 61 7 8 := FldAt.of 0 (by kernel_rfl)
theorem fl_61_9 : FldAt Prog 61 9 10 := FldAt.of 0 (by kernel_rfl)
theorem fl_75_0 : FldAt Prog 75 0 0 := FldAt.of 0 (by kernel_rfl)
theorem fl_75_1 : FldAt Prog 75 1 1 := FldAt.of 0 (by kernel_rfl)
theorem fl_75_2 : FldAt Prog 75 2 2 := FldAt.of 31 (by kernel_rfl)
theorem fl_75_3 : FldAt Prog 75 3 34 := FldAt.of 31 (by kernel_rfl)
theorem fl_75_4 : FldAt Prog 75 4 66 := FldAt.of 31 (by kernel_rfl)
theorem fl_75_5 : FldAt Prog 75 5 98 := FldAt.of 0 (by kernel_rfl)
theorem fl_77_1 : FldAt Prog 77 1 1 := FldAt.of 0 (by kernel_rfl)
theorem fl_77_2 : FldAt Prog 77 2 2 := FldAt.of 0 (by kernel_rfl)
theorem fl_77_3 : FldAt Prog 77 3 3 := FldAt.of 0 (by kernel_rfl)
theorem fl_77_4 : FldAt Prog 77 4 4 := FldAt.of 98 (by kernel_rfl)
theorem fl_77_5 : FldAt Prog 77 5 103 := FldAt.of 0 (by kernel_rfl)
theorem fl_80_0 : FldAt Prog 80 0 0 := FldAt.of 0 (by kernel_rfl)
theorem fl_80_1 : FldAt Prog 80 1 1 := FldAt.of 0 (by kernel_rfl)
theorem fl_80_2 : FldAt Prog 80 2 2 := FldAt.of 0 (by kernel_rfl)
theorem fl_80_3 : FldAt Prog 80 3 3 := FldAt.of 31 (by kernel_rfl)
theorem fl_80_4 : FldAt Prog 80 4 35 := FldAt.of 0 (by kernel_rfl)
theorem fl_80_5 : FldAt Prog 80 5 36 := FldAt.of 98 (by kernel_rfl)
theorem fn_106 : FnOk Prog 106 := ⟨_, Tryd.func106, by kernel_rfl, by kernel_rfl⟩
theorem fn_113 : FnOk Prog 113 := ⟨_, Tryd.func113, by kernel_rfl, by kernel_rfl⟩
theorem fn_114 : FnOk Prog 114 := ⟨_, Tryd.func114, by kernel_rfl, by kernel_rfl⟩
theorem fn_115 : FnOk Prog 115 := ⟨_, Tryd.func115, by kernel_rfl, by kernel_rfl⟩
theorem fn_116 : FnOk Prog 116 := ⟨_, Tryd.func116, by kernel_rfl, by kernel_rfl⟩
theorem fn_117 : FnOk Prog 117 := ⟨_, Tryd.func117, by kernel_rfl, by kernel_rfl⟩
theorem fn_118 : FnOk Prog 118 := ⟨_, Tryd.func118, by kernel_rfl, by kernel_rfl⟩
theorem fn_119 : FnOk Prog 119 := ⟨_, Tryd.func119, by kernel_rfl, by kernel_rfl⟩
theorem fn_12 : FnOk Prog 12 := ⟨_, Tryd.func12, by kernel_rfl, by kernel_rfl⟩
theorem fn_120 : FnOk Prog 120 := ⟨_, Tryd.func120, by kernel_rfl, by kernel_rfl⟩
theorem fn_133 : FnOk Prog 133 := ⟨_, Tryd.func133, by kernel_rfl, by kernel_rfl⟩
theorem fn_134 : FnOk Prog 134 := ⟨_, Tryd.func134, by kernel_rfl, by kernel_rfl⟩
theorem fn_14 : FnOk Prog 14 := ⟨_, Tryd.func14, by kernel_rfl, by kernel_rfl⟩
theorem fn_16 : FnOk Prog 16 := ⟨_, Tryd.func16, by kernel_rfl, by kernel_rfl⟩
theorem fn_17 : FnOk Prog 17 := ⟨_, Tryd.func17, by kernel_rfl, by kernel_rfl⟩
theorem fn_19 : FnOk Prog 19 := ⟨_, Tryd.func19, by kernel_rfl, by kernel_rfl⟩
theorem fn_22 : FnOk Prog 22 := ⟨_, Tryd.func22, by kernel_rfl, by kernel_rfl⟩
theorem fn_25 : FnOk Prog 25 := ⟨_, Tryd.func25, by kernel_rfl, by kernel_rfl⟩
theorem fn_26 : FnOk Prog 26 := ⟨_, Tryd.func26, by kernel_rfl, by kernel_rfl⟩
theorem fn_27 : FnOk Prog 27 := ⟨_, Tryd.func27, by kernel_rfl, by kernel_rfl⟩
theorem fn_28 : FnOk Prog 28 := ⟨_, Tryd.func28, by kernel_rfl, by kernel_rfl⟩
theorem fn_29 : FnOk Prog 29 := ⟨_, Tryd.func29, by kernel_rfl, by kernel_rfl⟩
theorem fn_30 : FnOk Prog 30 := ⟨_, Tryd.func30, by kernel_rfl, by kernel_rfl⟩
theorem fn_31 : FnOk Prog 31 := ⟨_, Tryd.func31, by kernel_rfl, by kernel_rfl⟩
theorem fn_32 : FnOk Prog 32 := ⟨_, Tryd.func32, by kernel_rfl, by kernel_rfl⟩
theorem fn_33 : FnOk Prog 33 := ⟨_, Tryd.func33, by kernel_rfl, by kernel_rfl⟩
theorem fn_34 : FnOk Prog 34 := ⟨_, Tryd.func34, by kernel_rfl, by kernel_rfl⟩
theorem fn_38 : FnOk Prog 38 := ⟨_, Tryd.func38, by kernel_rfl, by kernel_rfl⟩
theorem fn_39 : FnOk Prog 39 := ⟨_, Tryd.func39, by kernel_rfl, by kernel_rfl⟩
theorem fn_48 : FnOk Prog 48 := ⟨_, Tryd.func48, by kernel_rfl, by kernel_rfl⟩
theorem fn_49 : FnOk Prog 49 := ⟨_, Tryd.func49, by kernel_rfl, by kernel_rfl⟩
theorem fn_51 : FnOk Prog 51 := ⟨_, Tryd.func51, by kernel_rfl, by kernel_rfl⟩
theorem fn_52 : FnOk Prog 52 := ⟨_, Tryd.func52, by kernel_rfl, by kernel_rfl⟩
theorem fn_53 : FnOk Prog 53 := ⟨_, Tryd.func53, by kernel_rfl, by kernel_rfl⟩
theorem fn_54 : FnOk Prog 54 := ⟨_, Tryd.func54, by kernel_rfl, by kernel_rfl⟩
theorem fn_55 : FnOk Prog 55 := ⟨_, Tryd.func55, by kernel_rfl, by kernel_rfl⟩
theorem fn_56 : FnOk Prog 56 := ⟨_, Tryd.func56, by kernel_rfl, by kernel_rfl⟩
theorem fn_57 : FnOk Prog 57 := ⟨_, Tryd.func57, by kernel_rfl, by kernel_rfl⟩
theorem fn_58 : FnOk Prog 58 := ⟨_, Tryd.func58, by kernel_rfl, by kernel_rfl⟩
theorem fn_59 : FnOk Prog 59 := ⟨_, Tryd.func59, by kernel_rfl, by kernel_rfl⟩
theorem fn_60 : FnOk Prog 60 := ⟨_, Tryd.func60, by kernel_rfl, by kernel_rfl⟩
theorem fn_61 : FnOk Prog 61 := ⟨_, Tryd.func61, by kernel_rfl, by kernel_rfl⟩
theorem fn_63 : FnOk Prog 63 := ⟨_, Tryd.func63, by kernel_rfl, by kernel_rfl⟩
theorem fn_64 : FnOk Prog 64 := ⟨_, Tryd.func64, by kernel_rfl, by kernel_rfl⟩
theorem fn_65 : FnOk Prog 65 := ⟨_, Tryd.func65, by kernel_rfl, by kernel_rfl⟩
theorem fn_68 : FnOk Prog 68 := ⟨_, Tryd.func68, by kernel_rfl, by kernel_rfl⟩
theorem fn_69 : FnOk Prog 69 := ⟨_, Tryd.func69, by kernel_rfl, by kernel_rfl⟩
theorem fn_70 : FnOk Prog 70 := ⟨_, Tryd.func70, by kernel_rfl, by kernel_rfl⟩
theorem fn_77 : FnOk Prog 77 := ⟨_, Tryd.func77, by kernel_rfl, by kernel_rfl⟩
theorem fn_86 : FnOk Prog 86 := ⟨_, Tryd.func86, by kernel_rfl, by kernel_rfl⟩
theorem fn_87 : FnOk Prog 87 := ⟨_, Tryd.func87, by kernel_rfl, by kernel_rfl⟩
theorem fn_88 : FnOk Prog 88 := ⟨_, Tryd.func88, by kernel_rfl, by kernel_rfl⟩
theorem fn_89 : FnOk Prog 89 := ⟨_, Tryd.func89, by kernel_rfl, by kernel_rfl⟩
theorem fn_9 : FnOk Prog 9 := ⟨_, Tryd.func9, by kernel_rfl, by kernel_rfl⟩
theorem fn_90 : FnOk Prog 90 := ⟨_, Tryd.func90, by kernel_rfl, by kernel_rfl⟩
theorem fn_91 : FnOk Prog 91 := ⟨_, Tryd.func91, by kernel_rfl, by kernel_rfl⟩
theorem fn_92 : FnOk Prog 92 := ⟨_, Tryd.func92, by kernel_rfl, by kernel_rfl⟩
theorem fn_93 : FnOk Prog 93 := ⟨_, Tryd.func93, by kernel_rfl, by kernel_rfl⟩
theorem fn_94 : FnOk Prog 94 := ⟨_, Tryd.func94, by kernel_rfl, by kernel_rfl⟩
theorem fn_95 : FnOk Prog 95 := ⟨_, Tryd.func95, by kernel_rfl, by kernel_rfl⟩
theorem fn_97 : FnOk Prog 97 := ⟨_, Tryd.func97, by kernel_rfl, by kernel_rfl⟩
theorem get_110_Id (x : api_Member) : (enc x)[0]? = some (reg x.Id) := get_one (get_here (len_i _))
theorem get_110_Key_Height (x : api_Member) : (enc x)[33]? = some (reg x.Key.Height) := get_one (get_sub (n := 33) (M := enc x.Key) (get_skip (len_i _) (get_last (len_api_Key _))) (get_skip (arr_len (n := 32) _) (get_last (len_i _))) rfl)
theorem get_110_all (x : api_Member) : ((enc x).drop 0).take 34 = enc x := get_last (len_api_Member x)
theorem get_113_votes (x : vote_Box) : (enc x)[0]? = some (reg x.votes) := get_one (get_last (len_mp _))
theorem get_115_from (x : vote_place) : (enc x)[2]? = some (reg x.from_) := get_one (get_skip (len_i _) (get_skip (len_i _) (get_last (len_i _))))
theorem get_115_kind (x : vote_place) : (enc x)[0]? = some (reg x.kind) := get_one (get_here (len_i _))
theorem get_115_round (x : vote_place) : (enc x)[1]? = some (reg x.round) := get_one (get_skip (len_i _) (get_here (len_i _)))
theorem get_115_all (x : vote_place) : ((enc x).drop 0).take 3 = enc x := get_last (len_vote_place x)
theorem get_128_digest (x : vote_choice) : ((enc x).drop 1).take 32 = enc x.digest := get_skip (len_i _) (get_last (arr_len (n := 32) _))
theorem get_128_round (x : vote_choice) : (enc x)[0]? = some (reg x.round) := get_one (get_here (len_i _))
theorem get_130_all (x : Sl) : (enc x)[0]? = some (reg x) := get_one (get_last (len_sl x))
theorem get_136_block (x : round_mark) : ((enc x).drop 1).take 99 = enc x.block := get_skip (len_i _) (get_last (len_api_Block _))
theorem get_136_round (x : round_mark) : (enc x)[0]? = some (reg x.round) := get_one (get_here (len_i _))
theorem get_140_at (x : round_Core) : (enc x)[4]? = some (reg x.at_) := get_one (get_skip (len_api_Config _) (get_skip (len_i _) (get_skip (len_i _) (get_here (len_cx _)))))
theorem get_140_blocks (x : round_Core) : (enc x)[208]? = some (reg x.blocks) := get_one (get_skip (len_api_Config _) (get_skip (len_i _) (get_skip (len_i _) (get_skip (len_cx _) (get_skip (len_i _) (get_skip (len_i _) (get_skip (len_round_mark _) (get_skip (len_round_mark _) (get_skip (len_mp _) (get_here (len_mp _)))))))))))
theorem get_140_box (x : round_Core) : (enc x)[209]? = some (reg x.box) := get_one (get_skip (len_api_Config _) (get_skip (len_i _) (get_skip (len_i _) (get_skip (len_cx _) (get_skip (len_i _) (get_skip (len_i _) (get_skip (len_round_mark _) (get_skip (len_round_mark _) (get_skip (len_mp _) (get_skip (len_mp _) (get_here (len_pt _))))))))))))
theorem get_140_config_Members (x : round_Core) : (enc x)[1]? = some (reg x.config.Members) := get_one (get_sub (n := 2) (M := enc x.config) (get_here (len_api_Config _)) (get_skip (len_i _) (get_last (len_sl _))) rfl)
theorem get_140_config (x : round_Core) : ((enc x).drop 0).take 2 = enc x.config := get_here (len_api_Config _)
theorem get_140_decided (x : round_Core) : (enc x)[211]? = some (reg x.decided) := get_one (get_skip (len_api_Config _) (get_skip (len_i _) (get_skip (len_i _) (get_skip (len_cx _) (get_skip (len_i _) (get_skip (len_i _) (get_skip (len_round_mark _) (get_skip (len_round_mark _) (get_skip (len_mp _) (get_skip (len_mp _) (get_skip (len_pt _) (get_skip (len_b _) (get_here (len_b _))))))))))))))
theorem get_140_locked_round (x : round_Core) : (enc x)[7]? = some (reg x.locked.round) := get_one (get_sub (n := 100) (M := enc x.locked) (get_skip (len_api_Config _) (get_skip (len_i _) (get_skip (len_i _) (get_skip (len_cx _) (get_skip (len_i _) (get_skip (len_i _) (get_here (len_round_mark _)))))))) (get_here (len_i _)) rfl)
theorem get_140_locked (x : round_Core) : ((enc x).drop 7).take 100 = enc x.locked := get_skip (len_api_Config _) (get_skip (len_i _) (get_skip (len_i _) (get_skip (len_cx _) (get_skip (len_i _) (get_skip (len_i _) (get_here (len_round_mark _)))))))
theorem get_140_me (x : round_Core) : (enc x)[2]? = some (reg x.me) := get_one (get_skip (len_api_Config _) (get_here (len_i _)))
theorem get_140_out (x : round_Core) : (enc x)[212]? = some (reg x.out) := get_one (get_skip (len_api_Config _) (get_skip (len_i _) (get_skip (len_i _) (get_skip (len_cx _) (get_skip (len_i _) (get_skip (len_i _) (get_skip (len_round_mark _) (get_skip (len_round_mark _) (get_skip (len_mp _) (get_skip (len_mp _) (get_skip (len_pt _) (get_skip (len_b _) (get_skip (len_b _) (get_last (len_sl _)))))))))))))))
theorem get_140_plans (x : round_Core) : (enc x)[207]? = some (reg x.plans) := get_one (get_skip (len_api_Config _) (get_skip (len_i _) (get_skip (len_i _) (get_skip (len_cx _) (get_skip (len_i _) (get_skip (len_i _) (get_skip (len_round_mark _) (get_skip (len_round_mark _) (get_here (len_mp _))))))))))
theorem get_140_step (x : round_Core) : (enc x)[5]? = some (reg x.step) := get_one (get_skip (len_api_Config _) (get_skip (len_i _) (get_skip (len_i _) (get_skip (len_cx _) (get_here (len_i _))))))
theorem get_140_valid_block (x : round_Core) : ((enc x).drop 108).take 99 = enc x.valid.block := get_sub (n := 100) (M := enc x.valid) (get_skip (len_api_Config _) (get_skip (len_i _) (get_skip (len_i _) (get_skip (len_cx _) (get_skip (len_i _) (get_skip (len_i _) (get_skip (len_round_mark _) (get_here (len_round_mark _))))))))) (get_skip (len_i _) (get_last (len_api_Block _))) rfl
theorem get_140_valid_round (x : round_Core) : (enc x)[107]? = some (reg x.valid.round) := get_one (get_sub (n := 100) (M := enc x.valid) (get_skip (len_api_Config _) (get_skip (len_i _) (get_skip (len_i _) (get_skip (len_cx _) (get_skip (len_i _) (get_skip (len_i _) (get_skip (len_round_mark _) (get_here (len_round_mark _))))))))) (get_here (len_i _)) rfl)
theorem get_145_b (x : code_Writer) : (enc x)[0]? = some (reg x.b) := get_one (get_last (len_sl _))
theorem get_178_Id (x : api_Change) : (enc x)[1]? = some (reg x.Id) := get_one (get_skip (len_i _) (get_here (len_i _)))
theorem get_178_Key_Height (x : api_Change) : (enc x)[35]? = some (reg x.Key.Height) := get_one (get_sub (n := 33) (M := enc x.Key) (get_skip (len_i _) (get_skip (len_i _) (get_skip (len_i _) (get_last (len_api_Key _))))) (get_skip (arr_len (n := 32) _) (get_last (len_i _))) rfl)
theorem get_178_Key_Root (x : api_Change) : ((enc x).drop 3).take 32 = enc x.Key.Root := get_sub (n := 33) (M := enc x.Key) (get_skip (len_i _) (get_skip (len_i _) (get_skip (len_i _) (get_last (len_api_Key _))))) (get_here (arr_len (n := 32) _)) rfl
theorem get_178_Kind (x : api_Change) : (enc x)[0]? = some (reg x.Kind) := get_one (get_here (len_i _))
theorem get_178_New (x : api_Change) : (enc x)[2]? = some (reg x.New) := get_one (get_skip (len_i _) (get_skip (len_i _) (get_here (len_i _))))
theorem get_182_Client (x : api_Request) : (enc x)[0]? = some (reg x.Client) := get_one (get_here (len_i _))
theorem get_182_Num (x : api_Request) : (enc x)[1]? = some (reg x.Num) := get_one (get_skip (len_i _) (get_here (len_i _)))
theorem get_182_Op_Change (x : api_Request) : ((enc x).drop 6).take 36 = enc x.Op.Change := get_sub (n := 40) (M := enc x.Op) (get_skip (len_i _) (get_skip (len_i _) (get_last (len_api_Op _)))) (get_skip (len_i _) (get_skip (len_s _) (get_skip (len_s _) (get_skip (len_s _) (get_last (len_api_Change _)))))) rfl
theorem get_182_Op_Key (x : api_Request) : (enc x)[3]? = some (reg x.Op.Key) := get_one (get_sub (n := 40) (M := enc x.Op) (get_skip (len_i _) (get_skip (len_i _) (get_last (len_api_Op _)))) (get_skip (len_i _) (get_here (len_s _))) rfl)
theorem get_182_Op_Kind (x : api_Request) : (enc x)[2]? = some (reg x.Op.Kind) := get_one (get_sub (n := 40) (M := enc x.Op) (get_skip (len_i _) (get_skip (len_i _) (get_last (len_api_Op _)))) (get_here (len_i _)) rfl)
theorem get_182_Op_Old (x : api_Request) : (enc x)[5]? = some (reg x.Op.Old) := get_one (get_sub (n := 40) (M := enc x.Op) (get_skip (len_i _) (get_skip (len_i _) (get_last (len_api_Op _)))) (get_skip (len_i _) (get_skip (len_s _) (get_skip (len_s _) (get_here (len_s _))))) rfl)
theorem get_182_Op_Val (x : api_Request) : (enc x)[4]? = some (reg x.Op.Val) := get_one (get_sub (n := 40) (M := enc x.Op) (get_skip (len_i _) (get_skip (len_i _) (get_last (len_api_Op _)))) (get_skip (len_i _) (get_skip (len_s _) (get_here (len_s _)))) rfl)
theorem get_182_all (x : api_Request) : ((enc x).drop 0).take 42 = enc x := get_last (len_api_Request x)
theorem get_215_all (x : Arr 64 UInt32) : ((enc x).drop 0).take 64 = enc x := get_last (arr_len (n := 64) x)
theorem get_22_all (x : Sl) : (enc x)[0]? = some (reg x) := get_one (get_last (len_sl x))
theorem get_24_all (x : Arr 32 UInt8) : ((enc x).drop 0).take 32 = enc x := get_last (arr_len (n := 32) x)
theorem get_3_all (x : Int) : (enc x)[0]? = some (reg x) := get_one (get_last (len_i x))
theorem get_37_Digest (x : api_Vote) : ((enc x).drop 4).take 32 = enc x.Digest := get_skip (len_i _) (get_skip (len_i _) (get_skip (len_i _) (get_skip (len_i _) (get_here (arr_len (n := 32) _)))))
theorem get_37_From (x : api_Vote) : (enc x)[36]? = some (reg x.From) := get_one (get_skip (len_i _) (get_skip (len_i _) (get_skip (len_i _) (get_skip (len_i _) (get_skip (arr_len (n := 32) _) (get_here (len_i _)))))))
theorem get_37_Height (x : api_Vote) : (enc x)[2]? = some (reg x.Height) := get_one (get_skip (len_i _) (get_skip (len_i _) (get_here (len_i _))))
theorem get_37_Kind (x : api_Vote) : (enc x)[0]? = some (reg x.Kind) := get_one (get_here (len_i _))
theorem get_37_Round (x : api_Vote) : (enc x)[3]? = some (reg x.Round) := get_one (get_skip (len_i _) (get_skip (len_i _) (get_skip (len_i _) (get_here (len_i _)))))
theorem get_37_all (x : api_Vote) : ((enc x).drop 0).take 41 = enc x := get_last (len_api_Vote x)
theorem get_4_all (x : Bool) : (enc x)[0]? = some (reg x) := get_one (get_last (len_b x))
theorem get_5_all (x : UInt8) : (enc x)[0]? = some (reg x) := get_one (get_last (len_u8 x))
theorem get_54_Epoch (x : api_Config) : (enc x)[0]? = some (reg x.Epoch) := get_one (get_here (len_i _))
theorem get_54_Members (x : api_Config) : (enc x)[1]? = some (reg x.Members) := get_one (get_skip (len_i _) (get_last (len_sl _)))
theorem get_54_all (x : api_Config) : ((enc x).drop 0).take 2 = enc x := get_last (len_api_Config x)
theorem get_61_config_Members (x : law19_Game) : (enc x)[1]? = some (reg x.config.Members) := get_one (get_sub (n := 2) (M := enc x.config) (get_here (len_api_Config _)) (get_skip (len_i _) (get_last (len_sl _))) rfl)
theorem get_61_config (x : law19_Game) : ((enc x).drop 0).take 2 = enc x.config := get_here (len_api_Config _)
theorem get_61_cores (x : law19_Game) : (enc x)[3]? = some (reg x.cores) := get_one (get_skip (len_api_Config _) (get_skip (len_i _) (get_here (len_sl _))))
theorem get_61_decided (x : law19_Game) : (enc x)[8]? = some (reg x.decided) := get_one (get_skip (len_api_Config _) (get_skip (len_i _) (get_skip (len_sl _) (get_skip (len_sl _) (get_skip (len_sl _) (get_skip (len_sl _) (get_skip (len_sl _) (get_here (len_sl _)))))))))
theorem get_61_height (x : law19_Game) : (enc x)[2]? = some (reg x.height) := get_one (get_skip (len_api_Config _) (get_here (len_i _)))
theorem get_61_made (x : law19_Game) : (enc x)[10]? = some (reg x.made) := get_one (get_skip (len_api_Config _) (get_skip (len_i _) (get_skip (len_sl _) (get_skip (len_sl _) (get_skip (len_sl _) (get_skip (len_sl _) (get_skip (len_sl _) (get_skip (len_sl _) (get_skip (len_sl _) (get_last (len_i _)))))))))))
theorem get_61_order (x : law19_Game) : (enc x)[6]? = some (reg x.order) := get_one (get_skip (len_api_Config _) (get_skip (len_i _) (get_skip (len_sl _) (get_skip (len_sl _) (get_skip (len_sl _) (get_here (len_sl _)))))))
theorem get_61_own (x : law19_Game) : (enc x)[7]? = some (reg x.own) := get_one (get_skip (len_api_Config _) (get_skip (len_i _) (get_skip (len_sl _) (get_skip (len_sl _) (get_skip (len_sl _) (get_skip (len_sl _) (get_here (len_sl _))))))))
theorem get_61_plans (x : law19_Game) : (enc x)[4]? = some (reg x.plans) := get_one (get_skip (len_api_Config _) (get_skip (len_i _) (get_skip (len_sl _) (get_here (len_sl _)))))
theorem get_61_votes (x : law19_Game) : (enc x)[5]? = some (reg x.votes) := get_one (get_skip (len_api_Config _) (get_skip (len_i _) (get_skip (len_sl _) (get_skip (len_sl _) (get_here (len_sl _))))))
theorem get_62_all (x : Pt) : (enc x)[0]? = some (reg x) := get_one (get_last (len_pt x))
theorem get_75_Epoch (x : api_Block) : (enc x)[0]? = some (reg x.Epoch) := get_one (get_here (len_i _))
theorem get_75_Height (x : api_Block) : (enc x)[1]? = some (reg x.Height) := get_one (get_skip (len_i _) (get_here (len_i _)))
theorem get_75_Next (x : api_Block) : ((enc x).drop 66).take 32 = enc x.Next := get_skip (len_i _) (get_skip (len_i _) (get_skip (arr_len (n := 32) _) (get_skip (arr_len (n := 32) _) (get_here (arr_len (n := 32) _)))))
theorem get_75_Prev (x : api_Block) : ((enc x).drop 2).take 32 = enc x.Prev := get_skip (len_i _) (get_skip (len_i _) (get_here (arr_len (n := 32) _)))
theorem get_75_Requests (x : api_Block) : (enc x)[98]? = some (reg x.Requests) := get_one (get_skip (len_i _) (get_skip (len_i _) (get_skip (arr_len (n := 32) _) (get_skip (arr_len (n := 32) _) (get_skip (arr_len (n := 32) _) (get_last (len_sl _)))))))
theorem get_75_State (x : api_Block) : ((enc x).drop 34).take 32 = enc x.State := get_skip (len_i _) (get_skip (len_i _) (get_skip (arr_len (n := 32) _) (get_here (arr_len (n := 32) _))))
theorem get_75_all (x : api_Block) : ((enc x).drop 0).take 99 = enc x := get_last (len_api_Block x)
theorem get_77_Block (x : api_Plan) : ((enc x).drop 4).take 99 = enc x.Block := get_skip (len_i _) (get_skip (len_i _) (get_skip (len_i _) (get_skip (len_i _) (get_here (len_api_Block _)))))
theorem get_77_From (x : api_Plan) : (enc x)[103]? = some (reg x.From) := get_one (get_skip (len_i _) (get_skip (len_i _) (get_skip (len_i _) (get_skip (len_i _) (get_skip (len_api_Block _) (get_here (len_i _)))))))
theorem get_77_Height (x : api_Plan) : (enc x)[1]? = some (reg x.Height) := get_one (get_skip (len_i _) (get_here (len_i _)))
theorem get_77_Round (x : api_Plan) : (enc x)[2]? = some (reg x.Round) := get_one (get_skip (len_i _) (get_skip (len_i _) (get_here (len_i _))))
theorem get_77_Valid (x : api_Plan) : (enc x)[3]? = some (reg x.Valid) := get_one (get_skip (len_i _) (get_skip (len_i _) (get_skip (len_i _) (get_here (len_i _)))))
theorem get_77_all (x : api_Plan) : ((enc x).drop 0).take 108 = enc x := get_last (len_api_Plan x)
theorem get_80_Act (x : api_Act) : (enc x)[0]? = some (reg x.Act) := get_one (get_here (len_i _))
theorem get_80_Block (x : api_Act) : ((enc x).drop 36).take 99 = enc x.Block := get_skip (len_i _) (get_skip (len_i _) (get_skip (len_i _) (get_skip (arr_len (n := 32) _) (get_skip (len_i _) (get_last (len_api_Block _))))))
theorem get_80_Digest (x : api_Act) : ((enc x).drop 3).take 32 = enc x.Digest := get_skip (len_i _) (get_skip (len_i _) (get_skip (len_i _) (get_here (arr_len (n := 32) _))))
theorem get_80_Kind (x : api_Act) : (enc x)[2]? = some (reg x.Kind) := get_one (get_skip (len_i _) (get_skip (len_i _) (get_here (len_i _))))
theorem get_80_Round (x : api_Act) : (enc x)[1]? = some (reg x.Round) := get_one (get_skip (len_i _) (get_here (len_i _)))
theorem get_80_Valid (x : api_Act) : (enc x)[35]? = some (reg x.Valid) := get_one (get_skip (len_i _) (get_skip (len_i _) (get_skip (len_i _) (get_skip (arr_len (n := 32) _) (get_here (len_i _))))))
theorem get_80_all (x : api_Act) : ((enc x).drop 0).take 135 = enc x := get_last (len_api_Act x)
theorem get_9_all (x : ByteArray) : (enc x)[0]? = some (reg x) := get_one (get_last (len_s x))
theorem mt_111 : Prog.underlying 111 = some (.map 115 37) := by kernel_rfl
theorem mt_117 : Prog.underlying 117 = some (.map 3 4) := by kernel_rfl
theorem mt_118 : Prog.underlying 118 = some (.map 3 3) := by kernel_rfl
theorem mt_126 : Prog.underlying 126 = some (.map 128 3) := by kernel_rfl
theorem mt_137 : Prog.underlying 137 = some (.map 3 77) := by kernel_rfl
theorem mt_138 : Prog.underlying 138 = some (.map 24 75) := by kernel_rfl
theorem na_111 : NotAgg Prog 111 := NotAgg.of (by kernel_rfl)
theorem na_130 : NotAgg Prog 130 := NotAgg.of (by kernel_rfl)
theorem na_137 : NotAgg Prog 137 := NotAgg.of (by kernel_rfl)
theorem na_138 : NotAgg Prog 138 := NotAgg.of (by kernel_rfl)
theorem na_185 : NotAgg Prog 185 := NotAgg.of (by kernel_rfl)
theorem na_22 : NotAgg Prog 22 := NotAgg.of (by kernel_rfl)
theorem na_26 : NotAgg Prog 26 := NotAgg.of (by kernel_rfl)
theorem na_3 : NotAgg Prog 3 := NotAgg.of (by kernel_rfl)
theorem na_31 : NotAgg Prog 31 := NotAgg.of (by kernel_rfl)
theorem na_4 : NotAgg Prog 4 := NotAgg.of (by kernel_rfl)
theorem na_5 : NotAgg Prog 5 := NotAgg.of (by kernel_rfl)
theorem na_52 : NotAgg Prog 52 := NotAgg.of (by kernel_rfl)
theorem na_55 : NotAgg Prog 55 := NotAgg.of (by kernel_rfl)
theorem na_56 : NotAgg Prog 56 := NotAgg.of (by kernel_rfl)
theorem na_57 : NotAgg Prog 57 := NotAgg.of (by kernel_rfl)
theorem na_58 : NotAgg Prog 58 := NotAgg.of (by kernel_rfl)
theorem na_62 : NotAgg Prog 62 := NotAgg.of (by kernel_rfl)
theorem na_65 : NotAgg Prog 65 := NotAgg.of (by kernel_rfl)
theorem na_68 : NotAgg Prog 68 := NotAgg.of (by kernel_rfl)
theorem na_73 : NotAgg Prog 73 := NotAgg.of (by kernel_rfl)
theorem na_9 : NotAgg Prog 9 := NotAgg.of (by kernel_rfl)
theorem pl_110 : PlacesT Prog 110 [(0, 1), (1, 33)] := PlacesT.of (by kernel_rfl)
theorem pl_113 : PlacesT Prog 113 [(0, 1)] := PlacesT.of (by kernel_rfl)
theorem pl_115 : PlacesT Prog 115 [(0, 1), (1, 1), (2, 1)] := PlacesT.of (by kernel_rfl)
theorem pl_128 : PlacesT Prog 128 [(0, 1), (1, 32)] := PlacesT.of (by kernel_rfl)
theorem pl_136 : PlacesT Prog 136 [(0, 1), (1, 99)] := PlacesT.of (by kernel_rfl)
theorem pl_140 : PlacesT Prog 140 [(0, 2), (2, 1), (3, 1), (4, 1), (5, 1), (6, 1), (7, 100), (107, 100), (207, 1), (208, 1), (209, 1), (210, 1), (211, 1), (212, 1)] := PlacesT.of (by kernel_rfl)
theorem pl_145 : PlacesT Prog 145 [(0, 1)] := PlacesT.of (by kernel_rfl)
theorem pl_37 : PlacesT Prog 37 [(0, 1), (1, 1), (2, 1), (3, 1), (4, 32), (36, 1), (37, 4)] := PlacesT.of (by kernel_rfl)
theorem pl_54 : PlacesT Prog 54 [(0, 1), (1, 1)] := PlacesT.of (by kernel_rfl)
theorem pl_61 : PlacesT Prog 61 [(0, 2), (2, 1), (3, 1), (4, 1), (5, 1), (6, 1), (7, 1), (8, 1), (9, 1), (10, 1)] := PlacesT.of (by kernel_rfl)
theorem pl_75 : PlacesT Prog 75 [(0, 1), (1, 1), (2, 32), (34, 32), (66, 32), (98, 1)] := PlacesT.of (by kernel_rfl)
theorem pl_77 : PlacesT Prog 77 [(0, 1), (1, 1), (2, 1), (3, 1), (4, 99), (103, 1), (104, 4)] := PlacesT.of (by kernel_rfl)
theorem pl_80 : PlacesT Prog 80 [(0, 1), (1, 1), (2, 1), (3, 32), (35, 1), (36, 99)] := PlacesT.of (by kernel_rfl)
theorem pt_143 : PtT Prog 143 := ⟨145, by kernel_rfl⟩
theorem pt_26 : PtT Prog 26 := ⟨113, by kernel_rfl⟩
theorem pt_62 : PtT Prog 62 := ⟨140, by kernel_rfl⟩
theorem set_110_Id (x : api_Member) (v : Int) : (enc x).take 0 ++ enc v ++ (enc x).drop (0 + (enc v).length) = enc ({ x with Id := v } : api_Member) := set_here (((len_i _)).trans ((len_i _)).symm)
theorem set_110_all (x : api_Member) (v : api_Member) : (enc x).take 0 ++ enc v ++ (enc x).drop (0 + (enc v).length) = enc v := set_last (((len_api_Member _)).trans ((len_api_Member _)).symm)
theorem set_113_votes (x : vote_Box) (v : Mp) : (enc x).take 0 ++ enc v ++ (enc x).drop (0 + (enc v).length) = enc ({ x with votes := v } : vote_Box) := set_last (((len_mp _)).trans ((len_mp _)).symm)
theorem set_115_from (x : vote_place) (v : Int) : (enc x).take 2 ++ enc v ++ (enc x).drop (2 + (enc v).length) = enc ({ x with from_ := v } : vote_place) := set_skip (len_i _) (set_skip (len_i _) (set_last (((len_i _)).trans ((len_i _)).symm)))
theorem set_115_kind (x : vote_place) (v : Int) : (enc x).take 0 ++ enc v ++ (enc x).drop (0 + (enc v).length) = enc ({ x with kind := v } : vote_place) := set_here (((len_i _)).trans ((len_i _)).symm)
theorem set_115_round (x : vote_place) (v : Int) : (enc x).take 1 ++ enc v ++ (enc x).drop (1 + (enc v).length) = enc ({ x with round := v } : vote_place) := set_skip (len_i _) (set_here (((len_i _)).trans ((len_i _)).symm))
theorem set_115_all (x : vote_place) (v : vote_place) : (enc x).take 0 ++ enc v ++ (enc x).drop (0 + (enc v).length) = enc v := set_last (((len_vote_place _)).trans ((len_vote_place _)).symm)
theorem set_128_digest (x : vote_choice) (v : Arr 32 UInt8) : (enc x).take 1 ++ enc v ++ (enc x).drop (1 + (enc v).length) = enc ({ x with digest := v } : vote_choice) := set_skip (len_i _) (set_last (((arr_len (n := 32) _)).trans ((arr_len (n := 32) _)).symm))
theorem set_128_round (x : vote_choice) (v : Int) : (enc x).take 0 ++ enc v ++ (enc x).drop (0 + (enc v).length) = enc ({ x with round := v } : vote_choice) := set_here (((len_i _)).trans ((len_i _)).symm)
theorem set_128_all (x : vote_choice) (v : vote_choice) : (enc x).take 0 ++ enc v ++ (enc x).drop (0 + (enc v).length) = enc v := set_last (((len_vote_choice _)).trans ((len_vote_choice _)).symm)
theorem set_136_block (x : round_mark) (v : api_Block) : (enc x).take 1 ++ enc v ++ (enc x).drop (1 + (enc v).length) = enc ({ x with block := v } : round_mark) := set_skip (len_i _) (set_last (((len_api_Block _)).trans ((len_api_Block _)).symm))
theorem set_136_round (x : round_mark) (v : Int) : (enc x).take 0 ++ enc v ++ (enc x).drop (0 + (enc v).length) = enc ({ x with round := v } : round_mark) := set_here (((len_i _)).trans ((len_i _)).symm)
theorem set_140_at (x : round_Core) (v : Cx) : (enc x).take 4 ++ enc v ++ (enc x).drop (4 + (enc v).length) = enc ({ x with at_ := v } : round_Core) := set_skip (len_api_Config _) (set_skip (len_i _) (set_skip (len_i _) (set_here (((len_cx _)).trans ((len_cx _)).symm))))
theorem set_140_base (x : round_Core) (v : Int) : (enc x).take 3 ++ enc v ++ (enc x).drop (3 + (enc v).length) = enc ({ x with base := v } : round_Core) := set_skip (len_api_Config _) (set_skip (len_i _) (set_here (((len_i _)).trans ((len_i _)).symm)))
theorem set_140_blocks (x : round_Core) (v : Mp) : (enc x).take 208 ++ enc v ++ (enc x).drop (208 + (enc v).length) = enc ({ x with blocks := v } : round_Core) := set_skip (len_api_Config _) (set_skip (len_i _) (set_skip (len_i _) (set_skip (len_cx _) (set_skip (len_i _) (set_skip (len_i _) (set_skip (len_round_mark _) (set_skip (len_round_mark _) (set_skip (len_mp _) (set_here (((len_mp _)).trans ((len_mp _)).symm))))))))))
theorem set_140_box (x : round_Core) (v : Pt) : (enc x).take 209 ++ enc v ++ (enc x).drop (209 + (enc v).length) = enc ({ x with box := v } : round_Core) := set_skip (len_api_Config _) (set_skip (len_i _) (set_skip (len_i _) (set_skip (len_cx _) (set_skip (len_i _) (set_skip (len_i _) (set_skip (len_round_mark _) (set_skip (len_round_mark _) (set_skip (len_mp _) (set_skip (len_mp _) (set_here (((len_pt _)).trans ((len_pt _)).symm)))))))))))
theorem set_140_config (x : round_Core) (v : api_Config) : (enc x).take 0 ++ enc v ++ (enc x).drop (0 + (enc v).length) = enc ({ x with config := v } : round_Core) := set_here (((len_api_Config _)).trans ((len_api_Config _)).symm)
theorem set_140_decided (x : round_Core) (v : Bool) : (enc x).take 211 ++ enc v ++ (enc x).drop (211 + (enc v).length) = enc ({ x with decided := v } : round_Core) := set_skip (len_api_Config _) (set_skip (len_i _) (set_skip (len_i _) (set_skip (len_cx _) (set_skip (len_i _) (set_skip (len_i _) (set_skip (len_round_mark _) (set_skip (len_round_mark _) (set_skip (len_mp _) (set_skip (len_mp _) (set_skip (len_pt _) (set_skip (len_b _) (set_here (((len_b _)).trans ((len_b _)).symm)))))))))))))
theorem set_140_fresh (x : round_Core) (v : Bool) : (enc x).take 210 ++ enc v ++ (enc x).drop (210 + (enc v).length) = enc ({ x with fresh := v } : round_Core) := set_skip (len_api_Config _) (set_skip (len_i _) (set_skip (len_i _) (set_skip (len_cx _) (set_skip (len_i _) (set_skip (len_i _) (set_skip (len_round_mark _) (set_skip (len_round_mark _) (set_skip (len_mp _) (set_skip (len_mp _) (set_skip (len_pt _) (set_here (((len_b _)).trans ((len_b _)).symm))))))))))))
theorem set_140_locked (x : round_Core) (v : round_mark) : (enc x).take 7 ++ enc v ++ (enc x).drop (7 + (enc v).length) = enc ({ x with locked := v } : round_Core) := set_skip (len_api_Config _) (set_skip (len_i _) (set_skip (len_i _) (set_skip (len_cx _) (set_skip (len_i _) (set_skip (len_i _) (set_here (((len_round_mark _)).trans ((len_round_mark _)).symm)))))))
theorem set_140_me (x : round_Core) (v : Int) : (enc x).take 2 ++ enc v ++ (enc x).drop (2 + (enc v).length) = enc ({ x with me := v } : round_Core) := set_skip (len_api_Config _) (set_here (((len_i _)).trans ((len_i _)).symm))
theorem set_140_out (x : round_Core) (v : Sl) : (enc x).take 212 ++ enc v ++ (enc x).drop (212 + (enc v).length) = enc ({ x with out := v } : round_Core) := set_skip (len_api_Config _) (set_skip (len_i _) (set_skip (len_i _) (set_skip (len_cx _) (set_skip (len_i _) (set_skip (len_i _) (set_skip (len_round_mark _) (set_skip (len_round_mark _) (set_skip (len_mp _) (set_skip (len_mp _) (set_skip (len_pt _) (set_skip (len_b _) (set_skip (len_b _) (set_last (((len_sl _)).trans ((len_sl _)).symm))))))))))))))
theorem set_140_plans (x : round_Core) (v : Mp) : (enc x).take 207 ++ enc v ++ (enc x).drop (207 + (enc v).length) = enc ({ x with plans := v } : round_Core) := set_skip (len_api_Config _) (set_skip (len_i _) (set_skip (len_i _) (set_skip (len_cx _) (set_skip (len_i _) (set_skip (len_i _) (set_skip (len_round_mark _) (set_skip (len_round_mark _) (set_here (((len_mp _)).trans ((len_mp _)).symm)))))))))
theorem set_140_step (x : round_Core) (v : Int) : (enc x).take 5 ++ enc v ++ (enc x).drop (5 + (enc v).length) = enc ({ x with step := v } : round_Core) := set_skip (len_api_Config _) (set_skip (len_i _) (set_skip (len_i _) (set_skip (len_cx _) (set_here (((len_i _)).trans ((len_i _)).symm)))))
theorem set_140_ticks (x : round_Core) (v : Int) : (enc x).take 6 ++ enc v ++ (enc x).drop (6 + (enc v).length) = enc ({ x with ticks := v } : round_Core) := set_skip (len_api_Config _) (set_skip (len_i _) (set_skip (len_i _) (set_skip (len_cx _) (set_skip (len_i _) (set_here (((len_i _)).trans ((len_i _)).symm))))))
theorem set_140_valid (x : round_Core) (v : round_mark) : (enc x).take 107 ++ enc v ++ (enc x).drop (107 + (enc v).length) = enc ({ x with valid := v } : round_Core) := set_skip (len_api_Config _) (set_skip (len_i _) (set_skip (len_i _) (set_skip (len_cx _) (set_skip (len_i _) (set_skip (len_i _) (set_skip (len_round_mark _) (set_here (((len_round_mark _)).trans ((len_round_mark _)).symm))))))))
theorem set_145_b (x : code_Writer) (v : Sl) : (enc x).take 0 ++ enc v ++ (enc x).drop (0 + (enc v).length) = enc ({ x with b := v } : code_Writer) := set_last (((len_sl _)).trans ((len_sl _)).symm)
theorem set_178_all (x : api_Change) (v : api_Change) : (enc x).take 0 ++ enc v ++ (enc x).drop (0 + (enc v).length) = enc v := set_last (((len_api_Change _)).trans ((len_api_Change _)).symm)
theorem set_182_all (x : api_Request) (v : api_Request) : (enc x).take 0 ++ enc v ++ (enc x).drop (0 + (enc v).length) = enc v := set_last (((len_api_Request _)).trans ((len_api_Request _)).symm)
theorem set_187_all (x : Arr 8 UInt32) (v : Arr 8 UInt32) : (enc x).take 0 ++ enc v ++ (enc x).drop (0 + (enc v).length) = enc v := set_last (((arr_len (n := 8) _)).trans ((arr_len (n := 8) _)).symm)
theorem set_22_all (x : Sl) (v : Sl) : (enc x).take 0 ++ enc v ++ (enc x).drop (0 + (enc v).length) = enc v := set_last (((len_sl _)).trans ((len_sl _)).symm)
theorem set_24_all (x : Arr 32 UInt8) (v : Arr 32 UInt8) : (enc x).take 0 ++ enc v ++ (enc x).drop (0 + (enc v).length) = enc v := set_last (((arr_len (n := 32) _)).trans ((arr_len (n := 32) _)).symm)
theorem set_37_Digest (x : api_Vote) (v : Arr 32 UInt8) : (enc x).take 4 ++ enc v ++ (enc x).drop (4 + (enc v).length) = enc ({ x with Digest := v } : api_Vote) := set_skip (len_i _) (set_skip (len_i _) (set_skip (len_i _) (set_skip (len_i _) (set_here (((arr_len (n := 32) _)).trans ((arr_len (n := 32) _)).symm)))))
theorem set_37_From (x : api_Vote) (v : Int) : (enc x).take 36 ++ enc v ++ (enc x).drop (36 + (enc v).length) = enc ({ x with From := v } : api_Vote) := set_skip (len_i _) (set_skip (len_i _) (set_skip (len_i _) (set_skip (len_i _) (set_skip (arr_len (n := 32) _) (set_here (((len_i _)).trans ((len_i _)).symm))))))
theorem set_37_Height (x : api_Vote) (v : Int) : (enc x).take 2 ++ enc v ++ (enc x).drop (2 + (enc v).length) = enc ({ x with Height := v } : api_Vote) := set_skip (len_i _) (set_skip (len_i _) (set_here (((len_i _)).trans ((len_i _)).symm)))
theorem set_37_Kind (x : api_Vote) (v : Int) : (enc x).take 0 ++ enc v ++ (enc x).drop (0 + (enc v).length) = enc ({ x with Kind := v } : api_Vote) := set_here (((len_i _)).trans ((len_i _)).symm)
theorem set_37_Round (x : api_Vote) (v : Int) : (enc x).take 3 ++ enc v ++ (enc x).drop (3 + (enc v).length) = enc ({ x with Round := v } : api_Vote) := set_skip (len_i _) (set_skip (len_i _) (set_skip (len_i _) (set_here (((len_i _)).trans ((len_i _)).symm))))
theorem set_37_all (x : api_Vote) (v : api_Vote) : (enc x).take 0 ++ enc v ++ (enc x).drop (0 + (enc v).length) = enc v := set_last (((len_api_Vote _)).trans ((len_api_Vote _)).symm)
theorem set_54_Members (x : api_Config) (v : Sl) : (enc x).take 1 ++ enc v ++ (enc x).drop (1 + (enc v).length) = enc ({ x with Members := v } : api_Config) := set_skip (len_i _) (set_last (((len_sl _)).trans ((len_sl _)).symm))
theorem set_61_config_Members (x : law19_Game) (v : Sl) : (enc x).take 1 ++ enc v ++ (enc x).drop (1 + (enc v).length) = enc ({ x with config.Members := v } : law19_Game) := set_nest (n := 2) (M := enc x.config) (M' := enc ({ x.config with Members := v } : api_Config)) (get_here (len_api_Config _)) (set_skip (len_i _) (set_last (((len_sl _)).trans ((len_sl _)).symm))) (set_here (((len_api_Config _)).trans ((len_api_Config _)).symm)) (len_api_Config _) rfl
theorem set_61_cores (x : law19_Game) (v : Sl) : (enc x).take 3 ++ enc v ++ (enc x).drop (3 + (enc v).length) = enc ({ x with cores := v } : law19_Game) := set_skip (len_api_Config _) (set_skip (len_i _) (set_here (((len_sl _)).trans ((len_sl _)).symm)))
theorem set_61_decided (x : law19_Game) (v : Sl) : (enc x).take 8 ++ enc v ++ (enc x).drop (8 + (enc v).length) = enc ({ x with decided := v } : law19_Game) := set_skip (len_api_Config _) (set_skip (len_i _) (set_skip (len_sl _) (set_skip (len_sl _) (set_skip (len_sl _) (set_skip (len_sl _) (set_skip (len_sl _) (set_here (((len_sl _)).trans ((len_sl _)).symm))))))))
theorem set_61_height (x : law19_Game) (v : Int) : (enc x).take 2 ++ enc v ++ (enc x).drop (2 + (enc v).length) = enc ({ x with height := v } : law19_Game) := set_skip (len_api_Config _) (set_here (((len_i _)).trans ((len_i _)).symm))
theorem set_61_made (x : law19_Game) (v : Int) : (enc x).take 10 ++ enc v ++ (enc x).drop (10 + (enc v).length) = enc ({ x with made := v } : law19_Game) := set_skip (len_api_Config _) (set_skip (len_i _) (set_skip (len_sl _) (set_skip (len_sl _) (set_skip (len_sl _) (set_skip (len_sl _) (set_skip (len_sl _) (set_skip (len_sl _) (set_skip (len_sl _) (set_last (((len_i _)).trans ((len_i _)).symm))))))))))
theorem set_61_order (x : law19_Game) (v : Sl) : (enc x).take 6 ++ enc v ++ (enc x).drop (6 + (enc v).length) = enc ({ x with order := v } : law19_Game) := set_skip (len_api_Config _) (set_skip (len_i _) (set_skip (len_sl _) (set_skip (len_sl _) (set_skip (len_sl _) (set_here (((len_sl _)).trans ((len_sl _)).symm))))))
theorem set_61_own (x : law19_Game) (v : Sl) : (enc x).take 7 ++ enc v ++ (enc x).drop (7 + (enc v).length) = enc ({ x with own := v } : law19_Game) := set_skip (len_api_Config _) (set_skip (len_i _) (set_skip (len_sl _) (set_skip (len_sl _) (set_skip (len_sl _) (set_skip (len_sl _) (set_here (((len_sl _)).trans ((len_sl _)).symm)))))))
theorem set_61_plans (x : law19_Game) (v : Sl) : (enc x).take 4 ++ enc v ++ (enc x).drop (4 + (enc v).length) = enc ({ x with plans := v } : law19_Game) := set_skip (len_api_Config _) (set_skip (len_i _) (set_skip (len_sl _) (set_here (((len_sl _)).trans ((len_sl _)).symm))))
theorem set_61_votes (x : law19_Game) (v : Sl) : (enc x).take 5 ++ enc v ++ (enc x).drop (5 + (enc v).length) = enc ({ x with votes := v } : law19_Game) := set_skip (len_api_Config _) (set_skip (len_i _) (set_skip (len_sl _) (set_skip (len_sl _) (set_here (((len_sl _)).trans ((len_sl _)).symm)))))
theorem set_75_Height (x : api_Block) (v : Int) : (enc x).take 1 ++ enc v ++ (enc x).drop (1 + (enc v).length) = enc ({ x with Height := v } : api_Block) := set_skip (len_i _) (set_here (((len_i _)).trans ((len_i _)).symm))
theorem set_75_Prev (x : api_Block) (v : Arr 32 UInt8) : (enc x).take 2 ++ enc v ++ (enc x).drop (2 + (enc v).length) = enc ({ x with Prev := v } : api_Block) := set_skip (len_i _) (set_skip (len_i _) (set_here (((arr_len (n := 32) _)).trans ((arr_len (n := 32) _)).symm)))
theorem set_75_Requests (x : api_Block) (v : Sl) : (enc x).take 98 ++ enc v ++ (enc x).drop (98 + (enc v).length) = enc ({ x with Requests := v } : api_Block) := set_skip (len_i _) (set_skip (len_i _) (set_skip (arr_len (n := 32) _) (set_skip (arr_len (n := 32) _) (set_skip (arr_len (n := 32) _) (set_last (((len_sl _)).trans ((len_sl _)).symm))))))
theorem set_75_all (x : api_Block) (v : api_Block) : (enc x).take 0 ++ enc v ++ (enc x).drop (0 + (enc v).length) = enc v := set_last (((len_api_Block _)).trans ((len_api_Block _)).symm)
theorem set_77_Block (x : api_Plan) (v : api_Block) : (enc x).take 4 ++ enc v ++ (enc x).drop (4 + (enc v).length) = enc ({ x with Block := v } : api_Plan) := set_skip (len_i _) (set_skip (len_i _) (set_skip (len_i _) (set_skip (len_i _) (set_here (((len_api_Block _)).trans ((len_api_Block _)).symm)))))
theorem set_77_From (x : api_Plan) (v : Int) : (enc x).take 103 ++ enc v ++ (enc x).drop (103 + (enc v).length) = enc ({ x with From := v } : api_Plan) := set_skip (len_i _) (set_skip (len_i _) (set_skip (len_i _) (set_skip (len_i _) (set_skip (len_api_Block _) (set_here (((len_i _)).trans ((len_i _)).symm))))))
theorem set_77_Height (x : api_Plan) (v : Int) : (enc x).take 1 ++ enc v ++ (enc x).drop (1 + (enc v).length) = enc ({ x with Height := v } : api_Plan) := set_skip (len_i _) (set_here (((len_i _)).trans ((len_i _)).symm))
theorem set_77_Round (x : api_Plan) (v : Int) : (enc x).take 2 ++ enc v ++ (enc x).drop (2 + (enc v).length) = enc ({ x with Round := v } : api_Plan) := set_skip (len_i _) (set_skip (len_i _) (set_here (((len_i _)).trans ((len_i _)).symm)))
theorem set_77_Valid (x : api_Plan) (v : Int) : (enc x).take 3 ++ enc v ++ (enc x).drop (3 + (enc v).length) = enc ({ x with Valid := v } : api_Plan) := set_skip (len_i _) (set_skip (len_i _) (set_skip (len_i _) (set_here (((len_i _)).trans ((len_i _)).symm))))
theorem set_77_all (x : api_Plan) (v : api_Plan) : (enc x).take 0 ++ enc v ++ (enc x).drop (0 + (enc v).length) = enc v := set_last (((len_api_Plan _)).trans ((len_api_Plan _)).symm)
theorem set_80_Act (x : api_Act) (v : Int) : (enc x).take 0 ++ enc v ++ (enc x).drop (0 + (enc v).length) = enc ({ x with Act := v } : api_Act) := set_here (((len_i _)).trans ((len_i _)).symm)
theorem set_80_Block (x : api_Act) (v : api_Block) : (enc x).take 36 ++ enc v ++ (enc x).drop (36 + (enc v).length) = enc ({ x with Block := v } : api_Act) := set_skip (len_i _) (set_skip (len_i _) (set_skip (len_i _) (set_skip (arr_len (n := 32) _) (set_skip (len_i _) (set_last (((len_api_Block _)).trans ((len_api_Block _)).symm))))))
theorem set_80_Digest (x : api_Act) (v : Arr 32 UInt8) : (enc x).take 3 ++ enc v ++ (enc x).drop (3 + (enc v).length) = enc ({ x with Digest := v } : api_Act) := set_skip (len_i _) (set_skip (len_i _) (set_skip (len_i _) (set_here (((arr_len (n := 32) _)).trans ((arr_len (n := 32) _)).symm))))
theorem set_80_Kind (x : api_Act) (v : Int) : (enc x).take 2 ++ enc v ++ (enc x).drop (2 + (enc v).length) = enc ({ x with Kind := v } : api_Act) := set_skip (len_i _) (set_skip (len_i _) (set_here (((len_i _)).trans ((len_i _)).symm)))
theorem set_80_Round (x : api_Act) (v : Int) : (enc x).take 1 ++ enc v ++ (enc x).drop (1 + (enc v).length) = enc ({ x with Round := v } : api_Act) := set_skip (len_i _) (set_here (((len_i _)).trans ((len_i _)).symm))
theorem set_80_Valid (x : api_Act) (v : Int) : (enc x).take 35 ++ enc v ++ (enc x).drop (35 + (enc v).length) = enc ({ x with Valid := v } : api_Act) := set_skip (len_i _) (set_skip (len_i _) (set_skip (len_i _) (set_skip (arr_len (n := 32) _) (set_here (((len_i _)).trans ((len_i _)).symm)))))
theorem set_80_all (x : api_Act) (v : api_Act) : (enc x).take 0 ++ enc v ++ (enc x).drop (0 + (enc v).length) = enc v := set_last (((len_api_Act _)).trans ((len_api_Act _)).symm)
theorem sl_130 : SlT Prog 130 5 1 := ⟨by kernel_rfl, SizeOf.of (by kernel_rfl)⟩
theorem sl_184 : SlT Prog 184 130 1 := ⟨by kernel_rfl, SizeOf.of (by kernel_rfl)⟩
theorem sl_22 : SlT Prog 22 37 41 := ⟨by kernel_rfl, SizeOf.of (by kernel_rfl)⟩
theorem sl_231 : SlT Prog 231 9 1 := ⟨by kernel_rfl, SizeOf.of (by kernel_rfl)⟩
theorem sl_31 : SlT Prog 31 24 32 := ⟨by kernel_rfl, SizeOf.of (by kernel_rfl)⟩
theorem sl_49 : SlT Prog 49 3 1 := ⟨by kernel_rfl, SizeOf.of (by kernel_rfl)⟩
theorem sl_52 : SlT Prog 52 110 34 := ⟨by kernel_rfl, SizeOf.of (by kernel_rfl)⟩
theorem sl_55 : SlT Prog 55 62 1 := ⟨by kernel_rfl, SizeOf.of (by kernel_rfl)⟩
theorem sl_56 : SlT Prog 56 77 108 := ⟨by kernel_rfl, SizeOf.of (by kernel_rfl)⟩
theorem sl_57 : SlT Prog 57 4 1 := ⟨by kernel_rfl, SizeOf.of (by kernel_rfl)⟩
theorem sl_58 : SlT Prog 58 22 1 := ⟨by kernel_rfl, SizeOf.of (by kernel_rfl)⟩
theorem sl_68 : SlT Prog 68 80 135 := ⟨by kernel_rfl, SizeOf.of (by kernel_rfl)⟩
theorem sl_73 : SlT Prog 73 182 42 := ⟨by kernel_rfl, SizeOf.of (by kernel_rfl)⟩
theorem sz_110 : SizeOf Prog 110 34 := SizeOf.of (by kernel_rfl)
theorem sz_115 : SizeOf Prog 115 3 := SizeOf.of (by kernel_rfl)
theorem sz_128 : SizeOf Prog 128 33 := SizeOf.of (by kernel_rfl)
theorem sz_130 : SizeOf Prog 130 1 := SizeOf.of (by kernel_rfl)
theorem sz_136 : SizeOf Prog 136 100 := SizeOf.of (by kernel_rfl)
theorem sz_178 : SizeOf Prog 178 36 := SizeOf.of (by kernel_rfl)
theorem sz_182 : SizeOf Prog 182 42 := SizeOf.of (by kernel_rfl)
theorem sz_185 : SizeOf Prog 185 1 := SizeOf.of (by kernel_rfl)
theorem sz_187 : SizeOf Prog 187 8 := SizeOf.of (by kernel_rfl)
theorem sz_22 : SizeOf Prog 22 1 := SizeOf.of (by kernel_rfl)
theorem sz_24 : SizeOf Prog 24 32 := SizeOf.of (by kernel_rfl)
theorem sz_3 : SizeOf Prog 3 1 := SizeOf.of (by kernel_rfl)
theorem sz_31 : SizeOf Prog 31 1 := SizeOf.of (by kernel_rfl)
theorem sz_37 : SizeOf Prog 37 41 := SizeOf.of (by kernel_rfl)
theorem sz_4 : SizeOf Prog 4 1 := SizeOf.of (by kernel_rfl)
theorem sz_5 : SizeOf Prog 5 1 := SizeOf.of (by kernel_rfl)
theorem sz_52 : SizeOf Prog 52 1 := SizeOf.of (by kernel_rfl)
theorem sz_55 : SizeOf Prog 55 1 := SizeOf.of (by kernel_rfl)
theorem sz_56 : SizeOf Prog 56 1 := SizeOf.of (by kernel_rfl)
theorem sz_57 : SizeOf Prog 57 1 := SizeOf.of (by kernel_rfl)
theorem sz_58 : SizeOf Prog 58 1 := SizeOf.of (by kernel_rfl)
theorem sz_65 : SizeOf Prog 65 1 := SizeOf.of (by kernel_rfl)
theorem sz_68 : SizeOf Prog 68 1 := SizeOf.of (by kernel_rfl)
theorem sz_73 : SizeOf Prog 73 1 := SizeOf.of (by kernel_rfl)
theorem sz_75 : SizeOf Prog 75 99 := SizeOf.of (by kernel_rfl)
theorem sz_77 : SizeOf Prog 77 108 := SizeOf.of (by kernel_rfl)
theorem sz_80 : SizeOf Prog 80 135 := SizeOf.of (by kernel_rfl)
theorem un_141 : Prog.underlying 141 = some (.float .f64) := by kernel_rfl
theorem un_185 : Prog.underlying 185 = some (.int .u32) := by kernel_rfl
theorem un_190 : Prog.underlying 190 = some (.int .u64) := by kernel_rfl
theorem un_3 : Prog.underlying 3 = some (.int .i64) := by kernel_rfl
theorem un_5 : Prog.underlying 5 = some (.int .u8) := by kernel_rfl
theorem un_71 : Prog.underlying 71 = some (.int .u64) := by kernel_rfl
theorem un_9 : Prog.underlying 9 = some (.string) := by kernel_rfl
theorem zo_110 : ZeroOf Prog 110 (enc (api_Member.zero : api_Member)) := ZeroOf.of (by kernel_rfl)
theorem zo_113 : ZeroOf Prog 113 (enc (vote_Box.zero : vote_Box)) := ZeroOf.of (by kernel_rfl)
theorem zo_115 : ZeroOf Prog 115 (enc (vote_place.zero : vote_place)) := ZeroOf.of (by kernel_rfl)
theorem zo_128 : ZeroOf Prog 128 (enc (vote_choice.zero : vote_choice)) := ZeroOf.of (by kernel_rfl)
theorem zo_130 : ZeroOf Prog 130 (enc (Sl.nil : Sl)) := ZeroOf.of (by kernel_rfl)
theorem zo_136 : ZeroOf Prog 136 (enc (round_mark.zero : round_mark)) := ZeroOf.of (by kernel_rfl)
theorem zo_140 : ZeroOf Prog 140 (enc (round_Core.zero : round_Core)) := ZeroOf.of (by kernel_rfl)
theorem zo_145 : ZeroOf Prog 145 (enc (code_Writer.zero : code_Writer)) := ZeroOf.of (by kernel_rfl)
theorem zo_178 : ZeroOf Prog 178 (enc (api_Change.zero : api_Change)) := ZeroOf.of (by kernel_rfl)
theorem zo_182 : ZeroOf Prog 182 (enc (api_Request.zero : api_Request)) := ZeroOf.of (by kernel_rfl)
theorem zo_186 : ZeroOf Prog 186 (enc ((fun _ => 0) : Arr 8 UInt32)) := ZeroOf.of (by kernel_rfl)
theorem zo_187 : ZeroOf Prog 187 (enc ((fun _ => 0) : Arr 8 UInt32)) := ZeroOf.of (by kernel_rfl)
theorem zo_188 : ZeroOf Prog 188 (enc ((fun _ => 0) : Arr 64 UInt8)) := ZeroOf.of (by kernel_rfl)
theorem zo_215 : ZeroOf Prog 215 (enc ((fun _ => 0) : Arr 64 UInt32)) := ZeroOf.of (by kernel_rfl)
theorem zo_22 : ZeroOf Prog 22 (enc (Sl.nil : Sl)) := ZeroOf.of (by kernel_rfl)
theorem zo_24 : ZeroOf Prog 24 (enc ((fun _ => 0) : Arr 32 UInt8)) := ZeroOf.of (by kernel_rfl)
theorem zo_3 : ZeroOf Prog 3 (enc (0 : Int)) := ZeroOf.of (by kernel_rfl)
theorem zo_37 : ZeroOf Prog 37 (enc (api_Vote.zero : api_Vote)) := ZeroOf.of (by kernel_rfl)
theorem zo_4 : ZeroOf Prog 4 (enc (false : Bool)) := ZeroOf.of (by kernel_rfl)
theorem zo_5 : ZeroOf Prog 5 (enc (0 : UInt8)) := ZeroOf.of (by kernel_rfl)
theorem zo_54 : ZeroOf Prog 54 (enc (api_Config.zero : api_Config)) := ZeroOf.of (by kernel_rfl)
theorem zo_61 : ZeroOf Prog 61 (enc (law19_Game.zero : law19_Game)) := ZeroOf.of (by kernel_rfl)
theorem zo_62 : ZeroOf Prog 62 (enc (none : Pt)) := ZeroOf.of (by kernel_rfl)
theorem zo_75 : ZeroOf Prog 75 (enc (api_Block.zero : api_Block)) := ZeroOf.of (by kernel_rfl)
theorem zo_77 : ZeroOf Prog 77 (enc (api_Plan.zero : api_Plan)) := ZeroOf.of (by kernel_rfl)
theorem zo_80 : ZeroOf Prog 80 (enc (api_Act.zero : api_Act)) := ZeroOf.of (by kernel_rfl)
theorem zo_9 : ZeroOf Prog 9 (enc (.empty : ByteArray)) := ZeroOf.of (by kernel_rfl)
theorem zv_3 : ZeroV Prog 3 (reg (0 : Int)) := ZeroV.of (by kernel_rfl)
theorem zv_37 : ZeroV Prog 37 (reg (api_Vote.zero : api_Vote)) := ZeroV.of (by kernel_rfl)
theorem zv_75 : ZeroV Prog 75 (reg (api_Block.zero : api_Block)) := ZeroV.of (by kernel_rfl)
theorem zv_77 : ZeroV Prog 77 (reg (api_Plan.zero : api_Plan)) := ZeroV.of (by kernel_rfl)
end Go.Proofs.YtimmoekliphobaaDoor
namespace Go.Sh
open Go
open Go.Sh.Ty (reg)
/-! the same rules, in fewer words -/
class NP (C : Ctx) (Q : Exit → Act → World → Prop) : Prop where
  np : NoPanic C Q
instance {P : Program} {w0 : World} {n : Nat} {fn : Func} {R : Value → H → Prop} : NP ⟨P, w0, n⟩ (bodyPost P fn (RetOk w0 R)) := ⟨.body⟩
instance {C : Ctx} {Q : Exit → Act → World → Prop} {K : Act → World → Prop} [hq : NP C Q] : NP C (Exit.then K Q) := ⟨.then_ hq.np⟩
instance {C : Ctx} {Q : Exit → Act → World → Prop} {id : Nat} [hq : NP C Q] : NP C (Exit.inBlock id Q) := ⟨.block hq.np⟩
theorem cb {a b : Bool} (h : a = b) : Value.bool a = Value.bool b := congrArg Value.bool h
section
variable {C : Ctx} {ops : Array Oper} {Q : Exit → Act → World → Prop} {J : Env → H → Prop} {ρ : Env} {h : H} {os : List Oper} {o : Op} {ty : TypeId} {dst : Option Tmp} {pos : String} {after : Array Edge} {R : List Nat} {T : Nat → H → Prop} {fuel : Nat} {listed : Array Bool} {v : Value}
theorem AW.P (i : Nat) (hi : ops[i]? = some ⟨dst, o, ty, pos, after, none⟩) (hy : ∀ {h'}, OpVal C o ty ρ h' v) (hh : AW C ops Q R T fuel (listed.setIfInBounds i true) (upo ρ dst v) h) [hQ : NP C Q] (hk : takeOk ops R listed C.n i dst = true := by kernel_rfl) :
    AW C ops Q R T (fuel + 1) listed ρ h := .p i hi hk hQ.np (fun _ => hy) hh
theorem AW.K (i : Nat) (S : H → Prop) (hi : ops[i]? = some ⟨dst, o, ty, pos, after, none⟩) (hs : S h) (hy : ∀ h', S h' → OpVal C o ty ρ h' v) (hh : AW C ops Q R (fun j h' => T j h' ∧ (reachB ops ops.size i j = true ∨ S h')) fuel (listed.setIfInBounds i true) (upo ρ dst v) h) [hQ : NP C Q] (hk : takeOk ops R listed C.n i dst = true := by kernel_rfl) :
    AW C ops Q R T (fuel + 1) listed ρ h := .r i S hi hk hQ.np hs hy hh
theorem AW.N (i : Nat) {g : Nat × Bool} (t : Nat) (hi : ops[i]? = some ⟨dst, o, ty, pos, after, some g⟩) (hg : ρ t = .bool (!g.2)) (hh : AW C ops Q R T fuel (listed.setIfInBounds i true) (upo ρ dst undef) h) [hQ : NP C Q]
    (ht : (ops[g.1]?).bind (·.dst) = some t := by rfl) (htn : Nat.blt t C.n = true := by rfl) (hk : takeOk ops R listed C.n i dst = true := by kernel_rfl) : AW C ops Q R T (fuel + 1) listed ρ h := .no' i t hi ht hg htn hk hQ.np hh
theorem AW.Y (i : Nat) {g : Nat × Bool} (t : Nat) (hi : ops[i]? = some ⟨dst, o, ty, pos, after, some g⟩) (hg : ρ t = .bool g.2) (hy : ∀ {h'}, OpVal C o ty ρ h' v) (hh : AW C ops Q R T fuel (listed.setIfInBounds i true) (upo ρ dst v) h) [hQ : NP C Q]
    (ht : (ops[g.1]?).bind (·.dst) = some t := by rfl) (htn : Nat.blt t C.n = true := by rfl) (hk : takeOk ops R listed C.n i dst = true := by kernel_rfl) : AW C ops Q R T (fuel + 1) listed ρ h := .yp i t hi ht hg htn hk hQ.np (fun _ => hy) hh
theorem AW.YK (i : Nat) {g : Nat × Bool} (t : Nat) (S : H → Prop) (hi : ops[i]? = some ⟨dst, o, ty, pos, after, some g⟩) (hg : ρ t = .bool g.2) (hs : S h) (hy : ∀ h', S h' → OpVal C o ty ρ h' v)
    (hh : AW C ops Q R (fun j h' => T j h' ∧ (reachB ops ops.size i j = true ∨ S h')) fuel (listed.setIfInBounds i true) (upo ρ dst v) h) [hQ : NP C Q]
    (ht : (ops[g.1]?).bind (·.dst) = some t := by rfl) (htn : Nat.blt t C.n = true := by rfl) (hk : takeOk ops R listed C.n i dst = true := by kernel_rfl) : AW C ops Q R T (fuel + 1) listed ρ h := .yr i t S hi ht hg htn hk hQ.np hs hy hh
theorem RLK.V (hv : OpVal C o ty ρ h v) (hj : RLK C ops Q J os (upo ρ dst v) h) (hd : okd C.n dst = true := by rfl) : RLK C ops Q J (⟨dst, o, ty, pos, after, none⟩ :: os) ρ h := .val hv hd hj
theorem RLK.M {x : Operand} (v : Value) (hj : RLK C ops Q J os (upo ρ dst v) h) (hv : ev ρ x = v := by rfl) (hd : okd C.n dst = true := by rfl) : RLK C ops Q J (⟨dst, .move x, ty, pos, after, none⟩ :: os) ρ h := .val (v_move hv) hd hj
theorem RLK.A {x : Operand} (v : Value) (hj : RLK C ops Q J os (upo ρ dst v) h) (hv : ev ρ x = v := by rfl) (hd : okd C.n dst = true := by rfl) : RLK C ops Q J (⟨dst, .assign x, ty, pos, after, none⟩ :: os) ρ h := .val (v_assign hv) hd hj
section
variable {σ α : Type} [Ty σ] [Ty α] {p : Addr} {g : σ → α} {k : α → H → Prop} {x : Operand} {U : TypeId} {n : Nat}
/-- what is read is taken out of the shallow program -/
theorem RLK.L (off : Nat) (na : NotAgg C.P U) (hf : ∀ s : σ, (enc s)[off]? = some (reg (g s))) (hh : ld p g k h) (hx : ev ρ x = .pointer (some (p.add off))) (hj : ∀ y, k y h → RLK C ops Q J os (upo ρ dst (reg y)) h) (hd : okd C.n dst = true := by rfl) :
    RLK C ops Q J (⟨dst, .load U x, ty, pos, after, none⟩ :: os) ρ h := by
  obtain ⟨y, ⟨s, hs, hg⟩, hh⟩ := hh
  exact .val (v_ld1 off na hx hs hg hf) hd (hj y hh)
theorem RLK.LA (off : Nat) (ag : IsAgg C.P U n) (hf : ∀ s : σ, ((enc s).drop off).take n = enc (g s)) (hl : ∀ y : α, (enc y).length = n) (hh : ld p g k h) (hx : ev ρ x = .pointer (some (p.add off))) (hj : ∀ y, k y h → RLK C ops Q J os (upo ρ dst (reg y)) h) (hr : ∀ y : α, reg y = .agg (enc y).toArray := by exact fun _ => rfl) (hd : okd C.n dst = true := by rfl) :
    RLK C ops Q J (⟨dst, .load U x, ty, pos, after, none⟩ :: os) ρ h := by
  obtain ⟨y, ⟨s, hs, hg⟩, hh⟩ := hh
  exact .val (v_ldA off ag hx hs hg hf hl hr) hd (hj y hh)
theorem AW.KL (i off : Nat) (na : NotAgg C.P U) (hf : ∀ s : σ, (enc s)[off]? = some (reg (g s))) (hi : ops[i]? = some ⟨dst, .load U x, ty, pos, after, none⟩) (hh : ld p g k h) (hx : ev ρ x = .pointer (some (p.add off)))
    (hj : ∀ y, k y h → AW C ops Q R (fun j h' => T j h' ∧ (reachB ops ops.size i j = true ∨ ∃ s : σ, AtH h' p (enc s) ∧ g s = y)) fuel (listed.setIfInBounds i true) (upo ρ dst (reg y)) h) [hQ : NP C Q] (hk : takeOk ops R listed C.n i dst = true := by kernel_rfl) : AW C ops Q R T (fuel + 1) listed ρ h := by
  obtain ⟨y, hs, hh⟩ := hh
  exact .r i (fun h' => ∃ s : σ, AtH h' p (enc s) ∧ g s = y) hi hk hQ.np hs (fun h' hS => hS.elim fun _ hS => v_ld1 off na hx hS.1 hS.2 hf) (hj y hh)
theorem AW.KA (i off : Nat) (ag : IsAgg C.P U n) (hf : ∀ s : σ, ((enc s).drop off).take n = enc (g s)) (hl : ∀ y : α, (enc y).length = n) (hi : ops[i]? = some ⟨dst, .load U x, ty, pos, after, none⟩) (hh : ld p g k h) (hx : ev ρ x = .pointer (some (p.add off)))
    (hj : ∀ y, k y h → AW C ops Q R (fun j h' => T j h' ∧ (reachB ops ops.size i j = true ∨ ∃ s : σ, AtH h' p (enc s) ∧ g s = y)) fuel (listed.setIfInBounds i true) (upo ρ dst (reg y)) h) [hQ : NP C Q] (hr : ∀ y : α, reg y = .agg (enc y).toArray := by exact fun _ => rfl) (hk : takeOk ops R listed C.n i dst = true := by kernel_rfl) : AW C ops Q R T (fuel + 1) listed ρ h := by
  obtain ⟨y, hs, hh⟩ := hh
  exact .r i (fun h' => ∃ s : σ, AtH h' p (enc s) ∧ g s = y) hi hk hQ.np hs (fun h' hS => hS.elim fun _ hS => v_ldA off ag hx hS.1 hS.2 hf hl hr) (hj y hh)
theorem AW.YL (i : Nat) {gd : Nat × Bool} (t off : Nat) (na : NotAgg C.P U) (hf : ∀ s : σ, (enc s)[off]? = some (reg (g s))) (hi : ops[i]? = some ⟨dst, .load U x, ty, pos, after, some gd⟩) (hg : ρ t = .bool gd.2) (hh : ld p g k h) (hx : ev ρ x = .pointer (some (p.add off)))
    (hj : ∀ y, k y h → AW C ops Q R (fun j h' => T j h' ∧ (reachB ops ops.size i j = true ∨ ∃ s : σ, AtH h' p (enc s) ∧ g s = y)) fuel (listed.setIfInBounds i true) (upo ρ dst (reg y)) h) [hQ : NP C Q] (ht : (ops[gd.1]?).bind (·.dst) = some t := by rfl) (htn : Nat.blt t C.n = true := by rfl) (hk : takeOk ops R listed C.n i dst = true := by kernel_rfl) : AW C ops Q R T (fuel + 1) listed ρ h := by
  obtain ⟨y, hs, hh⟩ := hh
  exact .yr i t (fun h' => ∃ s : σ, AtH h' p (enc s) ∧ g s = y) hi ht hg htn hk hQ.np hs (fun h' hS => hS.elim fun _ hS => v_ld1 off na hx hS.1 hS.2 hf) (hj y hh)
theorem RLK.S {u : σ → σ} {k : H → Prop} {y : Operand} {c m : Nat} (w : α) (off : Nat) (hT : SizeOf C.P U m) (h1 : (enc w).all (·.oneCell') = true) (hc : ∀ s : σ, (enc s).length = c) (hm : (enc w).length = m) (hu : ∀ s : σ, (enc s).take off ++ enc w ++ (enc s).drop (off + (enc w).length) = enc (u s)) (hh : st p u k h)
    (hx : ev ρ x = .pointer (some (p.add off))) (hy : ev ρ y = reg w) (hj : ∀ s : σ, k (putC h p (enc (u s))) → RLK C ops Q J os ρ (putC h p (enc (u s)))) (hl : Nat.ble (off + m) c = true := by rfl) :
    RLK C ops Q J (⟨none, .store U x y, ty, pos, after, none⟩ :: os) ρ h := by
  obtain ⟨s, hs, hw, hh⟩ := hh
  exact .e (e_storeN (p := p) (nv := enc w) off hx hy (by simp [enc]) hT h1 hs hw (hc s) hm hl (hu s) (hj s hh))
end
/-- the end of a region, and what follows -/
theorem RLK.nx {y : Code} (hh : CW C y Q ρ h) : RLK C ops (Exit.then (y.wp C.P Q) Q) (QN C (Exit.then (y.wp C.P Q) Q) .normal) [] ρ h := .nil (QN.then_ hh)
theorem CW.sr {id : Nat} {y : Code} (hh : RLK C ops (Exit.then (y.wp C.P Q) Q) (QN C (Exit.then (y.wp C.P Q) Q) .normal) ops.toList ρ h) : CW C (.seq (.region id ops false) y) Q ρ h := .seq (.region hh)
end
end Go.Sh
namespace Go.Proofs.YtimmoekliphobaaDoor
open Go Go.Sh
open Go.Sh.Ty (reg)
theorem kt_3 : KeyT Prog 3 Int := KeyT.int (by kernel_rfl)
theorem kt_24 : KeyT Prog 24 (Arr 32 UInt8) := KeyT.bytes bt_24
theorem na3 : NotAgg Prog 3 := NotAgg.of (by kernel_rfl)
theorem u3 : Prog.underlying 3 = some (.int .i64) := by kernel_rfl
theorem fo115 : Prog.underlying 115 = some (.struct (Prog.fieldsOf 115)) := by kernel_rfl
theorem fo128 : Prog.underlying 128 = some (.struct (Prog.fieldsOf 128)) := by kernel_rfl
theorem fields_115 : (Prog.fieldsOf 115).toList.map trip = [(true, 3, 0), (true, 3, 1), (true, 3, 2)] := by kernel_rfl
theorem fields_128 : (Prog.fieldsOf 128).toList.map trip = [(true, 3, 0), (true, 24, 1)] := by kernel_rfl
theorem ag24 : IsAgg Prog 24 32 := IsAgg.of (by kernel_rfl) (by kernel_rfl)
theorem kt_115 : KeyT Prog 115 vote_place where
  eq a b w := by
    have hr : ∀ a : vote_place, reg a = .agg #[.int .i64 a.kind, .int .i64 a.round, .int .i64 a.from_] := fun a => rfl
    show (Op.equalIn (9998 + 1 + 1) 115 (reg a) (reg b)).run Prog w = _
    rw [hr, hr, run_equalIn_struct w (9998 + 1) 115 _ _ fo115 (by kernel_rfl), eqFields_trip, fields_115]
    have p : ∀ (cs : Array Value) (o : Nat) (v : Value) (w : World), cs[o]? = some v → (part 3 cs o).run Prog w = .ok v w := fun cs o v w h => part_one na3 h w
    have e : ∀ (a b : Int) (w : World), (Op.equalIn (9998 + 1) 3 (.int .i64 a) (.int .i64 b)).run Prog w = .ok (decide (a = b)) w := fun a b w => eqIn_int u3 9998 a b w
    simp only [eqT, if_true, Sem.run_bind]
    rw [p _ 0 (.int .i64 a.kind) w rfl, Result.andThen_ok, p _ 0 (.int .i64 b.kind) w rfl, Result.andThen_ok, e, Result.andThen_ok]
    obtain ⟨a1, a2, a3⟩ := a
    obtain ⟨b1, b2, b3⟩ := b
    simp only [vote_place.mk.injEq]
    by_cases h1 : a1 = b1
    · simp only [h1, decide_true, Bool.not_true, Bool.false_eq_true, if_false, Sem.run_bind, true_and]
      rw [p _ 1 (.int .i64 a2) w rfl, Result.andThen_ok, p _ 1 (.int .i64 b2) w rfl, Result.andThen_ok, e, Result.andThen_ok]
      by_cases h2 : a2 = b2
      · simp only [h2, decide_true, Bool.not_true, Bool.false_eq_true, if_false, Sem.run_bind, true_and]
        rw [p _ 2 (.int .i64 a3) w rfl, Result.andThen_ok, p _ 2 (.int .i64 b3) w rfl, Result.andThen_ok, e, Result.andThen_ok]
        by_cases h3 : a3 = b3 <;> simp [h3]
      · simp [h2]
    · simp [h1]
  ok em a w := by
    have hr : reg a = .agg #[.int .i64 a.kind, .int .i64 a.round, .int .i64 a.from_] := rfl
    rw [hr]
    show (Instr.checkKey em (9998 + 1 + 1) 115 _).run Prog w = _
    rw [ck_trip em (9998 + 1) 115 _ fo115, fields_115]
    have p : ∀ (cs : Array Value) (o : Nat) (v : Value) (w : World), cs[o]? = some v → (part 3 cs o).run Prog w = .ok v w := fun cs o v w h => part_one na3 h w
    simp only [ckT, if_true, Sem.run_bind]
    rw [p _ 0 (.int .i64 a.kind) w rfl, Result.andThen_ok, ck_int u3, Result.andThen_ok, p _ 1 (.int .i64 a.round) w rfl, Result.andThen_ok, ck_int u3, Result.andThen_ok, p _ 2 (.int .i64 a.from_) w rfl, Result.andThen_ok, ck_int u3, Result.andThen_ok]
    rfl
  same a := by
    have hr : reg a = .agg ([.int .i64 a.kind, .int .i64 a.round, .int .i64 a.from_] : List Value).toArray := rfl
    rw [hr]
    exact sb_agg 9999 _ (by intro x hx; simp only [List.mem_cons, List.not_mem_nil, or_false] at hx; rcases hx with rfl | rfl | rfl <;> exact sb_int _ _ _)
  now := ⟨_, fo115, .inr fun a b => rfl⟩
theorem dig_ext {a : Arr 32 UInt8} (x : Value) (l : List Value) (hl : l = enc a) : (#[x] ++ l.toArray : Array Value).extract 1 (1 + 32) = (enc a).toArray := by
  subst hl
  have := arr_len a
  apply Array.ext'
  simp only [Array.toList_extract, Array.toList_append, List.extract]
  show List.take (1 + 32 - 1) (List.drop 1 (x :: enc a)) = enc a
  rw [List.drop_one, List.tail_cons, List.take_of_length_le (by omega)]
theorem enc_arr {n : Nat} {α : Type} [Ty α] (x : Arr n α) : enc x = List.ofFn fun i => reg (x i) := rfl
theorem reg128 (a : vote_choice) : reg a = .agg (#[.int .i64 a.round] ++ (enc a.digest).toArray) := by
  have h1 : reg a = .agg (enc a.round ++ enc a.digest).toArray := rfl
  have h2 : enc a.round = [.int .i64 a.round] := rfl
  rw [h1, h2]
  generalize enc a.digest = l
  simp
theorem kt_128 : KeyT Prog 128 vote_choice where
  eq a b w := by
    show (Op.equalIn (9998 + 1 + 1) 128 (reg a) (reg b)).run Prog w = _
    rw [reg128, reg128, run_equalIn_struct w (9998 + 1) 128 _ _ fo128 (by kernel_rfl), eqFields_trip, fields_128]
    have p : ∀ (cs : Array Value) (o : Nat) (v : Value) (w : World), cs[o]? = some v → (part 3 cs o).run Prog w = .ok v w := fun cs o v w h => part_one na3 h w
    have e : ∀ (a b : Int) (w : World), (Op.equalIn (9998 + 1) 3 (.int .i64 a) (.int .i64 b)).run Prog w = .ok (decide (a = b)) w := fun a b w => eqIn_int u3 9998 a b w
    simp only [eqT, if_true, Sem.run_bind]
    rw [p _ 0 (.int .i64 a.round) w (by simp), Result.andThen_ok, p _ 0 (.int .i64 b.round) w (by simp), Result.andThen_ok, e, Result.andThen_ok]
    obtain ⟨a1, a2⟩ := a
    obtain ⟨b1, b2⟩ := b
    simp only [vote_choice.mk.injEq]
    by_cases h1 : a1 = b1
    · simp only [h1, decide_true, Bool.not_true, Bool.false_eq_true, if_false, Sem.run_bind, true_and]
      rw [part_agg ag24, Result.andThen_ok, part_agg ag24, Result.andThen_ok, dig_ext _ _ rfl, dig_ext _ _ rfl]
      have h2 : (Op.equalIn (9998 + 1) 24 (.agg (enc a2).toArray) (.agg (enc b2).toArray)).run Prog w = .ok (decide (a2 = b2)) w := by
        exact equalIn_arr8 bt_24 9997 a2 b2 w
      rw [h2]
      by_cases h3 : a2 = b2 <;> simp [h3]
    · simp [h1]
  ok em a w := by
    rw [reg128]
    show (Instr.checkKey em (9998 + 1 + 1) 128 _).run Prog w = _
    rw [ck_trip em (9998 + 1) 128 _ fo128, fields_128]
    have p : ∀ (cs : Array Value) (o : Nat) (v : Value) (w : World), cs[o]? = some v → (part 3 cs o).run Prog w = .ok v w := fun cs o v w h => part_one na3 h w
    simp only [ckT, if_true, Sem.run_bind]
    rw [p _ 0 (.int .i64 a.round) w (by simp), Result.andThen_ok, ck_int u3, Result.andThen_ok, part_agg ag24, Result.andThen_ok, dig_ext _ _ rfl]
    have h2 := ck_bytes bt_24 (9997) em a.digest w
    have e1 : reg a.digest = .agg (enc a.digest).toArray := rfl
    rw [e1] at h2
    rw [show (9998 + 1 : Nat) = 9997 + 2 from rfl, h2, Result.andThen_ok]
    rfl
  same a := by
    have hr : reg a = .agg (enc a.round ++ enc a.digest).toArray := rfl
    rw [hr]
    refine sb_agg 9999 _ (by
      intro x hx
      rw [List.mem_append] at hx
      rcases hx with hx | hx
      · have : enc a.round = [.int .i64 a.round] := rfl
        rw [this] at hx; simp only [List.mem_singleton] at hx; subst hx; exact sb_int _ _ _
      · rw [enc_arr, List.mem_ofFn] at hx; obtain ⟨i, hi⟩ := hx; rw [← hi]; exact sb_int _ _ _)
  now := ⟨_, fo128, .inr fun a b => rfl⟩
def law19_RoundQuick.j2 (s1 : Int → H → Prop) (n_2 : Int) (height_2 : Int) (order_2 : Sl) (g_1 : Pt) (i_1 : Int) : H → Prop :=
  s1 (iadd i_1 (1 : Int))
def law19_RoundQuick.l1 (j1 : Int → Int → Sl → Pt → H → Prop) (n_1 : Int) (height_1 : Int) (order_1 : Sl) (g : Pt) : Int → H → Prop := Lp fun s1 i =>
  ifb (decide (i < n_1)) (nn g fun p_1 => ld p_1 (fun (x : law19_Game) => x.cores) fun t57 => ld p_1 (fun (x : law19_Game) => x.config) fun t61 => call (β := Pt) Prog 28 [reg (t61 : api_Config), reg ((iadd i (1 : Int)) : Int), reg (height_1 : Int), reg ((1 : Int) : Int)] fun t65 => chk p_1 (fun (x : law19_Game) => x.cores) t57 <| mks 62 [(t65 : Pt)] fun t66 => chk p_1 (fun (x : law19_Game) => x.cores) t57 <| app 62 1 8 (enc (none : Pt)) t57 t66 fun t67 => st p_1 (fun (x : law19_Game) => { x with cores := t67 }) <| ld p_1 (fun (x : law19_Game) => x.own) fun t75 => ld p_1 (fun (x : law19_Game) => x.decided) fun t81 => both (mks 22 [(Sl.nil : Sl)] fun t76 => chk p_1 (fun (x : law19_Game) => x.own) t75 <| chk p_1 (fun (x : law19_Game) => x.decided) t81 <| both (app 22 1 24 (enc (Sl.nil : Sl)) t75 t76 fun t77 => chk p_1 (fun (x : law19_Game) => x.decided) t81 <| mks 24 [((arrOf [0, 0, 0, 0, 0, 0, 0, 0, 0, 0, 0, 0, 0, 0, 0, 0, 0, 0, 0, 0, 0, 0, 0, 0, 0, 0, 0, 0, 0, 0, 0, 0] : Arr 32 UInt8) : Arr 32 UInt8)] fun t83 => chk p_1 (fun (x : law19_Game) => x.own) t75 <| chk p_1 (fun (x : law19_Game) => x.decided) t81 <| app 24 32 32 (enc ((fun _ => 0) : Arr 32 UInt8)) t81 t83 fun t84 => st p_1 (fun (x : law19_Game) => { x with own := t77 }) <| st p_1 (fun (x : law19_Game) => { x with decided := t84 }) <| (law19_RoundQuick.j2 s1) n_1 height_1 order_1 g i) (mks 24 [((arrOf [0, 0, 0, 0, 0, 0, 0, 0, 0, 0, 0, 0, 0, 0, 0, 0, 0, 0, 0, 0, 0, 0, 0, 0, 0, 0, 0, 0, 0, 0, 0, 0] : Arr 32 UInt8) : Arr 32 UInt8)] fun t83_1 => chk p_1 (fun (x : law19_Game) => x.own) t75 <| chk p_1 (fun (x : law19_Game) => x.decided) t81 <| app 22 1 24 (enc (Sl.nil : Sl)) t75 t76 fun t77_1 => chk p_1 (fun (x : law19_Game) => x.decided) t81 <| app 24 32 32 (enc ((fun _ => 0) : Arr 32 UInt8)) t81 t83_1 fun t84_1 => st p_1 (fun (x : law19_Game) => { x with own := t77_1 }) <| st p_1 (fun (x : law19_Game) => { x with decided := t84_1 }) <| (law19_RoundQuick.j2 s1) n_1 height_1 order_1 g i)) (mks 24 [((arrOf [0, 0, 0, 0, 0, 0, 0, 0, 0, 0, 0, 0, 0, 0, 0, 0, 0, 0, 0, 0, 0, 0, 0, 0, 0, 0, 0, 0, 0, 0, 0, 0] : Arr 32 UInt8) : Arr 32 UInt8)] fun t83_2 => chk p_1 (fun (x : law19_Game) => x.own) t75 <| chk p_1 (fun (x : law19_Game) => x.decided) t81 <| mks 22 [(Sl.nil : Sl)] fun t76_1 => chk p_1 (fun (x : law19_Game) => x.own) t75 <| chk p_1 (fun (x : law19_Game) => x.decided) t81 <| app 22 1 24 (enc (Sl.nil : Sl)) t75 t76_1 fun t77_2 => chk p_1 (fun (x : law19_Game) => x.decided) t81 <| app 24 32 32 (enc ((fun _ => 0) : Arr 32 UInt8)) t81 t83_2 fun t84_2 => st p_1 (fun (x : law19_Game) => { x with own := t77_2 }) <| st p_1 (fun (x : law19_Game) => { x with decided := t84_2 }) <| (law19_RoundQuick.j2 s1) n_1 height_1 order_1 g i)) (j1 n_1 height_1 order_1 g)
def law19_RoundQuick.j4 (k : Bool → H → Prop) (s2 : Int → H → Prop) (n_5 : Int) (g_4 : Pt) (t105_1 : Sl) (t106_1 : Int) (t107_1 : Int) (t137 : Bool) : H → Prop :=
  ifb t137 (k (false : Bool)) (s2 (iadd t107_1 (1 : Int)))
def law19_RoundQuick.l2 (j3 : Pt → H → Prop) (k : Bool → H → Prop) (n_4 : Int) (g_3 : Pt) (t105 : Sl) (t106 : Int) : Int → H → Prop := Lp fun s2 t107 =>
  ifb (decide (t107 < t106)) (sidx t105 t107 1 fun t109 => ld t109 (fun (x : Int) => x) fun t110 => nn g_3 fun p_3 => ld p_3 (fun (x : law19_Game) => x.order) fun t114 => ifb (decide ((0 : Int) < (t114.len : Int))) (must ((toU64 n_4) ≠ 0) <| ld p_3 (fun (x : law19_Game) => x.order) fun t130 => must ((toU64 (t130.len : Int)) ≠ 0) <| call (β := Bool) Prog 33 [reg (g_3 : Pt), reg ((toI64 (((toU64 t110) % (toU64 n_4)).toNat : Int)) : Int), reg ((toI64 (((toU64 t110) % (toU64 (t130.len : Int))).toNat : Int)) : Int)] fun t135 => (law19_RoundQuick.j4 k s2) n_4 g_3 t105 t106 t107 (!t135)) ((law19_RoundQuick.j4 k s2) n_4 g_3 t105 t106 t107 false)) (j3 g_3)
def law19_RoundQuick.l4 (j6 : Pt → Int → H → Prop) (k : Bool → H → Prop) (g_7 : Pt) (i_3 : Int) (t152 : Int) : Int → H → Prop := Lp fun s4 t153 =>
  ifb (decide (t153 < t152)) (call (β := Bool) Prog 33 [reg (g_7 : Pt), reg (t153 : Int), reg (i_3 : Int)] fun t159 => ifb (!t159) (k (false : Bool)) (s4 (iadd t153 (1 : Int)))) (j6 g_7 i_3)
def law19_RoundQuick.j6 (s3 : Int → H → Prop) (g_8 : Pt) (i_4 : Int) : H → Prop :=
  s3 (iadd i_4 (1 : Int))
def law19_RoundQuick.l3 (j5 : Pt → H → Prop) (k : Bool → H → Prop) (g_6 : Pt) : Int → H → Prop := Lp fun s3 i_2 =>
  nn g_6 fun p_4 => ld p_4 (fun (x : law19_Game) => x.order) fun t143 => ifb (decide (i_2 < (t143.len : Int))) (ld p_4 (fun (x : law19_Game) => x.cores) fun t151 => law19_RoundQuick.l4 (law19_RoundQuick.j6 s3) k g_6 i_2 (t151.len : Int) (0 : Int)) (j5 g_6)
def law19_RoundQuick.l5 (j7 : H → Prop) (k : Bool → H → Prop) (g_10 : Pt) (t171_1 : Sl) (t172 : Int) : Int → H → Prop := Lp fun s5 t173 =>
  ifb (decide (t173 < t172)) (sidx t171_1 t173 32 fun t175 => ld t175 (fun (x : Arr 32 UInt8) => x) fun t176 => box 24 ((fun _ => 0) : Arr 32 UInt8) fun d => st d (fun (_ : Arr 32 UInt8) => t176) <| ld d (fun (x : Arr 32 UInt8) => x) fun t177 => nn g_10 fun p_6 => ld p_6 (fun (x : law19_Game) => x.plans) fun t181 => sidx t181 (0 : Int) 108 fun t182 => ld t182 (fun (x : api_Plan) => x.Block) fun t184 => call (β := Arr 32 UInt8) Prog 34 [reg (t184 : api_Block)] fun t185 => chk d (fun (x : Arr 32 UInt8) => x) t177 <| ifb (!decide (t177 = t185)) (k (false : Bool)) (s5 (iadd t173 (1 : Int)))) (j7)
def law19_RoundQuick.j7 (k : Bool → H → Prop) : H → Prop :=
  k (true : Bool)
def law19_RoundQuick.j5 (k : Bool → H → Prop) (g_9 : Pt) : H → Prop :=
  nn g_9 fun p_5 => ld p_5 (fun (x : law19_Game) => x.plans) fun t165 => ifb ((t165.len : Int) == (0 : Int)) (k (false : Bool)) (ld p_5 (fun (x : law19_Game) => x.decided) fun t171 => law19_RoundQuick.l5 (law19_RoundQuick.j7 k) k g_9 t171 (t171.len : Int) (0 : Int))
def law19_RoundQuick.j3 (k : Bool → H → Prop) (g_5 : Pt) : H → Prop :=
  law19_RoundQuick.l3 (law19_RoundQuick.j5 k) k g_5 (0 : Int)
def law19_RoundQuick.j1 (k : Bool → H → Prop) (n_3 : Int) (height_3 : Int) (order_3 : Sl) (g_2 : Pt) : H → Prop :=
  call (β := Cx) Prog 30 [reg (height_3 : Int), reg ((0 : Int) : Int)] fun t91 => call (β := Int) Prog 29 [reg (n_3 : Int), reg (t91 : Cx)] fun t92 => nn g_2 fun p_2 => ld p_2 (fun (x : law19_Game) => x.cores) fun t98 => sidx t98 t92 1 fun t100 => ld t100 (fun (x : Pt) => x) fun t101 => call (β := Sl) Prog 32 [reg (t101 : Pt)] fun t102 => call (β := Bool) Prog 31 [reg (g_2 : Pt), reg (t92 : Int), reg (t102 : Sl)] fun t103 => ifb (!t103) (k (false : Bool)) (law19_RoundQuick.l2 (law19_RoundQuick.j3 k) k n_3 g_2 order_3 (order_3.len : Int) (0 : Int))
def law19_RoundQuick.b (n : Int) (height : Int) (order : Sl) (k : Bool → H → Prop) : H → Prop :=
  call (β := Bool) Prog 25 [] fun t16 => ifb (!t16) (k (false : Bool)) (ifb (((((decide (n < (1 : Int))) || (decide ((10 : Int) < n))) || (decide (height < (1 : Int)))) || (decide ((1024 : Int) < height))) || (decide ((200 : Int) < (order.len : Int)))) (k (true : Bool)) (call (β := Pt) Prog 26 [reg (n : Int), reg (height : Int)] fun t39 => call (β := Int) Prog 27 [reg (n : Int)] fun t41 => ifb (decide ((0 : Int) < t41)) (nn t39 fun p => ld p (fun (x : law19_Game) => x.cores) fun t46 => law19_RoundQuick.l1 (law19_RoundQuick.j1 k) n height order t39 (t46.len : Int)) ((law19_RoundQuick.j1 k) n height order t39)))
def vote_NewBox.b (k : Pt → H → Prop) : H → Prop :=
  mkmap fun t1 => box 113 (({ votes := t1 } : vote_Box) : vote_Box) fun t3 => k ((some t3) : Pt)
def vote_Box_Add.b (b : Pt) (v : api_Vote) (k : Bool → H → Prop) : H → Prop :=
  box 37 (v : api_Vote) fun v_1 => ifb b.isNone (k (false : Bool)) (ld v_1 (fun (x : api_Vote) => x.Kind) fun t11 => ld v_1 (fun (x : api_Vote) => x.Round) fun t13 => ld v_1 (fun (x : api_Vote) => x.From) fun t15 => box 115 (vote_place.zero : vote_place) fun at_ => st at_ (fun (_ : vote_place) => ({ kind := t11, round := t13, from_ := t15 } : vote_place)) <| nn b fun p => ld p (fun (x : vote_Box) => x.votes) fun t21 => ld at_ (fun (x : vote_place) => x) fun t22 => mget t21 (fun (l : List (vote_place × api_Vote)) => mlook (api_Vote.zero : api_Vote) l (t22 : vote_place)) fun t23 => box 37 (api_Vote.zero : api_Vote) fun t6 => chk p (fun (x : vote_Box) => x.votes) t21 <| chk at_ (fun (x : vote_place) => x) t22 <| mchk t21 (fun (l : List (vote_place × api_Vote)) => mlook (api_Vote.zero : api_Vote) l (t22 : vote_place)) t23 <| st t6 (fun (_ : api_Vote) => t23.a) <| ifb t23.b (k (false : Bool)) (ld p (fun (x : vote_Box) => x.votes) fun t30 => ld at_ (fun (x : vote_place) => x) fun t31 => ld v_1 (fun (x : api_Vote) => x) fun t32 => mput t30 (t31 : vote_place) (t32 : api_Vote) <| k (true : Bool)))
def vote_Box_For.j2 (s1 : (Sl × Int) → H → Prop) (b_2 : Pt) (kind_2 : Int) (round_2 : Int) (d_3 : Addr) (out_1 : Sl) (from__1 : Int) : H → Prop :=
  s1 (out_1, (iadd from__1 (1 : Int)))
def vote_Box_For.l1 (j1 : Sl → H → Prop) (b_1 : Pt) (kind_1 : Int) (round_1 : Int) (d_2 : Addr) : (Sl × Int) → H → Prop := Lp fun s1 (out, from_) =>
  ifb (b_1.isSome && (decide (from_ ≤ (63 : Int)))) (nn b_1 fun p => ld p (fun (x : vote_Box) => x.votes) fun t25 => mget t25 (fun (l : List (vote_place × api_Vote)) => mlook (api_Vote.zero : api_Vote) l (({ kind := kind_1, round := round_1, from_ := from_ } : vote_place) : vote_place)) fun t30 => box 37 (api_Vote.zero : api_Vote) fun v => st v (fun (_ : api_Vote) => t30.a) <| ld v (fun (x : api_Vote) => x.Digest) fun t36 => ld d_2 (fun (x : Arr 32 UInt8) => x) fun t37 => ifb (t30.b && (decide (t36 = t37))) (ld v (fun (x : api_Vote) => x) fun t41 => mks 37 [(t41 : api_Vote)] fun t42 => app 37 41 152 (enc (api_Vote.zero : api_Vote)) out t42 fun t43 => (vote_Box_For.j2 s1) b_1 kind_1 round_1 d_2 t43 from_) ((vote_Box_For.j2 s1) b_1 kind_1 round_1 d_2 out from_)) (j1 out)
def vote_Box_For.j1 (k : Sl → H → Prop) (out_2 : Sl) : H → Prop :=
  k (out_2 : Sl)
def vote_Box_For.b (b : Pt) (kind : Int) (round : Int) (d : Arr 32 UInt8) (k : Sl → H → Prop) : H → Prop :=
  box 24 (d : Arr 32 UInt8) fun d_1 => vote_Box_For.l1 (vote_Box_For.j1 k) b kind round d_1 (Sl.nil, (1 : Int))
def vote_Box_Count.b (b : Pt) (kind : Int) (round : Int) (d : Arr 32 UInt8) (k : Int → H → Prop) : H → Prop :=
  box 24 (d : Arr 32 UInt8) fun d_1 => ld d_1 (fun (x : Arr 32 UInt8) => x) fun t12 => call (β := Sl) Prog 14 [reg (b : Pt), reg (kind : Int), reg (round : Int), reg (t12 : Arr 32 UInt8)] fun t13 => k ((t13.len : Int) : Int)
def vote_Box_Voters.l1 (j1 : Mp → H → Prop) (round_1 : Int) (seen : Mp) (t14_1 : Addr) : Unit → H → Prop := Lp fun s1 _ =>
  nxt (κ := vote_place) (ν := api_Vote) t14_1 fun t15 => ifb t15.o.isSome (ent (κ := vote_place) (ν := api_Vote) t14_1 fun t17 => box 115 (vote_place.zero : vote_place) fun at_ => st at_ (fun (_ : vote_place) => t17.a) <| ld at_ (fun (x : vote_place) => x.round) fun t20 => ifb (decide (round_1 ≤ t20)) (ld at_ (fun (x : vote_place) => x.from_) fun t25 => mput seen (t25 : Int) (true : Bool) <| s1 ()) (s1 ())) (j1 seen)
def vote_Box_Voters.j1 (k : Int → H → Prop) (seen_1 : Mp) : H → Prop :=
  mget seen_1 (fun (l : List (Int × Bool)) => (l.length : Int)) fun t27 => k (t27 : Int)
def vote_Box_Voters.b (b : Pt) (round : Int) (k : Int → H → Prop) : H → Prop :=
  mkmap fun t7 => ifb b.isSome (nn b fun p => ld p (fun (x : vote_Box) => x.votes) fun t13 => rng t13 ([] : List (vote_place × api_Vote)) fun t14 => vote_Box_Voters.l1 (vote_Box_Voters.j1 k) round t7 t14 ()) ((vote_Box_Voters.j1 k) t7)
def vote_Box_Reached.l1 (j1 : Int → Mp → H → Prop) (n_1 : Int) (last : Mp) (t17_1 : Addr) : Unit → H → Prop := Lp fun s1 _ =>
  nxt (κ := vote_place) (ν := api_Vote) t17_1 fun t18 => ifb t18.o.isSome (ent (κ := vote_place) (ν := api_Vote) t17_1 fun t20 => box 115 (vote_place.zero : vote_place) fun at_ => st at_ (fun (_ : vote_place) => t20.a) <| ld at_ (fun (x : vote_place) => x.from_) fun t25 => mget last (fun (l : List (Int × Int)) => mlook (0 : Int) l (t25 : Int)) fun t26 => ld at_ (fun (x : vote_place) => x.round) fun t33 => ifb ((!t26.b) || (decide (t26.a < t33))) (ld at_ (fun (x : vote_place) => x.from_) fun t39 => ld at_ (fun (x : vote_place) => x.round) fun t41 => mput last (t39 : Int) (t41 : Int) <| s1 ()) (s1 ())) (j1 n_1 last)
def vote_Box_Reached.j2 (k : Int → H → Prop) (n_3 : Int) (last_2 : Mp) (t49 : Bool) : H → Prop :=
  ifb t49 (k ((-1 : Int) : Int)) (call (β := Fv) Prog 49 [reg (last_2 : Mp)] fun t51 => call (β := Sl) Prog 48 [reg (t51 : Fv)] fun t52 => sidx t52 (isub (t52.len : Int) n_3) 1 fun t58 => ld t58 (fun (x : Int) => x) fun t59 => k (t59 : Int))
def vote_Box_Reached.j1 (k : Int → H → Prop) (n_2 : Int) (last_1 : Mp) : H → Prop :=
  ifb (decide (n_2 < (1 : Int))) ((vote_Box_Reached.j2 k) n_2 last_1 true) (mget last_1 (fun (l : List (Int × Int)) => (l.length : Int)) fun t47 => (vote_Box_Reached.j2 k) n_2 last_1 (decide (t47 < n_2)))
def vote_Box_Reached.b (b : Pt) (n : Int) (k : Int → H → Prop) : H → Prop :=
  mkmap fun t10 => ifb b.isSome (nn b fun p => ld p (fun (x : vote_Box) => x.votes) fun t16 => rng t16 ([] : List (vote_place × api_Vote)) fun t17 => vote_Box_Reached.l1 (vote_Box_Reached.j1 k) n t10 t17 ()) ((vote_Box_Reached.j1 k) n t10)
def vote_Box_Winner.j2 (s1 : Unit → H → Prop) (kind_2 : Int) (quorum_2 : Int) (t6_2 : Addr) (best_2 : Addr) (at__1 : Int) (found_1 : Bool) (counts_1 : Mp) (p_2 : Addr) (v_1 : Addr) (t27_2 : Addr) (t42 : Bool) : H → Prop :=
  ifb t42 (ld p_2 (fun (x : vote_place) => x.round) fun t45 => ld v_1 (fun (x : api_Vote) => x.Digest) fun t47 => mget counts_1 (fun (l : List (vote_choice × Int)) => (mlook (0 : Int) l (({ round := t45, digest := t47 } : vote_choice) : vote_choice)).a) fun t49 => ment (0 : Int) counts_1 (({ round := t45, digest := t47 } : vote_choice) : vote_choice) fun t51 => mchk counts_1 (fun (l : List (vote_choice × Int)) => (mlook (0 : Int) l (({ round := t45, digest := t47 } : vote_choice) : vote_choice)).a) t49 <| mste ([] : List (vote_choice × Int)) counts_1 t51.b ((iadd t49 (1 : Int)) : Int) <| s1 ()) (s1 ())
def vote_Box_Winner.l1 (j1 : Int → Addr → Addr → Int → Bool → Mp → H → Prop) (kind_1 : Int) (quorum_1 : Int) (t6_1 : Addr) (best_1 : Addr) (at_ : Int) (found : Bool) (counts : Mp) (t27_1 : Addr) : Unit → H → Prop := Lp fun s1 _ =>
  nxt (κ := vote_place) (ν := api_Vote) t27_1 fun t28 => ifb t28.o.isSome (ent (κ := vote_place) (ν := api_Vote) t27_1 fun t30 => box 115 (vote_place.zero : vote_place) fun p_1 => box 37 (api_Vote.zero : api_Vote) fun v => st p_1 (fun (_ : vote_place) => t30.a) <| st v (fun (_ : api_Vote) => t30.b) <| ld p_1 (fun (x : vote_place) => x.kind) fun t34 => ifb (t34 == kind_1) (ld v (fun (x : api_Vote) => x.Digest) fun t39 => call (β := Arr 32 UInt8) Prog 51 [] fun t40 => chk v (fun (x : api_Vote) => x.Digest) t39 <| (vote_Box_Winner.j2 s1) kind_1 quorum_1 t6_1 best_1 at_ found counts p_1 v t27_1 (!decide (t39 = t40))) ((vote_Box_Winner.j2 s1) kind_1 quorum_1 t6_1 best_1 at_ found counts p_1 v t27_1 false)) (j1 quorum_1 t6_1 best_1 at_ found counts)
def vote_Box_Winner.j4 (s2 : (Int × Bool) → H → Prop) (quorum_5 : Int) (t6_5 : Addr) (best_5 : Addr) (at__4 : Int) (found_4 : Bool) (c_1 : Addr) (n : Int) (first : Bool) (t54_2 : Addr) : H → Prop :=
  ifb ((decide (quorum_5 ≤ n)) && first) (ld c_1 (fun (x : vote_choice) => x.digest) fun t88 => ld c_1 (fun (x : vote_choice) => x.round) fun t90 => st best_5 (fun (_ : Arr 32 UInt8) => t88) <| s2 (t90, true)) (s2 (at__4, found_4))
def vote_Box_Winner.l2 (j3 : Addr → Addr → Int → Bool → H → Prop) (quorum_4 : Int) (t6_4 : Addr) (best_4 : Addr) (t54_1 : Addr) : (Int × Bool) → H → Prop := Lp fun s2 (at__3, found_3) =>
  nxt (κ := vote_choice) (ν := Int) t54_1 fun t55 => ifb t55.o.isSome (ent (κ := vote_choice) (ν := Int) t54_1 fun t57 => box 128 (vote_choice.zero : vote_choice) fun c => st c (fun (_ : vote_choice) => t57.a) <| ld c (fun (x : vote_choice) => x.round) fun t64 => ifb ((!found_3) || (decide (at__3 < t64))) ((vote_Box_Winner.j4 s2) quorum_4 t6_4 best_4 at__3 found_3 c t57.b true t54_1) (ld c (fun (x : vote_choice) => x.round) fun t70 => ifb (t70 == at__3) (call (β := Int) Prog 52 [reg (((⟨some (c.add 1), 32, 32⟩ : Sl).cut 1 0 32 32) : Sl), reg (((⟨some best_4, 32, 32⟩ : Sl).cut 1 0 32 32) : Sl)] fun t77 => (vote_Box_Winner.j4 s2) quorum_4 t6_4 best_4 at__3 found_3 c t57.b (decide (t77 < (0 : Int))) t54_1) ((vote_Box_Winner.j4 s2) quorum_4 t6_4 best_4 at__3 found_3 c t57.b false t54_1))) (j3 t6_4 best_4 at__3 found_3)
def vote_Box_Winner.j3 (k : (T3 (Arr 32 UInt8) Int Bool) → H → Prop) (t6_6 : Addr) (best_6 : Addr) (at__5 : Int) (found_5 : Bool) : H → Prop :=
  ld best_6 (fun (x : Arr 32 UInt8) => x) fun t91 => st t6_6 (fun (_ : Arr 32 UInt8) => t91) <| ld t6_6 (fun (x : Arr 32 UInt8) => x) fun r6_1 => k (⟨r6_1, at__5, found_5⟩ : T3 (Arr 32 UInt8) Int Bool)
def vote_Box_Winner.j1 (k : (T3 (Arr 32 UInt8) Int Bool) → H → Prop) (quorum_3 : Int) (t6_3 : Addr) (best_3 : Addr) (at__2 : Int) (found_2 : Bool) (counts_2 : Mp) : H → Prop :=
  rng counts_2 ([] : List (vote_choice × Int)) fun t54 => vote_Box_Winner.l2 (vote_Box_Winner.j3 k) quorum_3 t6_3 best_3 t54 (at__2, found_2)
def vote_Box_Winner.b (b : Pt) (kind : Int) (quorum : Int) (k : (T3 (Arr 32 UInt8) Int Bool) → H → Prop) : H → Prop :=
  box 24 ((fun _ => 0) : Arr 32 UInt8) fun t6 => call (β := Arr 32 UInt8) Prog 51 [] fun t18 => box 24 ((fun _ => 0) : Arr 32 UInt8) fun best => st best (fun (_ : Arr 32 UInt8) => t18) <| ifb b.isNone (call (β := Arr 32 UInt8) Prog 51 [] fun t21 => st t6 (fun (_ : Arr 32 UInt8) => t21) <| ld t6 (fun (x : Arr 32 UInt8) => x) fun r6 => k (⟨r6, (0 : Int), false⟩ : T3 (Arr 32 UInt8) Int Bool)) (mkmap fun t22 => nn b fun p => ld p (fun (x : vote_Box) => x.votes) fun t26 => rng t26 ([] : List (vote_place × api_Vote)) fun t27 => vote_Box_Winner.l1 (vote_Box_Winner.j1 k) kind quorum t6 best (0 : Int) false t22 t27 ())
def law19_alive.j4 (k : Bool → H → Prop) (t0 : Bool) : H → Prop :=
  k (t0 : Bool)
def law19_alive.j3 (k : Bool → H → Prop) (c_2 : Pt) (b_2 : Addr) (t65 : Bool) : H → Prop :=
  ifb t65 (k (false : Bool)) (ld b_2 (fun (x : api_Block) => x) fun t67 => call (β := Arr 32 UInt8) Prog 34 [reg (t67 : api_Block)] fun t68 => call (β := Sl) Prog 39 [reg (c_2 : Pt), reg (({ api_Vote.zero with Kind := (2 : Int), Height := (1 : Int), Digest := t68, From := (1 : Int) } : api_Vote) : api_Vote)] fun t70 => ifb ((t70.len : Int) == (1 : Int)) (sidx t70 (0 : Int) 135 fun t76 => ld t76 (fun (x : api_Act) => x.Act) fun t78 => (law19_alive.j4 k) (t78 == (3 : Int))) ((law19_alive.j4 k) false))
def law19_alive.j2 (k : Bool → H → Prop) (c_1 : Pt) (b_1 : Addr) (t50 : Bool) : H → Prop :=
  ifb t50 (k (false : Bool)) (ld b_1 (fun (x : api_Block) => x) fun t52 => call (β := Arr 32 UInt8) Prog 34 [reg (t52 : api_Block)] fun t53 => call (β := Sl) Prog 39 [reg (c_1 : Pt), reg (({ api_Vote.zero with Kind := (1 : Int), Height := (1 : Int), Digest := t53, From := (1 : Int) } : api_Vote) : api_Vote)] fun t55 => ifb ((t55.len : Int) != (1 : Int)) ((law19_alive.j3 k) c_1 b_1 true) (sidx t55 (0 : Int) 135 fun t61 => ld t61 (fun (x : api_Act) => x.Kind) fun t63 => (law19_alive.j3 k) c_1 b_1 (t63 != (2 : Int))))
def law19_alive.j1 (k : Bool → H → Prop) (c : Pt) (t26 : Bool) : H → Prop :=
  ifb t26 (k (false : Bool)) (box 75 (api_Block.zero : api_Block) fun b => st b (fun (_ : api_Block) => ({ api_Block.zero with Height := (1 : Int) } : api_Block)) <| ld b (fun (x : api_Block) => x) fun t29 => call (β := Sl) Prog 38 [reg (c : Pt), reg (({ api_Plan.zero with Height := (1 : Int), Valid := (-1 : Int), Block := t29, From := (1 : Int) } : api_Plan) : api_Plan)] fun t31 => ifb ((t31.len : Int) != (1 : Int)) ((law19_alive.j2 k) c b true) (sidx t31 (0 : Int) 135 fun t37 => ld t37 (fun (x : api_Act) => x.Act) fun t39 => ifb (t39 != (2 : Int)) ((law19_alive.j2 k) c b true) (sidx t31 (0 : Int) 135 fun t44 => ld t44 (fun (x : api_Act) => x.Digest) fun t46 => ld b (fun (x : api_Block) => x) fun t47 => call (β := Arr 32 UInt8) Prog 34 [reg (t47 : api_Block)] fun t48 => chk t44 (fun (x : api_Act) => x.Digest) t46 <| (law19_alive.j2 k) c b (!decide (t46 = t48)))))
def law19_alive.b (k : Bool → H → Prop) : H → Prop :=
  mks 110 [(({ api_Member.zero with Id := (1 : Int) } : api_Member) : api_Member)] fun t5 => call (β := Pt) Prog 28 [reg (({ api_Config.zero with Members := t5 } : api_Config) : api_Config), reg ((1 : Int) : Int), reg ((1 : Int) : Int), reg ((1 : Int) : Int)] fun t7 => call (β := Sl) Prog 32 [reg (t7 : Pt)] fun t9 => ifb ((t9.len : Int) != (1 : Int)) ((law19_alive.j1 k) t7 true) (sidx t9 (0 : Int) 135 fun t15 => ld t15 (fun (x : api_Act) => x.Act) fun t17 => ifb (t17 != (1 : Int)) ((law19_alive.j1 k) t7 true) (sidx t9 (0 : Int) 135 fun t22 => ld t22 (fun (x : api_Act) => x.Valid) fun t24 => (law19_alive.j1 k) t7 (t24 != (-1 : Int))))
def law19_game.l1 (j1 : Int → Int → Addr → H → Prop) (n_1 : Int) (height_1 : Int) (g : Addr) : Int → H → Prop := Lp fun s1 i =>
  ifb (decide (i ≤ n_1)) (ld g (fun (x : law19_Game) => x.config.Members) fun t21 => mks 110 [(({ api_Member.zero with Id := i } : api_Member) : api_Member)] fun t24 => app 110 34 48 (enc (api_Member.zero : api_Member)) t21 t24 fun t25 => st g (fun (x : law19_Game) => { x with config.Members := t25 }) <| s1 (iadd i (1 : Int))) (j1 n_1 height_1 g)
def law19_game.l2 (j2 : Addr → H → Prop) (n_3 : Int) (height_3 : Int) (g_2 : Addr) : Int → H → Prop := Lp fun s2 i_1 =>
  ld g_2 (fun (x : law19_Game) => x.config) fun t34 => call (β := Int) Prog 53 [reg (t34 : api_Config)] fun t35 => ifb (decide (i_1 < (isub n_3 t35))) (ld g_2 (fun (x : law19_Game) => x.cores) fun t44 => ld g_2 (fun (x : law19_Game) => x.config) fun t48 => call (β := Pt) Prog 28 [reg (t48 : api_Config), reg ((iadd i_1 (1 : Int)) : Int), reg (height_3 : Int), reg ((1 : Int) : Int)] fun t52 => chk g_2 (fun (x : law19_Game) => x.cores) t44 <| mks 62 [(t52 : Pt)] fun t53 => chk g_2 (fun (x : law19_Game) => x.cores) t44 <| app 62 1 8 (enc (none : Pt)) t44 t53 fun t54 => st g_2 (fun (x : law19_Game) => { x with cores := t54 }) <| ld g_2 (fun (x : law19_Game) => x.own) fun t61 => mks 22 [(Sl.nil : Sl)] fun t62 => app 22 1 24 (enc (Sl.nil : Sl)) t61 t62 fun t63 => st g_2 (fun (x : law19_Game) => { x with own := t63 }) <| ld g_2 (fun (x : law19_Game) => x.decided) fun t70 => mks 24 [((arrOf [0, 0, 0, 0, 0, 0, 0, 0, 0, 0, 0, 0, 0, 0, 0, 0, 0, 0, 0, 0, 0, 0, 0, 0, 0, 0, 0, 0, 0, 0, 0, 0] : Arr 32 UInt8) : Arr 32 UInt8)] fun t72 => app 24 32 32 (enc ((fun _ => 0) : Arr 32 UInt8)) t70 t72 fun t73 => st g_2 (fun (x : law19_Game) => { x with decided := t73 }) <| s2 (iadd i_1 (1 : Int))) (j2 g_2)
def law19_game.j2 (k : Pt → H → Prop) (g_3 : Addr) : H → Prop :=
  k ((some g_3) : Pt)
def law19_game.j1 (k : Pt → H → Prop) (n_2 : Int) (height_2 : Int) (g_1 : Addr) : H → Prop :=
  law19_game.l2 (law19_game.j2 k) n_2 height_2 g_1 (0 : Int)
def law19_game.b (n : Int) (height : Int) (k : Pt → H → Prop) : H → Prop :=
  box 61 (({ law19_Game.zero with height := height } : law19_Game) : law19_Game) fun t10 => law19_game.l1 (law19_game.j1 k) n height t10 (1 : Int)
def ref08_Faults.l1 (j1 : Int → H → Prop) (n_1 : Int) : Int → H → Prop := Lp fun s1 f =>
  ifb (decide ((iadd (imul (3 : Int) (iadd f (1 : Int))) (1 : Int)) ≤ n_1)) (s1 (iadd f (1 : Int))) (j1 f)
def ref08_Faults.j1 (k : Int → H → Prop) (f_1 : Int) : H → Prop :=
  k (f_1 : Int)
def ref08_Faults.b (n : Int) (k : Int → H → Prop) : H → Prop :=
  ref08_Faults.l1 (ref08_Faults.j1 k) n (0 : Int)
def round_New.j2 (k : Pt → H → Prop) (t8 : Addr) : H → Prop :=
  k ((some t8) : Pt)
def round_New.j1 (k : Pt → H → Prop) (me_1 : Int) (height_1 : Int) (base_1 : Int) (c_2 : Addr) (t17 : Bool) : H → Prop :=
  ifb t17 (k ((none : Pt) : Pt)) (ld c_2 (fun (x : api_Config) => x.Members) fun t19 => call (β := Sl) Prog 56 [reg (t19 : Sl)] fun t20 => st c_2 (fun (x : api_Config) => { x with Members := t20 }) <| ld c_2 (fun (x : api_Config) => x) fun t22 => both (call (β := Cx) Prog 30 [reg (height_1 : Int), reg ((0 : Int) : Int)] fun t26 => chk c_2 (fun (x : api_Config) => x) t22 <| both (mkmap fun t29 => chk c_2 (fun (x : api_Config) => x) t22 <| both (mkmap fun t30 => chk c_2 (fun (x : api_Config) => x) t22 <| call (β := Pt) Prog 9 [] fun t31 => chk c_2 (fun (x : api_Config) => x) t22 <| box 140 (({ round_Core.zero with config := t22, me := me_1, base := base_1, at_ := t26, locked := ({ round_mark.zero with round := (-1 : Int) } : round_mark), valid := ({ round_mark.zero with round := (-1 : Int) } : round_mark), plans := t29, blocks := t30, box := t31 } : round_Core) : round_Core) fun t33 => (round_New.j2 k) t33) (call (β := Pt) Prog 9 [] fun t31_1 => chk c_2 (fun (x : api_Config) => x) t22 <| mkmap fun t30_1 => chk c_2 (fun (x : api_Config) => x) t22 <| box 140 (({ round_Core.zero with config := t22, me := me_1, base := base_1, at_ := t26, locked := ({ round_mark.zero with round := (-1 : Int) } : round_mark), valid := ({ round_mark.zero with round := (-1 : Int) } : round_mark), plans := t29, blocks := t30_1, box := t31_1 } : round_Core) : round_Core) fun t33_1 => (round_New.j2 k) t33_1)) (both (mkmap fun t30_2 => chk c_2 (fun (x : api_Config) => x) t22 <| both (mkmap fun t29_1 => chk c_2 (fun (x : api_Config) => x) t22 <| call (β := Pt) Prog 9 [] fun t31_2 => chk c_2 (fun (x : api_Config) => x) t22 <| box 140 (({ round_Core.zero with config := t22, me := me_1, base := base_1, at_ := t26, locked := ({ round_mark.zero with round := (-1 : Int) } : round_mark), valid := ({ round_mark.zero with round := (-1 : Int) } : round_mark), plans := t29_1, blocks := t30_2, box := t31_2 } : round_Core) : round_Core) fun t33_2 => (round_New.j2 k) t33_2) (call (β := Pt) Prog 9 [] fun t31_3 => chk c_2 (fun (x : api_Config) => x) t22 <| mkmap fun t29_2 => chk c_2 (fun (x : api_Config) => x) t22 <| box 140 (({ round_Core.zero with config := t22, me := me_1, base := base_1, at_ := t26, locked := ({ round_mark.zero with round := (-1 : Int) } : round_mark), valid := ({ round_mark.zero with round := (-1 : Int) } : round_mark), plans := t29_2, blocks := t30_2, box := t31_3 } : round_Core) : round_Core) fun t33_3 => (round_New.j2 k) t33_3)) (call (β := Pt) Prog 9 [] fun t31_4 => chk c_2 (fun (x : api_Config) => x) t22 <| both (mkmap fun t29_3 => chk c_2 (fun (x : api_Config) => x) t22 <| mkmap fun t30_3 => chk c_2 (fun (x : api_Config) => x) t22 <| box 140 (({ round_Core.zero with config := t22, me := me_1, base := base_1, at_ := t26, locked := ({ round_mark.zero with round := (-1 : Int) } : round_mark), valid := ({ round_mark.zero with round := (-1 : Int) } : round_mark), plans := t29_3, blocks := t30_3, box := t31_4 } : round_Core) : round_Core) fun t33_4 => (round_New.j2 k) t33_4) (mkmap fun t30_4 => chk c_2 (fun (x : api_Config) => x) t22 <| mkmap fun t29_4 => chk c_2 (fun (x : api_Config) => x) t22 <| box 140 (({ round_Core.zero with config := t22, me := me_1, base := base_1, at_ := t26, locked := ({ round_mark.zero with round := (-1 : Int) } : round_mark), valid := ({ round_mark.zero with round := (-1 : Int) } : round_mark), plans := t29_4, blocks := t30_4, box := t31_4 } : round_Core) : round_Core) fun t33_5 => (round_New.j2 k) t33_5)))) (both (mkmap fun t29_5 => chk c_2 (fun (x : api_Config) => x) t22 <| both (call (β := Cx) Prog 30 [reg (height_1 : Int), reg ((0 : Int) : Int)] fun t26_1 => chk c_2 (fun (x : api_Config) => x) t22 <| both (mkmap fun t30_5 => chk c_2 (fun (x : api_Config) => x) t22 <| call (β := Pt) Prog 9 [] fun t31_5 => chk c_2 (fun (x : api_Config) => x) t22 <| box 140 (({ round_Core.zero with config := t22, me := me_1, base := base_1, at_ := t26_1, locked := ({ round_mark.zero with round := (-1 : Int) } : round_mark), valid := ({ round_mark.zero with round := (-1 : Int) } : round_mark), plans := t29_5, blocks := t30_5, box := t31_5 } : round_Core) : round_Core) fun t33_6 => (round_New.j2 k) t33_6) (call (β := Pt) Prog 9 [] fun t31_6 => chk c_2 (fun (x : api_Config) => x) t22 <| mkmap fun t30_6 => chk c_2 (fun (x : api_Config) => x) t22 <| box 140 (({ round_Core.zero with config := t22, me := me_1, base := base_1, at_ := t26_1, locked := ({ round_mark.zero with round := (-1 : Int) } : round_mark), valid := ({ round_mark.zero with round := (-1 : Int) } : round_mark), plans := t29_5, blocks := t30_6, box := t31_6 } : round_Core) : round_Core) fun t33_7 => (round_New.j2 k) t33_7)) (mkmap fun t30_7 => chk c_2 (fun (x : api_Config) => x) t22 <| call (β := Cx) Prog 30 [reg (height_1 : Int), reg ((0 : Int) : Int)] fun t26_2 => chk c_2 (fun (x : api_Config) => x) t22 <| call (β := Pt) Prog 9 [] fun t31_7 => chk c_2 (fun (x : api_Config) => x) t22 <| box 140 (({ round_Core.zero with config := t22, me := me_1, base := base_1, at_ := t26_2, locked := ({ round_mark.zero with round := (-1 : Int) } : round_mark), valid := ({ round_mark.zero with round := (-1 : Int) } : round_mark), plans := t29_5, blocks := t30_7, box := t31_7 } : round_Core) : round_Core) fun t33_8 => (round_New.j2 k) t33_8)) (mkmap fun t30_8 => chk c_2 (fun (x : api_Config) => x) t22 <| both (call (β := Cx) Prog 30 [reg (height_1 : Int), reg ((0 : Int) : Int)] fun t26_3 => chk c_2 (fun (x : api_Config) => x) t22 <| both (mkmap fun t29_6 => chk c_2 (fun (x : api_Config) => x) t22 <| call (β := Pt) Prog 9 [] fun t31_8 => chk c_2 (fun (x : api_Config) => x) t22 <| box 140 (({ round_Core.zero with config := t22, me := me_1, base := base_1, at_ := t26_3, locked := ({ round_mark.zero with round := (-1 : Int) } : round_mark), valid := ({ round_mark.zero with round := (-1 : Int) } : round_mark), plans := t29_6, blocks := t30_8, box := t31_8 } : round_Core) : round_Core) fun t33_9 => (round_New.j2 k) t33_9) (call (β := Pt) Prog 9 [] fun t31_9 => chk c_2 (fun (x : api_Config) => x) t22 <| mkmap fun t29_7 => chk c_2 (fun (x : api_Config) => x) t22 <| box 140 (({ round_Core.zero with config := t22, me := me_1, base := base_1, at_ := t26_3, locked := ({ round_mark.zero with round := (-1 : Int) } : round_mark), valid := ({ round_mark.zero with round := (-1 : Int) } : round_mark), plans := t29_7, blocks := t30_8, box := t31_9 } : round_Core) : round_Core) fun t33_10 => (round_New.j2 k) t33_10)) (mkmap fun t29_8 => chk c_2 (fun (x : api_Config) => x) t22 <| call (β := Cx) Prog 30 [reg (height_1 : Int), reg ((0 : Int) : Int)] fun t26_4 => chk c_2 (fun (x : api_Config) => x) t22 <| call (β := Pt) Prog 9 [] fun t31_10 => chk c_2 (fun (x : api_Config) => x) t22 <| box 140 (({ round_Core.zero with config := t22, me := me_1, base := base_1, at_ := t26_4, locked := ({ round_mark.zero with round := (-1 : Int) } : round_mark), valid := ({ round_mark.zero with round := (-1 : Int) } : round_mark), plans := t29_8, blocks := t30_8, box := t31_10 } : round_Core) : round_Core) fun t33_11 => (round_New.j2 k) t33_11))))
def round_New.b (c : api_Config) (me : Int) (height : Int) (base : Int) (k : Pt → H → Prop) : H → Prop :=
  box 54 (c : api_Config) fun c_1 => ld c_1 (fun (x : api_Config) => x) fun t9 => call (β := Bool) Prog 54 [reg (t9 : api_Config)] fun t10 => ifb (!t10) ((round_New.j1 k) me height base c_1 true) (call (β := Cx) Prog 30 [reg (height : Int), reg ((0 : Int) : Int)] fun t14 => call (β := Bool) Prog 55 [reg (t14 : Cx)] fun t15 => (round_New.j1 k) me height base c_1 (!t15))
def rank_Leader.j1 (k : Int → H → Prop) (n_1 : Int) (r_1 : Cx) (t12 : Bool) : H → Prop :=
  ifb t12 (k ((0 : Int) : Int)) (getS (fadd (⟨r_1.re⟩ : Fl) (⟨r_1.im⟩ : Fl)) fun t17 => getS (fcut t17) fun t19 => must (n_1 ≠ 0) <| k ((irem t19 n_1) : Int))
def rank_Leader.b (n : Int) (r : Cx) (k : Int → H → Prop) : H → Prop :=
  ifb (decide (n < (1 : Int))) ((rank_Leader.j1 k) n r true) (call (β := Bool) Prog 55 [reg (r : Cx)] fun t10 => (rank_Leader.j1 k) n r (!t10))
def rank_At.b (height : Int) (round : Int) (k : Cx → H → Prop) : H → Prop :=
  k ((⟨(fnear height).b, (fnear round).b⟩ : Cx) : Cx)
def law19_Game_acts.j2 (s1 : Sl → H → Prop) (g_2 : Pt) (i_2 : Int) (list_2 : Sl) (a_1 : Addr) (b_1 : Addr) : H → Prop :=
  nn g_2 fun p_1 => ld p_1 (fun (x : law19_Game) => x.height) fun t57 => ld a_1 (fun (x : api_Act) => x.Round) fun t59 => ld a_1 (fun (x : api_Act) => x.Valid) fun t61 => ld b_1 (fun (x : api_Block) => x) fun t62 => box 77 (api_Plan.zero : api_Plan) fun p_2 => chk p_1 (fun (x : law19_Game) => x.height) t57 <| chk a_1 (fun (x : api_Act) => x.Round) t59 <| chk a_1 (fun (x : api_Act) => x.Valid) t61 <| chk b_1 (fun (x : api_Block) => x) t62 <| st p_2 (fun (_ : api_Plan) => ({ api_Plan.zero with Height := t57, Round := t59, Valid := t61, Block := t62, From := (iadd i_2 (1 : Int)) } : api_Plan)) <| ld p_1 (fun (x : law19_Game) => x.plans) fun t70 => ld p_2 (fun (x : api_Plan) => x) fun t71 => mks 77 [(t71 : api_Plan)] fun t72 => chk p_1 (fun (x : law19_Game) => x.plans) t70 <| app 77 108 256 (enc (api_Plan.zero : api_Plan)) t70 t72 fun t73 => st p_1 (fun (x : law19_Game) => { x with plans := t73 }) <| ld p_1 (fun (x : law19_Game) => x.order) fun t80 => mks 4 [(true : Bool)] fun t81 => app 4 1 1 (enc (false : Bool)) t80 t81 fun t82 => st p_1 (fun (x : law19_Game) => { x with order := t82 }) <| ld p_1 (fun (x : law19_Game) => x.cores) fun t89 => sidx t89 i_2 1 fun t91 => ld t91 (fun (x : Pt) => x) fun t92 => ld p_2 (fun (x : api_Plan) => x) fun t93 => call (β := Sl) Prog 38 [reg (t92 : Pt), reg (t93 : api_Plan)] fun t94 => app 80 135 200 (enc (api_Act.zero : api_Act)) list_2 t94 fun t95 => s1 t95
def law19_Game_acts.j3 (k : Bool → H → Prop) (s1 : Sl → H → Prop) (g_3 : Pt) (i_3 : Int) (list_3 : Sl) (a_2 : Addr) (t179 : Bool) : H → Prop :=
  ifb t179 (k (false : Bool)) (nn g_3 fun p_5 => ld p_5 (fun (x : law19_Game) => x.decided) fun t183 => ld a_2 (fun (x : api_Act) => x.Digest) fun t186 => sidx t183 i_3 32 fun t187 => st t187 (fun (_ : Arr 32 UInt8) => t186) <| s1 list_3)
def law19_Game_acts.l1 (j1 : H → Prop) (k : Bool → H → Prop) (g_1 : Pt) (i_1 : Int) : Sl → H → Prop := Lp fun s1 list_1 =>
  ifb (decide ((0 : Int) < (list_1.len : Int))) (sidx list_1 (0 : Int) 135 fun t15 => ld t15 (fun (x : api_Act) => x) fun t16 => box 80 (api_Act.zero : api_Act) fun a => st a (fun (_ : api_Act) => t16) <| must (0 ≤ (1 : Int) ∧ (1 : Int) ≤ (list_1.len : Int)) <| ld a (fun (x : api_Act) => x.Act) fun t20 => ifb (t20 == (1 : Int)) (ld a (fun (x : api_Act) => x.Block) fun t24 => box 75 (api_Block.zero : api_Block) fun b => st b (fun (_ : api_Block) => t24) <| ld a (fun (x : api_Act) => x.Valid) fun t26 => ifb (decide (t26 < (0 : Int))) (nn g_1 fun p => ld p (fun (x : law19_Game) => x.made) fun t31 => st p (fun (x : law19_Game) => { x with made := (iadd t31 (1 : Int)) }) <| ld p (fun (x : law19_Game) => x.height) fun t38 => ld p (fun (x : law19_Game) => x.made) fun t42 => ld p (fun (x : law19_Game) => x.made) fun t47 => st b (fun (_ : api_Block) => ({ api_Block.zero with Height := t38, Prev := (arrOf [(toU8 t42), (toU8 (ishr t47 8)), (toU8 i_1), 0, 0, 0, 0, 0, 0, 0, 0, 0, 0, 0, 0, 0, 0, 0, 0, 0, 0, 0, 0, 0, 0, 0, 0, 0, 0, 0, 0, 0] : Arr 32 UInt8) } : api_Block)) <| (law19_Game_acts.j2 s1) g_1 i_1 (list_1.cut 135 (1 : Int).toNat list_1.len list_1.cap) a b) ((law19_Game_acts.j2 s1) g_1 i_1 (list_1.cut 135 (1 : Int).toNat list_1.len list_1.cap) a b)) (ifb (t20 == (2 : Int)) (ld a (fun (x : api_Act) => x.Kind) fun t99 => nn g_1 fun p_3 => ld p_3 (fun (x : law19_Game) => x.height) fun t103 => ld a (fun (x : api_Act) => x.Round) fun t105 => ld a (fun (x : api_Act) => x.Digest) fun t107 => box 37 (api_Vote.zero : api_Vote) fun v => chk a (fun (x : api_Act) => x.Kind) t99 <| chk p_3 (fun (x : law19_Game) => x.height) t103 <| chk a (fun (x : api_Act) => x.Round) t105 <| chk a (fun (x : api_Act) => x.Digest) t107 <| st v (fun (_ : api_Vote) => ({ api_Vote.zero with Kind := t99, Height := t103, Round := t105, Digest := t107, From := (iadd i_1 (1 : Int)) } : api_Vote)) <| ld p_3 (fun (x : law19_Game) => x.votes) fun t115 => ld v (fun (x : api_Vote) => x) fun t116 => mks 37 [(t116 : api_Vote)] fun t117 => chk p_3 (fun (x : law19_Game) => x.votes) t115 <| app 37 41 152 (enc (api_Vote.zero : api_Vote)) t115 t117 fun t118 => st p_3 (fun (x : law19_Game) => { x with votes := t118 }) <| ld p_3 (fun (x : law19_Game) => x.order) fun t125 => mks 4 [(false : Bool)] fun t126 => app 4 1 1 (enc (false : Bool)) t125 t126 fun t127 => st p_3 (fun (x : law19_Game) => { x with order := t127 }) <| ld p_3 (fun (x : law19_Game) => x.own) fun t133 => ld p_3 (fun (x : law19_Game) => x.own) fun t138 => sidx t138 i_1 1 fun t140 => ld t140 (fun (x : Sl) => x) fun t141 => ld v (fun (x : api_Vote) => x) fun t142 => mks 37 [(t142 : api_Vote)] fun t143 => chk p_3 (fun (x : law19_Game) => x.own) t133 <| chk p_3 (fun (x : law19_Game) => x.own) t138 <| chk t140 (fun (x : Sl) => x) t141 <| app 37 41 152 (enc (api_Vote.zero : api_Vote)) t141 t143 fun t144 => chk p_3 (fun (x : law19_Game) => x.own) t133 <| sidx t133 i_1 1 fun t145 => st t145 (fun (_ : Sl) => t144) <| ld p_3 (fun (x : law19_Game) => x.cores) fun t150 => sidx t150 i_1 1 fun t152 => ld t152 (fun (x : Pt) => x) fun t153 => ld v (fun (x : api_Vote) => x) fun t154 => call (β := Sl) Prog 39 [reg (t153 : Pt), reg (t154 : api_Vote)] fun t155 => app 80 135 200 (enc (api_Act.zero : api_Act)) (list_1.cut 135 (1 : Int).toNat list_1.len list_1.cap) t155 fun t156 => s1 t156) (ifb (t20 == (3 : Int)) (nn g_1 fun p_4 => ld p_4 (fun (x : law19_Game) => x.decided) fun t162 => sidx t162 i_1 32 fun t164 => ld t164 (fun (x : Arr 32 UInt8) => x) fun t165 => ifb (!decide (t165 = (arrOf [0, 0, 0, 0, 0, 0, 0, 0, 0, 0, 0, 0, 0, 0, 0, 0, 0, 0, 0, 0, 0, 0, 0, 0, 0, 0, 0, 0, 0, 0, 0, 0] : Arr 32 UInt8))) (ld p_4 (fun (x : law19_Game) => x.decided) fun t172 => sidx t172 i_1 32 fun t174 => ld t174 (fun (x : Arr 32 UInt8) => x) fun t175 => ld a (fun (x : api_Act) => x.Digest) fun t177 => (law19_Game_acts.j3 k s1) g_1 i_1 (list_1.cut 135 (1 : Int).toNat list_1.len list_1.cap) a (!decide (t175 = t177))) ((law19_Game_acts.j3 k s1) g_1 i_1 (list_1.cut 135 (1 : Int).toNat list_1.len list_1.cap) a false)) (s1 (list_1.cut 135 (1 : Int).toNat list_1.len list_1.cap))))) (j1)
def law19_Game_acts.j1 (k : Bool → H → Prop) : H → Prop :=
  k (true : Bool)
def law19_Game_acts.b (g : Pt) (i : Int) (list : Sl) (k : Bool → H → Prop) : H → Prop :=
  law19_Game_acts.l1 (law19_Game_acts.j1 k) k g i list
def round_Core_Start.j2 (k : Sl → H → Prop) (c_2 : Pt) : H → Prop :=
  call (β := Sl) Prog 58 [reg (c_2 : Pt)] fun t19 => k (t19 : Sl)
def round_Core_Start.j1 (k : Sl → H → Prop) (c_1 : Pt) (t10 : Bool) : H → Prop :=
  ifb t10 (k (Sl.nil : Sl)) (nn c_1 fun p_1 => ld p_1 (fun (x : round_Core) => x.step) fun t14 => ifb (t14 == (0 : Int)) (call (β := Unit) Prog 57 [reg (c_1 : Pt), reg ((0 : Int) : Int)] fun t17 => (round_Core_Start.j2 k) c_1) ((round_Core_Start.j2 k) c_1))
def round_Core_Start.b (c : Pt) (k : Sl → H → Prop) : H → Prop :=
  ifb c.isNone ((round_Core_Start.j1 k) c true) (nn c fun p => ld p (fun (x : round_Core) => x.decided) fun t9 => (round_Core_Start.j1 k) c t9)
def law19_Game_hear.j2 (s1 : (Int × Int × Int) → H → Prop) (g_2 : Pt) (i_2 : Int) (n_2 : Int) (plans_1 : Int) (votes_1 : Int) (t14_2 : Sl) (t15_1 : Int) (t16_1 : Int) : H → Prop :=
  s1 (plans_1, votes_1, (iadd t16_1 (1 : Int)))
def law19_Game_hear.l1 (j1 : H → Prop) (k : Bool → H → Prop) (g_1 : Pt) (i_1 : Int) (n_1 : Int) (t14_1 : Sl) (t15 : Int) : (Int × Int × Int) → H → Prop := Lp fun s1 (plans, votes, t16) =>
  ifb (decide (t16 < t15)) (sidx t14_1 t16 1 fun t19 => ld t19 (fun (x : Bool) => x) fun t20 => ifb ((t16 == n_1) && t20) (nn g_1 fun p_1 => ld p_1 (fun (x : law19_Game) => x.cores) fun t32 => sidx t32 i_1 1 fun t34 => ld t34 (fun (x : Pt) => x) fun t35 => ld p_1 (fun (x : law19_Game) => x.plans) fun t39 => sidx t39 plans 108 fun t41 => ld t41 (fun (x : api_Plan) => x) fun t42 => call (β := Sl) Prog 38 [reg (t35 : Pt), reg (t42 : api_Plan)] fun t43 => call (β := Bool) Prog 31 [reg (g_1 : Pt), reg (i_1 : Int), reg (t43 : Sl)] fun t44 => k (t44 : Bool)) (ifb (t16 == n_1) (nn g_1 fun p_2 => ld p_2 (fun (x : law19_Game) => x.cores) fun t53 => sidx t53 i_1 1 fun t55 => ld t55 (fun (x : Pt) => x) fun t56 => ld p_2 (fun (x : law19_Game) => x.votes) fun t60 => sidx t60 votes 41 fun t62 => ld t62 (fun (x : api_Vote) => x) fun t63 => call (β := Sl) Prog 39 [reg (t56 : Pt), reg (t63 : api_Vote)] fun t64 => call (β := Bool) Prog 31 [reg (g_1 : Pt), reg (i_1 : Int), reg (t64 : Sl)] fun t65 => k (t65 : Bool)) (ifb t20 ((law19_Game_hear.j2 s1) g_1 i_1 n_1 (iadd plans (1 : Int)) votes t14_1 t15 t16) ((law19_Game_hear.j2 s1) g_1 i_1 n_1 plans (iadd votes (1 : Int)) t14_1 t15 t16)))) (j1)
def law19_Game_hear.j1 (k : Bool → H → Prop) : H → Prop :=
  k (true : Bool)
def law19_Game_hear.b (g : Pt) (i : Int) (n : Int) (k : Bool → H → Prop) : H → Prop :=
  nn g fun p => ld p (fun (x : law19_Game) => x.order) fun t14 => law19_Game_hear.l1 (law19_Game_hear.j1 k) k g i n t14 (t14.len : Int) ((0 : Int), (0 : Int), (0 : Int))
def block_Digest.b (b : api_Block) (k : (Arr 32 UInt8) → H → Prop) : H → Prop :=
  box 75 (b : api_Block) fun b_1 => box 24 ((fun _ => 0) : Arr 32 UInt8) fun t2 => box 145 (code_Writer.zero : code_Writer) fun t5 => ld b_1 (fun (x : api_Block) => x) fun t7 => call (β := Unit) Prog 59 [reg ((some t5) : Pt), reg (t7 : api_Block)] fun t8 => mks 5 [((98 : UInt8) : UInt8), ((108 : UInt8) : UInt8), ((111 : UInt8) : UInt8), ((99 : UInt8) : UInt8), ((107 : UInt8) : UInt8)] fun t9 => strish t9 fun t10 => call (β := Sl) Prog 61 [reg ((some t5) : Pt)] fun t12 => mks 130 [(t10 : Sl), (t12 : Sl)] fun t13 => call (β := Arr 32 UInt8) Prog 60 [reg (t13 : Sl)] fun t14 => st t2 (fun (_ : Arr 32 UInt8) => t14) <| ld t2 (fun (x : Arr 32 UInt8) => x) fun r2 => k (r2 : Arr 32 UInt8)
def round_Core_Plan.j3 (j2 : Pt → H → Prop) (c_2 : Pt) (p_5 : Addr) (t61 : Bool) : H → Prop :=
  ifb t61 (nn c_2 fun p_6 => ld p_6 (fun (x : round_Core) => x.plans) fun t65 => ld p_5 (fun (x : api_Plan) => x.Round) fun t67 => ld p_5 (fun (x : api_Plan) => x) fun t68 => mput t65 (t67 : Int) (t68 : api_Plan) <| j2 c_2) (j2 c_2)
def round_Core_Plan.j2 (k : Sl → H → Prop) (c_3 : Pt) : H → Prop :=
  call (β := Sl) Prog 58 [reg (c_3 : Pt)] fun t70 => k (t70 : Sl)
def round_Core_Plan.j1 (k : Sl → H → Prop) (c_1 : Pt) (p_2 : Addr) (t24 : Bool) : H → Prop :=
  ifb t24 (k (Sl.nil : Sl)) (ld p_2 (fun (x : api_Plan) => x.Block) fun t26 => call (β := api_Block) Prog 69 [reg (t26 : api_Block)] fun t27 => st p_2 (fun (x : api_Plan) => { x with Block := t27 }) <| nn c_1 fun p_4 => ld p_4 (fun (x : round_Core) => x.blocks) fun t32 => ld p_2 (fun (x : api_Plan) => x.Block) fun t34 => ld p_2 (fun (x : api_Plan) => x.Block) fun t37 => call (β := Arr 32 UInt8) Prog 34 [reg (t34 : api_Block)] fun t35 => chk p_4 (fun (x : round_Core) => x.blocks) t32 <| chk p_2 (fun (x : api_Plan) => x.Block) t37 <| mput t32 (t35 : Arr 32 UInt8) (t37 : api_Block) <| ld p_4 (fun (x : round_Core) => x.plans) fun t42 => ld p_2 (fun (x : api_Plan) => x.Round) fun t44 => mget t42 (fun (l : List (Int × api_Plan)) => mlook (api_Plan.zero : api_Plan) l (t44 : Int)) fun t45 => box 77 (api_Plan.zero : api_Plan) fun t5 => chk p_4 (fun (x : round_Core) => x.plans) t42 <| chk p_2 (fun (x : api_Plan) => x.Round) t44 <| mchk t42 (fun (l : List (Int × api_Plan)) => mlook (api_Plan.zero : api_Plan) l (t44 : Int)) t45 <| st t5 (fun (_ : api_Plan) => t45.a) <| ifb (!t45.b) (ld p_2 (fun (x : api_Plan) => x.Height) fun t53 => ld p_2 (fun (x : api_Plan) => x.Round) fun t55 => ld p_2 (fun (x : api_Plan) => x.From) fun t59 => call (β := Cx) Prog 30 [reg (t53 : Int), reg (t55 : Int)] fun t56 => chk p_2 (fun (x : api_Plan) => x.From) t59 <| call (β := Int) Prog 70 [reg (c_1 : Pt), reg (t56 : Cx)] fun t57 => chk p_2 (fun (x : api_Plan) => x.From) t59 <| (round_Core_Plan.j3 (round_Core_Plan.j2 k)) c_1 p_2 (t57 == t59)) ((round_Core_Plan.j3 (round_Core_Plan.j2 k)) c_1 p_2 false))
def round_Core_Plan.b (c : Pt) (p : api_Plan) (k : Sl → H → Prop) : H → Prop :=
  box 77 (p : api_Plan) fun p_1 => ifb c.isNone ((round_Core_Plan.j1 k) c p_1 true) (nn c fun p_3 => ld p_3 (fun (x : round_Core) => x.decided) fun t13 => ifb t13 ((round_Core_Plan.j1 k) c p_1 true) (ld p_1 (fun (x : api_Plan) => x.Height) fun t17 => ld p_3 (fun (x : round_Core) => x.at_) fun t21 => call (β := Int) Prog 68 [reg (t21 : Cx)] fun t22 => chk p_1 (fun (x : api_Plan) => x.Height) t17 <| (round_Core_Plan.j1 k) c p_1 (t17 != t22)))
def round_Core_Vote.j1 (k : Sl → H → Prop) (c_1 : Pt) (v_2 : Addr) (t22 : Bool) : H → Prop :=
  ifb t22 (k (Sl.nil : Sl)) (nn c_1 fun p_1 => ld p_1 (fun (x : round_Core) => x.box) fun t26 => ld v_2 (fun (x : api_Vote) => x) fun t27 => call (β := Bool) Prog 12 [reg (t26 : Pt), reg (t27 : api_Vote)] fun t28 => call (β := Sl) Prog 58 [reg (c_1 : Pt)] fun t30 => k (t30 : Sl))
def round_Core_Vote.b (c : Pt) (v : api_Vote) (k : Sl → H → Prop) : H → Prop :=
  box 37 (v : api_Vote) fun v_1 => ifb c.isNone ((round_Core_Vote.j1 k) c v_1 true) (nn c fun p => ld p (fun (x : round_Core) => x.decided) fun t11 => ifb t11 ((round_Core_Vote.j1 k) c v_1 true) (ld v_1 (fun (x : api_Vote) => x.Height) fun t15 => ld p (fun (x : round_Core) => x.at_) fun t19 => call (β := Int) Prog 68 [reg (t19 : Cx)] fun t20 => chk v_1 (fun (x : api_Vote) => x.Height) t15 <| (round_Core_Vote.j1 k) c v_1 (t15 != t20)))
def maps_Values_int.b (m : Mp) (k : Fv → H → Prop) : H → Prop :=
  box 118 (m : Mp) fun m_1 => k ((⟨83, #[.pointer (some m_1)]⟩ : Fv) : Fv)
def vote_none.b (k : (Arr 32 UInt8) → H → Prop) : H → Prop :=
  box 24 ((fun _ => 0) : Arr 32 UInt8) fun t0 => box 24 ((fun _ => 0) : Arr 32 UInt8) fun z => ld z (fun (x : Arr 32 UInt8) => x) fun t2 => st t0 (fun (_ : Arr 32 UInt8) => t2) <| ld t0 (fun (x : Arr 32 UInt8) => x) fun r0 => k (r0 : Arr 32 UInt8)
def slices_Compare_byte.l1 (j1 : Sl → Sl → H → Prop) (k : Int → H → Prop) (s1v_1 : Sl) (s2v_1 : Sl) (t9 : Sl) (t10 : Int) : Int → H → Prop := Lp fun s1 t11 =>
  ifb (decide (t11 < t10)) (sidx t9 t11 1 fun t14 => ld t14 (fun (x : UInt8) => x) fun t15 => ifb (decide ((s2v_1.len : Int) ≤ t11)) (k ((1 : Int) : Int)) (sidx s2v_1 t11 1 fun t22 => ld t22 (fun (x : UInt8) => x) fun t23 => call (β := Int) Prog 86 [reg (t15 : UInt8), reg (t23 : UInt8)] fun t26 => ifb (t26 != (0 : Int)) (k (t26 : Int)) (s1 (iadd t11 (1 : Int))))) (j1 s1v_1 s2v_1)
def slices_Compare_byte.j1 (k : Int → H → Prop) (s1v_2 : Sl) (s2v_2 : Sl) : H → Prop :=
  ifb (decide ((s1v_2.len : Int) < (s2v_2.len : Int))) (k ((-1 : Int) : Int)) (k ((0 : Int) : Int))
def slices_Compare_byte.b (s1v : Sl) (s2v : Sl) (k : Int → H → Prop) : H → Prop :=
  slices_Compare_byte.l1 (slices_Compare_byte.j1 k) k s1v s2v s1v (s1v.len : Int) (0 : Int)
def config_Faults.b (c : api_Config) (k : Int → H → Prop) : H → Prop :=
  box 54 (c : api_Config) fun c_1 => ld c_1 (fun (x : api_Config) => x.Members) fun t4 => k ((iquo (imax (isub (t4.len : Int) (1 : Int)) (0 : Int)) (3 : Int)) : Int)
def config_Good.j2 (k : Bool → H → Prop) (s1 : Int → H → Prop) (c_3 : Addr) (t26_2 : Sl) (t27_1 : Int) (t28_1 : Int) (t51 : Bool) : H → Prop :=
  ifb t51 (k (false : Bool)) (s1 (iadd t28_1 (1 : Int)))
def config_Good.l1 (j1 : H → Prop) (k : Bool → H → Prop) (c_2 : Addr) (t26_1 : Sl) (t27 : Int) : Int → H → Prop := Lp fun s1 t28 =>
  ifb (decide (t28 < t27)) (sidx t26_1 t28 34 fun t31 => ld t31 (fun (x : api_Member) => x) fun t32 => box 110 (api_Member.zero : api_Member) fun m => st m (fun (_ : api_Member) => t32) <| ld m (fun (x : api_Member) => x) fun t33 => call (β := Bool) Prog 87 [reg (t33 : api_Member)] fun t34 => ifb (!t34) ((config_Good.j2 k s1) c_2 t26_1 t27 t28 true) (ifb (decide ((0 : Int) < t28)) (ld c_2 (fun (x : api_Config) => x.Members) fun t41 => sidx t41 (isub t28 (1 : Int)) 34 fun t44 => ld t44 (fun (x : api_Member) => x.Id) fun t46 => ld m (fun (x : api_Member) => x.Id) fun t48 => (config_Good.j2 k s1) c_2 t26_1 t27 t28 (decide (t48 ≤ t46))) ((config_Good.j2 k s1) c_2 t26_1 t27 t28 false))) (j1)
def config_Good.j1 (k : Bool → H → Prop) : H → Prop :=
  k (true : Bool)
def config_Good.b (c : api_Config) (k : Bool → H → Prop) : H → Prop :=
  box 54 (c : api_Config) fun c_1 => ld c_1 (fun (x : api_Config) => x.Epoch) fun t6 => ld c_1 (fun (x : api_Config) => x.Epoch) fun t10 => ld c_1 (fun (x : api_Config) => x.Members) fun t15 => ld c_1 (fun (x : api_Config) => x.Members) fun t21 => ifb ((((decide (t6 < (0 : Int))) || (decide ((1073741824 : Int) < t10))) || ((t15.len : Int) == (0 : Int))) || (decide ((10 : Int) < (t21.len : Int)))) (k (false : Bool)) (ld c_1 (fun (x : api_Config) => x.Members) fun t26 => config_Good.l1 (config_Good.j1 k) k c_1 t26 (t26.len : Int) (0 : Int))
def rank_Good.j1 (k : Bool → H → Prop) (t2 : Bool) : H → Prop :=
  k (t2 : Bool)
def rank_Good.b (r : Cx) (k : Bool → H → Prop) : H → Prop :=
  call (β := Bool) Prog 88 [reg ((⟨r.re⟩ : Fl) : Fl), reg ((1 : Int) : Int), reg ((1024 : Int) : Int)] fun t5 => ifb t5 (call (β := Bool) Prog 88 [reg ((⟨r.im⟩ : Fl) : Fl), reg ((0 : Int) : Int), reg ((1024 : Int) : Int)] fun t9 => (rank_Good.j1 k) t9) ((rank_Good.j1 k) false)
def slices_Clone_Member.b (s : Sl) (k : Sl → H → Prop) : H → Prop :=
  ifb s.a.isNone (k (Sl.nil : Sl)) (mks 110 ([] : List api_Member) fun t5 => app 110 34 48 (enc (api_Member.zero : api_Member)) t5 s fun t7 => k (t7 : Sl))
def round_Core_enter.j1 (k : Unit → H → Prop) (c_1 : Pt) (round_1 : Int) (t37 : Bool) : H → Prop :=
  ifb t37 (nn c_1 fun p_1 => ld p_1 (fun (x : round_Core) => x.valid.round) fun t44 => ld p_1 (fun (x : round_Core) => x.valid.block) fun t49 => call (β := Unit) Prog 90 [reg (c_1 : Pt), reg (({ api_Act.zero with Act := (1 : Int), Round := round_1, Valid := t44, Block := t49 } : api_Act) : api_Act)] fun t51 => k ()) (k ())
def round_Core_enter.b (c : Pt) (round : Int) (k : Unit → H → Prop) : H → Prop :=
  nn c fun p => ld p (fun (x : round_Core) => x.at_) fun t11 => call (β := Int) Prog 68 [reg (t11 : Cx)] fun t12 => call (β := Cx) Prog 30 [reg (t12 : Int), reg (round : Int)] fun t14 => st p (fun (x : round_Core) => { x with at_ := t14 }) <| st p (fun (x : round_Core) => { x with step := (1 : Int) }) <| st p (fun (x : round_Core) => { x with ticks := (0 : Int) }) <| st p (fun (x : round_Core) => { x with fresh := true }) <| call (β := Bool) Prog 89 [reg (c : Pt)] fun t24 => ifb t24 (ld p (fun (x : round_Core) => x.at_) fun t30 => ld p (fun (x : round_Core) => x.me) fun t35 => call (β := Int) Prog 70 [reg (c : Pt), reg (t30 : Cx)] fun t31 => chk p (fun (x : round_Core) => x.me) t35 <| (round_Core_enter.j1 k) c round (t31 == t35)) ((round_Core_enter.j1 k) c round false)
def round_Core_acts.j2 (j1 : Pt → H → Prop) (s1 : Unit → H → Prop) (c_2 : Pt) (t12 : Bool) : H → Prop :=
  ifb t12 (s1 ()) (j1 c_2)
def round_Core_acts.l1 (j1 : Pt → H → Prop) (c_1 : Pt) : Unit → H → Prop := Lp fun s1 _ =>
  nn c_1 fun p => ld p (fun (x : round_Core) => x.decided) fun t7 => ifb (!t7) (call (β := Bool) Prog 91 [reg (c_1 : Pt)] fun t11 => (round_Core_acts.j2 j1 s1) c_1 t11) ((round_Core_acts.j2 j1 s1) c_1 false)
def round_Core_acts.j1 (k : Sl → H → Prop) (c_3 : Pt) : H → Prop :=
  nn c_3 fun p_1 => ld p_1 (fun (x : round_Core) => x.out) fun t16 => st p_1 (fun (x : round_Core) => { x with out := Sl.nil }) <| st p_1 (fun (x : round_Core) => { x with fresh := false }) <| k (t16 : Sl)
def round_Core_acts.b (c : Pt) (k : Sl → H → Prop) : H → Prop :=
  round_Core_acts.l1 (round_Core_acts.j1 k) c ()
def block_Write.l1 (k : Unit → H → Prop) (w_1 : Pt) (t29_1 : Sl) (t30 : Int) : Int → H → Prop := Lp fun s1 t31 =>
  ifb (decide (t31 < t30)) (sidx t29_1 t31 42 fun t33 => ld t33 (fun (x : api_Request) => x) fun t34 => box 182 (api_Request.zero : api_Request) fun q => st q (fun (_ : api_Request) => t34) <| ld q (fun (x : api_Request) => x) fun t36 => call (β := Unit) Prog 94 [reg (w_1 : Pt), reg (t36 : api_Request)] fun t37 => s1 (iadd t31 (1 : Int))) (k ())
def block_Write.b (w : Pt) (b : api_Block) (k : Unit → H → Prop) : H → Prop :=
  box 75 (b : api_Block) fun b_1 => ld b_1 (fun (x : api_Block) => x.Epoch) fun t8 => ld b_1 (fun (x : api_Block) => x.Height) fun t10 => mks 3 [(t8 : Int), (t10 : Int)] fun t11 => call (β := Unit) Prog 92 [reg (w : Pt), reg (t11 : Sl)] fun t12 => ld b_1 (fun (x : api_Block) => x.Prev) fun t15 => ld b_1 (fun (x : api_Block) => x.State) fun t17 => ld b_1 (fun (x : api_Block) => x.Next) fun t19 => mks 24 [(t15 : Arr 32 UInt8), (t17 : Arr 32 UInt8), (t19 : Arr 32 UInt8)] fun t20 => call (β := Unit) Prog 93 [reg (w : Pt), reg (t20 : Sl)] fun t21 => ld b_1 (fun (x : api_Block) => x.Requests) fun t24 => mks 3 [((t24.len : Int) : Int)] fun t26 => call (β := Unit) Prog 92 [reg (w : Pt), reg (t26 : Sl)] fun t27 => ld b_1 (fun (x : api_Block) => x.Requests) fun t29 => block_Write.l1 k w t29 (t29.len : Int) (0 : Int)
def sha_Of.l2 (j2 : Addr → Addr → Addr → Int → Int → Sl → Int → Int → H → Prop) (t2_2 : Addr) (hv_2 : Addr) (buf_2 : Addr) (n_1 : Int) (t14_1 : Sl) (t15_1 : Int) (t16_1 : Int) : (Int × Sl) → H → Prop := Lp fun s2 (at__1, p) =>
  ifb (decide ((0 : Int) < (p.len : Int))) (must (0 ≤ at__1 ∧ at__1 ≤ (64 : Int)) <| cpy 1 ((⟨some buf_2, 64, 64⟩ : Sl).cut 1 at__1.toNat 64 64) p fun t30 => must (0 ≤ t30 ∧ t30 ≤ (p.len : Int)) <| ifb ((iadd at__1 t30) == (64 : Int)) (call (β := Unit) Prog 95 [reg ((some hv_2) : Pt), reg (((⟨some buf_2, 64, 64⟩ : Sl).cut 1 0 64 64) : Sl)] fun t40 => s2 ((0 : Int), (p.cut 1 t30.toNat p.len p.cap))) (s2 ((iadd at__1 t30), (p.cut 1 t30.toNat p.len p.cap)))) (j2 t2_2 hv_2 buf_2 n_1 at__1 t14_1 t15_1 t16_1)
def sha_Of.j2 (s1 : (Int × Int × Int) → H → Prop) (t2_3 : Addr) (hv_3 : Addr) (buf_3 : Addr) (n_2 : Int) (at__2 : Int) (t14_2 : Sl) (t15_2 : Int) (t16_2 : Int) : H → Prop :=
  s1 (n_2, at__2, (iadd t16_2 (1 : Int)))
def sha_Of.l1 (j1 : Addr → Addr → Addr → Int → Int → H → Prop) (t2_1 : Addr) (hv_1 : Addr) (buf_1 : Addr) (t14 : Sl) (t15 : Int) : (Int × Int × Int) → H → Prop := Lp fun s1 (n, at_, t16) =>
  ifb (decide (t16 < t15)) (sidx t14 t16 1 fun t18 => ld t18 (fun (x : Sl) => x) fun t19 => sha_Of.l2 (sha_Of.j2 s1) t2_1 hv_1 buf_1 (iadd n (t19.len : Int)) t14 t15 t16 (at_, t19)) (j1 t2_1 hv_1 buf_1 n at_)
def sha_Of.l3 (j4 : Addr → Addr → Addr → H → Prop) (t2_6 : Addr) (hv_6 : Addr) (buf_6 : Addr) (n_5 : Int) : Int → H → Prop := Lp fun s3 t52 =>
  ifb (decide (t52 < (8 : Int))) (must (0 ≤ (isub (56 : Int) (imul (8 : Int) t52))) <| bnd (iadd (56 : Int) t52) 64 fun i65 => st buf_6 (fun (x : Arr 64 UInt8) => upd x i65 (toU8 ((shr64 (shl64 (toU64 n_5) 3) (isub (56 : Int) (imul (8 : Int) t52)).toNat).toNat : Int))) <| s3 (iadd t52 (1 : Int))) (j4 t2_6 hv_6 buf_6)
def sha_Of.l4 (j5 : Addr → Addr → H → Prop) (t2_8 : Addr) (hv_8 : Addr) (out_1 : Addr) : Int → H → Prop := Lp fun s4 t69 =>
  ifb (decide (t69 < (32 : Int))) (bnd (iquo t69 (4 : Int)) 8 fun i75 => ld hv_8 (fun (x : Arr 8 UInt32) => x i75) fun t76 => must (0 ≤ (isub (24 : Int) (imul (8 : Int) (irem t69 (4 : Int))))) <| bnd t69 32 fun i83 => st out_1 (fun (x : Arr 32 UInt8) => upd x i83 (toU8 ((shr32 t76 (isub (24 : Int) (imul (8 : Int) (irem t69 (4 : Int)))).toNat).toNat : Int))) <| s4 (iadd t69 (1 : Int))) (j5 t2_8 out_1)
def sha_Of.j5 (k : (Arr 32 UInt8) → H → Prop) (t2_9 : Addr) (out_2 : Addr) : H → Prop :=
  ld out_2 (fun (x : Arr 32 UInt8) => x) fun t85 => st t2_9 (fun (_ : Arr 32 UInt8) => t85) <| ld t2_9 (fun (x : Arr 32 UInt8) => x) fun r2 => k (r2 : Arr 32 UInt8)
def sha_Of.j4 (k : (Arr 32 UInt8) → H → Prop) (t2_7 : Addr) (hv_7 : Addr) (buf_7 : Addr) : H → Prop :=
  call (β := Unit) Prog 95 [reg ((some hv_7) : Pt), reg (((⟨some buf_7, 64, 64⟩ : Sl).cut 1 0 64 64) : Sl)] fun t68 => box 24 ((fun _ => 0) : Arr 32 UInt8) fun out => sha_Of.l4 (sha_Of.j5 k) t2_7 hv_7 out (0 : Int)
def sha_Of.j3 (k : (Arr 32 UInt8) → H → Prop) (t2_5 : Addr) (hv_5 : Addr) (buf_5 : Addr) (n_4 : Int) : H → Prop :=
  sha_Of.l3 (sha_Of.j4 k) t2_5 hv_5 buf_5 n_4 (0 : Int)
def sha_Of.j1 (k : (Arr 32 UInt8) → H → Prop) (t2_4 : Addr) (hv_4 : Addr) (buf_4 : Addr) (n_3 : Int) (at__3 : Int) : H → Prop :=
  bnd at__3 64 fun i43 => st buf_4 (fun (x : Arr 64 UInt8) => upd x i43 (128 : UInt8)) <| must (0 ≤ (iadd at__3 (1 : Int)) ∧ (iadd at__3 (1 : Int)) ≤ (64 : Int)) <| clr (enc (0 : UInt8)) ((⟨some buf_4, 64, 64⟩ : Sl).cut 1 (iadd at__3 (1 : Int)).toNat 64 64) <| ifb (decide ((56 : Int) ≤ at__3)) (call (β := Unit) Prog 95 [reg ((some hv_4) : Pt), reg (((⟨some buf_4, 64, 64⟩ : Sl).cut 1 0 64 64) : Sl)] fun t50 => clr (enc (0 : UInt8)) ((⟨some buf_4, 64, 64⟩ : Sl).cut 1 0 64 64) <| (sha_Of.j3 k) t2_4 hv_4 buf_4 n_3) ((sha_Of.j3 k) t2_4 hv_4 buf_4 n_3)
def sha_Of.b (pieces : Sl) (k : (Arr 32 UInt8) → H → Prop) : H → Prop :=
  box 24 ((fun _ => 0) : Arr 32 UInt8) fun t2 => box 187 ((fun _ => 0) : Arr 8 UInt32) fun hv => st hv (fun (_ : Arr 8 UInt32) => (arrOf [(1779033703 : UInt32), (3144134277 : UInt32), (1013904242 : UInt32), (2773480762 : UInt32), (1359893119 : UInt32), (2600822924 : UInt32), (528734635 : UInt32), (1541459225 : UInt32)] : Arr 8 UInt32)) <| box 188 ((fun _ => 0) : Arr 64 UInt8) fun buf => sha_Of.l1 (sha_Of.j1 k) t2 hv buf pieces (pieces.len : Int) ((0 : Int), (0 : Int), (0 : Int))
def code_Writer_Bytes.b (w : Pt) (k : Sl → H → Prop) : H → Prop :=
  ifb w.isNone (k (Sl.nil : Sl)) (nn w fun p => ld p (fun (x : code_Writer) => x.b) fun t8 => must (0 ≤ (0 : Int) ∧ (0 : Int) ≤ (0 : Int) ∧ (0 : Int) ≤ (t8.cap : Int)) <| ld p (fun (x : code_Writer) => x.b) fun t13 => app 5 1 1 (enc (0 : UInt8)) (t8.cut 1 0 (0 : Int).toNat (0 : Int).toNat) t13 fun t14 => k (t14 : Sl))
def round_Core_votes.b (c : Pt) (kind : Int) (d : Arr 32 UInt8) (k : Unit → H → Prop) : H → Prop :=
  box 24 (d : Arr 32 UInt8) fun d_1 => nn c fun p => st p (fun (x : round_Core) => { x with step := (iadd kind (1 : Int)) }) <| st p (fun (x : round_Core) => { x with fresh := true }) <| call (β := Bool) Prog 89 [reg (c : Pt)] fun t15 => ifb t15 (ld p (fun (x : round_Core) => x.at_) fun t20 => ld d_1 (fun (x : Arr 32 UInt8) => x) fun t23 => call (β := Int) Prog 65 [reg (t20 : Cx)] fun t21 => chk d_1 (fun (x : Arr 32 UInt8) => x) t23 <| call (β := Unit) Prog 90 [reg (c : Pt), reg (({ api_Act.zero with Act := (2 : Int), Round := t21, Kind := kind, Digest := t23 } : api_Act) : api_Act)] fun t25 => k ()) (k ())
def round_none.b (k : (Arr 32 UInt8) → H → Prop) : H → Prop :=
  box 24 ((fun _ => 0) : Arr 32 UInt8) fun t0 => box 24 ((fun _ => 0) : Arr 32 UInt8) fun z => ld z (fun (x : Arr 32 UInt8) => x) fun t2 => st t0 (fun (_ : Arr 32 UInt8) => t2) <| ld t0 (fun (x : Arr 32 UInt8) => x) fun r0 => k (r0 : Arr 32 UInt8)
def rank_Round.b (r : Cx) (k : Int → H → Prop) : H → Prop :=
  call (β := Bool) Prog 55 [reg (r : Cx)] fun t4 => ifb (!t4) (k ((0 : Int) : Int)) (getS (fcut (⟨r.im⟩ : Fl)) fun t8 => k (t8 : Int))
def rank_Height.b (r : Cx) (k : Int → H → Prop) : H → Prop :=
  call (β := Bool) Prog 55 [reg (r : Cx)] fun t4 => ifb (!t4) (k ((0 : Int) : Int)) (getS (fcut (⟨r.re⟩ : Fl)) fun t8 => k (t8 : Int))
def round_copied.b (b : api_Block) (k : api_Block → H → Prop) : H → Prop :=
  box 75 (b : api_Block) fun b_1 => box 75 (api_Block.zero : api_Block) fun t2 => ld b_1 (fun (x : api_Block) => x.Requests) fun t4 => call (β := Sl) Prog 97 [reg (t4 : Sl)] fun t5 => st b_1 (fun (x : api_Block) => { x with Requests := t5 }) <| ld b_1 (fun (x : api_Block) => x) fun t7 => st t2 (fun (_ : api_Block) => t7) <| ld t2 (fun (x : api_Block) => x) fun r2 => k (r2 : api_Block)
def round_Core_leader.b (c : Pt) (at_ : Cx) (k : Int → H → Prop) : H → Prop :=
  nn c fun p => ld p (fun (x : round_Core) => x.config.Members) fun t9 => ld p (fun (x : round_Core) => x.config.Members) fun t14 => call (β := Int) Prog 29 [reg ((t14.len : Int) : Int), reg (at_ : Cx)] fun t17 => chk p (fun (x : round_Core) => x.config.Members) t9 <| sidx t9 t17 34 fun t18 => ld t18 (fun (x : api_Member) => x.Id) fun t20 => k (t20 : Int)
def config_Find.b (c : api_Config) (id : Int) (k : (T3 api_Member Int Bool) → H → Prop) : H → Prop :=
  box 54 (c : api_Config) fun c_1 => box 3 (id : Int) fun id_1 => box 110 (api_Member.zero : api_Member) fun t4 => ld c_1 (fun (x : api_Config) => x.Members) fun t9 => call (β := Int) Prog 106 [reg (t9 : Sl), reg ((⟨107, #[.pointer (some id_1)]⟩ : Fv) : Fv)] fun t11 => ifb (decide (t11 < (0 : Int))) (st t4 (fun (_ : api_Member) => api_Member.zero) <| ld t4 (fun (x : api_Member) => x) fun r4 => k (⟨r4, (0 : Int), false⟩ : T3 api_Member Int Bool)) (ld c_1 (fun (x : api_Config) => x.Members) fun t16 => sidx t16 t11 34 fun t18 => ld t18 (fun (x : api_Member) => x) fun t19 => st t4 (fun (_ : api_Member) => t19) <| ld t4 (fun (x : api_Member) => x) fun r4_1 => k (⟨r4_1, t11, true⟩ : T3 api_Member Int Bool))
def cmp_Compare_byte.b (x : UInt8) (y : UInt8) (k : Int → H → Prop) : H → Prop :=
  call (β := Bool) Prog 113 [reg (x : UInt8)] fun t8 => call (β := Bool) Prog 113 [reg (y : UInt8)] fun t10 => ifb t8 (ifb t10 (k ((0 : Int) : Int)) (k ((-1 : Int) : Int))) (ifb t10 (k ((1 : Int) : Int)) (ifb (decide (x < y)) (k ((-1 : Int) : Int)) (ifb (decide (y < x)) (k ((1 : Int) : Int)) (k ((0 : Int) : Int)))))
def config_right.b (m : api_Member) (k : Bool → H → Prop) : H → Prop :=
  box 110 (m : api_Member) fun m_1 => ld m_1 (fun (x : api_Member) => x.Id) fun t4 => ld m_1 (fun (x : api_Member) => x.Id) fun t8 => ld m_1 (fun (x : api_Member) => x.Key.Height) fun t14 => ld m_1 (fun (x : api_Member) => x.Key.Height) fun t20 => k (((((decide ((1 : Int) ≤ t4)) && (decide (t8 ≤ (63 : Int)))) && (decide ((0 : Int) ≤ t14))) && (decide (t20 ≤ (6 : Int)))) : Bool)
def rank_whole.j1 (k : Bool → H → Prop) (t6 : Bool) : H → Prop :=
  k (t6 : Bool)
def rank_whole.b (x : Fl) (lo : Int) (hi : Int) (k : Bool → H → Prop) : H → Prop :=
  ifb ((fge x (fnear lo)) && (fle x (fnear hi))) (getS (fcut x) fun t20 => (rank_whole.j1 k) (feq x (fnear t20))) ((rank_whole.j1 k) false)
def round_Core_member.j1 (k : Bool → H → Prop) (is : Bool) : H → Prop :=
  k (is : Bool)
def round_Core_member.b (c : Pt) (k : Bool → H → Prop) : H → Prop :=
  nn c fun p => ld p (fun (x : round_Core) => x.config) fun t10 => ld p (fun (x : round_Core) => x.me) fun t14 => both (call (β := T3 api_Member Int Bool) Prog 77 [reg (t10 : api_Config), reg (t14 : Int)] fun t15 => box 110 (api_Member.zero : api_Member) fun t3 => chk p (fun (x : round_Core) => x.config) t10 <| chk p (fun (x : round_Core) => x.me) t14 <| st t3 (fun (_ : api_Member) => t15.a) <| (round_Core_member.j1 k) t15.c) (box 110 (api_Member.zero : api_Member) fun t3_1 => chk p (fun (x : round_Core) => x.config) t10 <| chk p (fun (x : round_Core) => x.me) t14 <| call (β := T3 api_Member Int Bool) Prog 77 [reg (t10 : api_Config), reg (t14 : Int)] fun t15_1 => st t3_1 (fun (_ : api_Member) => t15_1.a) <| (round_Core_member.j1 k) t15_1.c)
def round_Core_say.b (c : Pt) (a : api_Act) (k : Unit → H → Prop) : H → Prop :=
  box 80 (a : api_Act) fun a_1 => ld a_1 (fun (x : api_Act) => x.Block) fun t5 => call (β := api_Block) Prog 69 [reg (t5 : api_Block)] fun t6 => st a_1 (fun (x : api_Act) => { x with Block := t6 }) <| nn c fun p => ld p (fun (x : round_Core) => x.out) fun t12 => ld a_1 (fun (x : api_Act) => x) fun t13 => mks 80 [(t13 : api_Act)] fun t14 => chk p (fun (x : round_Core) => x.out) t12 <| app 80 135 200 (enc (api_Act.zero : api_Act)) t12 t14 fun t15 => st p (fun (x : round_Core) => { x with out := t15 }) <| k ()
def round_Core_moves.j6 (j2 : Pt → H → Prop) (k : Bool → H → Prop) (c_6 : Pt) (now_3 : Int) (p_10 : Addr) (t168 : Bool) : H → Prop :=
  ifb t168 (ld p_10 (fun (x : api_Plan) => x.Block) fun t197 => nn c_6 fun p_11 => st p_11 (fun (x : round_Core) => { x with valid := ({ round := now_3, block := t197 } : round_mark) }) <| j2 c_6) (k (false : Bool))
def round_Core_moves.j5 (j2 : Pt → H → Prop) (k : Bool → H → Prop) (c_5 : Pt) (now_2 : Int) (p_8 : Addr) (has_2 : Bool) (t153 : Bool) : H → Prop :=
  ifb t153 (call (β := Arr 32 UInt8) Prog 64 [] fun t166 => call (β := Unit) Prog 63 [reg (c_5 : Pt), reg ((2 : Int) : Int), reg (t166 : Arr 32 UInt8)] fun t167 => j2 c_5) (nn c_5 fun p_9 => ld p_9 (fun (x : round_Core) => x.step) fun t172 => ifb ((t172 == (3 : Int)) && has_2) (ld p_9 (fun (x : round_Core) => x.valid.round) fun t182 => ifb (decide (t182 < now_2)) (ld p_8 (fun (x : api_Plan) => x.Block) fun t190 => call (β := Arr 32 UInt8) Prog 34 [reg (t190 : api_Block)] fun t191 => call (β := Bool) Prog 117 [reg (c_5 : Pt), reg (now_2 : Int), reg (t191 : Arr 32 UInt8)] fun t192 => (round_Core_moves.j6 j2 k) c_5 now_2 p_8 t192) ((round_Core_moves.j6 j2 k) c_5 now_2 p_8 false)) ((round_Core_moves.j6 j2 k) c_5 now_2 p_8 false))
def round_Core_moves.j4 (j2 : Pt → H → Prop) (k : Bool → H → Prop) (c_4 : Pt) (now_1 : Int) (p_5 : Addr) (has_1 : Bool) (t117 : Bool) : H → Prop :=
  ifb t117 (ld p_5 (fun (x : api_Plan) => x.Block) fun t138 => ld p_5 (fun (x : api_Plan) => x.Block) fun t142 => nn c_4 fun p_6 => st p_6 (fun (x : round_Core) => { x with locked := ({ round := now_1, block := t138 } : round_mark) }) <| chk p_5 (fun (x : api_Plan) => x.Block) t142 <| st p_6 (fun (x : round_Core) => { x with valid := ({ round := now_1, block := t142 } : round_mark) }) <| ld p_5 (fun (x : api_Plan) => x.Block) fun t150 => call (β := Arr 32 UInt8) Prog 34 [reg (t150 : api_Block)] fun t151 => call (β := Unit) Prog 63 [reg (c_4 : Pt), reg ((2 : Int) : Int), reg (t151 : Arr 32 UInt8)] fun t152 => j2 c_4) (nn c_4 fun p_7 => ld p_7 (fun (x : round_Core) => x.step) fun t157 => ifb (t157 == (2 : Int)) (call (β := Arr 32 UInt8) Prog 64 [] fun t162 => call (β := Bool) Prog 117 [reg (c_4 : Pt), reg (now_1 : Int), reg (t162 : Arr 32 UInt8)] fun t163 => (round_Core_moves.j5 j2 k) c_4 now_1 p_5 has_1 t163) ((round_Core_moves.j5 j2 k) c_4 now_1 p_5 has_1 false))
def round_Core_moves.j3 (j2 : Pt → H → Prop) (k : Bool → H → Prop) (c_3 : Pt) (now : Int) (p_3 : Addr) (has : Bool) (t73 : Bool) : H → Prop :=
  ifb t73 (call (β := Unit) Prog 57 [reg (c_3 : Pt), reg ((0 : Int) : Int)] fun t96 => j2 c_3) (nn c_3 fun p_4 => ld p_4 (fun (x : round_Core) => x.step) fun t101 => ifb ((t101 == (1 : Int)) && has) (ld p_3 (fun (x : api_Plan) => x) fun t108 => call (β := T2 (Arr 32 UInt8) Bool) Prog 116 [reg (c_3 : Pt), reg (t108 : api_Plan)] fun t109 => box 24 ((fun _ => 0) : Arr 32 UInt8) fun d_4 => st d_4 (fun (_ : Arr 32 UInt8) => t109.a) <| ifb (!t109.b) (k (false : Bool)) (ld d_4 (fun (x : Arr 32 UInt8) => x) fun t115 => call (β := Unit) Prog 63 [reg (c_3 : Pt), reg ((1 : Int) : Int), reg (t115 : Arr 32 UInt8)] fun t116 => j2 c_3)) (ld p_4 (fun (x : round_Core) => x.step) fun t121 => ifb ((t121 == (2 : Int)) && has) (ld p_3 (fun (x : api_Plan) => x.Block) fun t130 => call (β := Arr 32 UInt8) Prog 34 [reg (t130 : api_Block)] fun t131 => call (β := Bool) Prog 117 [reg (c_3 : Pt), reg (now : Int), reg (t131 : Arr 32 UInt8)] fun t132 => (round_Core_moves.j4 j2 k) c_3 now p_3 has t132) ((round_Core_moves.j4 j2 k) c_3 now p_3 has false)))
def round_Core_moves.j2 (k : Bool → H → Prop) (c_2 : Pt) : H → Prop :=
  nn c_2 fun p_12 => ld p_12 (fun (x : round_Core) => x.decided) fun t204 => k ((!t204) : Bool)
def round_Core_moves.j1 (k : Bool → H → Prop) (c_1 : Pt) (d_1 : Addr) (r : Int) (is : Bool) : H → Prop :=
  nn c_1 fun p_1 => ld p_1 (fun (x : round_Core) => x.blocks) fun t32 => ld d_1 (fun (x : Arr 32 UInt8) => x) fun t33 => mget t32 (fun (l : List ((Arr 32 UInt8) × api_Block)) => mlook (api_Block.zero : api_Block) l (t33 : Arr 32 UInt8)) fun t34 => box 75 (api_Block.zero : api_Block) fun b => chk p_1 (fun (x : round_Core) => x.blocks) t32 <| chk d_1 (fun (x : Arr 32 UInt8) => x) t33 <| mchk t32 (fun (l : List ((Arr 32 UInt8) × api_Block)) => mlook (api_Block.zero : api_Block) l (t33 : Arr 32 UInt8)) t34 <| st b (fun (_ : api_Block) => t34.a) <| ld p_1 (fun (x : round_Core) => x.at_) fun t40 => call (β := Int) Prog 65 [reg (t40 : Cx)] fun t41 => ld p_1 (fun (x : round_Core) => x.plans) fun t46 => mget t46 (fun (l : List (Int × api_Plan)) => mlook (api_Plan.zero : api_Plan) l (t41 : Int)) fun t48 => box 77 (api_Plan.zero : api_Plan) fun p_2 => st p_2 (fun (_ : api_Plan) => t48.a) <| call (β := Int) Prog 115 [reg (c_1 : Pt)] fun t52 => ifb (is && t34.b) (st p_1 (fun (x : round_Core) => { x with decided := true }) <| ld d_1 (fun (x : Arr 32 UInt8) => x) fun t63 => ld b (fun (x : api_Block) => x) fun t64 => call (β := Unit) Prog 90 [reg (c_1 : Pt), reg (({ api_Act.zero with Act := (3 : Int), Round := r, Digest := t63, Block := t64 } : api_Act) : api_Act)] fun t66 => (round_Core_moves.j2 k) c_1) (ifb (decide ((0 : Int) ≤ t52)) (call (β := Unit) Prog 57 [reg (c_1 : Pt), reg (t52 : Int)] fun t72 => (round_Core_moves.j2 k) c_1) (ld p_1 (fun (x : round_Core) => x.step) fun t77 => ifb (t77 == (0 : Int)) (ld p_1 (fun (x : round_Core) => x.plans) fun t83 => mget t83 (fun (l : List (Int × api_Plan)) => (l.length : Int)) fun t84 => ifb (decide ((0 : Int) < t84)) ((round_Core_moves.j3 (round_Core_moves.j2 k) k) c_1 t41 p_2 t48.b true) (ld p_1 (fun (x : round_Core) => x.box) fun t90 => call (β := Int) Prog 17 [reg (t90 : Pt), reg ((0 : Int) : Int)] fun t91 => (round_Core_moves.j3 (round_Core_moves.j2 k) k) c_1 t41 p_2 t48.b (decide ((0 : Int) < t91)))) ((round_Core_moves.j3 (round_Core_moves.j2 k) k) c_1 t41 p_2 t48.b false)))
def round_Core_moves.b (c : Pt) (k : Bool → H → Prop) : H → Prop :=
  nn c fun p => ld p (fun (x : round_Core) => x.box) fun t18 => ld p (fun (x : round_Core) => x.config) fun t22 => both (call (β := Int) Prog 114 [reg (t22 : api_Config)] fun t23 => chk p (fun (x : round_Core) => x.box) t18 <| both (call (β := T3 (Arr 32 UInt8) Int Bool) Prog 22 [reg (t18 : Pt), reg ((2 : Int) : Int), reg (t23 : Int)] fun t24 => box 24 ((fun _ => 0) : Arr 32 UInt8) fun d => chk p (fun (x : round_Core) => x.box) t18 <| chk p (fun (x : round_Core) => x.config) t22 <| st d (fun (_ : Arr 32 UInt8) => t24.a) <| (round_Core_moves.j1 k) c d t24.b t24.c) (box 24 ((fun _ => 0) : Arr 32 UInt8) fun d_2 => chk p (fun (x : round_Core) => x.box) t18 <| chk p (fun (x : round_Core) => x.config) t22 <| call (β := T3 (Arr 32 UInt8) Int Bool) Prog 22 [reg (t18 : Pt), reg ((2 : Int) : Int), reg (t23 : Int)] fun t24_1 => st d_2 (fun (_ : Arr 32 UInt8) => t24_1.a) <| (round_Core_moves.j1 k) c d_2 t24_1.b t24_1.c)) (box 24 ((fun _ => 0) : Arr 32 UInt8) fun d_3 => chk p (fun (x : round_Core) => x.box) t18 <| chk p (fun (x : round_Core) => x.config) t22 <| call (β := Int) Prog 114 [reg (t22 : api_Config)] fun t23_1 => chk p (fun (x : round_Core) => x.box) t18 <| call (β := T3 (Arr 32 UInt8) Int Bool) Prog 22 [reg (t18 : Pt), reg ((2 : Int) : Int), reg (t23_1 : Int)] fun t24_2 => st d_3 (fun (_ : Arr 32 UInt8) => t24_2.a) <| (round_Core_moves.j1 k) c d_3 t24_2.b t24_2.c)
def code_Writer_Num.l2 (j1 : Pt → Sl → Int → Int → H → Prop) (w_2 : Pt) (n : Int) (t9_1 : Sl) (t10_1 : Int) (t11_1 : Int) : Int → H → Prop := Lp fun s2 i =>
  ifb (decide ((0 : Int) ≤ i)) (nn w_2 fun p => ld p (fun (x : code_Writer) => x.b) fun t23 => must (0 ≤ i) <| mks 5 [((toU8 ((shr64 (toU64 n) i.toNat).toNat : Int)) : UInt8)] fun t29 => chk p (fun (x : code_Writer) => x.b) t23 <| app 5 1 1 (enc (0 : UInt8)) t23 t29 fun t30 => st p (fun (x : code_Writer) => { x with b := t30 }) <| s2 (isub i (8 : Int))) (j1 w_2 t9_1 t10_1 t11_1)
def code_Writer_Num.j1 (s1 : Int → H → Prop) (w_4 : Pt) (t9_2 : Sl) (t10_2 : Int) (t11_2 : Int) : H → Prop :=
  s1 (iadd t11_2 (1 : Int))
def code_Writer_Num.l1 (k : Unit → H → Prop) (w_1 : Pt) (t9 : Sl) (t10 : Int) : Int → H → Prop := Lp fun s1 t11 =>
  ifb (decide (t11 < t10)) (sidx t9 t11 1 fun t13 => ld t13 (fun (x : Int) => x) fun t14 => code_Writer_Num.l2 (code_Writer_Num.j1 s1) w_1 t14 t9 t10 t11 (56 : Int)) (k ())
def code_Writer_Num.b (w : Pt) (list : Sl) (k : Unit → H → Prop) : H → Prop :=
  ifb w.isNone (k ()) (code_Writer_Num.l1 k w list (list.len : Int) (0 : Int))
def code_Writer_Digest.l1 (k : Unit → H → Prop) (w_1 : Pt) (t8 : Sl) (t9 : Int) : Int → H → Prop := Lp fun s1 t10 =>
  ifb (decide (t10 < t9)) (sidx t8 t10 32 fun t12 => ld t12 (fun (x : Arr 32 UInt8) => x) fun t13 => box 24 ((fun _ => 0) : Arr 32 UInt8) fun d => st d (fun (_ : Arr 32 UInt8) => t13) <| nn w_1 fun p => ld p (fun (x : code_Writer) => x.b) fun t18 => app 5 1 1 (enc (0 : UInt8)) t18 ((⟨some d, 32, 32⟩ : Sl).cut 1 0 32 32) fun t20 => st p (fun (x : code_Writer) => { x with b := t20 }) <| s1 (iadd t10 (1 : Int))) (k ())
def code_Writer_Digest.b (w : Pt) (list : Sl) (k : Unit → H → Prop) : H → Prop :=
  ifb w.isNone (k ()) (code_Writer_Digest.l1 k w list (list.len : Int) (0 : Int))
def request_Write.b (w : Pt) (q : api_Request) (k : Unit → H → Prop) : H → Prop :=
  box 182 (q : api_Request) fun q_1 => ld q_1 (fun (x : api_Request) => x.Op.Change) fun t7 => box 178 (api_Change.zero : api_Change) fun x => st x (fun (_ : api_Change) => t7) <| ld q_1 (fun (x : api_Request) => x.Client) fun t10 => ld q_1 (fun (x : api_Request) => x.Num) fun t12 => ld q_1 (fun (x : api_Request) => x.Op.Kind) fun t15 => mks 3 [(t10 : Int), (t12 : Int), (t15 : Int)] fun t16 => call (β := Unit) Prog 92 [reg (w : Pt), reg (t16 : Sl)] fun t17 => ld q_1 (fun (x : api_Request) => x.Op.Key) fun t21 => ld q_1 (fun (x : api_Request) => x.Op.Val) fun t24 => ld q_1 (fun (x : api_Request) => x.Op.Old) fun t27 => mks 9 [(t21 : ByteArray), (t24 : ByteArray), (t27 : ByteArray)] fun t28 => call (β := Unit) Prog 118 [reg (w : Pt), reg (t28 : Sl)] fun t29 => ld x (fun (x : api_Change) => x.Kind) fun t32 => ld x (fun (x : api_Change) => x.Id) fun t34 => ld x (fun (x : api_Change) => x.New) fun t36 => ld x (fun (x : api_Change) => x.Key.Height) fun t39 => mks 3 [(t32 : Int), (t34 : Int), (t36 : Int), (t39 : Int)] fun t40 => call (β := Unit) Prog 92 [reg (w : Pt), reg (t40 : Sl)] fun t41 => ld x (fun (x : api_Change) => x.Key.Root) fun t45 => mks 24 [(t45 : Arr 32 UInt8)] fun t46 => call (β := Unit) Prog 93 [reg (w : Pt), reg (t46 : Sl)] fun t47 => k ()
def sha_state_block.l1 (j1 : Pt → Addr → H → Prop) (hv_1 : Pt) (b_1 : Sl) (w_1 : Addr) : Int → H → Prop := Lp fun s1 t26 =>
  ifb (decide (t26 < (16 : Int))) (must (0 ≤ (imul (4 : Int) t26) ∧ (imul (4 : Int) t26) ≤ (b_1.len : Int)) <| call (β := UInt32) Prog 119 [reg ((b_1.cut 1 (imul (4 : Int) t26).toNat b_1.len b_1.cap) : Sl)] fun t34 => bnd t26 64 fun i35 => st w_1 (fun (x : Arr 64 UInt32) => upd x i35 t34) <| s1 (iadd t26 (1 : Int))) (j1 hv_1 w_1)
def sha_state_block.l2 (j2 : Pt → Addr → H → Prop) (hv_3 : Pt) (w_4 : Addr) : Int → H → Prop := Lp fun s2 i =>
  ifb (decide (i < (64 : Int))) (bnd (isub i (15 : Int)) 64 fun i43 => ld w_4 (fun (x : Arr 64 UInt32) => x i43) fun t44 => bnd (isub i (2 : Int)) 64 fun i47 => ld w_4 (fun (x : Arr 64 UInt32) => x i47) fun t48 => call (β := UInt32) Prog 120 [reg (t44 : UInt32), reg ((-7 : Int) : Int)] fun t50 => call (β := UInt32) Prog 120 [reg (t44 : UInt32), reg ((-18 : Int) : Int)] fun t52 => call (β := UInt32) Prog 120 [reg (t48 : UInt32), reg ((-17 : Int) : Int)] fun t58 => call (β := UInt32) Prog 120 [reg (t48 : UInt32), reg ((-19 : Int) : Int)] fun t60 => bnd (isub i (16 : Int)) 64 fun i68 => ld w_4 (fun (x : Arr 64 UInt32) => x i68) fun t69 => bnd (isub i (7 : Int)) 64 fun i74 => ld w_4 (fun (x : Arr 64 UInt32) => x i74) fun t75 => bnd i 64 fun i79 => st w_4 (fun (x : Arr 64 UInt32) => upd x i79 (((t69 + ((t50 ^^^ t52) ^^^ (shr32 t44 3))) + t75) + ((t58 ^^^ t60) ^^^ (shr32 t48 10)))) <| s2 (iadd i (1 : Int))) (j2 hv_3 w_4)
def sha_state_block.l3 (j3 : Pt → UInt32 → UInt32 → UInt32 → UInt32 → UInt32 → UInt32 → UInt32 → UInt32 → H → Prop) (hv_5 : Pt) (t112_1 : Arr 64 UInt32) : (UInt32 × UInt32 × UInt32 × UInt32 × UInt32 × UInt32 × UInt32 × UInt32 × Int) → H → Prop := Lp fun s3 (a, c, d, e, f, g, kv, l, t113) =>
  ifb (decide (t113 < (64 : Int))) (bnd t113 64 fun i116 => call (β := UInt32) Prog 120 [reg (f : UInt32), reg ((-6 : Int) : Int)] fun t118 => call (β := UInt32) Prog 120 [reg (f : UInt32), reg ((-11 : Int) : Int)] fun t120 => call (β := UInt32) Prog 120 [reg (f : UInt32), reg ((-25 : Int) : Int)] fun t123 => bnd t113 64 fun i138 => ld (⟨0, 0, none⟩ : Addr) (fun (x : Arr 64 UInt32) => x i138) fun t139 => call (β := UInt32) Prog 120 [reg (a : UInt32), reg ((-2 : Int) : Int)] fun t144 => call (β := UInt32) Prog 120 [reg (a : UInt32), reg ((-13 : Int) : Int)] fun t146 => call (β := UInt32) Prog 120 [reg (a : UInt32), reg ((-22 : Int) : Int)] fun t149 => s3 ((((((l + ((t118 ^^^ t120) ^^^ t123)) + ((f &&& g) ^^^ ((~~~f) &&& kv))) + t139) + (t112_1 i116)) + (((t144 ^^^ t146) ^^^ t149) + (((a &&& c) ^^^ (a &&& d)) ^^^ (c &&& d)))), a, c, d, (e + ((((l + ((t118 ^^^ t120) ^^^ t123)) + ((f &&& g) ^^^ ((~~~f) &&& kv))) + t139) + (t112_1 i116))), f, g, kv, (iadd t113 (1 : Int)))) (j3 hv_5 a c d e f g kv l)
def sha_state_block.l4 (k : Unit → H → Prop) (hv_7 : Pt) (t185 : Arr 8 UInt32) : Int → H → Prop := Lp fun s4 t186 =>
  ifb (decide (t186 < (8 : Int))) (bnd t186 8 fun i189 => nn hv_7 fun p_1 => bnd t186 8 fun i193 => ld p_1 (fun (x : Arr 8 UInt32) => x i193) fun t194 => bnd t186 8 fun i198 => st p_1 (fun (x : Arr 8 UInt32) => upd x i198 (t194 + (t185 i189))) <| s4 (iadd t186 (1 : Int))) (k ())
def sha_state_block.j3 (k : Unit → H → Prop) (hv_6 : Pt) (a_1 : UInt32) (c_1 : UInt32) (d_1 : UInt32) (e_1 : UInt32) (f_1 : UInt32) (g_1 : UInt32) (kv_1 : UInt32) (l_1 : UInt32) : H → Prop :=
  sha_state_block.l4 k hv_6 (arrOf [a_1, c_1, d_1, e_1, f_1, g_1, kv_1, l_1] : Arr 8 UInt32) (0 : Int)
def sha_state_block.j2 (k : Unit → H → Prop) (hv_4 : Pt) (w_6 : Addr) : H → Prop :=
  nn hv_4 fun p => bnd (0 : Int) 8 fun i82 => ld p (fun (x : Arr 8 UInt32) => x i82) fun t83 => bnd (1 : Int) 8 fun i86 => ld p (fun (x : Arr 8 UInt32) => x i86) fun t87 => bnd (2 : Int) 8 fun i90 => ld p (fun (x : Arr 8 UInt32) => x i90) fun t91 => bnd (3 : Int) 8 fun i94 => ld p (fun (x : Arr 8 UInt32) => x i94) fun t95 => bnd (4 : Int) 8 fun i98 => ld p (fun (x : Arr 8 UInt32) => x i98) fun t99 => bnd (5 : Int) 8 fun i102 => ld p (fun (x : Arr 8 UInt32) => x i102) fun t103 => bnd (6 : Int) 8 fun i106 => ld p (fun (x : Arr 8 UInt32) => x i106) fun t107 => bnd (7 : Int) 8 fun i110 => ld p (fun (x : Arr 8 UInt32) => x i110) fun t111 => ld w_6 (fun (x : Arr 64 UInt32) => x) fun t112 => sha_state_block.l3 (sha_state_block.j3 k) hv_4 t112 (t83, t87, t91, t95, t99, t103, t107, t111, (0 : Int))
def sha_state_block.j1 (k : Unit → H → Prop) (hv_2 : Pt) (w_3 : Addr) : H → Prop :=
  sha_state_block.l2 (sha_state_block.j2 k) hv_2 w_3 (16 : Int)
def sha_state_block.b (hv : Pt) (b : Sl) (k : Unit → H → Prop) : H → Prop :=
  box 215 ((fun _ => 0) : Arr 64 UInt32) fun w => sha_state_block.l1 (sha_state_block.j1 k) hv b w (0 : Int)
def slices_Clone_Request.b (s : Sl) (k : Sl → H → Prop) : H → Prop :=
  ifb s.a.isNone (k (Sl.nil : Sl)) (mks 182 ([] : List api_Request) fun t5 => app 182 42 136 (enc (api_Request.zero : api_Request)) t5 s fun t7 => k (t7 : Sl))
def slices_IndexFunc_Member.l1 (j1 : H → Prop) (k : Int → H → Prop) (s_1 : Sl) (f_1 : Fv) (t7 : Int) : Int → H → Prop := Lp fun s1 t8 =>
  ifb (decide (t8 < t7)) (sidx s_1 t8 34 fun t14 => ld t14 (fun (x : api_Member) => x) fun t15 => callv (β := Bool) Prog f_1 [reg (t15 : api_Member)] fun t16 => ifb t16 (k (t8 : Int)) (s1 (iadd t8 (1 : Int)))) (j1)
def slices_IndexFunc_Member.j1 (k : Int → H → Prop) : H → Prop :=
  k ((-1 : Int) : Int)
def slices_IndexFunc_Member.b (s : Sl) (f : Fv) (k : Int → H → Prop) : H → Prop :=
  slices_IndexFunc_Member.l1 (slices_IndexFunc_Member.j1 k) k s f (s.len : Int) (0 : Int)
def config_Find_c1.b (m : api_Member) (c1 : Addr) (k : Bool → H → Prop) : H → Prop :=
  box 110 (m : api_Member) fun m_1 => ld m_1 (fun (x : api_Member) => x.Id) fun t5 => ld c1 (fun (x : Int) => x) fun t6 => k ((t5 == t6) : Bool)
def cmp_isNaN_byte.b (x : UInt8) (k : Bool → H → Prop) : H → Prop :=
  k ((x != x) : Bool)
def config_Quorum.b (c : api_Config) (k : Int → H → Prop) : H → Prop :=
  box 54 (c : api_Config) fun c_1 => ld c_1 (fun (x : api_Config) => x.Members) fun t4 => ld c_1 (fun (x : api_Config) => x) fun t6 => call (β := Int) Prog 53 [reg (t6 : api_Config)] fun t7 => chk c_1 (fun (x : api_Config) => x.Members) t4 <| k ((iadd (iquo (iadd (t4.len : Int) t7) (2 : Int)) (1 : Int)) : Int)
def round_Core_later.j1 (k : Int → H → Prop) (c_1 : Pt) (now : Int) : H → Prop :=
  nn c_1 fun p_1 => ld p_1 (fun (x : round_Core) => x.box) fun t18 => ld p_1 (fun (x : round_Core) => x.config) fun t22 => call (β := Int) Prog 133 [reg (t22 : api_Config)] fun t23 => chk p_1 (fun (x : round_Core) => x.box) t18 <| call (β := Int) Prog 19 [reg (t18 : Pt), reg (t23 : Int)] fun t24 => ifb (decide (now < t24)) (k (t24 : Int)) (k ((-1 : Int) : Int))
def round_Core_later.b (c : Pt) (k : Int → H → Prop) : H → Prop :=
  nn c fun p => ld p (fun (x : round_Core) => x.at_) fun t8 => call (β := Int) Prog 65 [reg (t8 : Cx)] fun t9 => ld p (fun (x : round_Core) => x.step) fun t13 => ifb (t13 == (0 : Int)) ((round_Core_later.j1 k) c (-1 : Int)) ((round_Core_later.j1 k) c t9)
def round_Core_plan.j3 (k : (T2 (Arr 32 UInt8) Bool) → H → Prop) (t4_3 : Addr) (d_3 : Addr) : H → Prop :=
  ld d_3 (fun (x : Arr 32 UInt8) => x) fun t49 => st t4_3 (fun (_ : Arr 32 UInt8) => t49) <| ld t4_3 (fun (x : Arr 32 UInt8) => x) fun r4_1 => k (⟨r4_1, true⟩ : T2 (Arr 32 UInt8) Bool)
def round_Core_plan.j2 (k : (T2 (Arr 32 UInt8) Bool) → H → Prop) (t4_2 : Addr) (d_2 : Addr) (free_1 : Bool) : H → Prop :=
  ifb (!free_1) (call (β := Arr 32 UInt8) Prog 64 [] fun t48 => st d_2 (fun (_ : Arr 32 UInt8) => t48) <| (round_Core_plan.j3 k) t4_2 d_2) ((round_Core_plan.j3 k) t4_2 d_2)
def round_Core_plan.j1 (k : (T2 (Arr 32 UInt8) Bool) → H → Prop) (c_1 : Pt) (p_3 : Addr) (t4_1 : Addr) (d_1 : Addr) (free : Bool) : H → Prop :=
  ld p_3 (fun (x : api_Plan) => x.Valid) fun t26 => ifb (decide ((0 : Int) ≤ t26)) (ld p_3 (fun (x : api_Plan) => x.Valid) fun t30 => ld d_1 (fun (x : Arr 32 UInt8) => x) fun t31 => call (β := Bool) Prog 117 [reg (c_1 : Pt), reg (t30 : Int), reg (t31 : Arr 32 UInt8)] fun t32 => ifb (!t32) (call (β := Arr 32 UInt8) Prog 64 [] fun t34 => st t4_1 (fun (_ : Arr 32 UInt8) => t34) <| ld t4_1 (fun (x : Arr 32 UInt8) => x) fun r4 => k (⟨r4, false⟩ : T2 (Arr 32 UInt8) Bool)) (ifb free ((round_Core_plan.j2 k) t4_1 d_1 true) (nn c_1 fun p_4 => ld p_4 (fun (x : round_Core) => x.locked.round) fun t41 => ld p_3 (fun (x : api_Plan) => x.Valid) fun t43 => (round_Core_plan.j2 k) t4_1 d_1 (decide (t41 ≤ t43))))) ((round_Core_plan.j2 k) t4_1 d_1 free)
def round_Core_plan.b (c : Pt) (p : api_Plan) (k : (T2 (Arr 32 UInt8) Bool) → H → Prop) : H → Prop :=
  box 77 (p : api_Plan) fun p_1 => box 24 ((fun _ => 0) : Arr 32 UInt8) fun t4 => ld p_1 (fun (x : api_Plan) => x.Block) fun t9 => call (β := Arr 32 UInt8) Prog 34 [reg (t9 : api_Block)] fun t10 => box 24 ((fun _ => 0) : Arr 32 UInt8) fun d => st d (fun (_ : Arr 32 UInt8) => t10) <| nn c fun p_2 => ld p_2 (fun (x : round_Core) => x.locked.round) fun t15 => ifb (decide (t15 < (0 : Int))) ((round_Core_plan.j1 k) c p_1 t4 d true) (ld p_2 (fun (x : round_Core) => x.locked) fun t21 => ld d (fun (x : Arr 32 UInt8) => x) fun t22 => call (β := Bool) Prog 134 [reg (t21 : round_mark), reg (t22 : Arr 32 UInt8)] fun t23 => (round_Core_plan.j1 k) c p_1 t4 d t23)
def round_Core_first.b (c : Pt) (round : Int) (d : Arr 32 UInt8) (k : Bool → H → Prop) : H → Prop :=
  box 24 (d : Arr 32 UInt8) fun d_1 => nn c fun p => ld p (fun (x : round_Core) => x.box) fun t10 => ld d_1 (fun (x : Arr 32 UInt8) => x) fun t12 => ld p (fun (x : round_Core) => x.config) fun t17 => call (β := Int) Prog 16 [reg (t10 : Pt), reg ((1 : Int) : Int), reg (round : Int), reg (t12 : Arr 32 UInt8)] fun t13 => chk p (fun (x : round_Core) => x.config) t17 <| call (β := Int) Prog 114 [reg (t17 : api_Config)] fun t18 => k ((decide (t18 ≤ t13)) : Bool)
def code_Writer_Text.l1 (k : Unit → H → Prop) (w_1 : Pt) (t9 : Sl) (t10 : Int) : Int → H → Prop := Lp fun s1 t11 =>
  ifb (decide (t11 < t10)) (sidx t9 t11 1 fun t13 => ld t13 (fun (x : ByteArray) => x) fun t14 => nn w_1 fun p => ld p (fun (x : code_Writer) => x.b) fun t21 => mks 5 [((toU8 (ishr (t14.size : Int) 24)) : UInt8), ((toU8 (ishr (t14.size : Int) 16)) : UInt8), ((toU8 (ishr (t14.size : Int) 8)) : UInt8), ((toU8 (t14.size : Int)) : UInt8)] fun t33 => app 5 1 1 (enc (0 : UInt8)) t21 t33 fun t34 => st p (fun (x : code_Writer) => { x with b := t34 }) <| ld p (fun (x : code_Writer) => x.b) fun t41 => apps 5 1 (enc (0 : UInt8)) t41 t14 fun t43 => st p (fun (x : code_Writer) => { x with b := t43 }) <| s1 (iadd t11 (1 : Int))) (k ())
def code_Writer_Text.b (w : Pt) (list : Sl) (k : Unit → H → Prop) : H → Prop :=
  ifb w.isNone (k ()) (code_Writer_Text.l1 k w list (list.len : Int) (0 : Int))
def sha_word.b (b : Sl) (k : UInt32 → H → Prop) : H → Prop :=
  sidx b (0 : Int) 1 fun t4 => ld t4 (fun (x : UInt8) => x) fun t5 => sidx b (1 : Int) 1 fun t9 => ld t9 (fun (x : UInt8) => x) fun t10 => sidx b (2 : Int) 1 fun t15 => ld t15 (fun (x : UInt8) => x) fun t16 => sidx b (3 : Int) 1 fun t21 => ld t21 (fun (x : UInt8) => x) fun t22 => k (((((shl32 (toU32 (t5.toNat : Int)) 24) ||| (shl32 (toU32 (t10.toNat : Int)) 16)) ||| (shl32 (toU32 (t16.toNat : Int)) 8)) ||| (toU32 (t22.toNat : Int))) : UInt32)
def math_bits_RotateLeft32.b (x : UInt32) (kv : Int) (k : UInt32 → H → Prop) : H → Prop :=
  k (((shl32 x ((toU64 kv) &&& (31 : UInt64)).toNat) ||| (shr32 x ((32 : UInt64) - ((toU64 kv) &&& (31 : UInt64))).toNat)) : UInt32)
def config_Weak.b (c : api_Config) (k : Int → H → Prop) : H → Prop :=
  box 54 (c : api_Config) fun c_1 => ld c_1 (fun (x : api_Config) => x) fun t3 => call (β := Int) Prog 53 [reg (t3 : api_Config)] fun t4 => k ((iadd t4 (1 : Int)) : Int)
def round_mark_is.j1 (k : Bool → H → Prop) (t4 : Bool) : H → Prop :=
  k (t4 : Bool)
def round_mark_is.b (m : round_mark) (d : Arr 32 UInt8) (k : Bool → H → Prop) : H → Prop :=
  box 136 (m : round_mark) fun m_1 => box 24 (d : Arr 32 UInt8) fun d_1 => ld m_1 (fun (x : round_mark) => x.round) fun t6 => ifb (decide ((0 : Int) ≤ t6)) (ld m_1 (fun (x : round_mark) => x.block) fun t10 => ld d_1 (fun (x : Arr 32 UInt8) => x) fun t12 => call (β := Arr 32 UInt8) Prog 34 [reg (t10 : api_Block)] fun t11 => chk d_1 (fun (x : Arr 32 UInt8) => x) t12 <| (round_mark_is.j1 k) (decide (t11 = t12))) ((round_mark_is.j1 k) false)
theorem sha_state_block.ok (hv : Pt) (b : Sl) (k : Unit → H → Prop) (h : H) (hh : sha_state_block.b hv b k h) : CallsH Prog 95 [reg hv, reg b].toArray h fun v h' => ∃ r : Unit, v = reg r ∧ k r h' := by
 unfold sha_state_block.b at hh
 refine CallsH.of 200 Tryd.func95 rfl Tryd.ntmps95 rfl (fun w0 => ?_)
 refine .sr ?_
 refine box_elim hh (fun w hw hh => ?_)
 refine .e (e_allocP hw zo_215 rfl ?_)
 refine .nx ?_
 refine CW.join (fun ρ h => ∃ (ρ' : Env), ρ = setl ρ' [(0, reg hv), (4, .pointer (some w))] ∧ (sha_state_block.j1 k) hv w h) ?_ ?_
 ·refine .sr (.M (reg ((0 : Int) : Int)) (.nx ?_))
  refine CW.block ?_
  unfold sha_state_block.l1 at hh
  refine CW.loop (fun (σ0 : Int) ρ => match σ0 with | t26 => ∃ ρ' : Env, ρ = setl ρ' [(0, reg hv), (1, reg b), (4, .pointer (some w)), (26, reg t26)]) hh ⟨_, setl_eq ⟨rfl, ⟨rfl, ⟨rfl, ⟨rfl, trivial⟩⟩⟩⟩⟩ ?_
  clear hh
  rintro s1 t26 ρ h ⟨ρ', rfl⟩ hh
  refine .sr (.V (v_ilss rfl rfl) (.nx (.seq ?_)))
  refine CW.cond (decide (t26 < (16 : Int))) rfl (fun hb => ?_) (fun hb => ?_)
  ·have hh := hh.1 hb
   refine CW.skip ?_
   refine QN.then_ ?_
   refine CW.seq ?_
   refine CW.block ?_
   refine .sr (.M (reg t26) (.A (reg t26) (.nx ?_)))
   refine CW.region ?_
   refine .M (reg t26) (.M (reg b) (.M (reg t26) (.V (v_imul rfl rfl) ?_)))
   obtain ⟨hm, hh⟩ := hh
   refine .V (v_slice_ll sl_130 rfl rfl hm.1 hm.2) ?_
   refine .e (e_callP fn_119 rfl rfl hh ?_)
   intro h t34 hh
   obtain ⟨i35, hi35, hh⟩ := hh
   refine .V (v_idx_arrP ar_215 rfl rfl hi35) ?_
   obtain ⟨xw_2, hxw_2, hwxw_2, hh⟩ := hh
   refine .e (e_store (p := w) (nv := enc (t34 : UInt32)) i35.val rfl rfl rfl sz_185 rfl hxw_2 hwxw_2 (arr_ble i35 xw_2 _ rfl) (arr_set i35 xw_2 (t34 : UInt32) rfl) ?_)
   refine .nil ?_
   refine QN.blockN ?_
   refine QN.then_ ?_
   refine CW.region ?_
   refine .V (v_iadd rfl rfl) (.M (reg ((iadd t26 (1 : Int)) : Int)) ?_)
   refine .nil ?_
   exact QN.thenJ ⟨(iadd t26 (1 : Int)), ⟨_, setl_eq ⟨rfl, ⟨rfl, ⟨rfl, ⟨rfl, trivial⟩⟩⟩⟩⟩, hh⟩
  ·have hh := hh.2 hb
   refine CW.exit ?_
   refine QN.thenExit ?_
   refine QN.thenExit ?_
   refine QN.blockExit ?_
   exact QN.thenJ ⟨_, setl_eq ⟨rfl, ⟨rfl, trivial⟩⟩, hh⟩
 ·rintro ρ h ⟨ρ', rfl, hh⟩
  unfold sha_state_block.j1 at hh
  refine CW.join (fun ρ h => ∃ (ρ' : Env), ρ = setl ρ' [(0, reg hv), (4, .pointer (some w))] ∧ (sha_state_block.j2 k) hv w h) ?_ ?_
  ·refine .sr (.A (reg ((16 : Int) : Int)) (.nx ?_))
   refine CW.block ?_
   unfold sha_state_block.l2 at hh
   refine CW.loop (fun (σ0 : Int) ρ => match σ0 with | i => ∃ ρ' : Env, ρ = setl ρ' [(0, reg hv), (4, .pointer (some w)), (6, reg i)]) hh ⟨_, setl_eq ⟨rfl, ⟨rfl, ⟨rfl, trivial⟩⟩⟩⟩ ?_
   clear hh
   rintro s2 i ρ h ⟨ρ', rfl⟩ hh
   refine CW.seq ?_
   refine .sr (.M (reg i) (.V (v_ilss rfl rfl) (.nx ?_)))
   refine CW.cond (decide (i < (64 : Int))) rfl (fun hb_1 => ?_) (fun hb_1 => ?_)
   ·have hh := hh.1 hb_1
    refine CW.skip ?_
    refine QN.then_ ?_
    refine CW.seq ?_
    refine CW.block ?_
    refine CW.seq ?_
    refine CW.drawN 10 rfl follows_mixed [0, 1, 2, 3, 4, 5, 6, 7, 8, 9] ?_
    refine .P 0 rfl (v_move (v := reg i) rfl) (.P 1 rfl (v_isub rfl rfl) ?_)
    obtain ⟨i43, hi43, hh⟩ := hh
    refine .P 2 rfl (v_idx_arrP ar_215 rfl rfl hi43) (.KL 3 i43.val na_185 (arr_get i43) rfl hh rfl (fun t44 hh => .P 4 rfl (v_move (v := reg i) rfl) (.P 5 rfl (v_isub rfl rfl) ?_)))
    obtain ⟨i47, hi47, hh⟩ := hh
    refine .P 6 rfl (v_idx_arrP ar_215 rfl rfl hi47) (.KL 7 i47.val na_185 (arr_get i47) rfl hh rfl (fun t48 hh => .P 8 rfl (v_assign (v := reg t44) rfl) (.P 9 rfl (v_assign (v := reg t48) rfl) ?_)))
    refine .done (by kernel_rfl) ?_
    refine QN.then_ ?_
    refine .sr (.M (reg t44) ?_)
    refine .e (e_callP fn_120 rfl rfl hh ?_)
    intro h t50 hh
    refine .M (reg t44) ?_
    refine .e (e_callP fn_120 rfl rfl hh ?_)
    intro h t52 hh
    refine .V (v_xor32 (a := t50) (b := t52) rfl rfl) (.M (reg t44) (.V (v_shr32 (a := t44) (b := 3) rfl rfl (by decide)) (.V (v_xor32 (a := (t50 ^^^ t52)) (b := (shr32 t44 3)) rfl rfl) (.A (reg (((t50 ^^^ t52) ^^^ (shr32 t44 3)) : UInt32)) (.nx (.sr (.M (reg t48) ?_)))))))
    refine .e (e_callP fn_120 rfl rfl hh ?_)
    intro h t58 hh
    refine .M (reg t48) ?_
    refine .e (e_callP fn_120 rfl rfl hh ?_)
    intro h t60 hh
    refine .V (v_xor32 (a := t58) (b := t60) rfl rfl) (.M (reg t48) (.V (v_shr32 (a := t48) (b := 10) rfl rfl (by decide)) (.V (v_xor32 (a := (t58 ^^^ t60)) (b := (shr32 t48 10)) rfl rfl) (.A (reg (((t58 ^^^ t60) ^^^ (shr32 t48 10)) : UInt32)) (.nx ?_)))))
    refine CW.drawN 16 rfl follows_mixed [0, 1, 2, 3, 4, 5, 6, 7, 8, 9, 10, 11, 12, 13, 14] ?_
    refine .P 0 rfl (v_move (v := reg i) rfl) (.P 1 rfl (v_move (v := reg i) rfl) (.P 2 rfl (v_isub rfl rfl) ?_))
    obtain ⟨i68, hi68, hh⟩ := hh
    refine .P 3 rfl (v_idx_arrP ar_215 rfl rfl hi68) (.KL 4 i68.val na_185 (arr_get i68) rfl hh rfl (fun t69 hh => .P 5 rfl (v_move (v := reg (((t50 ^^^ t52) ^^^ (shr32 t44 3)) : UInt32)) rfl) (.P 6 rfl (v_add32 (a := t69) (b := ((t50 ^^^ t52) ^^^ (shr32 t44 3))) rfl rfl) (.P 7 rfl (v_move (v := reg i) rfl) (.P 8 rfl (v_isub rfl rfl) ?_)))))
    obtain ⟨i74, hi74, hh⟩ := hh
    refine .P 9 rfl (v_idx_arrP ar_215 rfl rfl hi74) (.KL 10 i74.val na_185 (arr_get i74) rfl hh rfl (fun t75 hh => .P 11 rfl (v_add32 (a := (t69 + ((t50 ^^^ t52) ^^^ (shr32 t44 3)))) (b := t75) rfl rfl) (.P 12 rfl (v_move (v := reg (((t58 ^^^ t60) ^^^ (shr32 t48 10)) : UInt32)) rfl) (.P 13 rfl (v_add32 (a := ((t69 + ((t50 ^^^ t52) ^^^ (shr32 t44 3))) + t75)) (b := ((t58 ^^^ t60) ^^^ (shr32 t48 10))) rfl rfl) ?_))))
    obtain ⟨i79, hi79, hh⟩ := hh
    refine .P 14 rfl (v_idx_arrP ar_215 rfl rfl hi79) ?_
    obtain ⟨xw_5, hxw_5, hwxw_5, hh⟩ := hh
    refine .w 15 (by kernel_rfl) rfl (by kernel_rfl) (.e (e_store (p := w) (nv := enc ((((t69 + ((t50 ^^^ t52) ^^^ (shr32 t44 3))) + t75) + ((t58 ^^^ t60) ^^^ (shr32 t48 10))) : UInt32)) i79.val rfl rfl rfl sz_185 rfl hxw_5 hwxw_5 (arr_ble i79 xw_5 _ rfl) (arr_set i79 xw_5 ((((t69 + ((t50 ^^^ t52) ^^^ (shr32 t44 3))) + t75) + ((t58 ^^^ t60) ^^^ (shr32 t48 10))) : UInt32) rfl) ?_))
    refine ⟨⟨⟨trivial, .inl (by kernel_rfl)⟩, .inl (by kernel_rfl)⟩, ?_⟩
    refine .done (by kernel_rfl) ?_
    refine QN.blockN ?_
    refine QN.then_ ?_
    refine CW.region ?_
    refine .M (reg i) (.V (v_iadd rfl rfl) (.A (reg ((iadd i (1 : Int)) : Int)) ?_))
    refine .nil ?_
    exact QN.thenJ ⟨(iadd i (1 : Int)), ⟨_, setl_eq ⟨rfl, ⟨rfl, ⟨rfl, trivial⟩⟩⟩⟩, hh⟩
   ·have hh := hh.2 hb_1
    refine CW.exit ?_
    refine QN.thenExit ?_
    refine QN.thenExit ?_
    refine QN.blockExit ?_
    exact QN.thenJ ⟨_, setl_eq ⟨rfl, ⟨rfl, trivial⟩⟩, hh⟩
  ·rintro ρ h ⟨ρ', rfl, hh⟩
   unfold sha_state_block.j2 at hh
   refine CW.seq ?_
   refine CW.drawN 40 rfl follows_mixed [0, 1, 2, 3, 4, 5, 6, 7, 8, 9, 10, 11, 12, 13, 14, 15, 16, 17, 18, 19, 20, 21, 22, 23, 24, 25, 26, 27, 28, 29, 30, 31, 32, 33, 34, 35, 36, 37, 38, 39] ?_
   refine .P 0 rfl (v_move (v := reg hv) rfl) ?_
   obtain ⟨p, hp, hh⟩ := hh
   refine .P 1 rfl (v_nilCheck (congrArg Value.pointer hp)) ?_
   obtain ⟨i82, hi82, hh⟩ := hh
   refine .P 2 rfl (v_idx_arrP ar_187 rfl rfl hi82) (.KL 3 i82.val na_185 (arr_get i82) rfl hh rfl (fun t83 hh => .P 4 rfl (v_move (v := reg hv) rfl) (.P 5 rfl (v_nilCheck (congrArg Value.pointer hp)) ?_)))
   obtain ⟨i86, hi86, hh⟩ := hh
   refine .P 6 rfl (v_idx_arrP ar_187 rfl rfl hi86) (.KL 7 i86.val na_185 (arr_get i86) rfl hh rfl (fun t87 hh => .P 8 rfl (v_move (v := reg hv) rfl) (.P 9 rfl (v_nilCheck (congrArg Value.pointer hp)) ?_)))
   obtain ⟨i90, hi90, hh⟩ := hh
   refine .P 10 rfl (v_idx_arrP ar_187 rfl rfl hi90) (.KL 11 i90.val na_185 (arr_get i90) rfl hh rfl (fun t91 hh => .P 12 rfl (v_move (v := reg hv) rfl) (.P 13 rfl (v_nilCheck (congrArg Value.pointer hp)) ?_)))
   obtain ⟨i94, hi94, hh⟩ := hh
   refine .P 14 rfl (v_idx_arrP ar_187 rfl rfl hi94) (.KL 15 i94.val na_185 (arr_get i94) rfl hh rfl (fun t95 hh => .P 16 rfl (v_move (v := reg hv) rfl) (.P 17 rfl (v_nilCheck (congrArg Value.pointer hp)) ?_)))
   obtain ⟨i98, hi98, hh⟩ := hh
   refine .P 18 rfl (v_idx_arrP ar_187 rfl rfl hi98) (.KL 19 i98.val na_185 (arr_get i98) rfl hh rfl (fun t99 hh => .P 20 rfl (v_move (v := reg hv) rfl) (.P 21 rfl (v_nilCheck (congrArg Value.pointer hp)) ?_)))
   obtain ⟨i102, hi102, hh⟩ := hh
   refine .P 22 rfl (v_idx_arrP ar_187 rfl rfl hi102) (.KL 23 i102.val na_185 (arr_get i102) rfl hh rfl (fun t103 hh => .P 24 rfl (v_move (v := reg hv) rfl) (.P 25 rfl (v_nilCheck (congrArg Value.pointer hp)) ?_)))
   obtain ⟨i106, hi106, hh⟩ := hh
   refine .P 26 rfl (v_idx_arrP ar_187 rfl rfl hi106) (.KL 27 i106.val na_185 (arr_get i106) rfl hh rfl (fun t107 hh => .P 28 rfl (v_move (v := reg hv) rfl) (.P 29 rfl (v_nilCheck (congrArg Value.pointer hp)) ?_)))
   obtain ⟨i110, hi110, hh⟩ := hh
   refine .P 30 rfl (v_idx_arrP ar_187 rfl rfl hi110) (.KL 31 i110.val na_185 (arr_get i110) rfl hh rfl (fun t111 hh => .P 32 rfl (v_assign (v := reg t83) rfl) (.P 33 rfl (v_assign (v := reg t87) rfl) (.P 34 rfl (v_assign (v := reg t91) rfl) (.P 35 rfl (v_assign (v := reg t95) rfl) (.P 36 rfl (v_assign (v := reg t99) rfl) (.P 37 rfl (v_assign (v := reg t103) rfl) (.P 38 rfl (v_assign (v := reg t107) rfl) (.P 39 rfl (v_assign (v := reg t111) rfl) ?_)))))))))
   refine .done (by kernel_rfl) ?_
   refine QN.then_ ?_
   refine CW.join (fun ρ h => ∃ (ρ' : Env) (a_1 : UInt32) (c_1 : UInt32) (d_1 : UInt32) (e_1 : UInt32) (f_1 : UInt32) (g_1 : UInt32) (kv_1 : UInt32) (l_1 : UInt32), ρ = setl ρ' [(0, reg hv), (11, reg a_1), (12, reg c_1), (13, reg d_1), (14, reg e_1), (15, reg f_1), (16, reg g_1), (17, reg kv_1), (18, reg l_1)] ∧ (sha_state_block.j3 k) hv a_1 c_1 d_1 e_1 f_1 g_1 kv_1 l_1 h) ?_ ?_
   ·refine .sr (.LA 0 ag_215 get_215_all (fun _ => (arr_len (n := 64) _)) hh rfl (fun t112 hh => .M (reg ((0 : Int) : Int)) (.nx ?_)))
    refine CW.block ?_
    unfold sha_state_block.l3 at hh
    refine CW.loop (fun (σ0 : UInt32 × UInt32 × UInt32 × UInt32 × UInt32 × UInt32 × UInt32 × UInt32 × Int) ρ => match σ0 with | (a, c, d, e, f, g, kv, l, t113) => ∃ ρ' : Env, ρ = setl ρ' [(0, reg hv), (112, reg (t112 : Arr 64 UInt32)), (11, reg a), (12, reg c), (13, reg d), (14, reg e), (15, reg f), (16, reg g), (17, reg kv), (18, reg l), (113, reg t113)]) hh ⟨_, setl_eq ⟨rfl, ⟨rfl, ⟨rfl, ⟨rfl, ⟨rfl, ⟨rfl, ⟨rfl, ⟨rfl, ⟨rfl, ⟨rfl, ⟨rfl, trivial⟩⟩⟩⟩⟩⟩⟩⟩⟩⟩⟩⟩ ?_
    clear hh
    rintro s3 ⟨a, c, d, e, f, g, kv, l, t113⟩ ρ h ⟨ρ', rfl⟩ hh
    refine .sr (.V (v_ilss rfl rfl) (.nx (.seq ?_)))
    refine CW.cond (decide (t113 < (64 : Int))) rfl (fun hb_2 => ?_) (fun hb_2 => ?_)
    ·have hh := hh.1 hb_2
     refine CW.skip ?_
     refine QN.then_ ?_
     refine CW.seq ?_
     refine CW.block ?_
     refine .sr (.M (reg t113) ?_)
     obtain ⟨i116, hi116, hh⟩ := hh
     refine .V (v_index1P ar_215 na_185 rfl rfl hi116) (.A (reg t113) (.A (reg ((t112 i116) : UInt32)) (.nx (.sr (.M (reg f) ?_)))))
     refine .e (e_callP fn_120 rfl rfl hh ?_)
     intro h t118 hh
     refine .M (reg f) ?_
     refine .e (e_callP fn_120 rfl rfl hh ?_)
     intro h t120 hh
     refine .V (v_xor32 (a := t118) (b := t120) rfl rfl) (.M (reg f) ?_)
     refine .e (e_callP fn_120 rfl rfl hh ?_)
     intro h t123 hh
     refine .V (v_xor32 (a := (t118 ^^^ t120)) (b := t123) rfl rfl) (.A (reg (((t118 ^^^ t120) ^^^ t123) : UInt32)) (.nx (.sr (.M (reg l) (.M (reg (((t118 ^^^ t120) ^^^ t123) : UInt32)) (.V (v_add32 (a := l) (b := ((t118 ^^^ t120) ^^^ t123)) rfl rfl) (.M (reg f) (.M (reg g) (.V (v_and32 (a := f) (b := g) rfl rfl) (.M (reg f) ?_))))))))))
     refine .V (v_not32 rfl) (.M (reg kv) (.V (v_and32 (a := (~~~f)) (b := kv) rfl rfl) (.V (v_xor32 (a := (f &&& g)) (b := ((~~~f) &&& kv)) rfl rfl) (.V (v_add32 (a := (l + ((t118 ^^^ t120) ^^^ t123))) (b := ((f &&& g) ^^^ ((~~~f) &&& kv))) rfl rfl) (.M (reg t113) ?_)))))
     obtain ⟨i138, hi138, hh⟩ := hh
     refine .V (v_idx_arrP ar_215 rfl rfl hi138) (.L i138.val na_185 (arr_get i138) hh rfl (fun t139 hh => .V (v_add32 (a := ((l + ((t118 ^^^ t120) ^^^ t123)) + ((f &&& g) ^^^ ((~~~f) &&& kv)))) (b := t139) rfl rfl) (.M (reg ((t112 i116) : UInt32)) (.V (v_add32 (a := (((l + ((t118 ^^^ t120) ^^^ t123)) + ((f &&& g) ^^^ ((~~~f) &&& kv))) + t139)) (b := (t112 i116)) rfl rfl) (.A (reg (((((l + ((t118 ^^^ t120) ^^^ t123)) + ((f &&& g) ^^^ ((~~~f) &&& kv))) + t139) + (t112 i116)) : UInt32)) (.nx (.sr (.M (reg a) ?_))))))))
     refine .e (e_callP fn_120 rfl rfl hh ?_)
     intro h t144 hh
     refine .M (reg a) ?_
     refine .e (e_callP fn_120 rfl rfl hh ?_)
     intro h t146 hh
     refine .V (v_xor32 (a := t144) (b := t146) rfl rfl) (.M (reg a) ?_)
     refine .e (e_callP fn_120 rfl rfl hh ?_)
     intro h t149 hh
     refine .V (v_xor32 (a := (t144 ^^^ t146)) (b := t149) rfl rfl) (.A (reg (((t144 ^^^ t146) ^^^ t149) : UInt32)) (.nx (.sr (.M (reg (((t144 ^^^ t146) ^^^ t149) : UInt32)) (.M (reg a) (.M (reg c) (.V (v_and32 (a := a) (b := c) rfl rfl) (.M (reg a) (.M (reg d) (.V (v_and32 (a := a) (b := d) rfl rfl) ?_))))))))))
     refine .V (v_xor32 (a := (a &&& c)) (b := (a &&& d)) rfl rfl) (.M (reg c) (.M (reg d) (.V (v_and32 (a := c) (b := d) rfl rfl) (.V (v_xor32 (a := ((a &&& c) ^^^ (a &&& d))) (b := (c &&& d)) rfl rfl) (.V (v_add32 (a := ((t144 ^^^ t146) ^^^ t149)) (b := (((a &&& c) ^^^ (a &&& d)) ^^^ (c &&& d))) rfl rfl) (.A (reg ((((t144 ^^^ t146) ^^^ t149) + (((a &&& c) ^^^ (a &&& d)) ^^^ (c &&& d))) : UInt32)) (.nx ?_)))))))
     refine CW.region ?_
     refine .M (reg (((((l + ((t118 ^^^ t120) ^^^ t123)) + ((f &&& g) ^^^ ((~~~f) &&& kv))) + t139) + (t112 i116)) : UInt32)) (.M (reg ((((t144 ^^^ t146) ^^^ t149) + (((a &&& c) ^^^ (a &&& d)) ^^^ (c &&& d))) : UInt32)) (.V (v_add32 (a := ((((l + ((t118 ^^^ t120) ^^^ t123)) + ((f &&& g) ^^^ ((~~~f) &&& kv))) + t139) + (t112 i116))) (b := (((t144 ^^^ t146) ^^^ t149) + (((a &&& c) ^^^ (a &&& d)) ^^^ (c &&& d)))) rfl rfl) (.M (reg a) (.M (reg c) (.M (reg d) (.M (reg e) (.M (reg (((((l + ((t118 ^^^ t120) ^^^ t123)) + ((f &&& g) ^^^ ((~~~f) &&& kv))) + t139) + (t112 i116)) : UInt32)) (.V (v_add32 (a := e) (b := ((((l + ((t118 ^^^ t120) ^^^ t123)) + ((f &&& g) ^^^ ((~~~f) &&& kv))) + t139) + (t112 i116))) rfl rfl) (.M (reg f) ?_)))))))))
     refine .M (reg g) (.M (reg kv) (.A (reg ((((((l + ((t118 ^^^ t120) ^^^ t123)) + ((f &&& g) ^^^ ((~~~f) &&& kv))) + t139) + (t112 i116)) + (((t144 ^^^ t146) ^^^ t149) + (((a &&& c) ^^^ (a &&& d)) ^^^ (c &&& d)))) : UInt32)) (.A (reg a) (.A (reg c) (.A (reg d) (.A (reg ((e + ((((l + ((t118 ^^^ t120) ^^^ t123)) + ((f &&& g) ^^^ ((~~~f) &&& kv))) + t139) + (t112 i116))) : UInt32)) (.A (reg f) (.A (reg g) (.A (reg kv) ?_)))))))))
     refine .nil ?_
     refine QN.blockN ?_
     refine QN.then_ ?_
     refine CW.region ?_
     refine .V (v_iadd rfl rfl) (.M (reg ((iadd t113 (1 : Int)) : Int)) ?_)
     refine .nil ?_
     exact QN.thenJ ⟨((((((l + ((t118 ^^^ t120) ^^^ t123)) + ((f &&& g) ^^^ ((~~~f) &&& kv))) + t139) + (t112 i116)) + (((t144 ^^^ t146) ^^^ t149) + (((a &&& c) ^^^ (a &&& d)) ^^^ (c &&& d)))), a, c, d, (e + ((((l + ((t118 ^^^ t120) ^^^ t123)) + ((f &&& g) ^^^ ((~~~f) &&& kv))) + t139) + (t112 i116))), f, g, kv, (iadd t113 (1 : Int))), ⟨_, setl_eq ⟨rfl, ⟨rfl, ⟨rfl, ⟨rfl, ⟨rfl, ⟨rfl, ⟨rfl, ⟨rfl, ⟨rfl, ⟨rfl, ⟨rfl, trivial⟩⟩⟩⟩⟩⟩⟩⟩⟩⟩⟩⟩, hh⟩
    ·have hh := hh.2 hb_2
     refine CW.exit ?_
     refine QN.thenExit ?_
     refine QN.thenExit ?_
     refine QN.blockExit ?_
     exact QN.thenJ ⟨_, a, c, d, e, f, g, kv, l, setl_eq ⟨rfl, ⟨rfl, ⟨rfl, ⟨rfl, ⟨rfl, ⟨rfl, ⟨rfl, ⟨rfl, ⟨rfl, trivial⟩⟩⟩⟩⟩⟩⟩⟩⟩, hh⟩
   ·rintro ρ h ⟨ρ', a_1, c_1, d_1, e_1, f_1, g_1, kv_1, l_1, rfl, hh⟩
    unfold sha_state_block.j3 at hh
    refine .sr (.M (reg a_1) (.M (reg c_1) (.M (reg d_1) (.M (reg e_1) (.M (reg f_1) (.M (reg g_1) (.M (reg kv_1) (.M (reg l_1) (.V (v_buildAT (arrOf [a_1, c_1, d_1, e_1, f_1, g_1, kv_1, l_1] : Arr 8 UInt32) zo_186 ar_186 rfl rfl rfl) ?_)))))))))
    refine .M (reg ((0 : Int) : Int)) (.nx ?_)
    refine CW.block ?_
    unfold sha_state_block.l4 at hh
    refine CW.loop (fun (σ0 : Int) ρ => match σ0 with | t186 => ∃ ρ' : Env, ρ = setl ρ' [(0, reg hv), (185, reg ((arrOf [a_1, c_1, d_1, e_1, f_1, g_1, kv_1, l_1] : Arr 8 UInt32) : Arr 8 UInt32)), (186, reg t186)]) hh ⟨_, setl_eq ⟨rfl, ⟨rfl, ⟨rfl, trivial⟩⟩⟩⟩ ?_
    clear hh
    rintro s4 t186 ρ h ⟨ρ', rfl⟩ hh
    refine .sr (.V (v_ilss rfl rfl) (.nx (.seq ?_)))
    refine CW.cond (decide (t186 < (8 : Int))) rfl (fun hb_3 => ?_) (fun hb_3 => ?_)
    ·have hh := hh.1 hb_3
     refine CW.skip ?_
     refine QN.then_ ?_
     refine CW.seq ?_
     refine CW.block ?_
     refine .sr (.M (reg t186) ?_)
     obtain ⟨i189, hi189, hh⟩ := hh
     refine .V (v_index1P ar_186 na_185 rfl rfl hi189) (.A (reg t186) (.A (reg (((arrOf [a_1, c_1, d_1, e_1, f_1, g_1, kv_1, l_1] : Arr 8 UInt32) i189) : UInt32)) (.nx ?_)))
     refine CW.drawN 10 rfl follows_mixed [0, 1, 2, 3, 4, 5, 6, 7, 8] ?_
     refine .P 0 rfl (v_move (v := reg hv) rfl) (.P 1 rfl (v_move (v := reg t186) rfl) ?_)
     obtain ⟨p_1, hp_1, hh⟩ := hh
     refine .P 2 rfl (v_nilCheck (congrArg Value.pointer hp_1)) ?_
     obtain ⟨i193, hi193, hh⟩ := hh
     refine .P 3 rfl (v_idx_arrP ar_187 rfl rfl hi193) (.KL 4 i193.val na_185 (arr_get i193) rfl hh rfl (fun t194 hh => .P 5 rfl (v_move (v := reg (((arrOf [a_1, c_1, d_1, e_1, f_1, g_1, kv_1, l_1] : Arr 8 UInt32) i189) : UInt32)) rfl) (.P 6 rfl (v_add32 (a := t194) (b := ((arrOf [a_1, c_1, d_1, e_1, f_1, g_1, kv_1, l_1] : Arr 8 UInt32) i189)) rfl rfl) (.P 7 rfl (v_nilCheck (congrArg Value.pointer hp_1)) ?_))))
     obtain ⟨i198, hi198, hh⟩ := hh
     refine .P 8 rfl (v_idx_arrP ar_187 rfl rfl hi198) ?_
     obtain ⟨xw_7, hxw_7, hwxw_7, hh⟩ := hh
     refine .w 9 (by kernel_rfl) rfl (by kernel_rfl) (.e (e_store (p := p_1) (nv := enc ((t194 + ((arrOf [a_1, c_1, d_1, e_1, f_1, g_1, kv_1, l_1] : Arr 8 UInt32) i189)) : UInt32)) i198.val rfl rfl rfl sz_185 rfl hxw_7 hwxw_7 (arr_ble i198 xw_7 _ rfl) (arr_set i198 xw_7 ((t194 + ((arrOf [a_1, c_1, d_1, e_1, f_1, g_1, kv_1, l_1] : Arr 8 UInt32) i189)) : UInt32) rfl) ?_))
     refine ⟨⟨trivial, .inl (by kernel_rfl)⟩, ?_⟩
     refine .done (by kernel_rfl) ?_
     refine QN.blockN ?_
     refine QN.then_ ?_
     refine CW.region ?_
     refine .V (v_iadd rfl rfl) (.M (reg ((iadd t186 (1 : Int)) : Int)) ?_)
     refine .nil ?_
     exact QN.thenJ ⟨(iadd t186 (1 : Int)), ⟨_, setl_eq ⟨rfl, ⟨rfl, ⟨rfl, trivial⟩⟩⟩⟩, hh⟩
    ·have hh := hh.2 hb_3
     refine CW.exit ?_
     refine QN.thenExit ?_
     refine QN.thenExit ?_
     refine QN.blockExit ?_
     exact ret0n rfl ⟨(), rfl, hh⟩
theorem sha_word.ok (b : Sl) (k : UInt32 → H → Prop) (h : H) (hh : sha_word.b b k h) : CallsH Prog 119 [reg b].toArray h fun v h' => ∃ r : UInt32, v = reg r ∧ k r h' := by
 unfold sha_word.b at hh
 refine CallsH.of 25 Tryd.func119 rfl Tryd.ntmps119 rfl (fun w0 => ?_)
 refine .sr (.A (reg ((0 : UInt32) : UInt32)) (.nx (.seq ?_)))
 refine CW.drawN 23 rfl follows_mixed [0, 1, 2, 3, 4, 5, 6, 7, 8, 9, 10, 11, 12, 13, 14, 15, 16, 17, 18, 19, 20, 21, 22] ?_
 refine .P 0 rfl (v_move (v := reg b) rfl) ?_
 obtain ⟨t4, ht4, hh⟩ := hh
 refine .P 1 rfl (v_idx_slP sl_130 rfl rfl ht4.1 ht4.2.1 ht4.2.2) (.KL 2 0 na_5 get_5_all rfl hh rfl (fun t5 hh => .P 3 rfl (v_conv_u32 un_5 un_185 rfl) (.P 4 rfl (v_shl32 (a := (toU32 (t5.toNat : Int))) (b := 24) rfl rfl (by decide)) (.P 5 rfl (v_move (v := reg b) rfl) ?_))))
 obtain ⟨t9, ht9, hh⟩ := hh
 refine .P 6 rfl (v_idx_slP sl_130 rfl rfl ht9.1 ht9.2.1 ht9.2.2) (.KL 7 0 na_5 get_5_all rfl hh rfl (fun t10 hh => .P 8 rfl (v_conv_u32 un_5 un_185 rfl) (.P 9 rfl (v_shl32 (a := (toU32 (t10.toNat : Int))) (b := 16) rfl rfl (by decide)) (.P 10 rfl (v_or32 (a := (shl32 (toU32 (t5.toNat : Int)) 24)) (b := (shl32 (toU32 (t10.toNat : Int)) 16)) rfl rfl) (.P 11 rfl (v_move (v := reg b) rfl) ?_)))))
 obtain ⟨t15, ht15, hh⟩ := hh
 refine .P 12 rfl (v_idx_slP sl_130 rfl rfl ht15.1 ht15.2.1 ht15.2.2) (.KL 13 0 na_5 get_5_all rfl hh rfl (fun t16 hh => .P 14 rfl (v_conv_u32 un_5 un_185 rfl) (.P 15 rfl (v_shl32 (a := (toU32 (t16.toNat : Int))) (b := 8) rfl rfl (by decide)) (.P 16 rfl (v_or32 (a := ((shl32 (toU32 (t5.toNat : Int)) 24) ||| (shl32 (toU32 (t10.toNat : Int)) 16))) (b := (shl32 (toU32 (t16.toNat : Int)) 8)) rfl rfl) (.P 17 rfl (v_move (v := reg b) rfl) ?_)))))
 obtain ⟨t21, ht21, hh⟩ := hh
 refine .P 18 rfl (v_idx_slP sl_130 rfl rfl ht21.1 ht21.2.1 ht21.2.2) (.KL 19 0 na_5 get_5_all rfl hh rfl (fun t22 hh => .P 20 rfl (v_conv_u32 un_5 un_185 rfl) (.P 21 rfl (v_or32 (a := (((shl32 (toU32 (t5.toNat : Int)) 24) ||| (shl32 (toU32 (t10.toNat : Int)) 16)) ||| (shl32 (toU32 (t16.toNat : Int)) 8))) (b := (toU32 (t22.toNat : Int))) rfl rfl) (.P 22 rfl (v_assign (v := reg (((((shl32 (toU32 (t5.toNat : Int)) 24) ||| (shl32 (toU32 (t10.toNat : Int)) 16)) ||| (shl32 (toU32 (t16.toNat : Int)) 8)) ||| (toU32 (t22.toNat : Int))) : UInt32)) rfl) ?_))))
 refine .done (by kernel_rfl) ?_
 refine QN.then_ ?_
 refine CW.ret ?_
 exact ret1 rfl rfl ⟨(((((shl32 (toU32 (t5.toNat : Int)) 24) ||| (shl32 (toU32 (t10.toNat : Int)) 16)) ||| (shl32 (toU32 (t16.toNat : Int)) 8)) ||| (toU32 (t22.toNat : Int))) : UInt32), rfl, hh⟩
theorem math_bits_RotateLeft32.ok (x : UInt32) (kv : Int) (k : UInt32 → H → Prop) (h : H) (hh : math_bits_RotateLeft32.b x kv k h) : CallsH Prog 120 [reg x, reg kv].toArray h fun v h' => ∃ r : UInt32, v = reg r ∧ k r h' := by
 unfold math_bits_RotateLeft32.b at hh
 refine CallsH.of 17 Tryd.func120 rfl Tryd.ntmps120 rfl (fun w0 => ?_)
 refine .sr (.A (reg ((0 : UInt32) : UInt32)) (.nx (.sr (.M (reg kv) (.V (v_conv_u64 un_3 un_71 rfl) (.V (v_and64 (a := (toU64 kv)) (b := (31 : UInt64)) rfl rfl) (.A (reg (((toU64 kv) &&& (31 : UInt64)) : UInt64)) (.nx (.sr (.M (reg x) (.M (reg (((toU64 kv) &&& (31 : UInt64)) : UInt64)) ?_)))))))))))
 refine .V (v_shl32 (a := x) (b := (((toU64 kv) &&& (31 : UInt64)).toNat : Int)) rfl rfl (Int.natCast_nonneg _)) (.M (reg x) (.M (reg (((toU64 kv) &&& (31 : UInt64)) : UInt64)) (.V (v_sub64 (a := (32 : UInt64)) (b := ((toU64 kv) &&& (31 : UInt64))) rfl rfl) (.V (v_shr32 (a := x) (b := (((32 : UInt64) - ((toU64 kv) &&& (31 : UInt64))).toNat : Int)) rfl rfl (Int.natCast_nonneg _)) (.V (v_or32 (a := (shl32 x ((toU64 kv) &&& (31 : UInt64)).toNat)) (b := (shr32 x ((32 : UInt64) - ((toU64 kv) &&& (31 : UInt64))).toNat)) rfl rfl) (.A (reg (((shl32 x ((toU64 kv) &&& (31 : UInt64)).toNat) ||| (shr32 x ((32 : UInt64) - ((toU64 kv) &&& (31 : UInt64))).toNat)) : UInt32)) (.nx ?_)))))))
 refine CW.ret ?_
 exact ret1 rfl rfl ⟨(((shl32 x ((toU64 kv) &&& (31 : UInt64)).toNat) ||| (shr32 x ((32 : UInt64) - ((toU64 kv) &&& (31 : UInt64))).toNat)) : UInt32), rfl, hh⟩
def tableA : Arr 64 UInt32 := arrOf [0x428a2f98, 0x71374491, 0xb5c0fbcf, 0xe9b5dba5, 0x3956c25b, 0x59f111f1, 0x923f82a4, 0xab1c5ed5,
  0xd807aa98, 0x12835b01, 0x243185be, 0x550c7dc3, 0x72be5d74, 0x80deb1fe, 0x9bdc06a7, 0xc19bf174,
  0xe49b69c1, 0xefbe4786, 0x0fc19dc6, 0x240ca1cc, 0x2de92c6f, 0x4a7484aa, 0x5cb0a9dc, 0x76f988da,
  0x983e5152, 0xa831c66d, 0xb00327c8, 0xbf597fc7, 0xc6e00bf3, 0xd5a79147, 0x06ca6351, 0x14292967,
  0x27b70a85, 0x2e1b2138, 0x4d2c6dfc, 0x53380d13, 0x650a7354, 0x766a0abb, 0x81c2c92e, 0x92722c85,
  0xa2bfe8a1, 0xa81a664b, 0xc24b8b70, 0xc76c51a3, 0xd192e819, 0xd6990624, 0xf40e3585, 0x106aa070,
  0x19a4c116, 0x1e376c08, 0x2748774c, 0x34b0bcb5, 0x391c0cb3, 0x4ed8aa4a, 0x5b9cca4f, 0x682e6ff3,
  0x748f82ee, 0x78a5636f, 0x84c87814, 0x8cc70208, 0x90befffa, 0xa4506ceb, 0xbef9a3f7, 0xc67178f2]
/-- the table of sha's rounds lies where the program keeps it -/
def Tb (h : H) : Prop := AtH h ⟨0, 0, none⟩ (enc tableA)
theorem Tb.fr {S : List Nat} {h h' : H} (f : Fr S h h') (hS : 0 ∉ S) (t : Tb h) : Tb h' := AtH.fr f t hS
def rot (x : UInt32) (kv : Int) : UInt32 := (shl32 x ((toU64 kv) &&& (31 : UInt64)).toNat) ||| (shr32 x ((32 : UInt64) - ((toU64 kv) &&& (31 : UInt64))).toNat)
theorem rot_spec (x : UInt32) (kv : Int) {k : UInt32 → H → Prop} {h : H} (hk : k (rot x kv) h) : math_bits_RotateLeft32.b x kv k h := hk
def word4 (a b c d : UInt8) : UInt32 := ((((shl32 (toU32 (a.toNat : Int)) 24) ||| (shl32 (toU32 (b.toNat : Int)) 16)) ||| (shl32 (toU32 (c.toNat : Int)) 8)) ||| (toU32 (d.toNat : Int)))
theorem word_spec (s : Sl) (bs : List UInt8) {k : UInt32 → H → Prop} {h : H} (hb : SV 1 h s bs) (hl : 4 ≤ bs.length) (hk : k (word4 (bs.getD 0 0) (bs.getD 1 0) (bs.getD 2 0) (bs.getD 3 0)) h) : sha_word.b s k h := by
  have e : ∀ i, i < bs.length → bs[i]? = some (bs.getD i 0) := fun i hi => by simp [hi]
  unfold sha_word.b
  refine sidx_ld len_u8 hb (x := bs.getD 0 0) (by decide) (by simpa using e 0 (by omega)) ?_
  refine sidx_ld len_u8 hb (x := bs.getD 1 0) (by decide) (by simpa using e 1 (by omega)) ?_
  refine sidx_ld len_u8 hb (x := bs.getD 2 0) (by decide) (by simpa using e 2 (by omega)) ?_
  refine sidx_ld len_u8 hb (x := bs.getD 3 0) (by decide) (by simpa using e 3 (by omega)) ?_
  exact hk
/-- the words of a block -/
def sched1 (bs : List UInt8) : Nat → Arr 64 UInt32 := fun n => itF (fun i w => updN w i (word4 (bs.getD (4 * i) 0) (bs.getD (4 * i + 1) 0) (bs.getD (4 * i + 2) 0) (bs.getD (4 * i + 3) 0))) n (fun _ => 0)
def schedW (w : Arr 64 UInt32) (i : Nat) : UInt32 :=
  let x := getN w (i - 15); let y := getN w (i - 2)
  ((getN w (i - 16) + ((rot x (-7) ^^^ rot x (-18)) ^^^ (shr32 x 3))) + getN w (i - 7)) + ((rot y (-17) ^^^ rot y (-19)) ^^^ (shr32 y 10))
def sched2 (bs : List UInt8) : Nat → Arr 64 UInt32 := fun n => itF (fun i w => updN w (i + 16) (schedW w (i + 16))) n (sched1 bs 16)
structure R8 where
  a : UInt32
  c : UInt32
  d : UInt32
  e : UInt32
  f : UInt32
  g : UInt32
  k : UInt32
  l : UInt32
def round1 (w : Arr 64 UInt32) (i : Nat) (r : R8) : R8 :=
  let t := (((r.l + ((rot r.f (-6) ^^^ rot r.f (-11)) ^^^ rot r.f (-25))) + ((r.f &&& r.g) ^^^ ((~~~r.f) &&& r.k))) + getN tableA i) + getN w i
  let u := ((rot r.a (-2) ^^^ rot r.a (-13)) ^^^ rot r.a (-22)) + (((r.a &&& r.c) ^^^ (r.a &&& r.d)) ^^^ (r.c &&& r.d))
  ⟨t + u, r.a, r.c, r.d, r.e + t, r.f, r.g, r.k⟩
def rounds (w : Arr 64 UInt32) (n : Nat) (r : R8) : R8 := itF (round1 w) n r
def sum8 (t : Arr 8 UInt32) (n : Nat) (x : Arr 8 UInt32) : Arr 8 UInt32 := itF (fun i x => updN x i (getN x i + getN t i)) n x
def blockF (x : Arr 8 UInt32) (bs : List UInt8) : Arr 8 UInt32 :=
  let r := rounds (sched2 bs 48) 64 ⟨getN x 0, getN x 1, getN x 2, getN x 3, getN x 4, getN x 5, getN x 6, getN x 7⟩
  sum8 (arrOf [r.a, r.c, r.d, r.e, r.f, r.g, r.k, r.l]) 8 x
theorem u32len {n : Nat} (y : Arr n UInt32) : (enc y).length = n := arr_len y
theorem block_spec (p : Addr) (x : Arr 8 UInt32) (s : Sl) (bs : List UInt8) {k : Unit → H → Prop} {h : H} (hT : Tb h) (hp : Cel 187 p (enc x) h) (hp0 : p.block ≠ 0) (hb : SV 1 h s bs) (hl : bs.length = 64)
    (hne : ∀ a, s.a = some a → a.block ≠ p.block) (hk : ∀ h', Fr [p.block] h h' → Cel 187 p (enc (blockF x bs)) h' → k () h') : sha_state_block.b (some p) s k h := by
  have hT' : ∀ h', Fr [p.block] h h' → Tb h' := fun h' f => hT.fr f (by simp; omega)
  have hb' : ∀ h', Fr [p.block] h h' → SV 1 h' s bs := fun h' f => hb.fr f (by intro a ha; simp; exact hne a ha)
  have hs := Sat.init1 (e := cel 187 p (enc x)) hp (cel_loc _ _ _) (by intro b hb; simp only [cel, List.mem_singleton] at hb; subst hb; exact hp.lt)
  unfold sha_state_block.b
  refine hs.box_ (fun w h1 hs1 hw hx => ?_)
  unfold sha_state_block.l1
  refine ⟨fun i h' => 0 ≤ i ∧ i ≤ 16 ∧ Sat h [p.block] h' [cel 215 w (enc (sched1 bs i.toNat)), cel 187 p (enc x)], fun i _ => (16 - i).toNat, ⟨by omega, by omega, hs1⟩, ?_⟩
  clear hs hs1 hx hw h1
  rintro i h2 ⟨h0, h16, hs2⟩
  refine ifb_i (fun hc => ?_) (fun hc => ?_)
  · have hi : i < 16 := by simpa using hc
    have e4 : imul 4 i = 4 * i := imul_eq (by omega) (by omega)
    have hsl : (s.len : Int) = 64 := by have := (hb).2.1; omega
    rw [e4]
    refine ⟨⟨by omega, by omega⟩, ?_⟩
    have hcut := (hb' _ hs2.fr).cut len_u8 (lo := (4 * i).toNat) (hi := s.len) (mx := s.cap) (by omega) (Nat.le_refl _) hb.2.2
    refine sha_word.ok _ _ _ (word_spec _ _ hcut (by simp; omega) ?_)
    refine hs2.bst 0 rfl u32len h0 (by omega) (fun h3 hs3 => ?_)
    have e5 : iadd i 1 = i + 1 := iadd_eq (by omega) (by omega)
    rw [e5]
    refine ⟨⟨by omega, by omega, ?_⟩, by dsimp only; omega⟩
    have e6 : (i + 1).toNat = i.toNat + 1 := by omega
    have e7 : sched1 bs (i + 1).toNat = updN (sched1 bs i.toNat) i.toNat (word4 (((bs.drop (4 * i).toNat).take (s.len - (4 * i).toNat)).getD 0 0) (((bs.drop (4 * i).toNat).take (s.len - (4 * i).toNat)).getD 1 0) (((bs.drop (4 * i).toNat).take (s.len - (4 * i).toNat)).getD 2 0) (((bs.drop (4 * i).toNat).take (s.len - (4 * i).toNat)).getD 3 0)) := by
      rw [e6]
      have eg : ∀ j, j < 4 → ((bs.drop (4 * i).toNat).take (s.len - (4 * i).toNat)).getD j 0 = bs.getD (4 * i.toNat + j) 0 := by
        intro j hj
        simp only [List.getD_eq_getElem?_getD, List.getElem?_take, List.getElem?_drop]
        rw [if_pos (by omega), show (4 * i).toNat + j = 4 * i.toNat + j by omega]
      rw [eg 0 (by omega), eg 1 (by omega), eg 2 (by omega), eg 3 (by omega)]
      rfl
    rw [e7]
    exact hs3
  · have hi : i = 16 := by have : ¬ i < 16 := by simpa using hc
                           omega
    subst hi
    clear hc
    unfold sha_state_block.j1 sha_state_block.l2
    refine ⟨fun i h' => 16 ≤ i ∧ i ≤ 64 ∧ Sat h [p.block] h' [cel 215 w (enc (sched2 bs (i - 16).toNat)), cel 187 p (enc x)], fun i _ => (64 - i).toNat, ⟨by omega, by omega, hs2⟩, ?_⟩
    clear hs2 h2 h0 h16
    rintro i h2 ⟨h0, h16, hs2⟩
    refine ifb_i (fun hc => ?_) (fun hc => ?_)
    · have hi : i < 64 := by simpa using hc
      have e15 : isub i 15 = i - 15 := isub_eq (by omega) (by omega)
      have e2 : isub i 2 = i - 2 := isub_eq (by omega) (by omega)
      have e16 : isub i 16 = i - 16 := isub_eq (by omega) (by omega)
      have e7 : isub i 7 = i - 7 := isub_eq (by omega) (by omega)
      have e1 : iadd i 1 = i + 1 := iadd_eq (by omega) (by omega)
      rw [e15, e2, e16, e7, e1]
      refine hs2.bld 0 rfl (by omega) (by omega) ?_
      refine hs2.bld 0 rfl (by omega) (by omega) ?_
      refine math_bits_RotateLeft32.ok _ _ _ _ (rot_spec _ _ ?_)
      refine math_bits_RotateLeft32.ok _ _ _ _ (rot_spec _ _ ?_)
      refine math_bits_RotateLeft32.ok _ _ _ _ (rot_spec _ _ ?_)
      refine math_bits_RotateLeft32.ok _ _ _ _ (rot_spec _ _ ?_)
      refine hs2.bld 0 rfl (by omega) (by omega) ?_
      refine hs2.bld 0 rfl (by omega) (by omega) ?_
      refine hs2.bst 0 rfl u32len (by omega) (by omega) (fun h3 hs3 => ?_)
      refine ⟨⟨by omega, by omega, ?_⟩, by dsimp only; omega⟩
      have e8 : sched2 bs (i + 1 - 16).toNat = updN (sched2 bs (i - 16).toNat) i.toNat (schedW (sched2 bs (i - 16).toNat) i.toNat) := by
        rw [show (i + 1 - 16).toNat = (i - 16).toNat + 1 by omega]
        show updN (sched2 bs (i - 16).toNat) ((i - 16).toNat + 16) (schedW (sched2 bs (i - 16).toNat) ((i - 16).toNat + 16)) = _
        rw [show (i - 16).toNat + 16 = i.toNat by omega]
      rw [e8]
      simp only [schedW, show i.toNat - 15 = (i - 15).toNat by omega, show i.toNat - 2 = (i - 2).toNat by omega, show i.toNat - 16 = (i - 16).toNat by omega, show i.toNat - 7 = (i - 7).toNat by omega]
      exact hs3
    · have hi : i = 64 := by have : ¬ i < 64 := by simpa using hc
                             omega
      subst hi
      clear hc
      unfold sha_state_block.j2
      refine nn_i ?_
      refine hs2.bld 1 rfl (by omega) (by omega) ?_
      refine hs2.bld 1 rfl (by omega) (by omega) ?_
      refine hs2.bld 1 rfl (by omega) (by omega) ?_
      refine hs2.bld 1 rfl (by omega) (by omega) ?_
      refine hs2.bld 1 rfl (by omega) (by omega) ?_
      refine hs2.bld 1 rfl (by omega) (by omega) ?_
      refine hs2.bld 1 rfl (by omega) (by omega) ?_
      refine hs2.bld 1 rfl (by omega) (by omega) ?_
      refine hs2.ld_ 0 rfl ?_
      unfold sha_state_block.l3
      refine ⟨fun (st : UInt32 × UInt32 × UInt32 × UInt32 × UInt32 × UInt32 × UInt32 × UInt32 × Int) h' => ∃ i : Int, ∃ r : R8, st = (r.a, r.c, r.d, r.e, r.f, r.g, r.k, r.l, i) ∧ r = rounds (sched2 bs 48) i.toNat ⟨getN x 0, getN x 1, getN x 2, getN x 3, getN x 4, getN x 5, getN x 6, getN x 7⟩ ∧ 0 ≤ i ∧ i ≤ 64 ∧ Sat h [p.block] h' [cel 215 w (enc (sched2 bs 48)), cel 187 p (enc x)],
        fun st _ => (64 - st.2.2.2.2.2.2.2.2).toNat, ⟨0, _, rfl, rfl, by omega, by omega, hs2⟩, ?_⟩
      clear hs2 h2 h0 h16
      rintro _ h2 ⟨i, r, rfl, hr, h0, h64, hs2⟩
      refine ifb_i (fun hc => ?_) (fun hc => ?_)
      · have hi : i < 64 := by simpa using hc
        refine bnd_N (by omega) (by omega) (fun f0 hf0 => ?_)
        refine math_bits_RotateLeft32.ok _ _ _ _ (rot_spec _ _ ?_)
        refine math_bits_RotateLeft32.ok _ _ _ _ (rot_spec _ _ ?_)
        refine math_bits_RotateLeft32.ok _ _ _ _ (rot_spec _ _ ?_)
        refine old_bld (hT' _ hs2.fr) (by omega) (by omega) ?_
        refine math_bits_RotateLeft32.ok _ _ _ _ (rot_spec _ _ ?_)
        refine math_bits_RotateLeft32.ok _ _ _ _ (rot_spec _ _ ?_)
        refine math_bits_RotateLeft32.ok _ _ _ _ (rot_spec _ _ ?_)
        have e1 : iadd i 1 = i + 1 := iadd_eq (by omega) (by omega)
        rw [e1]
        refine ⟨⟨i + 1, round1 (sched2 bs 48) i.toNat r, ?_, ?_, by omega, by omega, hs2⟩, by show (64 - (i + 1)).toNat < (64 - i).toNat; omega⟩
        · have e9 : sched2 bs (64 - 16 : Int).toNat f0 = getN (sched2 bs 48) i.toNat := getN_fin (sched2 bs 48) f0 _ hf0
          rw [e9]; rfl
        · rw [show (i + 1).toNat = i.toNat + 1 by omega, hr]; rfl
      · have hi : i = 64 := by have : ¬ i < 64 := by simpa using hc
                               omega
        subst hi
        clear hc
        unfold sha_state_block.j3 sha_state_block.l4
        refine ⟨fun i h' => 0 ≤ i ∧ i ≤ 8 ∧ Sat h [p.block] h' [cel 215 w (enc (sched2 bs 48)), cel 187 p (enc (sum8 (arrOf [r.a, r.c, r.d, r.e, r.f, r.g, r.k, r.l]) i.toNat x))], fun i _ => (8 - i).toNat, ⟨by omega, by omega, hs2⟩, ?_⟩
        clear hs2 h2 h0 h64
        rintro i h2 ⟨h0, h8, hs2⟩
        refine ifb_i (fun hc => ?_) (fun hc => ?_)
        · have hi : i < 8 := by simpa using hc
          refine bnd_N (by omega) (by omega) (fun f0 hf0 => ?_)
          refine nn_i ?_
          refine hs2.bld 1 rfl (by omega) (by omega) ?_
          refine hs2.bst 1 rfl u32len (by omega) (by omega) (fun h3 hs3 => ?_)
          have e1 : iadd i 1 = i + 1 := iadd_eq (by omega) (by omega)
          rw [e1]
          refine ⟨⟨by omega, by omega, ?_⟩, by dsimp only; omega⟩
          rw [show (i + 1).toNat = i.toNat + 1 by omega]
          rw [getN_fin (arrOf [r.a, r.c, r.d, r.e, r.f, r.g, r.k, r.l] : Arr 8 UInt32) f0 _ hf0] at hs3
          exact hs3
        · have hi : i = 8 := by have : ¬ i < 8 := by simpa using hc
                                omega
          subst hi
          refine hk _ hs2.fr ?_
          have := hs2.at_ (i := 1) rfl
          subst hr
          exact this
end Go.Proofs.YtimmoekliphobaaDoor

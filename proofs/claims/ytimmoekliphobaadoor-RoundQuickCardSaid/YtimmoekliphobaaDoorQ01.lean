/-
  THE CARD OF wapentakelaw19.RoundQuick: for every input that the row lets in, RoundQuick returns true and its arguments read as they did. Part 1 of 14. No condition stands ahead of the statement. Parts of this text were printed by a program of ours.
-/
import Derived.Orders
import Derived.WalkKit
import Derived.Stop.BytesEq
import Derived.KernelRfl
import Derived.Laws.Append
import Derived.Laws.StructEq
import Derived.Maps.RangeRun
set_option linter.all false
set_option maxRecDepth 100000
set_option maxHeartbeats 4000000
namespace Go.Sh
open Go
abbrev H := Array Obj
abbrev Env := Nat → Value
def up (ρ : Env) (d : Nat) (v : Value) : Env := fun i => bif Nat.beq i d then v else ρ i
def upo (ρ : Env) : Option Nat → Value → Env
  | none, _ => ρ
  | some d, v => up ρ d v
def setl (ρ : Env) : List (Nat × Value) → Env
  | [] => ρ
  | (d, v) :: r => setl (up ρ d v) r
def ev (ρ : Env) : Operand → Value
  | .tmp t => ρ t
  | .const v => v
  | .global g => .pointer (some ⟨g, 0, none⟩)
  | .func f => .func (.func f) #[] #[]
structure Ctx where
  P : Program
  w0 : World
  n : Nat
structure St (C : Ctx) (ρ : Env) (h : H) (a : Act) (w : World) : Prop where
  env : ∀ t, a.tmps.getD t undef = ρ t
  size : a.tmps.size = C.n
  defers : a.defers = []
  heap : w.heap = h
  tape : w.tape = C.w0.tape
  os : w.os = C.w0.os
  output : w.output = C.w0.output
section
variable {C : Ctx} {ρ : Env} {h : H} {a : Act} {w : World}
theorem St.eval (s : St C ρ h a w) (x : Operand) : a.eval x = ev ρ x := by
  cases x <;> simp only [Act.eval, ev]
  exact s.env _
theorem St.evals (s : St C ρ h a w) : a.eval = ev ρ := funext s.eval
def okd (n : Nat) : Option Nat → Bool
  | none => true
  | some d => Nat.blt d n
theorem St.put (s : St C ρ h a w) {dst : Option Nat} (hd : okd C.n dst = true) (v : Value) : St C (upo ρ dst v) h (a.put dst v) w := by
  cases dst with
  | none => exact s
  | some d =>
    have hlt : d < C.n := by simpa [okd, Nat.blt_eq] using hd
    refine ⟨fun t => ?_, by simpa [Act.put] using s.size, by simpa [Act.put] using s.defers, s.heap, s.tape, s.os, s.output⟩
    have hs := s.size
    by_cases e : t = d
    · subst e
      have : t < a.tmps.size := by omega
      simp [Act.put, upo, up, this]
    · have hb : Nat.beq t d = false := by
        rw [Bool.eq_false_iff]; intro hb; exact e (Nat.eq_of_beq_eq_true hb)
      have := s.env t
      simp only [Array.getD_eq_getD_getElem?] at this ⊢
      simp only [Act.put, upo, up, hb, cond_false]
      rw [Array.getElem?_setIfInBounds_ne (by omega)]
      exact this
theorem St.world (s : St C ρ h a w) {w' : World} (ht : w'.tape = w.tape) (ho : w'.os = w.os) (hu : w'.output = w.output) : St C ρ w'.heap a w' :=
  ⟨s.env, s.size, s.defers, rfl, ht.trans s.tape, ho.trans s.os, hu.trans s.output⟩
theorem St.drew (s : St C ρ h a w) : St C ρ h a { w with drawn := w.drawn + 1 } := ⟨s.env, s.size, s.defers, s.heap, s.tape, s.os, s.output⟩
end
/-- a continuation over environments and heaps, as one over acts and worlds -/
def JA (C : Ctx) (J : Env → H → Prop) (a : Act) (w : World) : Prop := ∃ ρ h, St C ρ h a w ∧ J ρ h
theorem JA.mono {C : Ctx} {J J' : Env → H → Prop} (hj : ∀ ρ h, J ρ h → J' ρ h) {a : Act} {w : World} : JA C J a w → JA C J' a w :=
  fun ⟨ρ, h, s, j⟩ => ⟨ρ, h, s, hj _ _ j⟩
def QN (C : Ctx) (Q : Exit → Act → World → Prop) (e : Exit) (ρ : Env) (h : H) : Prop := ∀ a w, St C ρ h a w → Q e a w
def CW (C : Ctx) (c : Code) (Q : Exit → Act → World → Prop) (ρ : Env) (h : H) : Prop := ∀ a w, St C ρ h a w → c.wp C.P Q a w
/-- one operation -/
def OpW (C : Ctx) (ops : Array Oper) (Q : Exit → Act → World → Prop) (o : Oper) (J : Env → H → Prop) (ρ : Env) (h : H) : Prop :=
  ∀ a w, St C ρ h a w → if Region.wanted o (yielded ops a.tmps) = true then o.wp C.P a w (JA C J) Q else JA C J (a.put o.dst undef) w
/-- an operation that only computes or reads -/
def OpVal (C : Ctx) (o : Op) (ty : TypeId) (ρ : Env) (h : H) (v : Value) : Prop :=
  ∀ (w : World), w.heap = h → ∀ (pos : String) (after : Array Edge) (g : Option (Nat × Bool)) (d : Option Tmp), (execOp (ev ρ) ⟨d, o, ty, pos, after, g⟩).run C.P w = .ok (.value v) w
def wpK (P : Program) (ops : Array Oper) (Q : Exit → Act → World → Prop) (K : Act → World → Prop) : List Oper → Act → World → Prop
  | [], a, w => K a w
  | o :: os, a, w => if Region.wanted o (yielded ops a.tmps) = true then o.wp P a w (wpK P ops Q K os) Q else wpK P ops Q K os (a.put o.dst undef) w
theorem wpK_mono {P : Program} {ops : Array Oper} {Q : Exit → Act → World → Prop} {K K' : Act → World → Prop} (hk : ∀ a w, K a w → K' a w) :
    ∀ (os : List Oper) (a : Act) (w : World), wpK P ops Q K os a w → wpK P ops Q K' os a w
  | [], a, w, h => hk a w h
  | o :: os, a, w, h => by
    simp only [wpK] at h ⊢
    split at h
    · rename_i hw; rw [if_pos hw]; exact Oper.wp_mono (fun a w => wpK_mono hk os a w) h
    · rename_i hw; rw [if_neg hw]; exact wpK_mono hk os _ _ h
theorem wpK_append {P : Program} {ops : Array Oper} {Q : Exit → Act → World → Prop} {K : Act → World → Prop} (os2 : List Oper) :
    ∀ (os1 : List Oper) (a : Act) (w : World), wpK P ops Q (wpK P ops Q K os2) os1 a w → wpK P ops Q K (os1 ++ os2) a w
  | [], a, w, h => h
  | o :: os, a, w, h => by
    simp only [wpK, List.cons_append] at h ⊢
    split at h
    · rename_i hw; rw [if_pos hw]; exact Oper.wp_mono (fun a w => wpK_append os2 os a w) h
    · rename_i hw; rw [if_neg hw]; exact wpK_append os2 os _ _ h
theorem wpK_ops {P : Program} {ops : Array Oper} {Q : Exit → Act → World → Prop} :
    ∀ (m k : Nat) (a : Act) (w : World), k + m = ops.size → wpK P ops Q (Q .normal) (ops.toList.drop k) a w → wpOps P ops Q (List.range' k m) a w
  | 0, k, a, w, hk, h => by
    rw [List.drop_of_length_le (by simp; omega)] at h
    exact h
  | m + 1, k, a, w, hk, h => by
    have hlt : k < ops.size := by omega
    have hget : ops[k]? = some ops[k] := Array.getElem?_eq_getElem hlt
    have hd : ops.toList.drop k = ops[k] :: ops.toList.drop (k + 1) := by
      rw [List.drop_eq_getElem_cons (by simpa using hlt)]; rfl
    rw [hd] at h
    simp only [wpK] at h
    simp only [List.range'_succ, wpOps, hget]
    split at h
    · rename_i hw
      rw [if_pos hw]
      exact .inl (Oper.wp_mono (fun a w => wpK_ops m (k + 1) a w (by omega)) h)
    · rename_i hw
      rw [if_neg hw]
      exact wpK_ops m (k + 1) _ _ (by omega) h
/-- the rest of a region, in the text's order -/
def RLK (C : Ctx) (ops : Array Oper) (Q : Exit → Act → World → Prop) (J : Env → H → Prop) (os : List Oper) (ρ : Env) (h : H) : Prop :=
  ∀ a w, St C ρ h a w → wpK C.P ops Q (JA C J) os a w
section
variable {C : Ctx} {ops : Array Oper} {Q : Exit → Act → World → Prop} {J : Env → H → Prop} {ρ : Env} {h : H} {o : Oper} {os : List Oper}
theorem RLK.nil (hj : J ρ h) : RLK C ops Q J [] ρ h := fun _ _ s => ⟨ρ, h, s, hj⟩
theorem RLK.s (hh : OpW C ops Q o (RLK C ops Q J os) ρ h) : RLK C ops Q J (o :: os) ρ h := by
  intro a w s
  have := hh a w s
  simp only [wpK]
  split at this
  · rename_i hw
    rw [if_pos hw]
    exact Oper.wp_mono (fun a w ⟨ρ, h, s, r⟩ => r a w s) this
  · rename_i hw
    rw [if_neg hw]
    obtain ⟨ρ', h', s', r⟩ := this
    exact r _ _ s'
/-- a cut inside a region: the first m operations come to J', from where the others go on -/
theorem RLK.cut (m : Nat) (J' : Env → H → Prop) (h1 : RLK C ops Q J' (os.take m) ρ h) (h2 : ∀ ρ h, J' ρ h → RLK C ops Q J (os.drop m) ρ h) : RLK C ops Q J os ρ h := by
  intro a w s
  rw [← List.take_append_drop m os]
  refine wpK_append _ _ _ _ (wpK_mono ?_ _ _ _ (h1 a w s))
  rintro a w ⟨ρ', h', s', j⟩
  exact h2 _ _ j a w s'
theorem CW.region {id : Nat} (hh : RLK C ops Q (QN C Q .normal) ops.toList ρ h) : CW C (.region id ops false) Q ρ h := by
  intro a w s
  refine wp_region ?_
  have := wpK_ops (P := C.P) (ops := ops) (Q := Q) ops.size 0 a w (by omega) (by
    rw [List.drop_zero]
    exact wpK_mono (fun a w ⟨ρ, h, s, q⟩ => q a w s) _ _ _ (hh a w s))
  rwa [← List.range_eq_range'] at this
theorem CW.skip (hq : QN C Q .normal ρ h) : CW C .skip Q ρ h := fun a w s => wp_skip (hq a w s)
theorem CW.ret (hq : QN C Q .ret ρ h) : CW C .ret Q ρ h := fun a w s => wp_ret (hq a w s)
theorem CW.exit {id : Nat} (hq : QN C Q (.exit id) ρ h) : CW C (.exit id) Q ρ h := fun a w s => wp_exit (hq a w s)
theorem CW.seq {x y : Code} (hh : CW C x (Exit.then (y.wp C.P Q) Q) ρ h) : CW C (.seq x y) Q ρ h := fun a w s => wp_seq (hh a w s)
theorem CW.block {id : Nat} {c : Code} (hh : CW C c (Exit.inBlock id Q) ρ h) : CW C (.block id c) Q ρ h := fun a w s => wp_block (hh a w s)
theorem CW.cond {c : Operand} {x y : Code} (b : Bool) (hc : ev ρ c = .bool b) (ht : b = true → CW C x Q ρ h) (hf : b = false → CW C y Q ρ h) : CW C (.cond c x y) Q ρ h :=
  fun a w s => wp_cond_split (t := b) ((s.eval c).trans hc) (fun e => ht e a w s) (fun e => hf e a w s)
/-- where ways meet: what stands behind a sequence's first half is proved once, from an assertion -/
theorem CW.join {x y : Code} (J : Env → H → Prop) (h1 : CW C x (Exit.then (JA C J) Q) ρ h) (h2 : ∀ ρ h, J ρ h → CW C y Q ρ h) : CW C (.seq x y) Q ρ h :=
  fun a w s => wp_seq (wp_mono (h1 a w s) fun e a w hq => by
    cases e <;> first | exact hq | (obtain ⟨ρ', h', s', j⟩ := hq; exact h2 _ _ j a w s'))
theorem QN.then_ {y : Code} (hh : CW C y Q ρ h) : QN C (Exit.then (y.wp C.P Q) Q) .normal ρ h := hh
theorem QN.thenJ {J : Env → H → Prop} (hh : J ρ h) : QN C (Exit.then (JA C J) Q) .normal ρ h := fun _ _ s => ⟨ρ, h, s, hh⟩
theorem QN.thenRet {K : Act → World → Prop} (hh : QN C Q .ret ρ h) : QN C (Exit.then K Q) .ret ρ h := hh
theorem QN.thenExit {K : Act → World → Prop} {id : Nat} (hh : QN C Q (.exit id) ρ h) : QN C (Exit.then K Q) (.exit id) ρ h := hh
theorem QN.blockN {id : Nat} (hh : QN C Q .normal ρ h) : QN C (Exit.inBlock id Q) .normal ρ h := hh
theorem QN.blockRet {id : Nat} (hh : QN C Q .ret ρ h) : QN C (Exit.inBlock id Q) .ret ρ h := hh
theorem QN.blockExit {id : Nat} (hh : QN C Q .normal ρ h) : QN C (Exit.inBlock id Q) (.exit id) ρ h := fun a w s => by
  simp only [Exit.inBlock, if_true]; exact hh a w s
end
/-- a loop over states σ: some relation holds at the start, is kept by each round, and a measure falls -/
def Lp {σ : Type} (F : (σ → H → Prop) → σ → H → Prop) (s : σ) (h : H) : Prop :=
  ∃ (I : σ → H → Prop) (μ : σ → H → Nat), I s h ∧ ∀ s h, I s h → F (fun s' h' => I s' h' ∧ μ s' h' < μ s h) s h
theorem CW.loop {C : Ctx} {Q : Exit → Act → World → Prop} {ρ : Env} {h : H} {c : Code} {σ : Type} {F : (σ → H → Prop) → σ → H → Prop} {s : σ} (E : σ → Env → Prop)
    (hl : Lp F s h) (he : E s ρ)
    (body : ∀ (K : σ → H → Prop) (s : σ) (ρ : Env) (h : H), E s ρ → F K s h → CW C c (Exit.then (JA C fun ρ' h' => ∃ s', E s' ρ' ∧ K s' h') Q) ρ h) : CW C (.loop c) Q ρ h := by
  obtain ⟨I, μ, hi, hr⟩ := hl
  intro a w st
  have key : ∀ (m : Nat) (s : σ) (ρ : Env) (h : H), μ s h ≤ m → I s h → E s ρ → ∀ a w, St C ρ h a w →
      ∀ (b : Frame) (k : List Item) (cs : List Frame), ∃ e a' w', Q e a' w' ∧ Arrives C.P (lone (b.at a (.code c :: .inLoop c :: k)) cs w) b k cs e a' w' := by
    intro m
    induction m with
    | zero =>
      intro s ρ h hm hI hE a w st b k cs
      obtain ⟨e, a₁, w₁, hq, harr⟩ := body _ s ρ h hE (hr s h hI) a w st b (.inLoop c :: k) cs
      cases e with
      | normal => obtain ⟨ρ', h', s', s'', hE', hI', hlt⟩ := hq; omega
      | exit id => exact ⟨_, a₁, w₁, hq, .pass (x := .inLoop c) rfl (fun _ _ => .inl (by simp)) harr⟩
      | goto l => exact ⟨_, a₁, w₁, hq, .pass (x := .inLoop c) rfl (fun _ _ => .inl (by simp)) harr⟩
      | ret => exact ⟨_, a₁, w₁, hq, .pass (x := .inLoop c) rfl (fun _ _ => .inl (by simp)) harr⟩
      | panic ch => exact ⟨_, a₁, w₁, hq, .pass (x := .inLoop c) rfl (fun _ _ => .inl (by simp)) harr⟩
      | outgrown => exact ⟨_, a₁, w₁, hq, .pass (x := .inLoop c) rfl (fun _ _ => .inl (by simp)) harr⟩
    | succ m ih =>
      intro s ρ h hm hI hE a w st b k cs
      obtain ⟨e, a₁, w₁, hq, harr⟩ := body _ s ρ h hE (hr s h hI) a w st b (.inLoop c :: k) cs
      cases e with
      | normal =>
        obtain ⟨ρ', h', st', s'', hE', hI', hlt⟩ := hq
        obtain ⟨e₂, a₂, w₂, hq₂, harr₂⟩ := ih s'' ρ' h' (by omega) hI' hE' a₁ w₁ st' b k cs
        exact ⟨e₂, a₂, w₂, hq₂, .of_steps (Steps.trans harr (.one step_inLoop)) harr₂⟩
      | exit id => exact ⟨_, a₁, w₁, hq, .pass (x := .inLoop c) rfl (fun _ _ => .inl (by simp)) harr⟩
      | goto l => exact ⟨_, a₁, w₁, hq, .pass (x := .inLoop c) rfl (fun _ _ => .inl (by simp)) harr⟩
      | ret => exact ⟨_, a₁, w₁, hq, .pass (x := .inLoop c) rfl (fun _ _ => .inl (by simp)) harr⟩
      | panic ch => exact ⟨_, a₁, w₁, hq, .pass (x := .inLoop c) rfl (fun _ _ => .inl (by simp)) harr⟩
      | outgrown => exact ⟨_, a₁, w₁, hq, .pass (x := .inLoop c) rfl (fun _ _ => .inl (by simp)) harr⟩
  intro b k cs
  obtain ⟨e, a', w', hq, harr⟩ := key _ s ρ h (Nat.le_refl _) hi he a w st b k cs
  exact ⟨e, a', w', hq, .of_steps (.one step_loop) harr⟩
end Go.Sh
namespace Go.Sh
open Go
/-- op i must come ahead of op j, by the edges that bind -/
def reachB (ops : Array Oper) : Nat → Nat → Nat → Bool
  | 0, _, _ => false
  | f + 1, i, j => match ops[j]? with
    | none => false
    | some o => o.after.any fun e => Region.binds .any e && (e.on == i || reachB ops f i e.on)
def Closed (ops : Array Oper) (listed : Array Bool) : Prop :=
  listed.size = ops.size ∧ ∀ j o, ops[j]? = some o → listed.getD j false = true → ∀ e ∈ o.after, Region.binds .any e = true → listed.getD e.on false = true
theorem reach_false {ops : Array Oper} {listed : Array Bool} (hc : Closed ops listed) {i : Nat} (hi : listed.getD i false = false) :
    ∀ (f j : Nat), (∀ o, ops[j]? = some o → ∀ e ∈ o.after, Region.binds .any e = true → listed.getD e.on false = true) → reachB ops f i j = false := by
  intro f
  induction f with
  | zero => intro j _; rfl
  | succ f ih =>
    intro j hj
    unfold reachB
    cases ho : ops[j]? with
    | none => rfl
    | some o =>
      simp only []
      rw [Array.any_eq_false']
      intro e he
      by_cases hb : Region.binds .any e = true
      · have hl := hj o ho e he hb
        have hne : (e.on == i) = false := by
          rw [beq_eq_false_iff_ne]; intro heq; rw [heq, hi] at hl; cases hl
        have := ih e.on (fun o' ho' => hc.2 _ o' ho' hl)
        simp [hne, this]
      · simp [hb]
section
variable {P : Program} {ops : Array Oper} {Q : Exit → Act → World → Prop}
/-- all orders; an op that is told quiet (R) leaves the world, another op j leaves one of which T j holds -/
def wpAnyT (P : Program) (ops : Array Oper) (Q : Exit → Act → World → Prop) (R : List Nat) (T : Nat → World → Prop) : Nat → Array Bool → Act → World → Prop
  | 0, listed, a, w => Region.ready .any ops listed = [] ∧ Q .normal a w
  | f + 1, listed, a, w =>
    (Region.ready .any ops listed = [] → Q .normal a w) ∧
    ∀ i ∈ Region.ready .any ops listed, wpOp P ops Q i (fun a' w' => (if R.contains i = true then w' = w else T i w') ∧ wpAnyT P ops Q R T f (listed.setIfInBounds i true) a' w') a w
theorem wpAnyT_mono {R : List Nat} {T T' : Nat → World → Prop} (hT : ∀ i w, T i w → T' i w) :
    ∀ (f : Nat) (listed : Array Bool) (a : Act) (w : World), wpAnyT P ops Q R T f listed a w → wpAnyT P ops Q R T' f listed a w
  | 0, _, _, _, h => h
  | f + 1, listed, a, w, h => ⟨h.1, fun i hi => wpOp_mono (fun a' w' ⟨h1, h2⟩ => ⟨by split at h1 <;> rename_i hc <;> first | (rw [if_pos hc]; exact h1) | (rw [if_neg hc]; exact hT _ _ h1), wpAnyT_mono hT f _ _ _ h2⟩) (h.2 i hi)⟩
theorem wpAny_of_T {R : List Nat} {T : Nat → World → Prop} :
    ∀ (f : Nat) (listed : Array Bool) (a : Act) (w : World), wpAnyT P ops Q R T f listed a w → wpAny P .any ops Q f listed a w
  | 0, _, _, _, h => h
  | f + 1, listed, a, w, h => ⟨h.1, fun i hi => wpOp_mono (fun a' w' h => wpAny_of_T f _ _ _ h.2) (h.2 i hi)⟩
def YieldsS (P : Program) (ops : Array Oper) (o : Oper) (v : Value) (S : World → Prop) (a : Act) : Prop :=
  (Region.wanted o (yielded ops a.tmps) = true ∧ ∀ w, S w → (execOp a.eval o).run P w = .ok (.value v) w) ∨
  (Region.wanted o (yielded ops a.tmps) = false ∧ v = undef)
theorem YieldsS.wpOp {i : Nat} {o : Oper} {v : Value} {a : Act} {S : World → Prop} (hi : ops[i]? = some o) (hy : YieldsS P ops o v S a)
    {K : Act → World → Prop} {w : World} (hs : S w) (h : K (a.put o.dst v) w) : wpOp P ops Q i K a w := by
  unfold Go.wpOp
  simp only [hi]
  rcases hy with ⟨hw, hv⟩ | ⟨hw, rfl⟩
  · simp only [hw, if_true, Oper.wp, hv w hs, Oper.upon]; exact .inl h
  · simp only [hw, Bool.false_eq_true, if_false]; exact h
theorem YieldsS.of_same {o : Oper} {v : Value} {a a' : Act} {S : World → Prop} (hy : YieldsS P ops o v S a) (he : execOp a'.eval o = execOp a.eval o)
    (hw : Region.wanted o (yielded ops a'.tmps) = Region.wanted o (yielded ops a.tmps)) : YieldsS P ops o v S a' := by
  unfold YieldsS at *
  rw [he, hw]
  exact hy
theorem wpOp_putS {j : Nat} {oi oj : Oper} {v : Value} {S : World → Prop} (hj : ops[j]? = some oj) (hap : oi.apart ops oj = true)
    (hsi : ∀ cs b, oi.op ≠ .select cs b) (hsj : ∀ cs b, oj.op ≠ .select cs b)
    (hQ : ∀ c a w, Q (.panic c) (a.put oi.dst v) w → Q (.panic c) a w) {K : Act → World → Prop} {a : Act} {w : World}
    (hy : YieldsS P ops oi v S a) (h : wpOp P ops Q j K (a.put oi.dst v) w) :
    wpOp P ops Q j (fun a' w' => YieldsS P ops oi v S a' ∧ K (a'.put oi.dst v) w') a w := by
  obtain ⟨h1, h2, h3⟩ := Oper.apart_spec hap
  have keep : ∀ (a : Act), YieldsS P ops oi v S a → ∀ u, YieldsS P ops oi v S (a.put oj.dst u) := fun a hy u =>
    hy.of_same (execOp_put oi hsi a oj.dst u h3) (wanted_put oi a oj.dst u h3)
  have keepD : ∀ d, YieldsS P ops oi v S { a with defers := d :: a.defers } := fun d => hy.of_same rfl rfl
  unfold wpOp at *
  simp only [hj] at *
  rw [wanted_put oj a oi.dst v h1] at h
  split
  · rename_i hw
    simp only [hw, if_true] at h
    rcases h with h | ⟨hasks, hlets⟩
    case inr => exact .inr ⟨by unfold Oper.asks at *; rw [execOp_put oj hsj a oi.dst v h1] at hasks; exact hasks, hlets⟩
    refine .inl ?_
    unfold Oper.wp at *
    rw [execOp_put oj hsj a oi.dst v h1] at h
    generalize (execOp a.eval oj).run P w = r at *
    cases r with
    | ok n w' =>
      cases n <;> simp only [Oper.upon] at h ⊢
      case value u => exact ⟨keep a hy u, by rw [← Act.put_comm a v u h2]; exact h⟩
      case skip => exact ⟨keep a hy _, by rw [← Act.put_comm a v undef h2]; exact h⟩
      case defer d =>
        refine ⟨keep _ (keepD d) _, ?_⟩
        rw [← Act.put_comm _ v undef h2, ← Act.put_defers]
        exact h
      case enter f args =>
        refine Calls.mono h fun e w'' he => ?_
        cases e with
        | returned u => exact ⟨keep a hy u, by rw [← Act.put_comm a v u h2]; exact he⟩
        | panicked c => exact hQ _ _ _ he
        | outgrown => exact he
      case row row args => exact Rows.mono h fun u w'' he => ⟨keep a hy u, by rw [← Act.put_comm a v u h2]; exact he⟩
    | halt x w' =>
      cases x <;> simp only [Oper.upon] at h ⊢
      case panic u => exact hQ _ _ _ h
  · rename_i hw
    simp only [hw] at h
    exact ⟨keep a hy _, by rw [← Act.put_comm a v undef h2]; exact h⟩
theorem Closed.set {listed : Array Bool} (hc : Closed ops listed) {j : Nat} (hj : j ∈ Region.ready .any ops listed) : Closed ops (listed.setIfInBounds j true) := by
  refine ⟨by simpa using hc.1, fun k o ho hk e he hb => ?_⟩
  by_cases hjk : j = k
  · subst hjk
    obtain ⟨_, o', ho', hall⟩ := mem_ready.1 hj
    rw [ho] at ho'
    obtain rfl := Option.some.inj ho'
    exact getD_set_true (hall e he hb)
  · rw [getD_set_ne false hjk] at hk
    exact getD_set_true (hc.2 k o ho hk e he hb)
theorem wpAnyT_first {R : List Nat} {i : Nat} {oi : Oper} {v : Value} {S : World → Prop} (hi : ops[i]? = some oi) (hR : R.contains i = true) (m : Nat)
    (hsel : ∀ (j : Nat) (o : Oper) cs b, ops[j]? = some o → o.op ≠ .select cs b)
    (hQ : ∀ c a w, Q (.panic c) (a.put oi.dst v) w → Q (.panic c) a w) (T : Nat → World → Prop) :
    ∀ (fuel : Nat) (listed : Array Bool) (a : Act) (w : World),
      Closed ops listed →
      (∀ j oj, ops[j]? = some oj → j ≠ i → listed.getD j true = false → (∀ e ∈ oj.after, Region.binds .any e = true → e.on ≠ i) → oi.apart ops oj = true) →
      i ∈ Region.ready .any ops listed → YieldsS P ops oi v S a → S w →
      wpAnyT P ops Q R (fun j w' => T j w' ∧ (reachB ops m i j = true ∨ S w')) fuel (listed.setIfInBounds i true) (a.put oi.dst v) w → wpAnyT P ops Q R T (fuel + 1) listed a w := by
  intro fuel
  induction fuel with
  | zero =>
    intro listed a w _ _ hr hy hs H
    refine ⟨fun h => (by rw [h] at hr; cases hr), fun j hj => ?_⟩
    by_cases hji : j = i
    · subst hji; exact hy.wpOp hi hs ⟨by rw [if_pos hR], H⟩
    · have := ready_mono hj hji
      rw [H.1] at this
      cases this
  | succ fuel ih =>
    intro listed a w hc hfree hr hy hs H
    refine ⟨fun h => (by rw [h] at hr; cases hr), fun j hj => ?_⟩
    by_cases hji : j = i
    · subst hji; exact hy.wpOp hi hs ⟨by rw [if_pos hR], wpAnyT_mono (fun _ _ h => h.1) _ _ _ _ H⟩
    · have h1 := H.2 j (ready_mono hj hji)
      obtain ⟨hjun, oj, hoj, hall⟩ := mem_ready.1 hj
      have hiun : listed.getD i false = false := by
        have h0 := (mem_ready.1 hr).1
        rcases Nat.lt_or_ge i listed.size with h' | h'
        · simpa [h'] using h0
        · simp [Array.getElem?_eq_none h']
      have hnot : ∀ e ∈ oj.after, Region.binds .any e = true → e.on ≠ i := fun e he hb heq => by
        have h1 := hall e he hb
        rw [heq, hiun] at h1; cases h1
      have hreach : reachB ops m i j = false := reach_false hc hiun m j (fun o ho e he hb => by
        rw [hoj] at ho; obtain rfl := Option.some.inj ho; exact hall e he hb)
      have h2 := wpOp_putS hoj (hfree j oj hoj hji hjun hnot) (fun cs b => hsel i oi cs b hi) (fun cs b => hsel j oj cs b hoj) hQ hy h1
      have hfree' : ∀ k ok, ops[k]? = some ok → k ≠ i → (listed.setIfInBounds j true).getD k true = false →
          (∀ e ∈ ok.after, Region.binds .any e = true → e.on ≠ i) → oi.apart ops ok = true := fun k ok hk hki hun hno => by
        refine hfree k ok hk hki ?_ hno
        by_cases hjk : j = k
        · subst hjk; exact hjun
        · rw [getD_set_ne true hjk] at hun; exact hun
      refine wpOp_mono (fun a' w' h3 => ?_) h2
      obtain ⟨hy', hcond, h3⟩ := h3
      have hs' : S w' := by
        split at hcond
        · rw [hcond]; exact hs
        · exact hcond.2.resolve_left (by simp [hreach])
      refine ⟨?_, ih (listed.setIfInBounds j true) a' w' (hc.set hj) hfree' (ready_mono hr (Ne.symm hji)) hy' hs' ?_⟩
      · split at hcond
        · rename_i hcn; rw [if_pos hcn]; exact hcond
        · rename_i hcn; rw [if_neg hcn]; exact hcond.1
      · rw [Array.setIfInBounds_comm _ _ hji]
        exact h3
end
/-- a region that draws its order, from where some operations are done (listed); what is told to be quiet; what each other op must keep -/
def AW (C : Ctx) (ops : Array Oper) (Q : Exit → Act → World → Prop) (R : List Nat) (T : Nat → H → Prop) (fuel : Nat) (listed : Array Bool) (ρ : Env) (h : H) : Prop :=
  Closed ops listed → ∀ a w, St C ρ h a w → wpAnyT C.P ops Q R (fun j w => T j w.heap) fuel listed a w
section
variable {C : Ctx} {ops : Array Oper} {Q : Exit → Act → World → Prop} {J : Env → H → Prop} {ρ : Env} {h : H} {R : List Nat} {T : Nat → H → Prop} {fuel : Nat} {listed : Array Bool}
theorem CW.draw {id : Nat} (hm : C.P.follows .mixedOrders = true) (R : List Nat)
    (hh : AW C ops Q R (fun _ _ => True) ops.size (Array.replicate ops.size false) ρ h) : CW C (.region id ops true) Q ρ h := by
  intro a w s
  refine wp_region_any hm (wpAny_of_T _ _ _ _ (hh ⟨by simp, fun j o ho hj => ?_⟩ a _ s.drew))
  have : (Array.replicate ops.size false).getD j false = false := by
    rw [Array.getD_eq_getD_getElem?, Array.getElem?_replicate]; split <;> rfl
  rw [this] at hj; cases hj
def NoPanic (C : Ctx) (Q : Exit → Act → World → Prop) : Prop := ∀ c (a a' : Act) w, a'.defers = a.defers → Q (.panic c) a w → Q (.panic c) a' w
/-- an operation that only computes or reads is taken first -/
theorem AW.t (i : Nat) {o : Op} {dst : Option Tmp} {ty : TypeId} {pos : String} {after : Array Edge} (v : Value) (S : H → Prop)
    (hi : ops[i]? = some ⟨dst, o, ty, pos, after, none⟩) (hd : okd C.n dst = true) (hR : R.contains i = true) (hsel : Region.noSelect ops = true)
    (hr : (Region.ready .any ops listed).contains i = true) (hf : Region.free .any ops listed i = true) (hQ : NoPanic C Q)
    (hs : S h) (hy : ∀ h', S h' → OpVal C o ty ρ h' v)
    (hh : AW C ops Q R (fun j h' => T j h' ∧ (reachB ops ops.size i j = true ∨ S h')) fuel (listed.setIfInBounds i true) (upo ρ dst v) h) :
    AW C ops Q R T (fuel + 1) listed ρ h := by
  intro hc a w s
  have hr' : i ∈ Region.ready .any ops listed := by simpa using hr
  refine wpAnyT_first (S := fun w => S w.heap) (v := v) hi hR ops.size (Region.noSelect_spec hsel) (fun c a w hq => hQ c _ _ w (by cases dst <;> rfl) hq) _ fuel listed a w hc
    (Region.free_spec hi hf) hr' (.inl ⟨rfl, fun w' hs' => ?_⟩) (by rw [s.heap]; exact hs) (hh (hc.set hr') _ _ (s.put hd v))
  rw [s.evals]
  exact hy _ hs' w' rfl _ _ _ _
/-- an operation whose guard says no -/
theorem AW.no (i : Nat) {o : Op} {dst : Option Tmp} {ty : TypeId} {pos : String} {after : Array Edge} {g : Nat × Bool} (t : Nat)
    (hi : ops[i]? = some ⟨dst, o, ty, pos, after, some g⟩) (ht : (ops[g.1]?).bind (·.dst) = some t) (hg : ρ t = .bool (!g.2)) (htn : Nat.blt t C.n = true)
    (hd : okd C.n dst = true) (hR : R.contains i = true) (hsel : Region.noSelect ops = true)
    (hr : (Region.ready .any ops listed).contains i = true) (hf : Region.free .any ops listed i = true) (hQ : NoPanic C Q)
    (hh : AW C ops Q R T fuel (listed.setIfInBounds i true) (upo ρ dst undef) h) :
    AW C ops Q R T (fuel + 1) listed ρ h := by
  intro hc a w s
  have hr' : i ∈ Region.ready .any ops listed := by simpa using hr
  have hw : Region.wanted ⟨dst, o, ty, pos, after, some g⟩ (yielded ops a.tmps) = false := by
    obtain ⟨g1, g2⟩ := g
    have := s.env t
    have hlt : t < a.tmps.size := by rw [s.size]; simpa [Nat.blt_eq] using htn
    simp only [Array.getD_eq_getD_getElem?, Array.getElem?_eq_getElem hlt, Option.getD_some] at this
    simp only [Region.wanted, yielded, ht, Option.bind_some, Array.getElem?_eq_getElem hlt, this, hg]
    cases g2 <;> rfl
  refine wpAnyT_first (S := fun _ => True) (v := undef) hi hR ops.size (Region.noSelect_spec hsel) (fun c a w hq => hQ c _ _ w (by cases dst <;> rfl) hq) _ fuel listed a w hc
    (Region.free_spec hi hf) hr' (.inr ⟨hw, rfl⟩) trivial ?_
  exact wpAnyT_mono (fun _ _ h => ⟨h, .inr trivial⟩) _ _ _ _ (hh (hc.set hr') _ _ (s.put hd undef))
/-- the guard says yes -/
theorem AW.tg (i : Nat) {o : Op} {dst : Option Tmp} {ty : TypeId} {pos : String} {after : Array Edge} {g : Nat × Bool} (t : Nat) (v : Value) (S : H → Prop)
    (hi : ops[i]? = some ⟨dst, o, ty, pos, after, some g⟩) (ht : (ops[g.1]?).bind (·.dst) = some t) (hg : ρ t = .bool g.2) (htn : Nat.blt t C.n = true)
    (hd : okd C.n dst = true) (hR : R.contains i = true) (hsel : Region.noSelect ops = true)
    (hr : (Region.ready .any ops listed).contains i = true) (hf : Region.free .any ops listed i = true) (hQ : NoPanic C Q)
    (hs : S h) (hy : ∀ h', S h' → OpVal C o ty ρ h' v)
    (hh : AW C ops Q R (fun j h' => T j h' ∧ (reachB ops ops.size i j = true ∨ S h')) fuel (listed.setIfInBounds i true) (upo ρ dst v) h) :
    AW C ops Q R T (fuel + 1) listed ρ h := by
  intro hc a w s
  have hr' : i ∈ Region.ready .any ops listed := by simpa using hr
  have hw : Region.wanted ⟨dst, o, ty, pos, after, some g⟩ (yielded ops a.tmps) = true := by
    obtain ⟨g1, g2⟩ := g
    have := s.env t
    have hlt : t < a.tmps.size := by rw [s.size]; simpa [Nat.blt_eq] using htn
    simp only [Array.getD_eq_getD_getElem?, Array.getElem?_eq_getElem hlt, Option.getD_some] at this
    simp only [Region.wanted, yielded, ht, Option.bind_some, Array.getElem?_eq_getElem hlt, this, hg]
    cases g2 <;> rfl
  refine wpAnyT_first (S := fun w => S w.heap) (v := v) hi hR ops.size (Region.noSelect_spec hsel) (fun c a w hq => hQ c _ _ w (by cases dst <;> rfl) hq) _ fuel listed a w hc
    (Region.free_spec hi hf) hr' (.inl ⟨hw, fun w' hs' => ?_⟩) (by rw [s.heap]; exact hs) (hh (hc.set hr') _ _ (s.put hd v))
  rw [s.evals]
  exact hy _ hs' w' rfl _ _ _ _
theorem AW.step (i : Nat) {o : Oper} (hi : ops[i]? = some o) (hR : R.contains i = false) (hc : Closed ops listed) (hr : i ∈ Region.ready .any ops listed)
    (hh : OpW C ops Q o (fun ρ' h' => T i h' ∧ AW C ops Q R T fuel (listed.setIfInBounds i true) ρ' h') ρ h) {a : Act} {w : World} (s : St C ρ h a w) :
    wpOp C.P ops Q i (fun a' w' => (if R.contains i = true then w' = w else T i w'.heap) ∧ wpAnyT C.P ops Q R (fun j w => T j w.heap) fuel (listed.setIfInBounds i true) a' w') a w := by
  have h0 := hh a w s
  unfold wpOp
  simp only [hi]
  split at h0
  · rename_i hw
    rw [if_pos hw]
    refine .inl (Oper.wp_mono (fun a' w' => ?_) h0)
    rintro ⟨ρ', h', s', ht, hA⟩
    refine ⟨by rw [if_neg (by rw [hR]; exact Bool.false_ne_true), s'.heap]; exact ht, hA (hc.set hr) _ _ s'⟩
  · rename_i hw
    rw [if_neg hw]
    obtain ⟨ρ', h', s', ht, hA⟩ := h0
    refine ⟨by rw [if_neg (by rw [hR]; exact Bool.false_ne_true), s'.heap]; exact ht, hA (hc.set hr) _ _ s'⟩
/-- the one operation that is ready and is not quiet -/
theorem AW.w (i : Nat) {o : Oper} (hr : Region.ready .any ops listed = [i]) (hi : ops[i]? = some o) (hR : R.contains i = false)
    (hh : OpW C ops Q o (fun ρ' h' => T i h' ∧ AW C ops Q R T fuel (listed.setIfInBounds i true) ρ' h') ρ h) : AW C ops Q R T (fuel + 1) listed ρ h := by
  intro hc a w s
  refine ⟨fun h => (by rw [hr] at h; cases h), fun j hj => ?_⟩
  have hj' := hj
  rw [hr, List.mem_singleton] at hj'
  subst hj'
  exact AW.step j hi hR hc hj hh s
/-- two are ready -/
theorem AW.w2 (i j : Nat) {o o' : Oper} (hr : Region.ready .any ops listed = [i, j]) (hi : ops[i]? = some o) (hj : ops[j]? = some o') (hR : R.contains i = false) (hR' : R.contains j = false)
    (hh : OpW C ops Q o (fun ρ' h' => T i h' ∧ AW C ops Q R T fuel (listed.setIfInBounds i true) ρ' h') ρ h)
    (hh' : OpW C ops Q o' (fun ρ' h' => T j h' ∧ AW C ops Q R T fuel (listed.setIfInBounds j true) ρ' h') ρ h) : AW C ops Q R T (fuel + 1) listed ρ h := by
  intro hc a w s
  refine ⟨fun h => (by rw [hr] at h; cases h), fun k hk => ?_⟩
  have hk' := hk
  rw [hr, List.mem_cons, List.mem_singleton] at hk'
  rcases hk' with e | e
  · subst e; exact AW.step k hi hR hc hk hh s
  · subst e; exact AW.step k hj hR' hc hk hh' s
/-- three are ready -/
theorem AW.w3 (i j l : Nat) {o o' o'' : Oper} (hr : Region.ready .any ops listed = [i, j, l]) (hi : ops[i]? = some o) (hj : ops[j]? = some o') (hl : ops[l]? = some o'') (hR : R.contains i = false) (hR' : R.contains j = false) (hR'' : R.contains l = false)
    (hh : OpW C ops Q o (fun ρ' h' => T i h' ∧ AW C ops Q R T fuel (listed.setIfInBounds i true) ρ' h') ρ h)
    (hh' : OpW C ops Q o' (fun ρ' h' => T j h' ∧ AW C ops Q R T fuel (listed.setIfInBounds j true) ρ' h') ρ h)
    (hh'' : OpW C ops Q o'' (fun ρ' h' => T l h' ∧ AW C ops Q R T fuel (listed.setIfInBounds l true) ρ' h') ρ h) : AW C ops Q R T (fuel + 1) listed ρ h := by
  intro hc a w s
  refine ⟨fun h => (by rw [hr] at h; cases h), fun k hk => ?_⟩
  have hk' := hk
  rw [hr, List.mem_cons, List.mem_cons, List.mem_singleton] at hk'
  rcases hk' with e | e | e
  · subst e; exact AW.step k hi hR hc hk hh s
  · subst e; exact AW.step k hj hR' hc hk hh' s
  · subst e; exact AW.step k hl hR'' hc hk hh'' s
theorem AW.done (hr : Region.ready .any ops listed = []) (hq : QN C Q .normal ρ h) : AW C ops Q R T fuel listed ρ h := by
  intro _ a w s
  cases fuel with
  | zero => exact ⟨hr, hq a w s⟩
  | succ f => exact ⟨fun _ => hq a w s, fun j hj => by rw [hr] at hj; cases hj⟩
end
end Go.Sh
namespace Go.Sh
open Go
class Ty (α : Type) where
  reg : α → Value
open Go.Sh.Ty (reg)
def enc {α : Type} [Ty α] (x : α) : List Value := (reg x).cells.toList
instance : Ty Int := ⟨fun n => .int .i64 n⟩
instance : Ty Bool := ⟨fun b => .bool b⟩
instance : Ty UInt8 := ⟨fun b => .int .u8 (b.toNat : Int)⟩
instance : Ty UInt32 := ⟨fun b => .int .u32 (b.toNat : Int)⟩
instance : Ty UInt64 := ⟨fun b => .int .u64 (b.toNat : Int)⟩
instance : Ty ByteArray := ⟨fun s => .string s⟩
/-- a slice's three words -/
structure Sl where
  a : Option Addr
  len : Nat
  cap : Nat
deriving DecidableEq
instance : Ty Sl := ⟨fun s => .slice s.a s.len s.cap⟩
def Sl.nil : Sl := ⟨none, 0, 0⟩
abbrev Pt := Option Addr
instance : Ty (Option Addr) := ⟨fun p => .pointer p⟩
structure Mp where
  r : Option Nat
deriving DecidableEq
instance : Ty Mp := ⟨fun m => .map m.r⟩
structure Fl where
  b : Nat
deriving DecidableEq
instance : Ty Fl := ⟨fun m => .float .f64 m.b⟩
structure Cx where
  re : Nat
  im : Nat
deriving DecidableEq
instance : Ty Cx := ⟨fun m => .complex .f64 m.re m.im⟩
/-- a function value that is not nil -/
structure Fv where
  f : FuncId
  cap : Array Value
instance : Ty Fv := ⟨fun m => .func (.func m.f) #[] m.cap⟩
instance : Ty Unit := ⟨fun _ => .tuple #[]⟩
structure T2 (α β : Type) where
  a : α
  b : β
instance {α β : Type} [Ty α] [Ty β] : Ty (T2 α β) := ⟨fun m => .tuple #[reg m.a, reg m.b]⟩
structure T3 (α β γ : Type) where
  a : α
  b : β
  c : γ
instance {α β γ : Type} [Ty α] [Ty β] [Ty γ] : Ty (T3 α β γ) := ⟨fun m => .tuple #[reg m.a, reg m.b, reg m.c]⟩
abbrev Arr (n : Nat) (α : Type) := Fin n → α
abbrev Dig := Arr 32 UInt8
/-- arrays of values of one cell -/
instance instTyArr {n : Nat} {α : Type} [Ty α] : Ty (Arr n α) := ⟨fun x => .agg (List.ofFn fun i => reg (x i)).toArray⟩
/-- cells at an address -/
def AtH (h : H) (p : Addr) (cs : List Value) : Prop :=
  p.spot = none ∧ ∃ arr T fr, h[p.block]? = some (.cells arr T fr) ∧ ∀ i v, cs[i]? = some v → arr[p.off + i]? = some v
theorem AtH.sub {h : H} {p : Addr} {cs : List Value} (H : AtH h p cs) (off n : Nat) : AtH h (p.add off) ((cs.drop off).take n) := by
  obtain ⟨hs, arr, T, fr, hb, hc⟩ := H
  refine ⟨?_, arr, T, fr, ?_, fun i v hi => ?_⟩
  · unfold Addr.add; split <;> simp_all
  · unfold Addr.add; split <;> simp_all
  · have : cs[off + i]? = some v := by
      rw [List.getElem?_take] at hi
      split at hi
      · simpa [List.getElem?_drop] using hi
      · cases hi
    have := hc _ _ this
    unfold Addr.add
    split
    · rename_i h0; subst h0; simpa using this
    · simp only; rw [← Nat.add_assoc] at this; exact this
theorem cell?_of {h : H} {w : World} (hw : w.heap = h) {p : Addr} {cs : List Value} (H : AtH h p cs) {i : Nat} {v : Value} (hi : cs[i]? = some v) : w.cell? (p.add i) = some v := by
  obtain ⟨hs, arr, T, fr, hb, hc⟩ := H
  have h1 := hc i v hi
  subst hw
  by_cases h0 : i = 0
  · subst h0
    simp only [Nat.add_zero] at h1
    simp [World.cell?, Addr.add, hb, hs, h1]
  · simp [World.cell?, Addr.add, h0, hb, h1]
/-- type facts -/
def IsAgg (P : Program) (t : TypeId) (n : Nat) : Prop := (∃ d, P.underlying t = some d ∧ ((∃ x, d = .struct x) ∨ ∃ m e, d = .array m e)) ∧ ∃ i, P.info? t = some i ∧ i.size = n
def NotAgg (P : Program) (t : TypeId) : Prop := ∃ d, P.underlying t = some d ∧ (match d with | .struct _ | .array _ _ => False | _ => True)
def SizeOf (P : Program) (t : TypeId) (n : Nat) : Prop := ∃ i, P.info? t = some i ∧ i.size = n
def FldAt (P : Program) (s : TypeId) (f off : Nat) : Prop := ∃ fs x n, P.underlying s = some (.struct fs) ∧ fs[f]? = some x ∧ x.offset = off ∧ SizeOf P x.type (n + 1)
/-- an array's length, its element's type, and its element's size -/
def ArrT (P : Program) (t : TypeId) (n : Nat) (e : TypeId) (size : Nat) : Prop := P.underlying t = some (.array n e) ∧ SizeOf P e size
def SlT (P : Program) (t : TypeId) (e : TypeId) (size : Nat) : Prop := P.underlying t = some (.slice e) ∧ SizeOf P e size
theorem run_isAgg_yes {P : Program} {t : TypeId} {n : Nat} (h : IsAgg P t n) (w : World) : (isAgg t).run P w = .ok true w := by
  obtain ⟨⟨d, hd, hx⟩, _⟩ := h
  rcases hx with ⟨x, rfl⟩ | ⟨m, e, rfl⟩ <;> simp [isAgg, run_underlying hd]
theorem run_isAgg_no {P : Program} {t : TypeId} (h : NotAgg P t) (w : World) : (isAgg t).run P w = .ok false w := by
  obtain ⟨d, hd, hx⟩ := h
  cases d <;> simp_all [isAgg, run_underlying hd]
theorem run_sizeOf {P : Program} {t : TypeId} {n : Nat} (h : SizeOf P t n) (w : World) : (sizeOf t).run P w = .ok n w := by
  obtain ⟨i, hi, rfl⟩ := h
  simp [sizeOf, typeInfo, hi]
theorem IsAgg.size {P : Program} {t : TypeId} {n : Nat} (h : IsAgg P t n) : SizeOf P t n := h.2
section
variable {C : Ctx} {ρ : Env} {h : H} {ty : TypeId}
theorem v_move {x : Operand} {v : Value} (hx : ev ρ x = v) : OpVal C (.move x) ty ρ h v := by
  intro w hw pos after g d; simp [execOp, hx]
theorem v_assign {x : Operand} {v : Value} (hx : ev ρ x = v) : OpVal C (.assign x) ty ρ h v := by
  intro w hw pos after g d; simp [execOp, hx]
theorem v_pick_and {c x y : Operand} {a b : Bool} (hc : ev ρ c = .bool a) (hx : a = true → ev ρ x = .bool b) (hy : ev ρ y = .bool false) : OpVal C (.pick c x y) ty ρ h (reg (a && b)) := by
  intro w hw pos after g d; cases a <;> simp_all [execOp, asBool, reg]
theorem v_pick_or {c x y : Operand} {a b : Bool} (hc : ev ρ c = .bool a) (hx : ev ρ x = .bool true) (hy : a = false → ev ρ y = .bool b) : OpVal C (.pick c x y) ty ρ h (reg (a || b)) := by
  intro w hw pos after g d; cases a <;> simp_all [execOp, asBool, reg]
theorem v_nilCheck {x : Operand} {p : Addr} (hx : ev ρ x = .pointer (some p)) : OpVal C (.nilCheck x) ty ρ h (.pointer (some p)) := by
  intro w hw pos after g d; simp [execOp, hx]
def iadd (a b : Int) : Int := IntKind.i64.wrap (a + b)
def isub (a b : Int) : Int := IntKind.i64.wrap (a - b)
def imul (a b : Int) : Int := IntKind.i64.wrap (a * b)
def iquo (a b : Int) : Int := IntKind.i64.wrap (a.tdiv b)
def irem (a b : Int) : Int := a.tmod b
theorem v_iadd {x y : Operand} {a b : Int} {T T' : TypeId} (hx : ev ρ x = .int .i64 a) (hy : ev ρ y = .int .i64 b) : OpVal C (.binOp .add T x y T') ty ρ h (reg (iadd a b)) := by
  intro w hw pos after g d; simp [execOp, hx, hy, eqGuard, binOp, Op.intArith, reg, iadd]
theorem v_isub {x y : Operand} {a b : Int} {T T' : TypeId} (hx : ev ρ x = .int .i64 a) (hy : ev ρ y = .int .i64 b) : OpVal C (.binOp .sub T x y T') ty ρ h (reg (isub a b)) := by
  intro w hw pos after g d; simp [execOp, hx, hy, eqGuard, binOp, Op.intArith, reg, isub]
theorem v_imul {x y : Operand} {a b : Int} {T T' : TypeId} (hx : ev ρ x = .int .i64 a) (hy : ev ρ y = .int .i64 b) : OpVal C (.binOp .mul T x y T') ty ρ h (reg (imul a b)) := by
  intro w hw pos after g d; simp [execOp, hx, hy, eqGuard, binOp, Op.intArith, reg, imul]
theorem v_iquo {x y : Operand} {a b : Int} {T T' : TypeId} (hx : ev ρ x = .int .i64 a) (hy : ev ρ y = .int .i64 b) (h0 : b ≠ 0) : OpVal C (.binOp .quo T x y T') ty ρ h (reg (iquo a b)) := by
  intro w hw pos after g d; simp [execOp, hx, hy, eqGuard, binOp, Op.intDiv, reg, iquo, h0]
theorem v_irem {x y : Operand} {a b : Int} {T T' : TypeId} (hx : ev ρ x = .int .i64 a) (hy : ev ρ y = .int .i64 b) (h0 : b ≠ 0) : OpVal C (.binOp .rem T x y T') ty ρ h (reg (irem a b)) := by
  intro w hw pos after g d; simp [execOp, hx, hy, eqGuard, binOp, Op.intDiv, reg, irem, h0]
theorem v_ieql {x y : Operand} {k : IntKind} {a b : Int} {T T' : TypeId} (hx : ev ρ x = .int k a) (hy : ev ρ y = .int k b) : OpVal C (.binOp .eql T x y T') ty ρ h (reg (a == b)) := by
  intro w hw pos after g d; simp [execOp, hx, hy, eqGuard, binOp, Op.intCmp, reg]
theorem v_ineq {x y : Operand} {k : IntKind} {a b : Int} {T T' : TypeId} (hx : ev ρ x = .int k a) (hy : ev ρ y = .int k b) : OpVal C (.binOp .neq T x y T') ty ρ h (reg (a != b)) := by
  intro w hw pos after g d; simp [execOp, hx, hy, eqGuard, binOp, Op.intCmp, reg]
theorem v_ilss {x y : Operand} {k : IntKind} {a b : Int} {T T' : TypeId} (hx : ev ρ x = .int k a) (hy : ev ρ y = .int k b) : OpVal C (.binOp .lss T x y T') ty ρ h (reg (decide (a < b))) := by
  intro w hw pos after g d; simp [execOp, hx, hy, eqGuard, binOp, Op.intCmp, reg]
theorem v_ileq {x y : Operand} {k : IntKind} {a b : Int} {T T' : TypeId} (hx : ev ρ x = .int k a) (hy : ev ρ y = .int k b) : OpVal C (.binOp .leq T x y T') ty ρ h (reg (decide (a ≤ b))) := by
  intro w hw pos after g d; simp [execOp, hx, hy, eqGuard, binOp, Op.intCmp, reg]
theorem v_igtr {x y : Operand} {k : IntKind} {a b : Int} {T T' : TypeId} (hx : ev ρ x = .int k a) (hy : ev ρ y = .int k b) : OpVal C (.binOp .gtr T x y T') ty ρ h (reg (decide (b < a))) := by
  intro w hw pos after g d; simp [execOp, hx, hy, eqGuard, binOp, Op.intCmp, reg]
theorem v_igeq {x y : Operand} {k : IntKind} {a b : Int} {T T' : TypeId} (hx : ev ρ x = .int k a) (hy : ev ρ y = .int k b) : OpVal C (.binOp .geq T x y T') ty ρ h (reg (decide (b ≤ a))) := by
  intro w hw pos after g d; simp [execOp, hx, hy, eqGuard, binOp, Op.intCmp, reg]
def ishr (a : Int) (n : Nat) : Int := a.fdiv (2 ^ (min n 64))
theorem v_ishr {x y : Operand} {k : IntKind} {a b : Int} {T T' : TypeId} (hx : ev ρ x = .int .i64 a) (hy : ev ρ y = .int k b) (h0 : 0 ≤ b) : OpVal C (.binOp .shr T x y T') ty ρ h (reg (ishr a b.toNat)) := by
  intro w hw pos after g d; simp [execOp, hx, hy, eqGuard, binOp, Op.shift, reg, ishr, show ¬ b < 0 by omega, IntKind.bits]
theorem v_not {x : Operand} {T : TypeId} {b : Bool} (hx : ev ρ x = .bool b) : OpVal C (.unOp .not T x) ty ρ h (reg (!b)) := by
  intro w hw pos after g d; simp [execOp, hx, Op.unary, reg]
theorem v_extract {x : Operand} {vs : Array Value} {i : Nat} {v : Value} (hx : ev ρ x = .tuple vs) (hv : vs[i]? = some v) : OpVal C (.extract x i) ty ρ h v := by
  intro w hw pos after g d; simp [execOp, hx, Instr.extract, hv]
theorem v_fieldAddr {x : Operand} {s : TypeId} {f off : Nat} {p : Addr} (hf : FldAt C.P s f off) (hx : ev ρ x = .pointer (some p)) : OpVal C (.fieldAddr s x f) ty ρ h (.pointer (some (p.add off))) := by
  obtain ⟨fs, y, n, hu, hy, rfl, hsz⟩ := hf
  intro w hw pos after g d; simp [execOp, hx, Instr.fieldAt, run_underlying hu, hy, Instr.sureAddr, fieldPlace, run_sizeOf hsz]
theorem v_load1 {x : Operand} {T : TypeId} {p : Addr} {cs : List Value} {v : Value} (off : Nat) (hT : NotAgg C.P T) (hx : ev ρ x = .pointer (some (p.add off))) (hat : AtH h p cs) (hv : cs[off]? = some v) : OpVal C (.load T x) ty ρ h v := by
  intro w hw pos after g d; simp [execOp, hx, Instr.loadAt, Instr.sureAddr, loadVar, run_isAgg_no hT, cell?_of hw hat hv]
theorem v_loadA {x : Operand} {T : TypeId} {p : Addr} {cs cs' : List Value} {n : Nat} (off : Nat) (hT : IsAgg C.P T n) (hx : ev ρ x = .pointer (some (p.add off))) (hat : AtH h p cs) (hv : (cs.drop off).take n = cs') (hl : cs'.length = n) : OpVal C (.load T x) ty ρ h (.agg cs'.toArray) := by
  intro w hw pos after g d
  have hs := hat.sub off n
  rw [hv] at hs
  have := run_loadCells_list (P := C.P) (w := w) (p.add off) cs' (fun j v hj => cell?_of hw hs hj)
  rw [hl] at this
  simp [execOp, hx, Instr.loadAt, Instr.sureAddr, loadVar, run_isAgg_yes hT, run_sizeOf hT.size, this]
theorem wrap_u32 (n : Nat) : IntKind.u32.wrap (n : Int) = ((UInt32.ofNat n).toNat : Int) := by
  simp only [IntKind.wrap, IntKind.signed, IntKind.bits, Bool.false_and, Bool.false_eq_true, if_false, UInt32.toNat_ofNat']
  omega
theorem wrap_u64 (n : Nat) : IntKind.u64.wrap (n : Int) = ((UInt64.ofNat n).toNat : Int) := by
  simp only [IntKind.wrap, IntKind.signed, IntKind.bits, Bool.false_and, Bool.false_eq_true, if_false, UInt64.toNat_ofNat']
  omega
/-- an int as a byte, 32 and 64 bits without a sign -/
def toU8 (n : Int) : UInt8 := UInt8.ofNat (n % 256).toNat
def toU32 (n : Int) : UInt32 := UInt32.ofNat (n % 4294967296).toNat
def toU64 (n : Int) : UInt64 := UInt64.ofNat (n % 18446744073709551616).toNat
theorem wrap_toU8 (n : Int) : IntKind.u8.wrap n = ((toU8 n).toNat : Int) := by
  simp only [IntKind.wrap, IntKind.signed, IntKind.bits, Bool.false_and, Bool.false_eq_true, if_false, UInt8.toNat_ofNat', toU8]
  omega
theorem wrap_toU32 (n : Int) : IntKind.u32.wrap n = ((toU32 n).toNat : Int) := by
  simp only [IntKind.wrap, IntKind.signed, IntKind.bits, Bool.false_and, Bool.false_eq_true, if_false, UInt32.toNat_ofNat', toU32]
  omega
theorem wrap_toU64 (n : Int) : IntKind.u64.wrap n = ((toU64 n).toNat : Int) := by
  simp only [IntKind.wrap, IntKind.signed, IntKind.bits, Bool.false_and, Bool.false_eq_true, if_false, UInt64.toNat_ofNat', toU64]
  omega
theorem v_add32 {x y : Operand} {a b : UInt32} {T T' : TypeId} (hx : ev ρ x = reg a) (hy : ev ρ y = reg b) : OpVal C (.binOp .add T x y T') ty ρ h (reg (a + b)) := by
  intro w hw pos after g d
  simp only [reg] at hx hy
  have e : IntKind.u32.wrap ((a.toNat : Int) + b.toNat) = ((a + b).toNat : Int) := by
    have := wrap_u32 (a.toNat + b.toNat)
    rw [Int.natCast_add] at this
    rw [this, UInt32.toNat_add, UInt32.toNat_ofNat']
  simp [execOp, hx, hy, eqGuard, binOp, Op.intArith, reg, e]
theorem bv_u32 (a : UInt32) : BitVec.ofInt 32 (a.toNat : Int) = a.toBitVec := by
  apply BitVec.eq_of_toNat_eq
  simp
theorem wrap_of_u32 (a : UInt32) : IntKind.u32.wrap (a.toNat : Int) = (a.toNat : Int) := by
  rw [wrap_u32, UInt32.ofNat_toNat]
theorem intBits_and32 (a b : UInt32) : Op.intBits .and .u32 (a.toNat : Int) (b.toNat : Int) = pure (reg (a &&& b)) := by
  have h : Op.intBits .and .u32 (a.toNat : Int) (b.toNat : Int) = pure (.int .u32 (IntKind.u32.wrap ((BitVec.ofInt 32 (a.toNat : Int) &&& BitVec.ofInt 32 (b.toNat : Int)).toNat : Int))) := rfl
  rw [h, bv_u32, bv_u32]
  exact congrArg (fun n => pure (Value.int .u32 n)) (wrap_of_u32 (a &&& b))
theorem intBits_or32 (a b : UInt32) : Op.intBits .or .u32 (a.toNat : Int) (b.toNat : Int) = pure (reg (a ||| b)) := by
  have h : Op.intBits .or .u32 (a.toNat : Int) (b.toNat : Int) = pure (.int .u32 (IntKind.u32.wrap ((BitVec.ofInt 32 (a.toNat : Int) ||| BitVec.ofInt 32 (b.toNat : Int)).toNat : Int))) := rfl
  rw [h, bv_u32, bv_u32]
  exact congrArg (fun n => pure (Value.int .u32 n)) (wrap_of_u32 (a ||| b))
theorem intBits_xor32 (a b : UInt32) : Op.intBits .xor .u32 (a.toNat : Int) (b.toNat : Int) = pure (reg (a ^^^ b)) := by
  have h : Op.intBits .xor .u32 (a.toNat : Int) (b.toNat : Int) = pure (.int .u32 (IntKind.u32.wrap ((BitVec.ofInt 32 (a.toNat : Int) ^^^ BitVec.ofInt 32 (b.toNat : Int)).toNat : Int))) := rfl
  rw [h, bv_u32, bv_u32]
  exact congrArg (fun n => pure (Value.int .u32 n)) (wrap_of_u32 (a ^^^ b))
theorem v_and32 {x y : Operand} {a b : UInt32} {T T' : TypeId} (hx : ev ρ x = reg a) (hy : ev ρ y = reg b) : OpVal C (.binOp .and T x y T') ty ρ h (reg (a &&& b)) := by
  intro w hw pos after g d
  have hx' : ev ρ x = .int .u32 (a.toNat : Int) := hx
  have hy' : ev ρ y = .int .u32 (b.toNat : Int) := hy
  simp [execOp, hx', hy', eqGuard, binOp, intBits_and32]
theorem v_or32 {x y : Operand} {a b : UInt32} {T T' : TypeId} (hx : ev ρ x = reg a) (hy : ev ρ y = reg b) : OpVal C (.binOp .or T x y T') ty ρ h (reg (a ||| b)) := by
  intro w hw pos after g d
  have hx' : ev ρ x = .int .u32 (a.toNat : Int) := hx
  have hy' : ev ρ y = .int .u32 (b.toNat : Int) := hy
  simp [execOp, hx', hy', eqGuard, binOp, intBits_or32]
theorem v_xor32 {x y : Operand} {a b : UInt32} {T T' : TypeId} (hx : ev ρ x = reg a) (hy : ev ρ y = reg b) : OpVal C (.binOp .xor T x y T') ty ρ h (reg (a ^^^ b)) := by
  intro w hw pos after g d
  have hx' : ev ρ x = .int .u32 (a.toNat : Int) := hx
  have hy' : ev ρ y = .int .u32 (b.toNat : Int) := hy
  simp [execOp, hx', hy', eqGuard, binOp, intBits_xor32]
theorem v_not32 {x : Operand} {a : UInt32} {T : TypeId} (hx : ev ρ x = reg a) : OpVal C (.unOp .xor T x) ty ρ h (reg ((-1) ^^^ a : UInt32)) := by
  intro w hw pos after g d
  have hx' : ev ρ x = .int .u32 (a.toNat : Int) := hx
  have h : Op.intBits .xor .u32 4294967295 (a.toNat : Int) = pure (reg ((-1) ^^^ a : UInt32)) := intBits_xor32 (-1) a
  have e : (if IntKind.u32.signed = true then -1 else IntKind.u32.max) = 4294967295 := rfl
  simp [execOp, hx', Op.unary, e, h]
theorem bv_u64 (a : UInt64) : BitVec.ofInt 64 (a.toNat : Int) = a.toBitVec := by
  apply BitVec.eq_of_toNat_eq
  simp
theorem wrap_of_u64 (a : UInt64) : IntKind.u64.wrap (a.toNat : Int) = (a.toNat : Int) := by
  rw [wrap_u64, UInt64.ofNat_toNat]
theorem intBits_and64 (a b : UInt64) : Op.intBits .and .u64 (a.toNat : Int) (b.toNat : Int) = pure (reg (a &&& b)) := by
  have h : Op.intBits .and .u64 (a.toNat : Int) (b.toNat : Int) = pure (.int .u64 (IntKind.u64.wrap ((BitVec.ofInt 64 (a.toNat : Int) &&& BitVec.ofInt 64 (b.toNat : Int)).toNat : Int))) := rfl
  rw [h, bv_u64, bv_u64]
  exact congrArg (fun n => pure (Value.int .u64 n)) (wrap_of_u64 (a &&& b))
theorem v_and64 {x y : Operand} {a b : UInt64} {T T' : TypeId} (hx : ev ρ x = reg a) (hy : ev ρ y = reg b) : OpVal C (.binOp .and T x y T') ty ρ h (reg (a &&& b)) := by
  intro w hw pos after g d
  have hx' : ev ρ x = .int .u64 (a.toNat : Int) := hx
  have hy' : ev ρ y = .int .u64 (b.toNat : Int) := hy
  simp [execOp, hx', hy', eqGuard, binOp, intBits_and64]
/-- shifts of words by a count that Go may take beyond the width -/
def shl32 (a : UInt32) (n : Nat) : UInt32 := UInt32.ofNat (a.toNat * 2 ^ (min n 32))
def shr32 (a : UInt32) (n : Nat) : UInt32 := UInt32.ofNat (a.toNat / 2 ^ (min n 32))
def shl64 (a : UInt64) (n : Nat) : UInt64 := UInt64.ofNat (a.toNat * 2 ^ (min n 64))
def shr64 (a : UInt64) (n : Nat) : UInt64 := UInt64.ofNat (a.toNat / 2 ^ (min n 64))
theorem fdiv_pow (a n : Nat) : (a : Int).fdiv (2 ^ n) = ((a / 2 ^ n : Nat) : Int) := by
  rw [show ((2 : Int) ^ n) = ((2 ^ n : Nat) : Int) by simp, Int.fdiv_eq_ediv_of_nonneg _ (Int.natCast_nonneg _)]
  rfl
theorem v_shl32 {x y : Operand} {a : UInt32} {k : IntKind} {b : Int} {T T' : TypeId} (hx : ev ρ x = reg a) (hy : ev ρ y = .int k b) (h0 : 0 ≤ b) : OpVal C (.binOp .shl T x y T') ty ρ h (reg (shl32 a b.toNat)) := by
  intro w hw pos after g d
  simp only [reg] at hx
  have e : IntKind.u32.wrap ((a.toNat : Int) * 2 ^ (min b.toNat 32)) = ((shl32 a b.toNat).toNat : Int) := by
    rw [show (a.toNat : Int) * 2 ^ (min b.toNat 32) = ((a.toNat * 2 ^ (min b.toNat 32) : Nat) : Int) by simp, wrap_u32]; rfl
  simp [execOp, hx, hy, eqGuard, binOp, Op.shift, reg, show ¬ b < 0 by omega, IntKind.bits, e]
theorem v_shr32 {x y : Operand} {a : UInt32} {k : IntKind} {b : Int} {T T' : TypeId} (hx : ev ρ x = reg a) (hy : ev ρ y = .int k b) (h0 : 0 ≤ b) : OpVal C (.binOp .shr T x y T') ty ρ h (reg (shr32 a b.toNat)) := by
  intro w hw pos after g d
  simp only [reg] at hx
  have e : (shr32 a b.toNat).toNat = a.toNat / 2 ^ (min b.toNat 32) := by
    rw [shr32, UInt32.toNat_ofNat', Nat.mod_eq_of_lt]
    exact Nat.lt_of_le_of_lt (Nat.div_le_self _ _) a.toNat_lt
  simp [execOp, hx, hy, eqGuard, binOp, Op.shift, reg, show ¬ b < 0 by omega, IntKind.bits, fdiv_pow, e]
theorem v_shl64 {x y : Operand} {a : UInt64} {k : IntKind} {b : Int} {T T' : TypeId} (hx : ev ρ x = reg a) (hy : ev ρ y = .int k b) (h0 : 0 ≤ b) : OpVal C (.binOp .shl T x y T') ty ρ h (reg (shl64 a b.toNat)) := by
  intro w hw pos after g d
  simp only [reg] at hx
  have e : IntKind.u64.wrap ((a.toNat : Int) * 2 ^ (min b.toNat 64)) = ((shl64 a b.toNat).toNat : Int) := by
    rw [show (a.toNat : Int) * 2 ^ (min b.toNat 64) = ((a.toNat * 2 ^ (min b.toNat 64) : Nat) : Int) by simp, wrap_u64]; rfl
  simp [execOp, hx, hy, eqGuard, binOp, Op.shift, reg, show ¬ b < 0 by omega, IntKind.bits, e]
theorem v_shr64 {x y : Operand} {a : UInt64} {k : IntKind} {b : Int} {T T' : TypeId} (hx : ev ρ x = reg a) (hy : ev ρ y = .int k b) (h0 : 0 ≤ b) : OpVal C (.binOp .shr T x y T') ty ρ h (reg (shr64 a b.toNat)) := by
  intro w hw pos after g d
  simp only [reg] at hx
  have e : (shr64 a b.toNat).toNat = a.toNat / 2 ^ (min b.toNat 64) := by
    rw [shr64, UInt64.toNat_ofNat', Nat.mod_eq_of_lt]
    exact Nat.lt_of_le_of_lt (Nat.div_le_self _ _) a.toNat_lt
  simp [execOp, hx, hy, eqGuard, binOp, Op.shift, reg, show ¬ b < 0 by omega, IntKind.bits, fdiv_pow, e]
theorem v_rem64 {x y : Operand} {a b : UInt64} {T T' : TypeId} (hx : ev ρ x = reg a) (hy : ev ρ y = reg b) (h0 : b ≠ 0) : OpVal C (.binOp .rem T x y T') ty ρ h (reg (a % b)) := by
  intro w hw pos after g d
  have hx' : ev ρ x = .int .u64 (a.toNat : Int) := hx
  have hy' : ev ρ y = .int .u64 (b.toNat : Int) := hy
  have hb : (b.toNat : Int) ≠ 0 := by
    intro e; apply h0; apply UInt64.toNat_inj.1; exact Int.ofNat.inj e
  have hd : Op.intDiv .rem .u64 (a.toNat : Int) (b.toNat : Int) = pure (reg (a % b)) := by
    unfold Op.intDiv
    rw [if_neg hb]
    show pure (Value.int .u64 ((a.toNat : Int).tmod b.toNat)) = pure (Value.int .u64 ((a % b).toNat : Int))
    rw [UInt64.toNat_mod, Int.tmod_eq_emod_of_nonneg (Int.natCast_nonneg _)]
    rfl
  simp [execOp, hx', hy', eqGuard, binOp, hd]
/-- conversions -/
theorem v_conv_u8 {x : Operand} {k : IntKind} {n : Int} {T T' : TypeId} {d' : TypeDesc} (hs : C.P.underlying T = some d') (hT : C.P.underlying T' = some (.int .u8)) (hx : ev ρ x = .int k n) : OpVal C (.convert T T' x) ty ρ h (reg (toU8 n)) := by
  intro w hw pos after g d
  cases d' <;> simp [execOp, hx, convert, run_underlying hs, run_underlying hT, Conv.intToInt, reg, wrap_toU8]
theorem v_conv_u32 {x : Operand} {k : IntKind} {n : Int} {T T' : TypeId} {d' : TypeDesc} (hs : C.P.underlying T = some d') (hT : C.P.underlying T' = some (.int .u32)) (hx : ev ρ x = .int k n) : OpVal C (.convert T T' x) ty ρ h (reg (toU32 n)) := by
  intro w hw pos after g d
  cases d' <;> simp [execOp, hx, convert, run_underlying hs, run_underlying hT, Conv.intToInt, reg, wrap_toU32]
theorem v_conv_u64 {x : Operand} {k : IntKind} {n : Int} {T T' : TypeId} {d' : TypeDesc} (hs : C.P.underlying T = some d') (hT : C.P.underlying T' = some (.int .u64)) (hx : ev ρ x = .int k n) : OpVal C (.convert T T' x) ty ρ h (reg (toU64 n)) := by
  intro w hw pos after g d
  cases d' <;> simp [execOp, hx, convert, run_underlying hs, run_underlying hT, Conv.intToInt, reg, wrap_toU64]
def toI64 (n : Int) : Int := IntKind.i64.wrap n
theorem v_conv_i64 {x : Operand} {k : IntKind} {n : Int} {T T' : TypeId} {d' : TypeDesc} (hs : C.P.underlying T = some d') (hT : C.P.underlying T' = some (.int .i64)) (hx : ev ρ x = .int k n) : OpVal C (.convert T T' x) ty ρ h (reg (toI64 n)) := by
  intro w hw pos after g d
  cases d' <;> simp [execOp, hx, convert, run_underlying hs, run_underlying hT, Conv.intToInt, reg, toI64]
/-- floats -/
def fnear (n : Int) : Fl := ⟨FloatKind.f64.nearest n⟩
theorem v_conv_fl {x : Operand} {k : IntKind} {n : Int} {T T' : TypeId} {d' : TypeDesc} (hs : C.P.underlying T = some d') (hT : C.P.underlying T' = some (.float .f64)) (hx : ev ρ x = .int k n) : OpVal C (.convert T T' x) ty ρ h (reg (fnear n)) := by
  intro w hw pos after g d
  cases d' <;> simp [execOp, hx, convert, run_underlying hs, run_underlying hT, Conv.intToFloat, reg, fnear]
/-- the int that a float is cut to; none: it lies beyond -/
def fcut (x : Fl) : Option Int := match (FloatKind.f64.decode x.b).toInt .zero with
  | some n => if IntKind.i64.min ≤ n ∧ n ≤ IntKind.i64.max then some n else none
  | none => none
theorem v_conv_cut {x : Operand} {f : Fl} {n : Int} {T T' : TypeId} {k' : FloatKind} (hs : C.P.underlying T = some (.float k')) (hT : C.P.underlying T' = some (.int .i64)) (hx : ev ρ x = reg f) (hn : fcut f = some n) : OpVal C (.convert T T' x) ty ρ h (reg n) := by
  intro w hw pos after g d
  have hx' : ev ρ x = .float .f64 f.b := hx
  have hc : Conv.floatToInt .f64 f.b .i64 = pure (reg n) := by
    unfold fcut at hn
    unfold Conv.floatToInt
    split at hn
    · rename_i m hm
      split at hn
      · rename_i hr
        obtain rfl := Option.some.inj hn
        rw [hm]
        exact if_pos hr
      · cases hn
    · cases hn
  simp [execOp, hx', convert, run_underlying hs, run_underlying hT, hc]
def fle (x y : Fl) : Bool := FloatKind.f64.format.order x.b y.b == some .lt || FloatKind.f64.format.order x.b y.b == some .eq
def fge (x y : Fl) : Bool := FloatKind.f64.format.order x.b y.b == some .gt || FloatKind.f64.format.order x.b y.b == some .eq
def feq (x y : Fl) : Bool := FloatKind.f64.format.order x.b y.b == some .eq
theorem v_fleq {x y : Operand} {a b : Fl} {T T' : TypeId} (hx : ev ρ x = reg a) (hy : ev ρ y = reg b) : OpVal C (.binOp .leq T x y T') ty ρ h (reg (fle a b)) := by
  intro w hw pos after g d; simp only [reg] at hx hy; simp [execOp, hx, hy, eqGuard, binOp, Op.floatCmp, reg, fle]
theorem v_fgeq {x y : Operand} {a b : Fl} {T T' : TypeId} (hx : ev ρ x = reg a) (hy : ev ρ y = reg b) : OpVal C (.binOp .geq T x y T') ty ρ h (reg (fge a b)) := by
  intro w hw pos after g d; simp only [reg] at hx hy; simp [execOp, hx, hy, eqGuard, binOp, Op.floatCmp, reg, fge]
theorem v_feql {x y : Operand} {a b : Fl} {T T' : TypeId} (hx : ev ρ x = reg a) (hy : ev ρ y = reg b) : OpVal C (.binOp .eql T x y T') ty ρ h (reg (feq a b)) := by
  intro w hw pos after g d; simp only [reg] at hx hy; simp [execOp, hx, hy, eqGuard, binOp, Op.floatCmp, reg, feq]
def fadd (x y : Fl) : Option Fl := (FloatKind.f64.format.add x.b y.b).map Fl.mk
theorem v_fadd {x y : Operand} {a b c : Fl} {T T' : TypeId} (hx : ev ρ x = reg a) (hy : ev ρ y = reg b) (hc : fadd a b = some c) : OpVal C (.binOp .add T x y T') ty ρ h (reg c) := by
  intro w hw pos after g d; simp only [reg] at hx hy
  unfold fadd at hc
  rw [Option.map_eq_some_iff] at hc
  obtain ⟨r, hr, rfl⟩ := hc
  simp [execOp, hx, hy, eqGuard, binOp, Op.floatArith, reg, hr]
theorem u8_eq (a b : UInt8) : ((a.toNat : Int) == b.toNat) = (a == b) := by
  rw [Bool.eq_iff_iff]; simp only [beq_iff_eq]; exact ⟨fun e => UInt8.toNat_inj.1 (by omega), fun e => by rw [e]⟩
theorem v_u8neq {x y : Operand} {a b : UInt8} {T T' : TypeId} (hx : ev ρ x = reg a) (hy : ev ρ y = reg b) : OpVal C (.binOp .neq T x y T') ty ρ h (reg (a != b)) := by
  have : ((a.toNat : Int) != b.toNat) = (a != b) := by simp only [bne, u8_eq]
  rw [← this]; exact v_ineq hx hy
theorem v_u8lss {x y : Operand} {a b : UInt8} {T T' : TypeId} (hx : ev ρ x = reg a) (hy : ev ρ y = reg b) : OpVal C (.binOp .lss T x y T') ty ρ h (reg (decide (a < b))) := by
  have : decide ((a.toNat : Int) < b.toNat) = decide (a < b) := by simp only [Int.ofNat_lt, UInt8.lt_iff_toNat_lt]
  rw [← this]; exact v_ilss hx hy
theorem v_u8gtr {x y : Operand} {a b : UInt8} {T T' : TypeId} (hx : ev ρ x = reg a) (hy : ev ρ y = reg b) : OpVal C (.binOp .gtr T x y T') ty ρ h (reg (decide (b < a))) := by
  have : decide ((b.toNat : Int) < a.toNat) = decide (b < a) := by simp only [Int.ofNat_lt, UInt8.lt_iff_toNat_lt]
  rw [← this]; exact v_igtr hx hy
end
end Go.Sh
namespace Go.Sh
open Go
open Go.Sh.Ty (reg)
section
variable {C : Ctx} {ρ : Env} {h : H} {ty : TypeId}
/-- part of a slice or an array: from lo to hi, with room up to mx -/
def Sl.cut (s : Sl) (size : Nat) (lo hi mx : Nat) : Sl := ⟨if mx = lo then s.a else s.a.map (·.add (lo * size)), hi - lo, mx - lo⟩
theorem run_bound {x : Value} {k : IntKind} {i : Int} {y : Nat} {code : BoundsCode} (hx : x = .int k i) (h0 : 0 ≤ i) (h1 : i ≤ y) (w : World) : (Instr.sliceBound x y code).run C.P w = .ok i.toNat w := by
  subst hx; simp [Instr.sliceBound, asIntOf, h0, h1]
theorem v_slice_ll {x l : Operand} {s : Sl} {T e : TypeId} {size : Nat} {k : IntKind} {lo : Int} (hs : SlT C.P T e size) (hx : ev ρ x = reg s) (hl : ev ρ l = .int k lo) (h0 : 0 ≤ lo) (h1 : lo ≤ s.len) :
    OpVal C (.slice T x (some l) none none) ty ρ h (reg (s.cut size lo.toNat s.len s.cap)) := by
  intro w hw pos after g d
  have hx' : ev ρ x = .slice s.a s.len s.cap := hx
  simp [execOp, hx', Instr.sliceAt, run_underlying hs.1, Instr.slice, Instr.sliceBounds, run_bound hl h0 h1, run_sizeOf hs.2, reg, Sl.cut]
theorem v_slice_hm {x r m : Operand} {s : Sl} {T e : TypeId} {size : Nat} {k k' : IntKind} {hi mx : Int} (hs : SlT C.P T e size) (hx : ev ρ x = reg s) (hr : ev ρ r = .int k hi) (hm : ev ρ m = .int k' mx) (h0 : 0 ≤ hi) (h1 : hi ≤ mx) (h2 : mx ≤ s.cap) :
    OpVal C (.slice T x none (some r) (some m)) ty ρ h (reg (s.cut size 0 hi.toNat mx.toNat)) := by
  intro w hw pos after g d
  have hx' : ev ρ x = .slice s.a s.len s.cap := hx
  simp [execOp, hx', Instr.sliceAt, run_underlying hs.1, Instr.slice, Instr.sliceBounds, run_bound hm (by omega) h2, run_bound hr h0 (show hi ≤ (mx.toNat : Int) by omega), run_sizeOf hs.2, reg, Sl.cut]
/-- a whole array, or a part of it -/
theorem v_slice_an {x : Operand} {p : Addr} {T e : TypeId} {n size : Nat} (hs : ArrT C.P T n e size) (hx : ev ρ x = .pointer (some p)) :
    OpVal C (.slice T x none none none) ty ρ h (reg (Sl.cut ⟨some p, n, n⟩ size 0 n n)) := by
  intro w hw pos after g d
  simp [execOp, hx, Instr.sliceAt, run_underlying hs.1, Instr.sliceBounds, run_sizeOf hs.2, reg, Sl.cut, Instr.sureAddr, asAddr]
  try split <;> rfl
theorem v_slice_al {x l : Operand} {p : Addr} {T e : TypeId} {n size : Nat} {k : IntKind} {lo : Int} (hs : ArrT C.P T n e size) (hx : ev ρ x = .pointer (some p)) (hl : ev ρ l = .int k lo) (h0 : 0 ≤ lo) (h1 : lo ≤ n) :
    OpVal C (.slice T x (some l) none none) ty ρ h (reg (Sl.cut ⟨some p, n, n⟩ size lo.toNat n n)) := by
  intro w hw pos after g d
  simp [execOp, hx, Instr.sliceAt, run_underlying hs.1, Instr.sliceBounds, run_bound hl h0 h1, run_sizeOf hs.2, reg, Sl.cut, Instr.sureAddr, asAddr]
  try split <;> rfl
/-- an element's place -/
theorem v_idx_sl {x i : Operand} {a : Addr} {n c : Nat} {T e : TypeId} {size : Nat} {k : IntKind} {j : Int} (hs : SlT C.P T e size) (hx : ev ρ x = .slice (some a) n c) (hi : ev ρ i = .int k j) (h0 : 0 ≤ j) (h1 : j < n) :
    OpVal C (.indexAddr T x i) ty ρ h (.pointer (some (a.add (j.toNat * size)))) := by
  intro w hw pos after g d
  simp [execOp, hx, hi, Instr.indexAt, run_underlying hs.1, asIntOf, h0, h1, run_sizeOf hs.2]
theorem v_idx_arr {x i : Operand} {p : Addr} {T e : TypeId} {n size : Nat} {k : IntKind} {j : Int} (hs : ArrT C.P T n e size) (hx : ev ρ x = .pointer (some p)) (hi : ev ρ i = .int k j) (h0 : 0 ≤ j) (h1 : j < n) :
    OpVal C (.indexAddr T x i) ty ρ h (.pointer (some (p.add (j.toNat * size)))) := by
  intro w hw pos after g d
  simp [execOp, hx, hi, Instr.indexAt, run_underlying hs.1, asIntOf, h0, h1, run_sizeOf hs.2, Instr.sureAddr, asAddr]
/-- an element of an array that is a value, of one cell -/
theorem v_index1 {x i : Operand} {cs : Array Value} {T e : TypeId} {n : Nat} {k : IntKind} {j : Int} {v : Value} (hs : ArrT C.P T n e 1) (he : NotAgg C.P e) (hx : ev ρ x = .agg cs) (hi : ev ρ i = .int k j) (h0 : 0 ≤ j) (h1 : j < n) (hv : cs[j.toNat]? = some v) :
    OpVal C (.index T x i) ty ρ h v := by
  intro w hw pos after g d
  simp [execOp, hx, hi, Instr.index, run_underlying hs.1, asIntOf, h0, h1, run_sizeOf hs.2, part, run_isAgg_no he, hv]
theorem v_len_sl {x : Operand} {s : Sl} {T e : TypeId} (hs : C.P.underlying T = some (.slice e)) (hx : ev ρ x = reg s) : OpVal C (.call ⟨.builtin .len, #[x], #[T]⟩) ty ρ h (reg (s.len : Int)) := by
  intro w hw pos after g d
  have hx' : ev ρ x = .slice s.a s.len s.cap := hx
  simp [execOp, hx', resolve, invoke, builtin, Builtin.len_, run_underlying hs, reg, goInt]
theorem v_len_str {x : Operand} {s : ByteArray} {T : TypeId} (hs : C.P.underlying T = some .string) (hx : ev ρ x = reg s) : OpVal C (.call ⟨.builtin .len, #[x], #[T]⟩) ty ρ h (reg (s.size : Int)) := by
  intro w hw pos after g d
  have hx' : ev ρ x = .string s := hx
  simp [execOp, hx', resolve, invoke, builtin, Builtin.len_, run_underlying hs, reg, goInt]
def imax (a b : Int) : Int := if b > a then b else a
theorem v_max {x y : Operand} {a b : Int} {ts : Array TypeId} (hx : ev ρ x = .int .i64 a) (hy : ev ρ y = .int .i64 b) : OpVal C (.call ⟨.builtin .max, #[x, y], ts⟩) ty ρ h (reg (imax a b)) := by
  intro w hw pos after g d
  simp [execOp, hx, hy, resolve, invoke, builtin, Builtin.max_, Builtin.max2, reg, imax]
theorem v_real {x : Operand} {a : Cx} {ts : Array TypeId} (hx : ev ρ x = reg a) : OpVal C (.call ⟨.builtin .real, #[x], ts⟩) ty ρ h (reg (⟨a.re⟩ : Fl)) := by
  intro w hw pos after g d
  have hx' : ev ρ x = .complex .f64 a.re a.im := hx
  have hr : Builtin.real_ ts ty #[.complex .f64 a.re a.im] = pure (reg (⟨a.re⟩ : Fl)) := rfl
  simp [execOp, hx', resolve, invoke, builtin, hr]
theorem v_imag {x : Operand} {a : Cx} {ts : Array TypeId} (hx : ev ρ x = reg a) : OpVal C (.call ⟨.builtin .imag, #[x], ts⟩) ty ρ h (reg (⟨a.im⟩ : Fl)) := by
  intro w hw pos after g d
  have hx' : ev ρ x = .complex .f64 a.re a.im := hx
  have hr : Builtin.imag_ ts ty #[.complex .f64 a.re a.im] = pure (reg (⟨a.im⟩ : Fl)) := rfl
  simp [execOp, hx', resolve, invoke, builtin, hr]
theorem v_complex {x y : Operand} {a b : Fl} {ts : Array TypeId} (hx : ev ρ x = reg a) (hy : ev ρ y = reg b) : OpVal C (.call ⟨.builtin .complex, #[x, y], ts⟩) ty ρ h (reg (⟨a.b, b.b⟩ : Cx)) := by
  intro w hw pos after g d
  have hx' : ev ρ x = .float .f64 a.b := hx
  have hy' : ev ρ y = .float .f64 b.b := hy
  have hr : Builtin.complex_ ts ty #[.float .f64 a.b, .float .f64 b.b] = pure (reg (⟨a.b, b.b⟩ : Cx)) := rfl
  simp [execOp, hx', hy', resolve, invoke, builtin, hr]
/-- a pointer against nil -/
def PtT (P : Program) (t : TypeId) : Prop := ∃ e, P.underlying t = some (.pointer e)
theorem equal_nil {P : Program} {T : TypeId} (hT : PtT P T) (p : Option Addr) (w : World) : (Op.equal T (.pointer p) (.pointer none)).run P w = .ok p.isNone w := by
  obtain ⟨e, he⟩ := hT
  unfold Op.equal Op.maxDepth Op.equalIn
  cases p <;> simp [run_underlying he]
theorem binOp_eql_ptr (T : TypeId) (p q : Option Addr) : binOp .eql T (.pointer p) (.pointer q) = (do pure (.bool (← Op.equal T (.pointer p) (.pointer q)))) := by
  cases p <;> cases q <;> rfl
theorem binOp_neq_ptr (T : TypeId) (p q : Option Addr) : binOp .neq T (.pointer p) (.pointer q) = (do pure (.bool (!(← Op.equal T (.pointer p) (.pointer q))))) := by
  cases p <;> cases q <;> rfl
theorem v_eq_nil {x y : Operand} {p : Option Addr} {T T' : TypeId} (hT : PtT C.P T) (hx : ev ρ x = .pointer p) (hy : ev ρ y = .pointer none) : OpVal C (.binOp .eql T x y T') ty ρ h (reg p.isNone) := by
  intro w hw pos after g d
  simp only [execOp, hx, hy, eqGuard, binOp_eql_ptr]
  simp [equal_nil hT, reg]
theorem v_ne_nil {x y : Operand} {p : Option Addr} {T T' : TypeId} (hT : PtT C.P T) (hx : ev ρ x = .pointer p) (hy : ev ρ y = .pointer none) : OpVal C (.binOp .neq T x y T') ty ρ h (reg p.isSome) := by
  intro w hw pos after g d
  simp only [execOp, hx, hy, eqGuard, binOp_neq_ptr]
  simp [equal_nil hT, reg]
/-- equality of arrays of bytes -/
structure BytesT (P : Program) (t : TypeId) (n : Nat) : Prop where
  e : ∃ e, P.underlying t = some (.array n e) ∧ P.underlying e = some (.int .u8) ∧ SizeOf P e 1
  g : P.eqGuardType P.depth t = false
theorem reg_arr8 {n : Nat} (a : Arr n UInt8) : reg a = .agg (((List.ofFn a).map Extern.Stop.cell).toArray) := by
  simp only [reg, List.map_ofFn]; rfl
instance {n : Nat} : DecidableEq (Arr n UInt8) := fun a b =>
  decidable_of_iff (List.ofFn a = List.ofFn b) ⟨fun e => by
    funext i
    have := congrArg (fun l => l[i.1]?) e
    simpa using this, fun e => by rw [e]⟩
theorem equal_arr8 {P : Program} {n : Nat} {T : TypeId} (hT : BytesT P T n) (a b : Arr n UInt8) (w : World) : (Op.equal T (reg a) (reg b)).run P w = .ok (decide (a = b)) w := by
  obtain ⟨⟨e, h1, h2, h3⟩, hg⟩ := hT
  rw [reg_arr8, reg_arr8]
  have := Go.run_equalIn_bytes (P := P) w 9998 T e n h1 h2 (run_sizeOf h3) (List.ofFn a) (List.ofFn b) (by simp) (by simp)
  have e2 : (List.ofFn a == List.ofFn b) = decide (a = b) := by
    rw [Bool.eq_iff_iff]; simp only [beq_iff_eq, decide_eq_true_eq]
    exact ⟨fun e => by funext i; have := congrArg (fun l => l[i.1]?) e; simpa using this, fun e => by rw [e]⟩
  rw [← e2]
  exact this
theorem v_eq_arr8 {n : Nat} {x y : Operand} {a b : Arr n UInt8} {T T' : TypeId} (hT : BytesT C.P T n) (hx : ev ρ x = reg a) (hy : ev ρ y = reg b) : OpVal C (.binOp .eql T x y T') ty ρ h (reg (decide (a = b))) := by
  intro w hw pos after g d
  have h1 := equal_arr8 hT a b w
  have e : binOp .eql T (reg a) (reg b) = (do pure (.bool (← Op.equal T (reg a) (reg b)))) := rfl
  obtain ⟨msg, e'⟩ : ∃ msg : String, eqGuard .eql T x y (reg a) (reg b) = (do
      if !(← program).eqGuardType (← program).depth T then return
      if ← Op.eqGuardIn Op.maxDepth T (reg a) (reg b) then unsupported (.noEntry msg)) := ⟨_, rfl⟩
  simp only [execOp, hx, hy, e, e']
  simp [hT.g, h1]
  rfl
theorem v_ne_arr8 {n : Nat} {x y : Operand} {a b : Arr n UInt8} {T T' : TypeId} (hT : BytesT C.P T n) (hx : ev ρ x = reg a) (hy : ev ρ y = reg b) : OpVal C (.binOp .neq T x y T') ty ρ h (reg (!decide (a = b))) := by
  intro w hw pos after g d
  have h1 := equal_arr8 hT a b w
  have e : binOp .neq T (reg a) (reg b) = (do pure (.bool (!(← Op.equal T (reg a) (reg b))))) := rfl
  obtain ⟨msg, e'⟩ : ∃ msg : String, eqGuard .neq T x y (reg a) (reg b) = (do
      if !(← program).eqGuardType (← program).depth T then return
      if ← Op.eqGuardIn Op.maxDepth T (reg a) (reg b) then unsupported (.noEntry msg)) := ⟨_, rfl⟩
  simp only [execOp, hx, hy, e, e']
  simp [hT.g, h1]
  rfl
end
end Go.Sh
namespace Go.Sh
open Go
open Go.Sh.Ty (reg)
def newC (h : H) (T : TypeId) (cs : List Value) : H := h.push (.cells cs.toArray T (0, 0))
def splice (arr : Array Value) (o : Nat) (cs : List Value) : Array Value := (arr.toList.take o ++ cs ++ arr.toList.drop (o + cs.length)).toArray
def putC (h : H) (p : Addr) (cs : List Value) : H := match h[p.block]? with
  | some (.cells arr T fr) => h.setIfInBounds p.block (.cells (splice arr p.off cs) T fr)
  | _ => h
/-- n cells at p can be written -/
def WAt (h : H) (p : Addr) (n : Nat) : Prop :=
  p.spot = none ∧ ∃ arr T fr, h[p.block]? = some (.cells arr T fr) ∧ p.off + n ≤ arr.size ∧ ∀ i, i < n → ¬ (fr.1 ≤ p.off + i ∧ p.off + i < fr.2)
theorem putC_at {h : H} {p : Addr} {arr : Array Value} {T : TypeId} {fr : Nat × Nat} (hb : h[p.block]? = some (.cells arr T fr)) (cs : List Value) : putC h p cs = h.setIfInBounds p.block (.cells (splice arr p.off cs) T fr) := by
  unfold putC; rw [hb]
theorem add_spot {p : Addr} (hs : p.spot = none) (i : Nat) : p.add i = ⟨p.block, p.off + i, none⟩ := by
  unfold Addr.add; split
  · rename_i h; subst h; cases p; simp_all
  · rfl
theorem add_add (p : Addr) (i j : Nat) : (p.add i).add j = p.add (i + j) := by
  unfold Addr.add
  by_cases hi : i = 0
  · subst hi; simp
  · by_cases hj : j = 0
    · subst hj; simp [hi]
    · simp [hi, hj, Nat.add_assoc]
theorem WAt.sub {h : H} {p : Addr} {n : Nat} (H : WAt h p n) (off m : Nat) (hm : off + m ≤ n) : WAt h (p.add off) m := by
  obtain ⟨hs, arr, T, fr, hb, hn, hf⟩ := H
  rw [add_spot hs]
  refine ⟨rfl, arr, T, fr, hb, by show p.off + off + m ≤ arr.size; omega, fun i hi => ?_⟩
  have := hf (off + i) (by omega)
  rw [← Nat.add_assoc] at this
  exact this
theorem splice_nil (arr : Array Value) (o : Nat) : splice arr o [] = arr := by simp [splice]
theorem splice_set (arr : Array Value) (o : Nat) (v : Value) (rest : List Value) (ho : o < arr.size) :
    splice (arr.setIfInBounds o v) (o + 1) rest = splice arr o (v :: rest) := by
  unfold splice
  congr 1
  obtain ⟨A, c, B, hl, hA⟩ : ∃ A c B, arr.toList = A ++ c :: B ∧ A.length = o :=
    ⟨arr.toList.take o, arr.toList[o]'(by simpa using ho), arr.toList.drop (o + 1), by rw [List.getElem_cons_drop, List.take_append_drop], by simp; omega⟩
  rw [Array.toList_setIfInBounds, hl]
  subst hA
  rw [List.set_append_right _ _ (Nat.le_refl _)]
  simp only [Nat.sub_self, List.set_cons_zero, List.length_cons, List.append_assoc]
  have t1 : List.take (A.length + 1) (A ++ v :: B) = A ++ [v] := by
    rw [show A ++ v :: B = (A ++ [v]) ++ B by simp, List.take_left' (by simp)]
  have d1 : List.drop (A.length + 1 + rest.length) (A ++ v :: B) = List.drop rest.length B := by
    rw [show A ++ v :: B = (A ++ [v]) ++ B by simp, ← List.drop_drop, List.drop_left' (by simp)]
  have t2 : List.take A.length (A ++ c :: B) = A := List.take_left' rfl
  have d2 : List.drop (A.length + (rest.length + 1)) (A ++ c :: B) = List.drop rest.length B := by
    rw [← List.drop_drop, List.drop_left' rfl, List.drop_succ_cons]
  rw [t1, d1, t2, d2]
  simp
theorem run_storeCellsH (P : Program) (p : Addr) (hs : p.spot = none) : ∀ (vs : List Value) (i : Nat) (w : World), WAt w.heap (p.add i) vs.length → vs.all (·.oneCell') = true →
    (storeCells p vs i).run P w = .ok () { w with heap := putC w.heap (p.add i) vs }
  | [], i, w, hw, _ => by
    obtain ⟨_, arr, T, fr, hb, hn, hf⟩ := hw
    have : putC w.heap (p.add i) [] = w.heap := by
      unfold putC
      rw [hb]
      simp only [splice_nil]
      apply Array.ext
      · simp
      · intro j h1 h2
        rw [Array.getElem_setIfInBounds]
        split
        · rename_i e; subst e
          rw [Array.getElem?_eq_some_iff] at hb
          exact hb.2.symm
        · rfl
    simp [storeCells, this]
  | v :: rest, i, w, hw, h1 => by
    have hw2 := hw
    rw [add_spot hs] at hw
    obtain ⟨_, arr, T, fr, hb, hn, hf⟩ := hw
    simp only at hb hn hf
    simp only [List.length_cons] at hn hf
    have h1' : v.oneCell' = true ∧ rest.all (·.oneCell') = true := by simpa using h1
    have hlt : p.off + i < arr.size := by omega
    have hc : w.cell? (p.add i) = some arr[p.off + i] := by
      rw [add_spot hs]; simp [World.cell?, hb, hlt]
    have hfz : w.frozen? (p.add i) = false := by
      rw [add_spot hs]; simp only [World.frozen?, hb]
      have := hf 0 (by omega)
      simp only [Nat.add_zero] at this
      simp; omega
    have hblk : p.block < w.heap.size := by rw [Array.getElem?_eq_some_iff] at hb; exact hb.1
    have hheap : (w.setCell (p.add i) v).heap = w.heap.setIfInBounds p.block (.cells (arr.setIfInBounds (p.off + i) v) T fr) := by
      rw [add_spot hs]; simp only [World.setCell]
      apply Array.ext
      · simp
      · intro j h1 h2
        rw [Array.getElem_modify, Array.getElem_setIfInBounds]
        split
        · rename_i e; subst e
          rw [Array.getElem?_eq_some_iff] at hb
          rw [hb.2]
          simp
        · rfl
    have hb' : (w.setCell (p.add i) v).heap[p.block]? = some (.cells (arr.setIfInBounds (p.off + i) v) T fr) := by
      rw [hheap]; simp [hblk]
    have hw' : WAt (w.setCell (p.add i) v).heap (p.add (i + 1)) rest.length := by
      rw [add_spot hs (i + 1)]
      refine ⟨rfl, _, T, fr, hb', by simp; omega, fun j hj => ?_⟩
      have := hf (j + 1) (by omega)
      simp only
      rw [show p.off + (i + 1) + j = p.off + i + (j + 1) by omega]
      exact this
    have ih := run_storeCellsH P p hs rest (i + 1) (w.setCell (p.add i) v) hw' h1'.2
    simp only [storeCells, Sem.run_bind]
    rw [run_store P w (p.add i) v .plain h1'.1]
    simp only [hc, hfz, Bool.false_eq_true, if_false, Result.andThen_ok]
    rw [ih]
    have : putC (w.setCell (p.add i) v).heap (p.add (i + 1)) rest = putC w.heap (p.add i) (v :: rest) := by
      rw [add_spot hs i] at hb' ⊢
      rw [add_spot hs (i + 1)]
      rw [putC_at (p := ⟨p.block, p.off + (i + 1), none⟩) hb', putC_at (p := ⟨p.block, p.off + i, none⟩) hb]
      rw [add_spot hs i] at hheap
      simp only
      rw [hheap, ← splice_set arr (p.off + i) v rest hlt]
      rw [show p.off + (i + 1) = p.off + i + 1 by omega]
      rw [Array.setIfInBounds_setIfInBounds]
    rw [this]
    have e1 : (w.setCell (p.add i) v).tape = w.tape := rfl
    have e2 : (w.setCell (p.add i) v).drawn = w.drawn := rfl
    have e3 : (w.setCell (p.add i) v).os = w.os := rfl
    have e4 : (w.setCell (p.add i) v).output = w.output := rfl
    rw [e1, e2, e3, e4]
/-- a field's store, told as a store of the whole -/
theorem putC_field {h : H} {p : Addr} {cs nv : List Value} (off : Nat) (H : AtH h p cs) (hlen : off + nv.length ≤ cs.length) :
    putC h (p.add off) nv = putC h p (cs.take off ++ nv ++ cs.drop (off + nv.length)) := by
  obtain ⟨hs, arr, T, fr, hb, hc⟩ := H
  rw [add_spot hs]
  unfold putC
  simp only [hb]
  congr 2
  cases hcs : cs with
  | nil =>
    subst hcs
    have h0 : off = 0 ∧ nv = [] := ⟨by simp only [List.length_nil] at hlen; omega, List.eq_nil_of_length_eq_zero (by simp only [List.length_nil] at hlen; omega)⟩
    obtain ⟨rfl, rfl⟩ := h0
    simp
  | cons c0 cr =>
    rw [← hcs]
    have hsz : p.off + cs.length ≤ arr.size := by
      have hp : 0 < cs.length := by rw [hcs]; simp
      have := hc (cs.length - 1) cs[cs.length - 1] (List.getElem?_eq_getElem (by omega))
      rw [Array.getElem?_eq_some_iff] at this
      obtain ⟨h3, _⟩ := this
      omega
    obtain ⟨A, B, hl, hA⟩ : ∃ A B, arr.toList = A ++ (cs ++ B) ∧ A.length = p.off := by
      refine ⟨arr.toList.take p.off, arr.toList.drop (p.off + cs.length), ?_, by simp; omega⟩
      have : cs = (arr.toList.drop p.off).take cs.length := by
        apply List.ext_getElem?
        intro i
        rw [List.getElem?_take, List.getElem?_drop]
        split
        · rename_i hi
          have := hc i cs[i] (List.getElem?_eq_getElem hi)
          simp [this, hi]
        · rename_i hi; rw [List.getElem?_eq_none (by omega)]
      conv => rhs; rw [this]
      rw [show (List.take cs.length (List.drop p.off arr.toList)).length = cs.length by rw [← this]]
      rw [← List.drop_drop, List.take_append_drop, List.take_append_drop]
    obtain ⟨c1, c2, c3, hcc, h1, h2⟩ : ∃ c1 c2 c3, cs = c1 ++ (c2 ++ c3) ∧ c1.length = off ∧ c2.length = nv.length := by
      refine ⟨cs.take off, (cs.drop off).take nv.length, cs.drop (off + nv.length), ?_, by simp; omega, by simp; omega⟩
      rw [← List.drop_drop, List.take_append_drop, List.take_append_drop]
    unfold splice
    rw [hl, hcc, ← hA, ← h1]
    congr 1
    rw [show A.length + c1.length = (A ++ c1).length by simp]
    rw [show A ++ (c1 ++ (c2 ++ c3) ++ B) = (A ++ c1) ++ (c2 ++ (c3 ++ B)) by simp]
    rw [List.take_left', List.take_left' rfl]
    · rw [← h2, show (A ++ c1).length + c2.length = (A ++ c1 ++ c2).length by simp [Nat.add_assoc], show A ++ c1 ++ (c2 ++ (c3 ++ B)) = (A ++ c1 ++ c2) ++ (c3 ++ B) by simp, List.drop_left']
      · rw [show c1.length + c2.length = (c1 ++ c2).length by simp, show c1 ++ (c2 ++ c3) = (c1 ++ c2) ++ c3 by simp, List.drop_left' rfl]
        rw [show A ++ c1 ++ c2 ++ (c3 ++ B) = A ++ (c1 ++ c2 ++ c3) ++ B by simp]
        rw [show (A ++ (c1 ++ c2 ++ c3) ++ B).take A.length = A by simp]
        rw [List.drop_left']
        · simp
        · simp [h2]
      · rfl
    · rfl
section
variable {C : Ctx} {ρ : Env} {h : H} {ty : TypeId} {Q : Exit → Act → World → Prop} {J : Env → H → Prop} {dst : Option Tmp}
/-- an operation that may change the heap -/
def OpE (C : Ctx) (Q : Exit → Act → World → Prop) (o : Op) (ty : TypeId) (dst : Option Tmp) (J : Env → H → Prop) (ρ : Env) (h : H) : Prop :=
  ∀ a w, St C ρ h a w → ∀ (pos : String) (after : Array Edge) (g : Option (Nat × Bool)), Oper.wp C.P ⟨dst, o, ty, pos, after, g⟩ a w (JA C J) Q
/-- what an operation's run comes to -/
theorem OpE.of {o : Op} {v : Value} (hd : okd C.n dst = true) (h' : H)
    (hr : ∀ w, w.heap = h → ∀ (pos : String) (after : Array Edge) (g : Option (Nat × Bool)), ∃ w', (execOp (ev ρ) ⟨dst, o, ty, pos, after, g⟩).run C.P w = .ok (.value v) w' ∧ w'.heap = h' ∧ w'.tape = w.tape ∧ w'.os = w.os ∧ w'.output = w.output)
    (hj : J (upo ρ dst v) h') : OpE C Q o ty dst J ρ h := by
  intro a w s pos after g
  obtain ⟨w', hr, hh, ht, ho, hu⟩ := hr w s.heap pos after g
  unfold Oper.wp
  rw [s.evals, hr]
  have s1 := (s.put hd v).world ht ho hu
  rw [hh] at s1
  exact ⟨_, _, s1, hj⟩
theorem OpE.ofSkip {o : Op} (h' : H) (hd : dst = none)
    (hr : ∀ w, w.heap = h → ∀ (pos : String) (after : Array Edge) (g : Option (Nat × Bool)), ∃ w', (execOp (ev ρ) ⟨dst, o, ty, pos, after, g⟩).run C.P w = .ok .skip w' ∧ w'.heap = h' ∧ w'.tape = w.tape ∧ w'.os = w.os ∧ w'.output = w.output)
    (hj : J ρ h') : OpE C Q o ty dst J ρ h := by
  subst hd
  intro a w s pos after g
  obtain ⟨w', hr, hh, ht, ho, hu⟩ := hr w s.heap pos after g
  unfold Oper.wp
  rw [s.evals, hr]
  have s1 := s.world ht ho hu
  rw [hh] at s1
  exact ⟨_, _, s1, hj⟩
def ZeroOf (P : Program) (t : TypeId) (cs : List Value) : Prop := ∃ i z, P.info? t = some i ∧ i.zero = some z ∧ z.cells = cs.toArray
theorem e_alloc {T : TypeId} {cs : List Value} (hz : ZeroOf C.P T cs) (hd : okd C.n dst = true) (hj : J (upo ρ dst (.pointer (some ⟨h.size, 0, none⟩))) (newC h T cs)) : OpE C Q (.alloc T) ty dst J ρ h := by
  obtain ⟨i, z, hi, hz, hc⟩ := hz
  refine OpE.of hd (newC h T cs) (fun w hw pos after g => ⟨{ w with heap := newC h T cs }, ?_, rfl, rfl, rfl, rfl⟩) hj
  subst hw
  simp [execOp, Instr.alloc, zeroValue, typeInfo, hi, hz, newVar, newRow, hc, newC]
theorem e_box {T : TypeId} {x : Operand} {v : Value} {cs : List Value} (hx : ev ρ x = v) (hv : v.cells = cs.toArray) (hd : okd C.n dst = true) (hj : J (upo ρ dst (.pointer (some ⟨h.size, 0, none⟩))) (newC h T cs)) : OpE C Q (.box T x) ty dst J ρ h := by
  refine OpE.of hd (newC h T cs) (fun w hw pos after g => ⟨{ w with heap := newC h T cs }, ?_, rfl, rfl, rfl, rfl⟩) hj
  subst hw
  simp [execOp, Instr.box, hx, newVar, newRow, hv, newC]
theorem e_store {T : TypeId} {x y : Operand} {v : Value} {p : Addr} {cs cs' nv : List Value} (off : Nat) (hx : ev ρ x = .pointer (some (p.add off))) (hy : ev ρ y = v) (hv : v.cells = nv.toArray) (hT : SizeOf C.P T nv.length)
    (h1 : nv.all (·.oneCell') = true) (hat : AtH h p cs) (hw : WAt h p cs.length) (hl : Nat.ble (off + nv.length) cs.length = true) (hcs : cs.take off ++ nv ++ cs.drop (off + nv.length) = cs') (hj : J ρ (putC h p cs')) :
    OpE C Q (.store T x y) ty none J ρ h := by
  have hl' : off + nv.length ≤ cs.length := Nat.le_of_ble_eq_true hl
  refine OpE.ofSkip (putC h p cs') rfl (fun w hw' pos after g => ⟨{ w with heap := putC h p cs' }, ?_, rfl, rfl, rfl, rfl⟩) hj
  subst hw'
  have hs : (p.add off).spot = none := by rw [add_spot hat.1]
  have hst := run_storeCellsH C.P (p.add off) hs nv 0 w (by rw [show (p.add off).add 0 = p.add off from rfl]; exact hw.sub off _ hl') h1
  rw [show (p.add off).add 0 = p.add off from rfl, putC_field off hat hl', hcs] at hst
  simp [execOp, hx, hy, Instr.storeAt, Instr.sureAddr, storeVar, hv, run_sizeOf hT, hst]
end
end Go.Sh
namespace Go.Sh
open Go
open Go.Sh.Ty (reg)
/-- a call that returns, told over heaps -/
def CallsH (P : Program) (f : FuncId) (args : Array Value) (h : H) (R : Value → H → Prop) : Prop :=
  ∀ w, w.heap = h → Calls P f args w fun e w' => ∃ v, e = .returned v ∧ w'.tape = w.tape ∧ w'.os = w.os ∧ w'.output = w.output ∧ R v w'.heap
theorem CallsH.mono {P : Program} {f : FuncId} {args : Array Value} {h : H} {R R' : Value → H → Prop} (hc : CallsH P f args h R) (hr : ∀ v h', R v h' → R' v h') : CallsH P f args h R' :=
  fun w hw => (hc w hw).mono fun _ _ ⟨v, e, ht, ho, hu, r⟩ => ⟨v, e, ht, ho, hu, hr _ _ r⟩
def RetOk (w0 : World) (R : Value → H → Prop) (e : Ending) (w' : World) : Prop :=
  ∃ v, e = .returned v ∧ w'.tape = w0.tape ∧ w'.os = w0.os ∧ w'.output = w0.output ∧ R v w'.heap
def env0 (args : List Value) : Env := fun i => args.getD i undef
/-- the way into a function -/
theorem CallsH.of {P : Program} {f : FuncId} {fn : Func} {c : Code} (n : Nat) {args : List Value} {h : H} {R : Value → H → Prop} (hf : P.funcs[f]? = some fn) (hb : fn.body = some c) (hn : fn.ntmps = n) (ha : Nat.ble args.length n = true)
    (hh : ∀ w0, CW ⟨P, w0, n⟩ c (bodyPost P fn (RetOk w0 R)) (env0 args) h) : CallsH P f args.toArray h R := by
  intro w hw
  refine (calls_of_wp (R := RetOk w R) hf hb (hh w _ _ ?_)).mono fun e w' hr => hr
  have ha' : args.length ≤ n := Nat.le_of_ble_eq_true ha
  refine ⟨fun t => ?_, by simp [hn]; omega, rfl, hw, rfl, rfl, rfl⟩
  simp only [env0, Array.getD_eq_getD_getElem?, List.getD_eq_getElem?_getD]
  rw [Array.getElem?_append]
  split
  · simp
  · rename_i hlt
    rw [Array.getElem?_replicate]
    rw [List.getElem?_eq_none (by simpa using hlt)]
    split <;> rfl
section
variable {P : Program} {w0 : World} {n : Nat} {ρ : Env} {h : H} {fn : Func} {R : Value → H → Prop}
theorem ret1 {t : Tmp} (hr : fn.results = #[.tmp t]) {v : Value} (hv : ρ t = v) (hR : R v h) : QN ⟨P, w0, n⟩ (bodyPost P fn (RetOk w0 R)) .ret ρ h := by
  intro a w s
  refine ⟨s.defers, v, ?_, v, rfl, s.tape, s.os, s.output, ?_⟩
  · have := s.env t
    simp [results, hr, ← hv, ← this, Array.mapM_eq_mapM_toList]
  · rw [s.heap]; exact hR
theorem ret0 (hr : fn.results = #[]) (hR : R (.tuple #[]) h) : QN ⟨P, w0, n⟩ (bodyPost P fn (RetOk w0 R)) .ret ρ h := by
  intro a w s
  refine ⟨s.defers, .tuple #[], ?_, .tuple #[], rfl, s.tape, s.os, s.output, ?_⟩
  · simp [results, hr, Array.mapM_eq_mapM_toList]
  · rw [s.heap]; exact hR
theorem ret0n (hr : fn.results = #[]) (hR : R (.tuple #[]) h) : QN ⟨P, w0, n⟩ (bodyPost P fn (RetOk w0 R)) .normal ρ h := by
  intro a w s
  refine ⟨s.defers, .tuple #[], ?_, .tuple #[], rfl, s.tape, s.os, s.output, ?_⟩
  · simp [results, hr, Array.mapM_eq_mapM_toList]
  · rw [s.heap]; exact hR
theorem run_loadVarA {T : TypeId} {m : Nat} {p : Addr} {cs : List Value} {w : World} (hT : IsAgg P T m) (hat : AtH h p cs) (hl : cs.length = m) (hw : w.heap = h) : (loadVar T p).run P w = .ok (.agg cs.toArray) w := by
  have := run_loadCells_list (P := P) (w := w) p cs (fun j v hj => cell?_of hw hat hj)
  rw [hl] at this
  simp [loadVar, run_isAgg_yes hT, run_sizeOf hT.size, this]
theorem retc {t : Tmp} {T : TypeId} (hr : fn.results = #[.cell t T]) {m : Nat} {p : Addr} {cs : List Value} (hv : ρ t = .pointer (some p)) (hT : IsAgg P T m) (hat : AtH h p cs) (hl : cs.length = m) (hR : R (.agg cs.toArray) h) : QN ⟨P, w0, n⟩ (bodyPost P fn (RetOk w0 R)) .ret ρ h := by
  intro a w s
  have h1 := s.env t
  rw [hv, Array.getD_eq_getD_getElem?] at h1
  refine ⟨s.defers, .agg cs.toArray, ?_, .agg cs.toArray, rfl, s.tape, s.os, s.output, ?_⟩
  · simp [results, hr, h1, Array.mapM_eq_mapM_toList, asAddr, run_loadVarA hT hat hl s.heap]
  · rw [s.heap]; exact hR
theorem retc1 {t u : Tmp} {T : TypeId} (hr : fn.results = #[.cell t T, .tmp u]) {m : Nat} {p : Addr} {cs : List Value} {x : Value} (hv : ρ t = .pointer (some p)) (hT : IsAgg P T m) (hat : AtH h p cs) (hl : cs.length = m) (hx : ρ u = x) (hR : R (.tuple #[.agg cs.toArray, x]) h) : QN ⟨P, w0, n⟩ (bodyPost P fn (RetOk w0 R)) .ret ρ h := by
  intro a w s
  have h1 := s.env t
  rw [hv, Array.getD_eq_getD_getElem?] at h1
  have h2 := s.env u
  refine ⟨s.defers, .tuple #[.agg cs.toArray, x], ?_, _, rfl, s.tape, s.os, s.output, ?_⟩
  · simp [results, hr, h1, ← hx, ← h2, Array.mapM_eq_mapM_toList, asAddr, run_loadVarA hT hat hl s.heap]
  · rw [s.heap]; exact hR
theorem retc2 {t u y : Tmp} {T : TypeId} (hr : fn.results = #[.cell t T, .tmp u, .tmp y]) {m : Nat} {p : Addr} {cs : List Value} {x z : Value} (hv : ρ t = .pointer (some p)) (hT : IsAgg P T m) (hat : AtH h p cs) (hl : cs.length = m) (hx : ρ u = x) (hz : ρ y = z) (hR : R (.tuple #[.agg cs.toArray, x, z]) h) : QN ⟨P, w0, n⟩ (bodyPost P fn (RetOk w0 R)) .ret ρ h := by
  intro a w s
  have h1 := s.env t
  rw [hv, Array.getD_eq_getD_getElem?] at h1
  have h2 := s.env u
  have h3 := s.env y
  refine ⟨s.defers, .tuple #[.agg cs.toArray, x, z], ?_, _, rfl, s.tape, s.os, s.output, ?_⟩
  · simp [results, hr, h1, ← hx, ← h2, ← hz, ← h3, Array.mapM_eq_mapM_toList, asAddr, run_loadVarA hT hat hl s.heap]
  · rw [s.heap]; exact hR
end
section
variable {C : Ctx} {ρ : Env} {h : H} {ty : TypeId} {Q : Exit → Act → World → Prop} {J : Env → H → Prop} {dst : Option Tmp}
def FnOk (P : Program) (f : FuncId) : Prop := ∃ fn, P.funcs[f]? = some fn ∧ (fn.name == "runtime.NumGoroutine") = false ∧ fn.body.isNone = false
theorem run_callFunc {P : Program} {f : FuncId} (hf : FnOk P f) (vs : Array Value) (w : World) : (callFunc f vs).run P w = .ok (.enter f vs) w := by
  obtain ⟨fn, h1, h2, h3⟩ := hf
  unfold callFunc
  simp only [Sem.run_bind, run_program, Result.andThen_ok, h1, h2, h3, Bool.false_eq_true, if_false, Sem.run_pure]
theorem e_call {f : FuncId} {xs : Array Operand} {ts : Array TypeId} {vs : Array Value} (hf : FnOk C.P f) (hx : xs.map (ev ρ) = vs) (hd : okd C.n dst = true) (hc : CallsH C.P f vs h fun v h' => J (upo ρ dst v) h') :
    OpE C Q (.call ⟨.value (.func f), xs, ts⟩) ty dst J ρ h := by
  intro a w s pos after g
  unfold Oper.wp
  rw [s.evals]
  have hr : (execOp (ev ρ) ⟨dst, .call ⟨.value (.func f), xs, ts⟩, ty, pos, after, g⟩).run C.P w = .ok (.enter f vs) w := by
    simp [execOp, resolve, ev, Deferred.ofValue, invoke, run_callFunc hf, hx]
  rw [hr]
  show Calls C.P f vs w _
  refine (hc w s.heap).mono ?_
  rintro e w' ⟨v, rfl, ht, ho, hu, hJ⟩
  exact ⟨_, _, (s.put hd v).world ht ho hu, hJ⟩
/-- parts laid into zeros -/
def fillL (place : Nat → Option (Nat × Nat)) (cells : List Value) : List (Nat × Value) → Option (List Value)
  | [] => some cells
  | (i, v) :: rest => match place i with
    | none => none
    | some (off, size) => if Nat.beq v.cells.size size && Nat.ble (off + size) cells.length then fillL place (cells.take off ++ v.cells.toList ++ cells.drop (off + size)) rest else none
theorem foldl_splice : ∀ (vs : List Value) (o k : Nat) (cs : Array Value), o + k + vs.length ≤ cs.size →
    (vs.zipIdx k).foldl (fun cs (c, j) => cs.setIfInBounds (o + j) c) cs = splice cs (o + k) vs
  | [], o, k, cs, _ => by simp [splice]
  | v :: vs, o, k, cs, h => by
    simp only [List.zipIdx_cons, List.foldl_cons]
    simp only [List.length_cons] at h
    rw [foldl_splice vs o (k + 1) _ (by simp; omega), ← splice_set cs (o + k) v vs (by omega)]
    rfl
theorem fill_of {place : Nat → Option (Nat × Nat)} : ∀ (parts : List (Nat × Value)) (cells out : List Value), fillL place cells parts = some out → Instr.fill place cells.toArray parts = some out.toArray
  | [], cells, out, h => by simp [fillL] at h; simp [Instr.fill, h]
  | (i, v) :: rest, cells, out, h => by
    unfold fillL at h
    unfold Instr.fill
    split at h
    · cases h
    · rename_i off size hp
      rw [hp]
      simp only
      split at h
      · rename_i hc
        rw [Bool.and_eq_true] at hc
        have e1 : v.cells.size = size := Nat.eq_of_beq_eq_true hc.1
        have e2 : off + size ≤ cells.length := Nat.le_of_ble_eq_true hc.2
        rw [if_neg (by simp [e1]; omega)]
        have := foldl_splice v.cells.toList off 0 cells.toArray (by simp [e1]; omega)
        rw [← Array.foldl_toList, Array.toList_zipIdx, this]
        have e3 : splice cells.toArray (off + 0) v.cells.toList = (cells.take off ++ v.cells.toList ++ cells.drop (off + size)).toArray := by
          simp [splice, e1]
        rw [e3]
        exact fill_of rest _ _ h
      · cases h
/-- a struct's fields' places -/
def PlacesT (P : Program) (t : TypeId) (ps : List (Nat × Nat)) : Prop := ∃ fs, P.underlying t = some (.struct fs) ∧ fs.toList.mapM (fun f => (P.info? f.type).map fun i => (f.offset, i.size)) = some ps
theorem run_places {P : Program} (w : World) : ∀ (fs : List Field) (ps : List (Nat × Nat)), fs.mapM (fun f => (P.info? f.type).map fun i => (f.offset, i.size)) = some ps →
    (fs.mapM (m := Sem) fun f => do pure (f.offset, ← sizeOf f.type)).run P w = .ok ps w
  | [], ps, h => by simp at h; subst h; simp
  | f :: fs, ps, h => by
    rw [List.mapM_cons] at h
    simp only [bind, Option.bind_eq_some_iff, Option.map_eq_some_iff, pure, Option.some.injEq] at h
    obtain ⟨_, ⟨i, hi, rfl⟩, ps', hps, rfl⟩ := h
    have := run_places w fs ps' hps
    rw [List.mapM_cons]
    simp only [Sem.run_bind, run_sizeOf ⟨i, hi, rfl⟩, Result.andThen_ok, Sem.run_pure] at this ⊢
    rw [this]
    simp
theorem v_build {t : TypeId} {parts : Array (Nat × Operand)} {z out : List Value} {ps : List (Nat × Nat)} {vs : List (Nat × Value)} (hz : ZeroOf C.P t z) (hp : PlacesT C.P t ps) (hv : parts.toList.map (fun p => (p.1, ev ρ p.2)) = vs)
    (hf : fillL (fun i => ps[i]?) z vs = some out) : OpVal C (.build t parts) ty ρ h (.agg out.toArray) := by
  obtain ⟨i, zv, hi, hzv, hc⟩ := hz
  obtain ⟨fs, hu, hps⟩ := hp
  intro w hw pos after g d
  have h1 := run_places (P := C.P) w fs.toList ps hps
  have h2 : (parts.map fun (i, x) => (i, ev ρ x)).toList = vs := by simpa using hv
  have h3 := fill_of (place := fun i => ps.toArray[i]?) vs z out (by simpa using hf)
  have h4 : (fs.mapM (m := Sem) fun f => do pure (f.offset, ← sizeOf f.type)).run C.P w = .ok ps.toArray w := by
    rw [Array.mapM_eq_mapM_toList]
    simp only [Sem.run_map]
    rw [h1]
    rfl
  simp only [execOp, Instr.build, Sem.run_bind, zeroValue, typeInfo, run_program, hi, Sem.run_pure, Result.andThen_ok, hzv, run_underlying hu, h4, h2, hc, h3]
theorem v_build_a {t e : TypeId} {n size : Nat} {parts : Array (Nat × Operand)} {z out : List Value} {vs : List (Nat × Value)} (hz : ZeroOf C.P t z) (hp : ArrT C.P t n e size) (hv : parts.toList.map (fun p => (p.1, ev ρ p.2)) = vs)
    (hf : fillL (fun i => some (i * size, size)) z vs = some out) : OpVal C (.build t parts) ty ρ h (.agg out.toArray) := by
  obtain ⟨i, zv, hi, hzv, hc⟩ := hz
  obtain ⟨hu, hsz⟩ := hp
  intro w hw pos after g d
  have h2 : (parts.map fun (i, x) => (i, ev ρ x)).toList = vs := by simpa using hv
  have h3 := fill_of (place := fun i => some (i * size, size)) vs z out hf
  simp only [execOp, Instr.build, Sem.run_bind, zeroValue, typeInfo, run_program, hi, Sem.run_pure, Result.andThen_ok, hzv, run_underlying hu, run_sizeOf hsz, h2, hc, h3]
/-- a slice of values written out -/
theorem e_buildSlice {t e : TypeId} {n size : Nat} {parts : Array (Nat × Operand)} {z out : List Value} {vs : List (Nat × Value)} (hz : ZeroOf C.P e z) (hp : SlT C.P t e size) (hzl : z.length = size) (hv : parts.toList.map (fun p => (p.1, ev ρ p.2)) = vs)
    (hn : Nat.ble (n * size) 16777216 = true) (hf : fillL (fun i => some (i * size, size)) (List.replicate n z).flatten vs = some out) (hd : okd C.n dst = true)
    (hj : J (upo ρ dst (.slice (some ⟨h.size, 0, none⟩) n n)) (newC h e out)) : OpE C Q (.buildSlice t n parts) ty dst J ρ h := by
  obtain ⟨i, zv, hi, hzv, hc⟩ := hz
  obtain ⟨hu, hsz⟩ := hp
  have hn' : n * size ≤ 16777216 := Nat.le_of_ble_eq_true hn
  refine OpE.of hd (newC h e out) (fun w hw pos after g => ⟨{ w with heap := newC h e out }, ?_, rfl, rfl, rfl, rfl⟩) hj
  subst hw
  have h2 : (parts.map fun (i, x) => (i, ev ρ x)).toList = vs := by simpa using hv
  have h3 := fill_of (place := fun i => some (i * size, size)) vs _ out hf
  by_cases h0 : n * size = 0
  · have hz0 : ((Array.range (n * size)).map fun x => (#[] : Array Value)[x % (#[] : Array Value).size]!) = (List.replicate n z).flatten.toArray := by
      rw [h0]
      have : (List.replicate n z).flatten = [] := List.eq_nil_of_length_eq_zero (by simp [hzl, h0])
      rw [this]; simp
    simp only [execOp, Instr.buildSlice, Sem.run_bind, run_underlying hu, run_sizeOf hsz, Result.andThen_ok, Sem.run_ite, h0, show ¬ (0 > 2 ^ 24) by decide, if_false, if_true, Sem.run_pure] 
    rw [h0] at hz0
    simp only [h2, hz0, h3]
    simp [newRow, newC]
  · have hz1 : ((Array.range (n * size)).map fun x => zv.cells[x % zv.cells.size]!) = (List.replicate n z).flatten.toArray := by
      rw [hc]
      have hs0 : 0 < size := by rcases Nat.eq_zero_or_pos size with e | e; · subst e; simp at h0
                                · exact e
      apply Array.ext
      · simp [hzl]
      · intro j h1 h2
        simp only [Array.size_map, Array.size_range] at h1
        have hfl : ∀ (m j : Nat), j < m * size → (List.replicate m z).flatten[j]? = z[j % size]? := by
          intro m
          induction m with
          | zero => intro j hj; simp at hj
          | succ m ih =>
            intro j hj
            rw [List.replicate_succ, List.flatten_cons, List.getElem?_append, hzl]
            split
            · rename_i hlt; rw [Nat.mod_eq_of_lt hlt]
            · rename_i hge
              have e : (m + 1) * size = m * size + size := Nat.succ_mul m size
              rw [ih (j - size) (by omega), Nat.mod_eq_sub_mod (by omega : j ≥ size)]
        have := hfl n j h1
        have hlt : j % size < z.length := by rw [hzl]; exact Nat.mod_lt _ hs0
        rw [List.getElem?_eq_getElem hlt, List.getElem?_eq_some_iff] at this
        obtain ⟨h5, h6⟩ := this
        simp only [Array.getElem_map, Array.getElem_range, List.getElem_toArray, List.size_toArray, hzl]
        rw [h6, getElem!_pos _ _ (by simpa [hzl] using Nat.mod_lt _ hs0)]
        rfl
    simp only [execOp, Instr.buildSlice, Sem.run_bind, run_underlying hu, run_sizeOf hsz, Result.andThen_ok, Sem.run_ite, show ¬ (n * size > 2 ^ 24) by simp; omega, if_false, h0, zeroValue, typeInfo, run_program, hi, hzv, Sem.run_pure]
    simp only [h2, hz1, h3]
    simp [newRow, newC]
end
end Go.Sh
namespace Go.Sh
open Go
open Go.Sh.Ty (reg)
section
variable {C : Ctx} {ops : Array Oper} {Q : Exit → Act → World → Prop} {J : Env → H → Prop} {ρ : Env} {h : H} {os : List Oper} {o : Op} {ty : TypeId} {dst : Option Tmp} {pos : String} {after : Array Edge} {v : Value}
/-- a guarded slot's value -/
def gdt (g : Bool) (v : Value) : Value := cond g v undef
def gdf (g : Bool) (v : Value) : Value := cond g undef v
theorem gt {g : Bool} {v : Value} (hg : g = true) : gdt g v = v := by subst hg; rfl
theorem gf {g : Bool} {v : Value} (hg : g = false) : gdf g v = v := by subst hg; rfl
theorem OpW.val (hd : okd C.n dst = true) (hv : OpVal C o ty ρ h v) (hj : J (upo ρ dst v) h) : OpW C ops Q ⟨dst, o, ty, pos, after, none⟩ J ρ h := by
  intro a w s
  rw [if_pos (show Region.wanted ⟨dst, o, ty, pos, after, none⟩ (yielded ops a.tmps) = true from rfl)]
  unfold Oper.wp
  rw [s.evals, hv w s.heap]
  exact ⟨_, _, s.put hd v, hj⟩
theorem OpW.e (he : OpE C Q o ty dst J ρ h) : OpW C ops Q ⟨dst, o, ty, pos, after, none⟩ J ρ h := by
  intro a w s
  rw [if_pos (show Region.wanted ⟨dst, o, ty, pos, after, none⟩ (yielded ops a.tmps) = true from rfl)]
  exact he a w s _ _ _
theorem wanted_eq {a : Act} {w : World} (s : St C ρ h a w) {g : Nat × Bool} {t : Nat} {b : Bool} (ht : (ops[g.1]?).bind (·.dst) = some t) (hg : ρ t = .bool b) (htn : Nat.blt t C.n = true) :
    Region.wanted ⟨dst, o, ty, pos, after, some g⟩ (yielded ops a.tmps) = (b == g.2) := by
  obtain ⟨g1, g2⟩ := g
  have := s.env t
  have hlt : t < a.tmps.size := by rw [s.size]; simpa [Nat.blt_eq] using htn
  simp only [Array.getD_eq_getD_getElem?, Array.getElem?_eq_getElem hlt, Option.getD_some] at this
  simp only [Region.wanted, yielded, ht, Option.bind_some, Array.getElem?_eq_getElem hlt, this, hg]
  cases b <;> cases g2 <;> rfl
theorem OpW.no {g : Nat × Bool} (t : Nat) (ht : (ops[g.1]?).bind (·.dst) = some t) (hg : ρ t = .bool (!g.2)) (htn : Nat.blt t C.n = true) (hd : okd C.n dst = true) (hj : J (upo ρ dst undef) h) :
    OpW C ops Q ⟨dst, o, ty, pos, after, some g⟩ J ρ h := by
  intro a w s
  rw [wanted_eq s ht hg htn, if_neg (by cases g.2 <;> simp)]
  exact ⟨_, _, s.put hd undef, hj⟩
theorem OpW.ye {g : Nat × Bool} (t : Nat) (ht : (ops[g.1]?).bind (·.dst) = some t) (hg : ρ t = .bool g.2) (htn : Nat.blt t C.n = true) (he : OpE C Q o ty dst J ρ h) :
    OpW C ops Q ⟨dst, o, ty, pos, after, some g⟩ J ρ h := by
  intro a w s
  rw [wanted_eq s ht hg htn, if_pos (by simp)]
  exact he a w s _ _ _
theorem OpW.yv {g : Nat × Bool} (t : Nat) (ht : (ops[g.1]?).bind (·.dst) = some t) (hg : ρ t = .bool g.2) (htn : Nat.blt t C.n = true) (hd : okd C.n dst = true) (hv : OpVal C o ty ρ h v) (hj : J (upo ρ dst v) h) :
    OpW C ops Q ⟨dst, o, ty, pos, after, some g⟩ J ρ h := by
  intro a w s
  rw [wanted_eq s ht hg htn, if_pos (by simp)]
  unfold Oper.wp
  rw [s.evals, hv w s.heap]
  exact ⟨_, _, s.put hd v, hj⟩
/-- a guarded operation that only computes or reads, whichever way its guard says -/
theorem OpW.tv {gi : Nat} {b : Bool} (t : Nat) (ht : (ops[gi]?).bind (·.dst) = some t) (hg : ρ t = .bool b) (htn : Nat.blt t C.n = true) (hd : okd C.n dst = true) (hv : b = true → OpVal C o ty ρ h v) (hj : J (upo ρ dst (gdt b v)) h) :
    OpW C ops Q ⟨dst, o, ty, pos, after, some (gi, true)⟩ J ρ h := by
  cases b
  · exact OpW.no t ht hg htn hd hj
  · exact OpW.yv t ht hg htn hd (hv rfl) hj
theorem OpW.fv {gi : Nat} {b : Bool} (t : Nat) (ht : (ops[gi]?).bind (·.dst) = some t) (hg : ρ t = .bool b) (htn : Nat.blt t C.n = true) (hd : okd C.n dst = true) (hv : b = false → OpVal C o ty ρ h v) (hj : J (upo ρ dst (gdf b v)) h) :
    OpW C ops Q ⟨dst, o, ty, pos, after, some (gi, false)⟩ J ρ h := by
  cases b
  · exact OpW.yv t ht hg htn hd (hv rfl) hj
  · exact OpW.no t ht hg htn hd hj
theorem RLK.val (hv : OpVal C o ty ρ h v) (hd : okd C.n dst = true) (hj : RLK C ops Q J os (upo ρ dst v) h) : RLK C ops Q J (⟨dst, o, ty, pos, after, none⟩ :: os) ρ h := .s (OpW.val hd hv hj)
theorem RLK.e (he : OpE C Q o ty dst (RLK C ops Q J os) ρ h) : RLK C ops Q J (⟨dst, o, ty, pos, after, none⟩ :: os) ρ h := .s (OpW.e he)
theorem RLK.no {g : Nat × Bool} (t : Nat) (ht : (ops[g.1]?).bind (·.dst) = some t) (hg : ρ t = .bool (!g.2)) (htn : Nat.blt t C.n = true) (hd : okd C.n dst = true) (hj : RLK C ops Q J os (upo ρ dst undef) h) : RLK C ops Q J (⟨dst, o, ty, pos, after, some g⟩ :: os) ρ h := .s (OpW.no t ht hg htn hd hj)
theorem RLK.ye {g : Nat × Bool} (t : Nat) (ht : (ops[g.1]?).bind (·.dst) = some t) (hg : ρ t = .bool g.2) (htn : Nat.blt t C.n = true) (he : OpE C Q o ty dst (RLK C ops Q J os) ρ h) : RLK C ops Q J (⟨dst, o, ty, pos, after, some g⟩ :: os) ρ h := .s (OpW.ye t ht hg htn he)
theorem RLK.yv {g : Nat × Bool} (t : Nat) (ht : (ops[g.1]?).bind (·.dst) = some t) (hg : ρ t = .bool g.2) (htn : Nat.blt t C.n = true) (hv : OpVal C o ty ρ h v) (hd : okd C.n dst = true) (hj : RLK C ops Q J os (upo ρ dst v) h) : RLK C ops Q J (⟨dst, o, ty, pos, after, some g⟩ :: os) ρ h := .s (OpW.yv t ht hg htn hd hv hj)
theorem RLK.tv {gi : Nat} {b : Bool} (t : Nat) (ht : (ops[gi]?).bind (·.dst) = some t) (hg : ρ t = .bool b) (htn : Nat.blt t C.n = true) (hv : b = true → OpVal C o ty ρ h v) (hd : okd C.n dst = true) (hj : RLK C ops Q J os (upo ρ dst (gdt b v)) h) : RLK C ops Q J (⟨dst, o, ty, pos, after, some (gi, true)⟩ :: os) ρ h := .s (OpW.tv t ht hg htn hd hv hj)
theorem RLK.fv {gi : Nat} {b : Bool} (t : Nat) (ht : (ops[gi]?).bind (·.dst) = some t) (hg : ρ t = .bool b) (htn : Nat.blt t C.n = true) (hv : b = false → OpVal C o ty ρ h v) (hd : okd C.n dst = true) (hj : RLK C ops Q J os (upo ρ dst (gdf b v)) h) : RLK C ops Q J (⟨dst, o, ty, pos, after, some (gi, false)⟩ :: os) ρ h := .s (OpW.fv t ht hg htn hd hv hj)
end
section
variable {C : Ctx} {ops : Array Oper} {Q : Exit → Act → World → Prop} {J : Env → H → Prop} {ρ : Env} {h : H} {R : List Nat} {T : Nat → H → Prop} {fuel : Nat} {listed : Array Bool}
theorem AW.mono {T' : Nat → H → Prop} (ht : ∀ i h, T i h → T' i h) (hh : AW C ops Q R T fuel listed ρ h) : AW C ops Q R T' fuel listed ρ h :=
  fun hc a w s => wpAnyT_mono (fun i w => ht i w.heap) _ _ _ _ (hh hc a w s)
/-- what can be asked of a region's operation by the kernel alone -/
def takeOk (ops : Array Oper) (R : List Nat) (listed : Array Bool) (n i : Nat) (dst : Option Tmp) : Bool :=
  okd n dst && R.contains i && Region.noSelect ops && (Region.ready .any ops listed).contains i && Region.free .any ops listed i
/-- an operation that only computes is taken first -/
theorem AW.p (i : Nat) {o : Op} {dst : Option Tmp} {ty : TypeId} {pos : String} {after : Array Edge} {v : Value}
    (hi : ops[i]? = some ⟨dst, o, ty, pos, after, none⟩) (hk : takeOk ops R listed C.n i dst = true) (hQ : NoPanic C Q)
    (hy : ∀ h', OpVal C o ty ρ h' v)
    (hh : AW C ops Q R T fuel (listed.setIfInBounds i true) (upo ρ dst v) h) :
    AW C ops Q R T (fuel + 1) listed ρ h := by
  simp only [takeOk, Bool.and_eq_true] at hk
  exact AW.t i v (fun _ => True) hi hk.1.1.1.1 hk.1.1.1.2 hk.1.1.2 hk.1.2 hk.2 hQ trivial (fun h' _ => hy h') (hh.mono fun _ _ h => ⟨h, .inr trivial⟩)
theorem AW.r (i : Nat) {o : Op} {dst : Option Tmp} {ty : TypeId} {pos : String} {after : Array Edge} {v : Value} (S : H → Prop)
    (hi : ops[i]? = some ⟨dst, o, ty, pos, after, none⟩) (hk : takeOk ops R listed C.n i dst = true) (hQ : NoPanic C Q)
    (hs : S h) (hy : ∀ h', S h' → OpVal C o ty ρ h' v)
    (hh : AW C ops Q R (fun j h' => T j h' ∧ (reachB ops ops.size i j = true ∨ S h')) fuel (listed.setIfInBounds i true) (upo ρ dst v) h) :
    AW C ops Q R T (fuel + 1) listed ρ h := by
  simp only [takeOk, Bool.and_eq_true] at hk
  exact AW.t i v S hi hk.1.1.1.1 hk.1.1.1.2 hk.1.1.2 hk.1.2 hk.2 hQ hs hy hh
theorem AW.no' (i : Nat) {o : Op} {dst : Option Tmp} {ty : TypeId} {pos : String} {after : Array Edge} {g : Nat × Bool} (t : Nat)
    (hi : ops[i]? = some ⟨dst, o, ty, pos, after, some g⟩) (ht : (ops[g.1]?).bind (·.dst) = some t) (hg : ρ t = .bool (!g.2)) (htn : Nat.blt t C.n = true)
    (hk : takeOk ops R listed C.n i dst = true) (hQ : NoPanic C Q)
    (hh : AW C ops Q R T fuel (listed.setIfInBounds i true) (upo ρ dst undef) h) :
    AW C ops Q R T (fuel + 1) listed ρ h := by
  simp only [takeOk, Bool.and_eq_true] at hk
  exact AW.no i t hi ht hg htn hk.1.1.1.1 hk.1.1.1.2 hk.1.1.2 hk.1.2 hk.2 hQ hh
theorem AW.yp (i : Nat) {o : Op} {dst : Option Tmp} {ty : TypeId} {pos : String} {after : Array Edge} {g : Nat × Bool} (t : Nat) {v : Value}
    (hi : ops[i]? = some ⟨dst, o, ty, pos, after, some g⟩) (ht : (ops[g.1]?).bind (·.dst) = some t) (hg : ρ t = .bool g.2) (htn : Nat.blt t C.n = true)
    (hk : takeOk ops R listed C.n i dst = true) (hQ : NoPanic C Q) (hy : ∀ h', OpVal C o ty ρ h' v)
    (hh : AW C ops Q R T fuel (listed.setIfInBounds i true) (upo ρ dst v) h) :
    AW C ops Q R T (fuel + 1) listed ρ h := by
  simp only [takeOk, Bool.and_eq_true] at hk
  exact AW.tg i t v (fun _ => True) hi ht hg htn hk.1.1.1.1 hk.1.1.1.2 hk.1.1.2 hk.1.2 hk.2 hQ trivial (fun h' _ => hy h') (hh.mono fun _ _ h => ⟨h, .inr trivial⟩)
theorem AW.yr (i : Nat) {o : Op} {dst : Option Tmp} {ty : TypeId} {pos : String} {after : Array Edge} {g : Nat × Bool} (t : Nat) {v : Value} (S : H → Prop)
    (hi : ops[i]? = some ⟨dst, o, ty, pos, after, some g⟩) (ht : (ops[g.1]?).bind (·.dst) = some t) (hg : ρ t = .bool g.2) (htn : Nat.blt t C.n = true)
    (hk : takeOk ops R listed C.n i dst = true) (hQ : NoPanic C Q) (hs : S h) (hy : ∀ h', S h' → OpVal C o ty ρ h' v)
    (hh : AW C ops Q R (fun j h' => T j h' ∧ (reachB ops ops.size i j = true ∨ S h')) fuel (listed.setIfInBounds i true) (upo ρ dst v) h) :
    AW C ops Q R T (fuel + 1) listed ρ h := by
  simp only [takeOk, Bool.and_eq_true] at hk
  exact AW.tg i t v S hi ht hg htn hk.1.1.1.1 hk.1.1.1.2 hk.1.1.2 hk.1.2 hk.2 hQ hs hy hh
theorem AW.fp (i : Nat) {o : Op} {dst : Option Tmp} {ty : TypeId} {pos : String} {after : Array Edge} {gi : Nat} {b : Bool} (t : Nat) {v : Value}
    (hi : ops[i]? = some ⟨dst, o, ty, pos, after, some (gi, false)⟩) (ht : (ops[gi]?).bind (·.dst) = some t) (hg : ρ t = .bool b) (htn : Nat.blt t C.n = true)
    (hk : takeOk ops R listed C.n i dst = true) (hQ : NoPanic C Q) (hy : b = false → ∀ h', OpVal C o ty ρ h' v)
    (hh : AW C ops Q R T fuel (listed.setIfInBounds i true) (upo ρ dst (gdf b v)) h) :
    AW C ops Q R T (fuel + 1) listed ρ h := by
  cases b
  · exact AW.yp i t hi ht hg htn hk hQ (hy rfl) hh
  · exact AW.no' i t hi ht hg htn hk hQ hh
theorem AW.tr (i : Nat) {o : Op} {dst : Option Tmp} {ty : TypeId} {pos : String} {after : Array Edge} {gi : Nat} {b : Bool} (t : Nat) {v : Value} (S : H → Prop)
    (hi : ops[i]? = some ⟨dst, o, ty, pos, after, some (gi, true)⟩) (ht : (ops[gi]?).bind (·.dst) = some t) (hg : ρ t = .bool b) (htn : Nat.blt t C.n = true)
    (hk : takeOk ops R listed C.n i dst = true) (hQ : NoPanic C Q) (hs : S h) (hy : b = true → ∀ h', S h' → OpVal C o ty ρ h' v)
    (hh : AW C ops Q R (fun j h' => T j h' ∧ (reachB ops ops.size i j = true ∨ S h')) fuel (listed.setIfInBounds i true) (upo ρ dst (gdt b v)) h) :
    AW C ops Q R T (fuel + 1) listed ρ h := by
  cases b
  · exact AW.no' i t hi ht hg htn hk hQ (hh.mono fun _ _ h => h.1)
  · exact AW.yr i t S hi ht hg htn hk hQ hs (hy rfl) hh
theorem AW.fr (i : Nat) {o : Op} {dst : Option Tmp} {ty : TypeId} {pos : String} {after : Array Edge} {gi : Nat} {b : Bool} (t : Nat) {v : Value} (S : H → Prop)
    (hi : ops[i]? = some ⟨dst, o, ty, pos, after, some (gi, false)⟩) (ht : (ops[gi]?).bind (·.dst) = some t) (hg : ρ t = .bool b) (htn : Nat.blt t C.n = true)
    (hk : takeOk ops R listed C.n i dst = true) (hQ : NoPanic C Q) (hs : S h) (hy : b = false → ∀ h', S h' → OpVal C o ty ρ h' v)
    (hh : AW C ops Q R (fun j h' => T j h' ∧ (reachB ops ops.size i j = true ∨ S h')) fuel (listed.setIfInBounds i true) (upo ρ dst (gdf b v)) h) :
    AW C ops Q R T (fuel + 1) listed ρ h := by
  cases b
  · exact AW.yr i t S hi ht hg htn hk hQ hs (hy rfl) hh
  · exact AW.no' i t hi ht hg htn hk hQ (hh.mono fun _ _ h => h.1)
/-- panics do not count: what follows a call of a function whose contract never panics -/
theorem NoPanic.body {P : Program} {w0 : World} {n : Nat} {fn : Func} {R : Value → H → Prop} : NoPanic ⟨P, w0, n⟩ (bodyPost P fn (RetOk w0 R)) := by
  rintro c a a' w _ ⟨_, v, h, _⟩
  cases h
theorem NoPanic.then_ {K : Act → World → Prop} (hq : NoPanic C Q) : NoPanic C (Exit.then K Q) := fun c a a' w hd h => hq c a a' w hd h
theorem NoPanic.block {id : Nat} (hq : NoPanic C Q) : NoPanic C (Exit.inBlock id Q) := fun c a a' w hd h => hq c a a' w hd h
end
/-- the same environment, its live slots written out -/
def AllEq (ρ : Env) : List (Nat × Value) → Prop
  | [] => True
  | (d, v) :: r => ρ d = v ∧ AllEq ρ r
theorem setl_eq {ρ : Env} : ∀ {l : List (Nat × Value)}, AllEq ρ l → ρ = setl ρ l
  | [], _ => rfl
  | (d, v) :: r, h => by
    have e : up ρ d v = ρ := by
      funext i
      unfold up
      cases hb : Nat.beq i d with
      | false => rfl
      | true => rw [Nat.eq_of_beq_eq_true hb]; exact h.1.symm
    show ρ = setl (up ρ d v) r
    rw [e]
    exact setl_eq h.2
/-- a guard that was skipped itself -/
theorem wanted_undef {C : Ctx} {ops : Array Oper} {ρ : Env} {h : H} {o : Op} {ty : TypeId} {dst : Option Tmp} {pos : String} {after : Array Edge} {a : Act} {w : World} (s : St C ρ h a w) {g : Nat × Bool} {t : Nat} (ht : (ops[g.1]?).bind (·.dst) = some t) (hg : ρ t = undef) (htn : Nat.blt t C.n = true) :
    Region.wanted ⟨dst, o, ty, pos, after, some g⟩ (yielded ops a.tmps) = false := by
  obtain ⟨g1, g2⟩ := g
  have := s.env t
  have hlt : t < a.tmps.size := by rw [s.size]; simpa [Nat.blt_eq] using htn
  simp only [Array.getD_eq_getD_getElem?, Array.getElem?_eq_getElem hlt, Option.getD_some] at this
  simp only [Region.wanted, yielded, ht, Option.bind_some, Array.getElem?_eq_getElem hlt, this, hg]
  cases g2 <;> rfl
section
variable {C : Ctx} {ops : Array Oper} {Q : Exit → Act → World → Prop} {J : Env → H → Prop} {ρ : Env} {h : H} {os : List Oper} {o : Op} {ty : TypeId} {dst : Option Tmp} {pos : String} {after : Array Edge} {R : List Nat} {T : Nat → H → Prop} {fuel : Nat} {listed : Array Bool}
theorem OpW.nu {g : Nat × Bool} (t : Nat) (ht : (ops[g.1]?).bind (·.dst) = some t) (hg : ρ t = undef) (htn : Nat.blt t C.n = true) (hd : okd C.n dst = true) (hj : J (upo ρ dst undef) h) :
    OpW C ops Q ⟨dst, o, ty, pos, after, some g⟩ J ρ h := by
  intro a w s
  rw [wanted_undef s ht hg htn, if_neg (by simp)]
  exact ⟨_, _, s.put hd undef, hj⟩
theorem RLK.nu {g : Nat × Bool} (t : Nat) (ht : (ops[g.1]?).bind (·.dst) = some t) (hg : ρ t = undef) (htn : Nat.blt t C.n = true) (hd : okd C.n dst = true) (hj : RLK C ops Q J os (upo ρ dst undef) h) : RLK C ops Q J (⟨dst, o, ty, pos, after, some g⟩ :: os) ρ h := .s (OpW.nu t ht hg htn hd hj)
theorem AW.nu (i : Nat) (t : Nat) {g : Nat × Bool}
    (hi : ops[i]? = some ⟨dst, o, ty, pos, after, some g⟩) (ht : (ops[g.1]?).bind (·.dst) = some t) (hg : ρ t = undef) (htn : Nat.blt t C.n = true)
    (hk : takeOk ops R listed C.n i dst = true) (hQ : NoPanic C Q)
    (hh : AW C ops Q R T fuel (listed.setIfInBounds i true) (upo ρ dst undef) h) :
    AW C ops Q R T (fuel + 1) listed ρ h := by
  simp only [takeOk, Bool.and_eq_true] at hk
  obtain ⟨⟨⟨⟨hd, hR⟩, hsel⟩, hr⟩, hf⟩ := hk
  intro hc a w s
  have hr' : i ∈ Region.ready .any ops listed := by simpa using hr
  have hw := wanted_undef (C := C) (ops := ops) (o := o) (ty := ty) (dst := dst) (pos := pos) (after := after) s ht hg htn
  refine wpAnyT_first (S := fun _ => True) (v := undef) hi hR ops.size (Region.noSelect_spec hsel) (fun c a w hq => hQ c _ _ w (by cases dst <;> rfl) hq) _ fuel listed a w hc
    (Region.free_spec hi hf) hr' (.inr ⟨hw, rfl⟩) trivial ?_
  exact wpAnyT_mono (fun _ _ h => ⟨h, .inr trivial⟩) _ _ _ _ (hh (hc.set hr') _ _ (s.put hd undef))
theorem CW.drawN {id : Nat} (n : Nat) (hn : ops.size = n) (hm : C.P.follows .mixedOrders = true) (R : List Nat)
    (hh : AW C ops Q R (fun _ _ => True) n (Array.replicate n false) ρ h) : CW C (.region id ops true) Q ρ h := by
  subst hn; exact CW.draw hm R hh
end
/-! the words of the shallow programs -/
def box {α : Type} [Ty α] (T : TypeId) (x : α) (k : Addr → H → Prop) : H → Prop := fun h => ∀ p : Addr, p = ⟨h.size, 0, none⟩ → k p (newC h T (enc x))
def ld {σ α : Type} [Ty σ] (p : Addr) (g : σ → α) (k : α → H → Prop) : H → Prop := fun h => ∃ y : α, (∃ x : σ, AtH h p (enc x) ∧ g x = y) ∧ k y h
def st {σ : Type} [Ty σ] (p : Addr) (u : σ → σ) (k : H → Prop) : H → Prop := fun h => ∃ x : σ, AtH h p (enc x) ∧ WAt h p (enc x).length ∧ k (putC h p (enc (u x)))
def chk {σ α : Type} [Ty σ] (p : Addr) (g : σ → α) (v : α) (k : H → Prop) : H → Prop := fun h => (∃ x : σ, AtH h p (enc x) ∧ g x = v) ∧ k h
def nn (x : Option Addr) (k : Addr → H → Prop) : H → Prop := fun h => ∃ p, x = some p ∧ k p h
def ifb (b : Bool) (x y : H → Prop) : H → Prop := fun h => (b = true → x h) ∧ (b = false → y h)
def both (x y : H → Prop) : H → Prop := fun h => x h ∧ y h
def must (p : Prop) (k : H → Prop) : H → Prop := fun h => p ∧ k h
def getS {α : Type} (x : Option α) (k : α → H → Prop) : H → Prop := fun h => ∃ y, x = some y ∧ k y h
def bnd (j : Int) (n : Nat) (k : Fin n → H → Prop) : H → Prop := fun h => ∃ i : Fin n, j = (i.val : Int) ∧ k i h
def sidx (s : Sl) (j : Int) (size : Nat) (k : Addr → H → Prop) : H → Prop := fun h => ∃ p, ((∃ a, s.a = some a ∧ p = a.add (j.toNat * size)) ∧ 0 ≤ j ∧ j < s.len) ∧ k p h
def call {β : Type} [Ty β] (P : Program) (f : FuncId) (vs : List Value) (k : β → H → Prop) : H → Prop := fun h => CallsH P f vs.toArray h fun v h' => ∃ r : β, v = reg r ∧ k r h'
def mks {α : Type} [Ty α] (T : TypeId) (l : List α) (k : Sl → H → Prop) : H → Prop := fun h => ∀ (p : Addr) (s : Sl), p = ⟨h.size, 0, none⟩ → s = ⟨some p, l.length, l.length⟩ → k s (newC h T (l.map enc).flatten)
theorem ifb_cases {b : Bool} {x y : H → Prop} {h : H} {G : Prop} (hh : ifb b x y h) (h1 : b = true → x h → G) (h2 : b = false → y h → G) : G := by
  cases b
  · exact h2 rfl (hh.2 rfl)
  · exact h1 rfl (hh.1 rfl)
/-! operations as the printer uses them -/
def upd {n : Nat} {α : Type} (x : Arr n α) (i : Fin n) (v : α) : Arr n α := fun j => if j = i then v else x j
def arrOf {n : Nat} {α : Type} [Inhabited α] (l : List α) : Arr n α := fun i => l.getD i.val default
theorem arr_get {n : Nat} {α : Type} [Ty α] (i : Fin n) (x : Arr n α) : (enc x)[i.val]? = some (reg (x i)) := by
  simp [enc, reg, Value.cells]
theorem arr_len {n : Nat} {α : Type} [Ty α] (x : Arr n α) : (enc x).length = n := by simp [enc, reg, Value.cells]
theorem arr_ble {n : Nat} {α : Type} [Ty α] (i : Fin n) (x : Arr n α) (v : List Value) (hv : v.length = 1) : Nat.ble (i.val + v.length) (enc x).length = true := by
  rw [arr_len, hv, Nat.ble_eq]; exact i.2
theorem arr_set {n : Nat} {α : Type} [Ty α] (i : Fin n) (x : Arr n α) (v : α) (hv : enc v = [reg v]) : (enc x).take i.val ++ enc v ++ (enc x).drop (i.val + (enc v).length) = enc (upd x i v) := by
  rw [hv]
  apply List.ext_getElem?
  intro j
  have hl := arr_len x
  have e : (enc (upd x i v))[j]? = if h : j < n then some (reg (upd x i v ⟨j, h⟩)) else none := by
    simp only [enc, reg, Value.cells, List.getElem?_ofFn]
  have e2 : (enc x)[j]? = if h : j < n then some (reg (x ⟨j, h⟩)) else none := by
    simp only [enc, reg, Value.cells, List.getElem?_ofFn]
  rw [e]
  simp only [List.append_assoc, List.getElem?_append, List.length_take, hl, List.length_cons, List.length_nil, List.getElem?_take, List.getElem?_drop]
  have hi := i.2
  by_cases h1 : j < i.val
  · rw [if_pos (by omega), if_pos h1, e2]
    have hjn : j < n := by omega
    have hne : (⟨j, hjn⟩ : Fin n) ≠ i := fun e => by have := congrArg Fin.val e; simp at this; omega
    simp [hjn, upd, hne]
  · by_cases h2 : j = i.val
    · subst h2
      rw [if_neg (by omega)]
      simp [show min i.val n = i.val by omega, upd]
    · rw [if_neg (by omega), if_neg (by omega), show i.val + (0 + 1) + (j - min i.val n - (0 + 1)) = j by omega, e2]
      by_cases h3 : j < n
      · simp [h3, upd, show (⟨j, h3⟩ : Fin n) ≠ i from fun e => h2 (by have := congrArg Fin.val e; simpa using this)]
      · simp [h3]
section
variable {C : Ctx} {ρ : Env} {h : H} {ty : TypeId} {Q : Exit → Act → World → Prop} {J : Env → H → Prop} {dst : Option Tmp}
theorem v_pickT {c x y : Operand} {b : Bool} {v : Value} (hc : ev ρ c = .bool b) (hb : b = true) (hx : ev ρ x = v) : OpVal C (.pick c x y) ty ρ h v := by
  subst hb; intro w hw pos after g d; simp [execOp, hc, hx, asBool]
theorem v_pickF {c x y : Operand} {b : Bool} {v : Value} (hc : ev ρ c = .bool b) (hb : b = false) (hy : ev ρ y = v) : OpVal C (.pick c x y) ty ρ h v := by
  subst hb; intro w hw pos after g d; simp [execOp, hc, hy, asBool]
theorem v_ld1 {σ α : Type} [Ty σ] [Ty α] {x : Operand} {T : TypeId} {p : Addr} {s : σ} {g : σ → α} {y : α} (off : Nat) (hT : NotAgg C.P T) (hx : ev ρ x = .pointer (some (p.add off))) (hat : AtH h p (enc s)) (hg : g s = y) (hf : ∀ s : σ, (enc s)[off]? = some (reg (g s))) : OpVal C (.load T x) ty ρ h (reg y) :=
  v_load1 off hT hx hat (by rw [hf, hg])
theorem v_ldA {σ α : Type} [Ty σ] [Ty α] {x : Operand} {T : TypeId} {p : Addr} {s : σ} {g : σ → α} {y : α} {n : Nat} (off : Nat) (hT : IsAgg C.P T n) (hx : ev ρ x = .pointer (some (p.add off))) (hat : AtH h p (enc s)) (hg : g s = y) (hf : ∀ s : σ, ((enc s).drop off).take n = enc (g s)) (hl : ∀ y : α, (enc y).length = n) (hr : ∀ y : α, reg y = .agg (enc y).toArray) : OpVal C (.load T x) ty ρ h (reg y) := by
  rw [hr y]
  exact v_loadA off hT hx hat (by rw [hf, hg]) (hl y)
theorem v_idx_slP {x i : Operand} {s : Sl} {p : Addr} {T e : TypeId} {size : Nat} {k : IntKind} {j : Int} (hs : SlT C.P T e size) (hx : ev ρ x = reg s) (hi : ev ρ i = .int k j) (hp : ∃ a, s.a = some a ∧ p = a.add (j.toNat * size)) (h0 : 0 ≤ j) (h1 : j < s.len) :
    OpVal C (.indexAddr T x i) ty ρ h (.pointer (some p)) := by
  obtain ⟨a, ha, rfl⟩ := hp
  have hx' : ev ρ x = .slice (some a) s.len s.cap := by rw [hx, ← ha]; rfl
  exact v_idx_sl hs hx' hi h0 h1
theorem v_idx_arrP {x i : Operand} {p : Addr} {T e : TypeId} {n : Nat} {k : IntKind} {j : Int} {f : Fin n} (hs : ArrT C.P T n e 1) (hx : ev ρ x = .pointer (some p)) (hi : ev ρ i = .int k j) (hj : j = (f.val : Int)) :
    OpVal C (.indexAddr T x i) ty ρ h (.pointer (some (p.add f.val))) := by
  subst hj
  have := v_idx_arr (C := C) (ty := ty) (h := h) hs hx hi (Int.natCast_nonneg _) (by have := f.2; omega)
  simpa using this
theorem v_index1P {α : Type} [Ty α] {x i : Operand} {n : Nat} {a : Arr n α} {T e : TypeId} {k : IntKind} {j : Int} {f : Fin n} (hs : ArrT C.P T n e 1) (he : NotAgg C.P e) (hx : ev ρ x = reg a) (hi : ev ρ i = .int k j) (hj : j = (f.val : Int)) :
    OpVal C (.index T x i) ty ρ h (reg (a f)) := by
  subst hj
  exact v_index1 (cs := (List.ofFn fun i => reg (a i)).toArray) hs he hx hi (Int.natCast_nonneg _) (by have := f.2; omega) (by simp)
theorem v_buildT {α : Type} [Ty α] {t : TypeId} {parts : Array (Nat × Operand)} {z : List Value} {ps : List (Nat × Nat)} {vs : List (Nat × Value)} (x : α) (hz : ZeroOf C.P t z) (hp : PlacesT C.P t ps) (hv : parts.toList.map (fun p => (p.1, ev ρ p.2)) = vs)
    (hf : fillL (fun i => ps[i]?) z vs = some (enc x)) (hr : reg x = .agg (enc x).toArray) : OpVal C (.build t parts) ty ρ h (reg x) := by
  rw [hr]; exact v_build hz hp hv hf
theorem v_buildAT {α : Type} [Ty α] {t e : TypeId} {n size : Nat} {parts : Array (Nat × Operand)} {z : List Value} {vs : List (Nat × Value)} (x : α) (hz : ZeroOf C.P t z) (hp : ArrT C.P t n e size) (hv : parts.toList.map (fun p => (p.1, ev ρ p.2)) = vs)
    (hf : fillL (fun i => some (i * size, size)) z vs = some (enc x)) (hr : reg x = .agg (enc x).toArray) : OpVal C (.build t parts) ty ρ h (reg x) := by
  rw [hr]; exact v_build_a hz hp hv hf
theorem e_allocP {T : TypeId} {cs : List Value} {p : Addr} (hp : p = ⟨h.size, 0, none⟩) (hz : ZeroOf C.P T cs) (hd : okd C.n dst = true) (hj : J (upo ρ dst (.pointer (some p))) (newC h T cs)) : OpE C Q (.alloc T) ty dst J ρ h := by
  subst hp; exact e_alloc hz hd hj
theorem e_boxP {T : TypeId} {x : Operand} {v : Value} {cs : List Value} {p : Addr} (hp : p = ⟨h.size, 0, none⟩) (hx : ev ρ x = v) (hv : v.cells = cs.toArray) (hd : okd C.n dst = true) (hj : J (upo ρ dst (.pointer (some p))) (newC h T cs)) : OpE C Q (.box T x) ty dst J ρ h := by
  subst hp; exact e_box hx hv hd hj
theorem e_mks {α : Type} [Ty α] {t e : TypeId} {n size : Nat} {parts : Array (Nat × Operand)} {z : List Value} {vs : List (Nat × Value)} {p : Addr} {s : Sl} (l : List α) (hp : p = ⟨h.size, 0, none⟩) (hs : s = ⟨some p, n, n⟩) (hz : ZeroOf C.P e z) (ht : SlT C.P t e size) (hzl : z.length = size) (hv : parts.toList.map (fun p => (p.1, ev ρ p.2)) = vs)
    (hn : Nat.ble (n * size) 16777216 = true) (hf : fillL (fun i => some (i * size, size)) (List.replicate n z).flatten vs = some (l.map enc).flatten) (hd : okd C.n dst = true)
    (hj : J (upo ρ dst (reg s)) (newC h e (l.map enc).flatten)) : OpE C Q (.buildSlice t n parts) ty dst J ρ h := by
  subst hp; subst hs; exact e_buildSlice hz ht hzl hv hn hf hd hj
theorem e_callP {β : Type} [Ty β] {f : FuncId} {xs : Array Operand} {ts : Array TypeId} {vs : List Value} {k : β → H → Prop} (hf : FnOk C.P f) (hx : xs.toList.map (ev ρ) = vs) (hd : okd C.n dst = true) (hc : call C.P f vs k h) (hj : ∀ (h' : H) (n : β), k n h' → J (upo ρ dst (reg n)) h') :
    OpE C Q (.call ⟨.value (.func f), xs, ts⟩) ty dst J ρ h := by
  refine e_call hf (vs := vs.toArray) ?_ hd (hc.mono ?_)
  · subst hx; apply Array.toList_inj.1; simp
  · rintro v h' ⟨r, rfl, hk⟩; exact hj _ _ hk
end
end Go.Sh
namespace Go.Sh
open Go
open Go.Sh.Ty (reg)
theorem SizeOf.of {P : Program} {t n : Nat} (h : (P.info? t).map (·.size) = some n) : SizeOf P t n := by
  rw [Option.map_eq_some_iff] at h; exact h
theorem ZeroOf.of {P : Program} {t : Nat} {cs : List Value} (h : ((P.info? t).bind (·.zero)).map (·.cells) = some cs.toArray) : ZeroOf P t cs := by
  rw [Option.map_eq_some_iff] at h
  obtain ⟨z, hz, hc⟩ := h
  rw [Option.bind_eq_some_iff] at hz
  obtain ⟨i, hi, hz⟩ := hz
  exact ⟨i, z, hi, hz, hc⟩
theorem IsAgg.of {P : Program} {t n : Nat} (h : (match P.underlying t with | some (.struct _) | some (.array _ _) => true | _ => false) = true) (hs : (P.info? t).map (·.size) = some n) : IsAgg P t n := by
  refine ⟨?_, SizeOf.of hs⟩
  split at h
  · rename_i x e; exact ⟨_, e, .inl ⟨_, rfl⟩⟩
  · rename_i m x e; exact ⟨_, e, .inr ⟨_, _, rfl⟩⟩
  · cases h
theorem NotAgg.of {P : Program} {t : Nat} (h : (match P.underlying t with | some (.struct _) | some (.array _ _) | none => false | _ => true) = true) : NotAgg P t := by
  cases e : P.underlying t with
  | none => rw [e] at h; cases h
  | some d => rw [e] at h; refine ⟨d, e, ?_⟩; cases d <;> first | trivial | cases h
theorem FldAt.of {P : Program} {s f off : Nat} (n : Nat) (h : (match P.underlying s with | some (.struct fs) => (fs[f]?).bind fun x => (P.info? x.type).map fun i => (x.offset, i.size) | _ => none) = some (off, n + 1)) : FldAt P s f off := by
  split at h
  · rename_i fs e
    rw [Option.bind_eq_some_iff] at h
    obtain ⟨x, hx, h⟩ := h
    rw [Option.map_eq_some_iff] at h
    obtain ⟨i, hi, h⟩ := h
    obtain ⟨rfl, h2⟩ := Prod.mk.inj h
    exact ⟨fs, x, n, e, hx, rfl, i, hi, h2⟩
  · cases h
theorem PlacesT.of {P : Program} {t : Nat} {ps : List (Nat × Nat)} (h : (match P.underlying t with | some (.struct fs) => fs.toList.mapM (fun f => (P.info? f.type).map fun i => (f.offset, i.size)) | _ => none) = some ps) : PlacesT P t ps := by
  split at h
  · rename_i fs e; exact ⟨fs, e, h⟩
  · cases h
theorem ld_id {σ : Type} [Ty σ] {h : H} {p : Addr} {x y : σ} (hx : AtH h p (enc x)) (hg : (fun x : σ => x) x = y) : AtH h p (enc y) := by
  have hg' : x = y := hg
  rw [← hg']; exact hx
/-! cells of structs, segment by segment -/
theorem len_i (x : Int) : (enc x).length = 1 := rfl
theorem len_b (x : Bool) : (enc x).length = 1 := rfl
theorem len_u8 (x : UInt8) : (enc x).length = 1 := rfl
theorem len_s (x : ByteArray) : (enc x).length = 1 := rfl
theorem len_sl (x : Sl) : (enc x).length = 1 := rfl
theorem len_pt (x : Option Addr) : (enc x).length = 1 := rfl
theorem len_mp (x : Mp) : (enc x).length = 1 := rfl
theorem len_cx (x : Cx) : (enc x).length = 1 := rfl
theorem get_here {M S : List Value} {n : Nat} (hm : M.length = n) : ((M ++ S).drop 0).take n = M := by subst hm; simp
theorem get_last {M : List Value} {n : Nat} (hm : M.length = n) : (M.drop 0).take n = M := by subst hm; simp
theorem get_skip {A R M : List Value} {a o n : Nat} (ha : A.length = a) (h : (R.drop o).take n = M) : ((A ++ R).drop (a + o)).take n = M := by
  subst ha; rw [← h, ← List.drop_drop, List.drop_left' rfl]
theorem get_one {l : List Value} {o : Nat} {v : Value} (h : (l.drop o).take 1 = [v]) : l[o]? = some v := by
  have := congrArg (fun l => l[0]?) h
  simpa [List.getElem?_take, List.getElem?_drop] using this
theorem get_sub {l M r : List Value} {a n b k : Nat} (h : (l.drop a).take n = M) (h2 : (M.drop b).take k = r) (hb : Nat.ble (b + k) n = true) : (l.drop (a + b)).take k = r := by
  have hb' : b + k ≤ n := Nat.le_of_ble_eq_true hb
  rw [← h2, ← h, List.drop_take, List.take_take, Nat.min_eq_left (by omega), List.drop_drop]
theorem set_here {M M' S : List Value} (h : M.length = M'.length) : (M ++ S).take 0 ++ M' ++ (M ++ S).drop (0 + M'.length) = M' ++ S := by
  rw [Nat.zero_add, ← h, List.drop_left' rfl]; simp
theorem set_last {M M' : List Value} (h : M.length = M'.length) : M.take 0 ++ M' ++ M.drop (0 + M'.length) = M' := by
  rw [Nat.zero_add, ← h]; simp
theorem set_skip {A R M R' : List Value} {a o k : Nat} (ha : A.length = a) (h : R.take o ++ M ++ R.drop (o + k) = R') : (A ++ R).take (a + o) ++ M ++ (A ++ R).drop (a + o + k) = A ++ R' := by
  subst ha; rw [← h, List.take_append, Nat.add_assoc, ← List.drop_drop, List.drop_left' rfl, List.take_of_length_le (by omega)]; simp
theorem set_nest {l M v M' R : List Value} {a n b : Nat} (h : (l.drop a).take n = M) (h2 : M.take b ++ v ++ M.drop (b + v.length) = M') (h3 : l.take a ++ M' ++ l.drop (a + M'.length) = R) (hn : M.length = n) (hb : Nat.ble (b + v.length) n = true) :
    l.take (a + b) ++ v ++ l.drop (a + b + v.length) = R := by
  have hb' : b + v.length ≤ n := Nat.le_of_ble_eq_true hb
  have hM' : M'.length = n := by rw [← h2]; simp [hn]; omega
  rw [← h3, hM', ← h2]
  have e1 : l.take (a + b) = l.take a ++ M.take b := by
    rw [← h, List.take_take, Nat.min_eq_left (by omega), List.take_add]
  have e2 : l.drop (a + b + v.length) = M.drop (b + v.length) ++ l.drop (a + n) := by
    rw [← h, List.drop_take, List.drop_drop]
    conv => lhs; rw [Nat.add_assoc, ← List.take_append_drop (n - (b + v.length)) (l.drop (a + (b + v.length)))]
    congr 1
    rw [List.drop_drop]
    congr 1
    omega
  rw [e1, e2]; simp
theorem box_elim {α : Type} [Ty α] {T : TypeId} {x : α} {k : Addr → H → Prop} {h : H} {G : Prop} (hh : box T x k h) (f : ∀ p : Addr, p = ⟨h.size, 0, none⟩ → k p (newC h T (enc x)) → G) : G := f _ rfl (hh _ rfl)
theorem mks_elim {α : Type} [Ty α] {T : TypeId} {l : List α} {k : Sl → H → Prop} {h : H} {G : Prop} (hh : mks T l k h) (f : ∀ (p : Addr) (s : Sl), p = ⟨h.size, 0, none⟩ → s = ⟨some p, l.length, l.length⟩ → k s (newC h T (l.map enc).flatten) → G) : G := f _ _ rfl rfl (hh _ _ rfl rfl)
end Go.Sh
namespace Go.Sh
open Go
open Go.Sh.Ty (reg)
/-- what a slice's elements are, cell by cell -/
def SlC (h : H) (s : Sl) (size : Nat) (cs : List Value) : Prop := (s.a = none ∧ s.len = 0 ∧ cs = []) ∨ ∃ a, s.a = some a ∧ AtH h a cs ∧ cs.length = s.len * size
theorem run_firstCellsH {P : Program} {h : H} {s : Sl} {size : Nat} {cs : List Value} (H : SlC h s size cs) {w : World} (hw : w.heap = h) : (Builtin.firstCells size s.len (reg s)).run P w = .ok cs.toArray w := by
  rcases H with ⟨ha, hl, rfl⟩ | ⟨a, ha, hat, hl⟩
  · have : reg s = .slice none s.len s.cap := by simp only [reg, ha]
    rw [this, run_firstCells_none]
  · have : reg s = .slice (some a) s.len s.cap := by simp only [reg, ha]
    rw [this]
    exact run_firstCells_some w size s.len a s.len s.cap cs hl (fun j v hj => cell?_of hw hat hj)
/-- the same, where a slice of no length may lead anywhere -/
def SlR (h : H) (s : Sl) (size : Nat) (cs : List Value) : Prop := SlC h s size cs ∨ (s.len = 0 ∧ cs = [])
theorem run_firstCellsR {P : Program} {h : H} {s : Sl} {size : Nat} {cs : List Value} (H : SlR h s size cs) {w : World} (hw : w.heap = h) : (Builtin.firstCells size s.len (reg s)).run P w = .ok cs.toArray w := by
  rcases H with H | ⟨hl, rfl⟩
  · exact run_firstCellsH H hw
  · rw [hl]
    cases ha : s.a with
    | none =>
      have : reg s = .slice none s.len s.cap := by simp only [reg, ha]
      rw [this, run_firstCells_none]
    | some a =>
      have : reg s = .slice (some a) s.len s.cap := by simp only [reg, ha]
      rw [this]
      simp only [Builtin.firstCells, Nat.zero_mul, loadCells, loadCellsFrom, Sem.run_pure]
def maxBytes : Nat := 140737488355328
/-- append of one slice to another: there is room, or a new row of any size is made -/
def app (T size bytes : Nat) (z : List Value) (s x : Sl) (k : Sl → H → Prop) : H → Prop := fun h =>
  ∃ xs ys : List Value, SlC h s size xs ∧ SlR h x size ys ∧ ys.all (·.oneCell') = true ∧
    (s.len + x.len ≤ s.cap → (∀ a, s.a = some a → WAt h (a.add (s.len * size)) ys.length) ∧
      ∀ r : Sl, r = ⟨s.a, s.len + x.len, s.cap⟩ → k r (match s.a with | some a => putC h (a.add (s.len * size)) ys | none => h)) ∧
    (s.cap < s.len + x.len → (s.len + x.len) * bytes ≤ maxBytes ∧ s.len + x.len ≤ 9223372036854775807 ∧
      ∀ (p : Addr) (cap : Nat) (r : Sl), p = ⟨h.size, 0, none⟩ → s.len + x.len ≤ cap → r = ⟨some p, s.len + x.len, cap⟩ → k r (newC h T (xs ++ ys ++ (List.replicate (cap - (s.len + x.len)) z).flatten)))
theorem zeroCells_flat (z : List Value) (n : Nat) : Builtin.zeroCells z.toArray n = (List.replicate n z).flatten.toArray := by
  unfold Builtin.zeroCells
  by_cases h0 : z.length = 0
  · have : z = [] := List.eq_nil_of_length_eq_zero h0
    subst this
    simp
  · apply Array.ext
    · simp
    · intro j h1 h2
      simp only [Array.size_map, Array.size_range, List.size_toArray] at h1
      have hfl : ∀ (m j : Nat), j < m * z.length → (List.replicate m z).flatten[j]? = z[j % z.length]? := by
        intro m
        induction m with
        | zero => intro j hj; simp at hj
        | succ m ih =>
          intro j hj
          rw [List.replicate_succ, List.flatten_cons, List.getElem?_append]
          split
          · rename_i hlt; rw [Nat.mod_eq_of_lt hlt]
          · rename_i hge
            have e : (m + 1) * z.length = m * z.length + z.length := Nat.succ_mul m _
            rw [ih (j - z.length) (by omega), Nat.mod_eq_sub_mod (by omega : j ≥ z.length)]
      have := hfl n j h1
      have hlt : j % z.length < z.length := Nat.mod_lt _ (by omega)
      rw [List.getElem?_eq_getElem hlt, List.getElem?_eq_some_iff] at this
      obtain ⟨h5, h6⟩ := this
      simp only [Array.getElem_map, Array.getElem_range, List.getElem_toArray, List.size_toArray]
      rw [h6, getElem!_pos _ _ (by simpa using hlt)]
      rfl
section
variable {C : Ctx} {ρ : Env} {h : H} {ty : TypeId} {Q : Exit → Act → World → Prop} {J : Env → H → Prop} {dst : Option Tmp}
theorem OpE.ofAny {o : Op} (hd : okd C.n dst = true)
    (hr : ∀ w, w.heap = h → ∀ (pos : String) (after : Array Edge) (g : Option (Nat × Bool)), ∃ v h' w', (execOp (ev ρ) ⟨dst, o, ty, pos, after, g⟩).run C.P w = .ok (.value v) w' ∧ w'.heap = h' ∧ w'.tape = w.tape ∧ w'.os = w.os ∧ w'.output = w.output ∧ J (upo ρ dst v) h') : OpE C Q o ty dst J ρ h := by
  intro a w s pos after g
  obtain ⟨v, h', w', hr, hh, ht, ho, hu, hj⟩ := hr w s.heap pos after g
  unfold Oper.wp
  rw [s.evals, hr]
  have s1 := (s.put hd v).world ht ho hu
  rw [hh] at s1
  exact ⟨_, _, s1, hj⟩
theorem run_store_list (P : Program) {a : Addr} {ys : List Value} {w : World} (hw : WAt w.heap a ys.length) (h1 : ys.all (·.oneCell') = true) : (storeCells a ys).run P w = .ok () { w with heap := putC w.heap a ys } := by
  have := run_storeCellsH P a hw.1 ys 0 w (by exact hw) h1
  exact this
theorem e_app {T e size bytes : Nat} {z : List Value} {s x : Sl} {k : Sl → H → Prop} {xo so : Operand} (hT : SlT C.P T e size) (hz : ZeroOf C.P e z) (hb : (C.P.info? e).map (·.bytes) = some bytes) (hs : ev ρ so = reg s) (hx : ev ρ xo = reg x) (hd : okd C.n dst = true)
    (hh : app e size bytes z s x k h) (hj : ∀ (h' : H) (r : Sl), k r h' → J (upo ρ dst (reg r)) h') : OpE C Q (.call ⟨.builtin .append, #[so, xo], #[T, T]⟩) ty dst J ρ h := by
  obtain ⟨xs, ys, hxs, hys, h1, hroom, hgrow⟩ := hh
  obtain ⟨i, zv, hi, hzv, hzc⟩ := hz
  obtain ⟨hu, i', hi', hsz⟩ := hT
  rw [hi] at hi'
  obtain rfl := Option.some.inj hi'
  rw [hi] at hb
  have hby : i.bytes = bytes := Option.some.inj hb
  refine OpE.ofAny hd (fun w hw pos after g => ?_)
  have hlx : (Builtin.lenOf (reg x)).run C.P w = .ok x.len w := by simp [reg, Builtin.lenOf]
  have hfx := run_firstCellsR (P := C.P) hys hw
  have hss : reg s = .slice s.a s.len s.cap := rfl
  have hxx : reg x = .slice x.a x.len x.cap := rfl
  by_cases hc : s.len + x.len ≤ s.cap
  · obtain ⟨hwa, hk⟩ := hroom hc
    cases ha : s.a with
    | none =>
      refine ⟨reg (⟨s.a, s.len + x.len, s.cap⟩ : Sl), h, w, ?_, hw, rfl, rfl, rfl, ?_⟩
      · rw [hxx] at hfx
        simp [execOp, resolve, invoke, builtin, hs, hx, Builtin.append_, run_underlying hu, sizeOf, typeInfo, hi, hsz, Builtin.lenOf, hss, hxx, hc, hfx, ha, reg]
      · have := hk _ rfl
        rw [ha] at this
        simp only at this
        rw [ha]
        exact hj _ _ this
    | some a =>
      have hst := run_store_list C.P (a := a.add (s.len * size)) (ys := ys) (w := w) (by rw [hw]; exact hwa a ha) h1
      refine ⟨reg (⟨s.a, s.len + x.len, s.cap⟩ : Sl), putC h (a.add (s.len * size)) ys, { w with heap := putC w.heap (a.add (s.len * size)) ys }, ?_, by rw [hw], rfl, rfl, rfl, ?_⟩
      · rw [hxx] at hfx
        simp [execOp, resolve, invoke, builtin, hs, hx, Builtin.append_, run_underlying hu, sizeOf, typeInfo, hi, hsz, Builtin.lenOf, hss, hxx, hc, hfx, ha, reg, hst]
      · have := hk _ rfl
        rw [ha] at this
        simp only at this
        rw [ha]
        exact hj _ _ this
  · obtain ⟨hbb, h63, hk⟩ := hgrow (by omega)
    have hcap := grownCap_ge w (s.len + x.len) s.cap e
    have h48 : ¬ (281474976710656 < Builtin.nextslicecap (s.len + x.len) s.cap * i.bytes) := by
      have := growslice_fits (need := s.len + x.len) (old := s.cap) (bytes := i.bytes) (by omega) (by rw [hby]; exact hbb)
      omega
    have h63' : ¬ (9223372036854775807 < ((s.len : Int) + (x.len : Int))) := by omega
    have hfs := run_firstCellsH (P := C.P) hxs (w := w.drew) (by exact hw)
    have hfx' := run_firstCellsR (P := C.P) hys (w := w.drew) (by exact hw)
    rw [hxx] at hfx'
    rw [hss] at hfs
    have hzf := zeroCells_flat z (grownCap w (s.len + x.len) s.cap e - (s.len + x.len))
    refine ⟨reg (⟨some ⟨h.size, 0, none⟩, s.len + x.len, grownCap w (s.len + x.len) s.cap e⟩ : Sl), newC h e (xs ++ ys ++ (List.replicate (grownCap w (s.len + x.len) s.cap e - (s.len + x.len)) z).flatten), { w.drew with heap := newC h e (xs ++ ys ++ (List.replicate (grownCap w (s.len + x.len) s.cap e - (s.len + x.len)) z).flatten) }, ?_, rfl, rfl, rfl, rfl, hj _ _ (hk _ _ _ rfl hcap rfl)⟩
    subst hw
    have hdrew : ({ w with drawn := w.drawn + 1 } : World) = w.drew := rfl
    simp only [execOp, resolve, invoke, builtin, hs, hx, Builtin.append_, List.map_cons, List.map_nil, List.map_toArray, hss, hxx]
    simp [run_underlying hu, sizeOf, typeInfo, zeroValue, hi, hzv, hsz, Builtin.lenOf, hc, h63', h48, Question.forced, hfs, hfx', newRow, grownCap, reg, newC] at hzf ⊢
    rw [hzc, hzf]
    simp
    rfl
/-- append of a string's bytes -/
def strC (s : ByteArray) : List Value := s.data.toList.map fun b => reg b
def apps (T bytes : Nat) (z : List Value) (s : Sl) (x : ByteArray) (k : Sl → H → Prop) : H → Prop := fun h =>
  ∃ xs : List Value, SlC h s 1 xs ∧
    (s.len + x.size ≤ s.cap → (∀ a, s.a = some a → WAt h (a.add (s.len * 1)) x.size) ∧
      ∀ r : Sl, r = ⟨s.a, s.len + x.size, s.cap⟩ → k r (match s.a with | some a => putC h (a.add (s.len * 1)) (strC x) | none => h)) ∧
    (s.cap < s.len + x.size → (s.len + x.size) * bytes ≤ maxBytes ∧ s.len + x.size ≤ 9223372036854775807 ∧
      ∀ (p : Addr) (cap : Nat) (r : Sl), p = ⟨h.size, 0, none⟩ → s.len + x.size ≤ cap → r = ⟨some p, s.len + x.size, cap⟩ → k r (newC h T (xs ++ strC x ++ (List.replicate (cap - (s.len + x.size)) z).flatten)))
theorem strC_len (x : ByteArray) : (strC x).length = x.size := by simp [strC]
theorem strC_one (x : ByteArray) : (strC x).all (·.oneCell') = true := by
  rw [List.all_eq_true]; intro v hv; simp only [strC, List.mem_map] at hv; obtain ⟨b, _, rfl⟩ := hv; rfl
theorem run_firstCells_str {P : Program} (x : ByteArray) (w : World) : (Builtin.firstCells 1 x.size (.string x)).run P w = .ok (strC x).toArray w := by
  have h0 : x.extract 0 x.size = x := by simp
  simp only [Builtin.firstCells, h0, Sem.run_pure]
  congr 1
  apply Array.ext'
  simp [strC, reg]
theorem e_apps {T U e bytes : Nat} {z : List Value} {s : Sl} {x : ByteArray} {k : Sl → H → Prop} {xo so : Operand} (hT : SlT C.P T e 1) (hU : C.P.underlying U = some .string) (hz : ZeroOf C.P e z) (hb : (C.P.info? e).map (·.bytes) = some bytes) (hs : ev ρ so = reg s) (hx : ev ρ xo = reg x) (hd : okd C.n dst = true)
    (hh : apps e bytes z s x k h) (hj : ∀ (h' : H) (r : Sl), k r h' → J (upo ρ dst (reg r)) h') : OpE C Q (.call ⟨.builtin .append, #[so, xo], #[T, U]⟩) ty dst J ρ h := by
  obtain ⟨xs, hxs, hroom, hgrow⟩ := hh
  obtain ⟨i, zv, hi, hzv, hzc⟩ := hz
  obtain ⟨hu, i', hi', hsz⟩ := hT
  rw [hi] at hi'
  obtain rfl := Option.some.inj hi'
  rw [hi] at hb
  have hby : i.bytes = bytes := Option.some.inj hb
  refine OpE.ofAny hd (fun w hw pos after g => ?_)
  have hss : reg s = .slice s.a s.len s.cap := rfl
  have hxx : reg x = .string x := rfl
  have hfx := run_firstCells_str (P := C.P) x w
  by_cases hc : s.len + x.size ≤ s.cap
  · obtain ⟨hwa, hk⟩ := hroom hc
    cases ha : s.a with
    | none =>
      refine ⟨reg (⟨s.a, s.len + x.size, s.cap⟩ : Sl), h, w, ?_, hw, rfl, rfl, rfl, ?_⟩
      · simp [execOp, resolve, invoke, builtin, hs, hx, Builtin.append_, run_underlying hu, run_underlying hU, sizeOf, typeInfo, hi, hsz, Builtin.lenOf, hss, hxx, hc, hfx, ha, reg]
      · have := hk _ rfl
        rw [ha] at this
        simp only at this
        rw [ha]
        exact hj _ _ this
    | some a =>
      have hst := run_store_list C.P (a := a.add (s.len * 1)) (ys := strC x) (w := w) (by rw [hw, strC_len]; exact hwa a ha) (strC_one x)
      refine ⟨reg (⟨s.a, s.len + x.size, s.cap⟩ : Sl), putC h (a.add (s.len * 1)) (strC x), { w with heap := putC w.heap (a.add (s.len * 1)) (strC x) }, ?_, by rw [hw], rfl, rfl, rfl, ?_⟩
      · simp at hst
        simp [execOp, resolve, invoke, builtin, hs, hx, Builtin.append_, run_underlying hu, run_underlying hU, sizeOf, typeInfo, hi, hsz, Builtin.lenOf, hss, hxx, hc, hfx, ha, reg, hst]
      · have := hk _ rfl
        rw [ha] at this
        simp only at this
        rw [ha]
        exact hj _ _ this
  · obtain ⟨hbb, h63, hk⟩ := hgrow (by omega)
    have hcap := grownCap_ge w (s.len + x.size) s.cap e
    have h48 : ¬ (281474976710656 < Builtin.nextslicecap (s.len + x.size) s.cap * i.bytes) := by
      have := growslice_fits (need := s.len + x.size) (old := s.cap) (bytes := i.bytes) (by omega) (by rw [hby]; exact hbb)
      omega
    have h63' : ¬ (9223372036854775807 < ((s.len : Int) + (x.size : Int))) := by omega
    have hfs := run_firstCellsH (P := C.P) hxs (w := w.drew) (by exact hw)
    have hfx' := run_firstCells_str (P := C.P) x w.drew
    rw [hss] at hfs
    have hzf := zeroCells_flat z (grownCap w (s.len + x.size) s.cap e - (s.len + x.size))
    refine ⟨reg (⟨some ⟨h.size, 0, none⟩, s.len + x.size, grownCap w (s.len + x.size) s.cap e⟩ : Sl), newC h e (xs ++ strC x ++ (List.replicate (grownCap w (s.len + x.size) s.cap e - (s.len + x.size)) z).flatten), { w.drew with heap := newC h e (xs ++ strC x ++ (List.replicate (grownCap w (s.len + x.size) s.cap e - (s.len + x.size)) z).flatten) }, ?_, rfl, rfl, rfl, rfl, hj _ _ (hk _ _ _ rfl hcap rfl)⟩
    subst hw
    simp only [execOp, resolve, invoke, builtin, hs, hx, Builtin.append_, List.map_cons, List.map_nil, List.map_toArray, hss, hxx]
    simp [run_underlying hu, run_underlying hU, sizeOf, typeInfo, zeroValue, hi, hzv, hsz, Builtin.lenOf, hc, h63', h48, Question.forced, hfs, hfx', newRow, grownCap, reg, newC] at hzf ⊢
    rw [hzc, hzf]
    simp
    rfl
/-- copy: as many as both have -/
def cpy (size : Nat) (d x : Sl) (k : Int → H → Prop) : H → Prop := fun h =>
  ∃ ys : List Value, SlC h ⟨x.a, min x.len d.len, x.cap⟩ size ys ∧ ys.all (·.oneCell') = true ∧ (∀ a, d.a = some a → WAt h a ys.length) ∧
    k ((min x.len d.len : Nat) : Int) (match d.a with | some a => putC h a ys | none => h)
theorem e_cpy {T U e size : Nat} {d x : Sl} {k : Int → H → Prop} {dO xo : Operand} (hT : SlT C.P T e size) (hs : ev ρ dO = reg d) (hx : ev ρ xo = reg x) (hd : okd C.n dst = true)
    (hh : cpy size d x k h) (hj : ∀ (h' : H) (r : Int), k r h' → J (upo ρ dst (reg r)) h') : OpE C Q (.call ⟨.builtin .copy, #[dO, xo], #[T, U]⟩) ty dst J ρ h := by
  obtain ⟨ys, hys, h1, hwa, hk⟩ := hh
  refine OpE.ofAny hd (fun w hw pos after g => ?_)
  have hss : reg d = .slice d.a d.len d.cap := rfl
  have hxx : reg x = .slice x.a x.len x.cap := rfl
  have hfx := run_firstCellsH (P := C.P) hys hw
  have hfx' : (Builtin.firstCells size (min x.len d.len) (.slice x.a x.len x.cap)).run C.P w = .ok ys.toArray w := by
    have e0 : Builtin.firstCells size (min x.len d.len) (.slice x.a x.len x.cap) = Builtin.firstCells size (min x.len d.len) (reg (⟨x.a, min x.len d.len, x.cap⟩ : Sl)) := by
      simp only [reg]; cases x.a <;> rfl
    rw [e0]; exact hfx
  have hmin : Nat.min x.len d.len = min x.len d.len := rfl
  cases ha : d.a with
  | none =>
    refine ⟨reg ((min x.len d.len : Nat) : Int), h, w, ?_, hw, rfl, rfl, rfl, ?_⟩
    · simp only [execOp, resolve, invoke, builtin, hs, hx, Builtin.copy_, List.map_cons, List.map_nil, List.map_toArray, hss, hxx, ha]
      simp [run_underlying hT.1, run_sizeOf hT.2, Builtin.lenOf, hmin, hfx', reg, goInt]
    · rw [ha] at hk; exact hj _ _ hk
  | some a =>
    have hst := run_store_list C.P (a := a) (ys := ys) (w := w) (by rw [hw]; exact hwa a ha) h1
    refine ⟨reg ((min x.len d.len : Nat) : Int), putC h a ys, { w with heap := putC w.heap a ys }, ?_, by rw [hw], rfl, rfl, rfl, ?_⟩
    · simp only [execOp, resolve, invoke, builtin, hs, hx, Builtin.copy_, List.map_cons, List.map_nil, List.map_toArray, hss, hxx, ha]
      simp [run_underlying hT.1, run_sizeOf hT.2, Builtin.lenOf, hmin, hfx', reg, goInt, hst]
    · rw [ha] at hk; exact hj _ _ hk
/-- clear of a slice -/
def clr (z : List Value) (d : Sl) (k : H → Prop) : H → Prop := fun h =>
  (d.a = none ∨ d.len = 0 → k h) ∧ ∀ a, d.a = some a → d.len ≠ 0 → WAt h a (d.len * z.length) ∧ k (putC h a (List.replicate d.len z).flatten)
theorem e_clr {T e size : Nat} {z : List Value} {d : Sl} {k : H → Prop} {dO : Operand} (hT : SlT C.P T e size) (hz : ZeroOf C.P e z) (h1 : z.all (·.oneCell') = true) (hs : ev ρ dO = reg d) (hd : okd C.n dst = true)
    (hh : clr z d k h) (hj : ∀ h' : H, k h' → J (upo ρ dst (.tuple #[])) h') : OpE C Q (.call ⟨.builtin .clear, #[dO], #[T]⟩) ty dst J ρ h := by
  obtain ⟨i, zv, hi, hzv, hzc⟩ := hz
  refine OpE.ofAny hd (fun w hw pos after g => ?_)
  have hss : reg d = .slice d.a d.len d.cap := rfl
  cases ha : d.a with
  | none =>
    refine ⟨.tuple #[], h, w, ?_, hw, rfl, rfl, rfl, hj _ (hh.1 (.inl ha))⟩
    simp only [execOp, resolve, invoke, builtin, hs, Builtin.clear_, List.map_cons, List.map_nil, List.map_toArray, hss, ha]
    simp [run_underlying hT.1]
  | some a =>
    cases hl : d.len with
    | zero =>
      refine ⟨.tuple #[], h, w, ?_, hw, rfl, rfl, rfl, hj _ (hh.1 (.inr hl))⟩
      simp only [execOp, resolve, invoke, builtin, hs, Builtin.clear_, List.map_cons, List.map_nil, List.map_toArray, hss, ha, hl]
      simp [run_underlying hT.1]
    | succ m =>
      obtain ⟨hwa, hk⟩ := hh.2 a ha (by omega)
      have hlen : (List.replicate d.len z).flatten.length = d.len * z.length := by simp
      have hone : (List.replicate d.len z).flatten.all (·.oneCell') = true := by
        rw [List.all_eq_true] at h1 ⊢
        intro v hv
        simp only [List.mem_flatten, List.mem_replicate] at hv
        obtain ⟨l, ⟨_, rfl⟩, hv⟩ := hv
        exact h1 v hv
      have hst := run_store_list C.P (a := a) (ys := (List.replicate d.len z).flatten) (w := w) (by rw [hw, hlen]; exact hwa) hone
      have hzf := zeroCells_flat z d.len
      refine ⟨.tuple #[], putC h a (List.replicate d.len z).flatten, { w with heap := putC w.heap a (List.replicate d.len z).flatten }, ?_, by rw [hw], rfl, rfl, rfl, hj _ hk⟩
      simp only [execOp, resolve, invoke, builtin, hs, Builtin.clear_, List.map_cons, List.map_nil, List.map_toArray, hss, ha]
      rw [hl] at hst hzf ⊢
      simp [run_underlying hT.1, zeroValue, typeInfo, hi, hzv, hzc, hzf, hst]
/-- a row that shares its bytes with a string's constant -/
def frz (h : H) (b : Nat) : H := match h[b]? with
  | some (.cells arr T fr) => h.setIfInBounds b (.cells arr T (if fr.1 == fr.2 then (arr.size, arr.size + 1) else (min fr.1 arr.size, max fr.2 (arr.size + 1))))
  | _ => h
def strish (s : Sl) (k : Sl → H → Prop) : H → Prop := fun h => ∃ (a : Addr) (arr : Array Value) (T : Nat) (fr : Nat × Nat), s.a = some a ∧ h[a.block]? = some (.cells arr T fr) ∧ k s (frz h a.block)
theorem e_strish {T e : Nat} {s : Sl} {k : Sl → H → Prop} {x : Operand} (hT : SlT C.P T e 1) (he : C.P.underlying e = some (.int .u8)) (hx : ev ρ x = reg s) (hd : okd C.n dst = true)
    (hh : strish s k h) (hj : ∀ (h' : H) (r : Sl), k r h' → J (upo ρ dst (reg r)) h') : OpE C Q (.convert T T x) ty dst J ρ h := by
  obtain ⟨a, arr, T', fr, ha, hb, hk⟩ := hh
  refine OpE.ofAny hd (fun w hw pos after g => ⟨reg s, frz h a.block, { w with heap := frz h a.block }, ?_, rfl, rfl, rfl, rfl, hj _ _ hk⟩)
  have hss : reg s = .slice (some a) s.len s.cap := by simp only [reg, ha]
  have hsh : w.shape? a.block = some (T', arr.size) := by unfold World.shape?; rw [hw, hb]
  have hfr : w.freeze { block := a.block, off := arr.size } 1 = { w with heap := frz h a.block } := by
    have e1 : (w.freeze { block := a.block, off := arr.size } 1).heap = frz h a.block := by
      unfold World.freeze frz
      rw [hb, if_neg (by decide)]
      simp only
      subst hw
      apply Array.ext
      · simp
      · intro j h1 h2
        rw [Array.getElem_modify, Array.getElem_setIfInBounds]
        split
        · rename_i e; subst e
          rw [Array.getElem?_eq_some_iff] at hb
          rw [hb.2]
        · rfl
    have e2 : w.freeze { block := a.block, off := arr.size } 1 = { w with heap := (w.freeze { block := a.block, off := arr.size } 1).heap } := by
      unfold World.freeze; rw [if_neg (by decide)]
    rw [e2, e1]
  simp only [execOp, hx, hss]
  simp [convert, run_underlying hT.1, run_underlying he, markStringish, hsh, hfr]
end
end Go.Sh
namespace Go.Sh
open Go
open Go.Sh.Ty (reg)
/-- what a map's entries are -/
structure MapO {κ ν : Type} [Ty κ] [Ty ν] (es : Array MapEntry) (clk : Nat) (l : List (κ × ν)) : Prop where
  kv : es.toList.map (fun e => (e.key, e.val)) = l.map fun p => (reg p.1, reg p.2)
  nodup : (es.toList.map (·.born)).Nodup
  born : ∀ e ∈ es.toList, e.born < clk
def MapIs {κ ν : Type} [Ty κ] [Ty ν] (h : H) (m : Mp) (l : List (κ × ν)) : Prop :=
  (m.r = none ∧ l = []) ∨ ∃ r es clk, m.r = some r ∧ h[r]? = some (.map es clk) ∧ MapO es clk l
/-- the first entry of a key -/
def mfind {κ ν : Type} [DecidableEq κ] (l : List (κ × ν)) (k : κ) : Option ν := (l.find? fun p => decide (k = p.1)).map (·.2)
def mlook {κ ν : Type} [DecidableEq κ] (z : ν) (l : List (κ × ν)) (k : κ) : T2 ν Bool := match mfind l k with
  | some v => ⟨v, true⟩
  | none => ⟨z, false⟩
/-- an entry is put in the place of that of its key, or behind all -/
def mins {κ ν : Type} [DecidableEq κ] : List (κ × ν) → κ → ν → List (κ × ν)
  | [], k, v => [(k, v)]
  | p :: l, k, v => if k = p.1 then (p.1, v) :: l else p :: mins l k v
def mget {κ ν α : Type} [Ty κ] [Ty ν] [DecidableEq κ] (m : Mp) (g : List (κ × ν) → α) (k : α → H → Prop) : H → Prop := fun h => ∃ y : α, (∃ l : List (κ × ν), MapIs h m l ∧ g l = y) ∧ k y h
def mput {κ ν : Type} [Ty κ] [Ty ν] [DecidableEq κ] (m : Mp) (key : κ) (v : ν) (k : H → Prop) : H → Prop := fun h =>
  ∃ (r : Nat) (es : Array MapEntry) (clk : Nat) (l : List (κ × ν)), m.r = some r ∧ h[r]? = some (.map es clk) ∧ MapO es clk l ∧ ∀ es' clk', MapO es' clk' (mins l key v) → k (h.setIfInBounds r (.map es' clk'))
def mkmap (k : Mp → H → Prop) : H → Prop := fun h => ∀ m : Mp, m = ⟨some h.size⟩ → k m (h.push (.map #[] 0))
/-- a type of keys that a map's search knows -/
structure KeyT (P : Program) (K : TypeId) (κ : Type) [Ty κ] [DecidableEq κ] : Prop where
  eq : ∀ (a b : κ) (w : World), (Op.equal K (reg a) (reg b)).run P w = .ok (decide (a = b)) w
  ok : ∀ (e : Bool) (a : κ) (w : World), (Instr.checkKey e 10000 K (reg a)).run P w = .ok () w
  same : ∀ a : κ, Instr.sameBits 10000 (reg a) (reg a) = true
  now : ∃ d, P.underlying K = some d ∧ ((∀ a b : κ, Instr.sameNow d (reg a) (reg b) = some (decide (a = b))) ∨ (∀ a b : κ, Instr.sameNow d (reg a) (reg b) = none))
def fidx {κ : Type} [DecidableEq κ] (k : κ) : List κ → Nat → Option Nat
  | [], _ => none
  | x :: l, i => if k = x then some i else fidx k l (i + 1)
section
variable {P : Program} {K : TypeId} {κ ν : Type} [Ty κ] [Ty ν] [DecidableEq κ]
theorem findAsking_run (hk : KeyT P K κ) (k : κ) (w : World) : ∀ (es : List MapEntry) (l : List (κ × ν)) (i : Nat), es.map (fun e => (e.key, e.val)) = l.map (fun p => (reg p.1, reg p.2)) →
    (Instr.findAsking K (reg k) es i).run P w = .ok ((fidx k (l.map (·.1)) i).map fun j => (j, ((es[j - i]?).map (·.val)).getD undef)) w
  | [], l, i, h => by
    have : l = [] := by simpa using h.symm
    subst this; simp [Instr.findAsking, fidx]
  | e :: es, [], i, h => by simp at h
  | e :: es, p :: l, i, h => by
    simp only [List.map_cons, List.cons.injEq, Prod.mk.injEq] at h
    obtain ⟨⟨h1, h2⟩, h3⟩ := h
    have ih := findAsking_run hk k w es l (i + 1) h3
    simp only [Instr.findAsking, Sem.run_bind, h1, hk.eq, Result.andThen_ok, List.map_cons, fidx]
    by_cases hc : k = p.1
    · simp [hc]
    · simp only [hc, decide_false, Bool.false_eq_true, if_false]
      rw [ih]
      congr 1
      cases hf : fidx k (l.map (·.1)) (i + 1) with
      | none => rfl
      | some j =>
        have hj : i + 1 ≤ j := by
          clear ih h3
          have : ∀ (l : List κ) (i j : Nat), fidx k l i = some j → i ≤ j := by
            intro l
            induction l with
            | nil => intro i j h; cases h
            | cons x l ih =>
              intro i j h
              unfold fidx at h
              split at h
              · have := Option.some.inj h; omega
              · have := ih _ _ h; omega
          exact this _ _ _ hf
        simp only [Option.map_some, Option.some.injEq, Prod.mk.injEq, true_and]
        rw [show j - i = (j - (i + 1)) + 1 by omega, List.getElem?_cons_succ]
theorem findNow_all (d : TypeDesc) (hn : ∀ a b : κ, Instr.sameNow d (reg a) (reg b) = some (decide (a = b))) (k : κ) : ∀ (es : List MapEntry) (l : List (κ × ν)) (i : Nat), es.map (fun e => (e.key, e.val)) = l.map (fun p => (reg p.1, reg p.2)) →
    Instr.findNow d (reg k) es i = some ((fidx k (l.map (·.1)) i).map fun j => (j, ((es[j - i]?).map (·.val)).getD undef))
  | [], l, i, h => by
    have : l = [] := by simpa using h.symm
    subst this; simp [Instr.findNow, fidx]
  | e :: es, [], i, h => by simp at h
  | e :: es, p :: l, i, h => by
    simp only [List.map_cons, List.cons.injEq, Prod.mk.injEq] at h
    obtain ⟨⟨h1, h2⟩, h3⟩ := h
    have ih := findNow_all d hn k es l (i + 1) h3
    simp only [Instr.findNow, h1, hn, List.map_cons, fidx]
    by_cases hc : k = p.1
    · simp [hc]
    · simp only [hc, decide_false, if_false]
      rw [ih]
      congr 1
      cases hf : fidx k (l.map (·.1)) (i + 1) with
      | none => rfl
      | some j =>
        have hj : i + 1 ≤ j := by
          have : ∀ (l : List κ) (i j : Nat), fidx k l i = some j → i ≤ j := by
            intro l
            induction l with
            | nil => intro i j h; cases h
            | cons x l ih =>
              intro i j h
              unfold fidx at h
              split at h
              · have := Option.some.inj h; omega
              · have := ih _ _ h; omega
          exact this _ _ _ hf
        simp only [Option.map_some, Option.some.injEq, Prod.mk.injEq, true_and]
        rw [show j - i = (j - (i + 1)) + 1 by omega, List.getElem?_cons_succ]
theorem findNow_none (d : TypeDesc) (hn : ∀ a b : κ, Instr.sameNow d (reg a) (reg b) = none) (k : κ) (es : List MapEntry) (l : List (κ × ν)) (h : es.map (fun e => (e.key, e.val)) = l.map (fun p => (reg p.1, reg p.2))) :
    Instr.findNow d (reg k) es 0 = none ∨ l = [] := by
  cases es with
  | nil => right; simpa using h.symm
  | cons e es =>
    cases l with
    | nil => simp at h
    | cons p l =>
      left
      simp only [List.map_cons, List.cons.injEq, Prod.mk.injEq] at h
      simp only [Instr.findNow, h.1.1, hn]
theorem findKey_run (hk : KeyT P K κ) (k : κ) (w : World) {es : List MapEntry} {l : List (κ × ν)} (h : es.map (fun e => (e.key, e.val)) = l.map (fun p => (reg p.1, reg p.2))) :
    (Instr.findKey K (reg k) es).run P w = .ok ((fidx k (l.map (·.1)) 0).map fun j => (j, ((es[j]?).map (·.val)).getD undef)) w := by
  obtain ⟨d, hd, hn⟩ := hk.now
  unfold Instr.findKey
  rw [Sem.run_bind, run_underlying hd, Result.andThen_ok]
  rcases hn with hn | hn
  · rw [findNow_all d hn k es l 0 h]
    simp
  · rcases findNow_none d hn k es l h with h0 | h0
    · rw [h0]
      have := findAsking_run hk k w es l 0 h
      simpa using this
    · subst h0
      have : es = [] := by simpa using h
      subst this
      simp [Instr.findNow, fidx]
theorem fidx_find (k : κ) : ∀ (l : List (κ × ν)) (i : Nat), match fidx k (l.map (·.1)) i with
    | none => mfind l k = none
    | some j => i ≤ j ∧ ∃ p, l[j - i]? = some p ∧ k = p.1 ∧ mfind l k = some p.2
  | [], i => by simp [fidx, mfind]
  | p :: l, i => by
    simp only [List.map_cons, fidx]
    by_cases hc : k = p.1
    · simp [hc, mfind]
    · simp only [hc, if_false]
      have ih := fidx_find k l (i + 1)
      have hm : mfind (p :: l) k = mfind l k := by simp [mfind, hc]
      cases hf : fidx k (l.map (·.1)) (i + 1) with
      | none => rw [hf] at ih; simp only at ih ⊢; rw [hm, ih]
      | some j =>
        rw [hf] at ih
        obtain ⟨h1, q, h2, h3, h4⟩ := ih
        refine ⟨by omega, q, ?_, h3, by rw [hm]; exact h4⟩
        rw [show j - i = (j - (i + 1)) + 1 by omega, List.getElem?_cons_succ]; exact h2
theorem MapO.look (hk : KeyT P K κ) {es : Array MapEntry} {clk : Nat} {l : List (κ × ν)} (H : MapO es clk l) (k : κ) (w : World) :
    ∃ r, (Instr.findKey K (reg k) es.toList).run P w = .ok r w ∧ ((r = none ∧ mfind l k = none) ∨ ∃ j v, r = some (j, reg v) ∧ mfind l k = some v ∧ ∃ e, es[j]? = some e ∧ e.key = reg k ∧ (l[j]?).map (·.1) = some k) := by
  refine ⟨_, findKey_run hk k w H.kv, ?_⟩
  have := fidx_find k l 0
  cases hf : fidx k (l.map (·.1)) 0 with
  | none => rw [hf] at this; exact .inl ⟨rfl, this⟩
  | some j =>
    rw [hf] at this
    obtain ⟨_, p, h2, h3, h4⟩ := this
    simp only [Nat.sub_zero] at h2
    have hj := congrArg (fun l => l[j]?) H.kv
    simp only [List.getElem?_map, h2, Option.map_some] at hj
    rw [Option.map_eq_some_iff] at hj
    obtain ⟨e, he, h5⟩ := hj
    obtain ⟨h6, h7⟩ := Prod.mk.inj h5
    refine .inr ⟨j, p.2, ?_, h4, e, by simpa using he, by rw [h6, h3], by rw [h2, h3]; rfl⟩
    simp only [Option.map_some]
    rw [he]
    simp [h7]
end
end Go.Sh
namespace Go.Sh
open Go
open Go.Sh.Ty (reg)
open Go.ChangeMaps (setBlock)
theorem run_getObjH {P : Program} {w : World} {r : Nat} {es : Array MapEntry} {clk : Nat} (h : w.heap[r]? = some (.map es clk)) : (getObj r).run P w = .ok (.map es clk) w := by simp [getObj, Sem.run, h]
theorem run_getItH {P : Program} {w : World} {r : Nat} {a : Option Nat} {b : Nat} {c : Array Nat} {d : Nat} (h : w.heap[r]? = some (.mapIter a b c d)) : (getObj r).run P w = .ok (.mapIter a b c d) w := by simp [getObj, Sem.run, h]
theorem run_setObjH {P : Program} {w : World} {r : Nat} {es : Array MapEntry} {clk : Nat} (o' : Obj) (h : w.heap[r]? = some (.map es clk)) : (setObj r o').run P w = .ok () { w with heap := w.heap.setIfInBounds r o' } := by simp [setObj, Sem.run, h]
def ZeroV (P : Program) (E : TypeId) (v : Value) : Prop := ∃ i, P.info? E = some i ∧ i.zero = some v
theorem ZeroV.of {P : Program} {t : Nat} {v : Value} (h : (P.info? t).bind (·.zero) = some v) : ZeroV P t v := by
  rw [Option.bind_eq_some_iff] at h
  obtain ⟨i, hi, hz⟩ := h
  exact ⟨i, hi, hz⟩
section
variable {P : Program} {T K E : TypeId} {κ ν : Type} [Ty κ] [Ty ν] [DecidableEq κ]
theorem run_lookupH (hT : P.underlying T = some (.map K E)) (hk : KeyT P K κ) {z : ν} (hz : ZeroV P E (reg z)) {m : Mp} {l : List (κ × ν)} (key : κ) (b : Bool) {w : World} (hm : MapIs w.heap m l) :
    (Instr.lookup T (reg m) (reg key) b).run P w = .ok (if b then reg (mlook z l key) else reg (mlook z l key).a) w := by
  obtain ⟨i, hi, hzv⟩ := hz
  have hreg : reg m = .map m.r := rfl
  rcases hm with ⟨hr, rfl⟩ | ⟨r, es, clk, hr, hb, H⟩
  · have hf := findKey_run (ν := ν) hk key w (es := []) (l := []) rfl
    simp only [List.map_nil, fidx, Option.map_none] at hf
    simp [Instr.lookup, run_underlying hT, hreg, hr, hk.ok, hf, zeroValue, typeInfo, hi, hzv, mlook, mfind]
    cases b <;> rfl
  · obtain ⟨q, hq, hcase⟩ := H.look hk key w
    have hg := run_getObjH (P := P) hb
    rcases hcase with ⟨rfl, hn⟩ | ⟨j, v, rfl, hn, _⟩
    · simp [Instr.lookup, run_underlying hT, hreg, hr, hg, hk.ok, hq, zeroValue, typeInfo, hi, hzv, mlook, hn]
      cases b <;> rfl
    · simp [Instr.lookup, run_underlying hT, hreg, hr, hg, hk.ok, hq, mlook, hn]
      cases b <;> rfl
theorem run_keyStays (hk : KeyT P K κ) (key : κ) (w : World) : (Instr.keyThatStays (reg key) (reg key)).run P w = .ok (reg key) w := by
  simp [Instr.keyThatStays, hk.same]
theorem mins_fidx (k : κ) (v : ν) : ∀ (l : List (κ × ν)) (i : Nat), match fidx k (l.map (·.1)) i with
    | none => mins l k v = l ++ [(k, v)]
    | some j => i ≤ j ∧ mins l k v = l.modify (j - i) (fun p => (p.1, v)) ∧ ∃ p, l[j - i]? = some p ∧ k = p.1
  | [], i => by simp [fidx, mins]
  | p :: l, i => by
    simp only [List.map_cons, fidx]
    by_cases hc : k = p.1
    · simp [hc, mins]
    · simp only [hc, if_false]
      have ih := mins_fidx k v l (i + 1)
      cases hf : fidx k (l.map (·.1)) (i + 1) with
      | none => rw [hf] at ih; simp only at ih ⊢; simp [mins, hc, ih]
      | some j =>
        rw [hf] at ih
        obtain ⟨h1, h2, q, h3, h4⟩ := ih
        have e : j - i = (j - (i + 1)) + 1 := by omega
        refine ⟨by omega, ?_, q, ?_, h4⟩
        · rw [e]; simp [mins, hc, h2]
        · rw [e, List.getElem?_cons_succ]; exact h3
theorem MapO.push {es : Array MapEntry} {clk : Nat} {l : List (κ × ν)} (H : MapO es clk l) (key : κ) (v : ν) : MapO (es.push { key := reg key, val := reg v, born := clk }) (clk + 1) (l ++ [(key, v)]) := by
  refine ⟨by simp [H.kv], ?_, ?_⟩
  · have h1 := H.nodup
    have h2 := H.born
    simp only [Array.toList_push, List.map_append, List.map_cons, List.map_nil]
    rw [List.nodup_append]
    refine ⟨h1, by simp, fun a ha b hb => ?_⟩
    simp only [List.mem_map] at ha
    obtain ⟨e, he, rfl⟩ := ha
    simp only [List.mem_singleton] at hb
    have := h2 e he
    omega
  · intro e he
    simp only [Array.toList_push, List.mem_append, List.mem_singleton] at he
    rcases he with he | rfl
    · have := H.born e he; omega
    · simp
theorem map_modify {α β : Type} (f : α → β) (g : α → α) (g' : β → β) (L : List α) (L' : List β) (i : Nat) (h : L.map f = L') (hg : ∀ a, L[i]? = some a → f (g a) = g' (f a)) : (L.modify i g).map f = L'.modify i g' := by
  subst h
  apply List.ext_getElem?
  intro j
  simp only [List.getElem?_map, List.getElem?_modify]
  by_cases hij : i = j
  · subst hij
    cases hl : L[i]? with
    | none => simp
    | some a => simp [hg a hl]
  · simp [hij]
theorem MapO.setAt {es : Array MapEntry} {clk : Nat} {l : List (κ × ν)} (H : MapO es clk l) {j : Nat} {p : κ × ν} (hj : l[j]? = some p) (key : κ) (v : ν) (hp : key = p.1) : MapO (es.modify j fun e => { e with key := reg key, val := reg v }) clk (l.modify j fun p => (p.1, v)) := by
  have hes : (es.modify j fun e => { e with key := reg key, val := reg v }).toList = es.toList.modify j fun e => { e with key := reg key, val := reg v } := by simp
  refine ⟨?_, ?_, ?_⟩
  · rw [hes, map_modify _ _ (fun q => (q.1, reg v)) _ _ j H.kv]
    · symm
      refine map_modify _ _ _ _ _ j rfl (fun a ha => ?_)
      rfl
    · intro a ha
      have := congrArg (fun l => l[j]?) H.kv
      simp only [List.getElem?_map, ha, hj, Option.map_some, Option.some.injEq, Prod.mk.injEq] at this
      simp only [Prod.mk.injEq, and_true]
      rw [this.1, hp]
  · rw [hes]
    have : (es.toList.modify j fun e => { e with key := reg key, val := reg v }).map (·.born) = es.toList.map (·.born) := by
      apply List.ext_getElem?
      intro i
      simp only [List.getElem?_map, List.getElem?_modify]
      by_cases hij : j = i
      · subst hij; cases es.toList[j]? <;> simp
      · simp [hij]
    rw [this]
    exact H.nodup
  · intro e he
    rw [hes] at he
    obtain ⟨i, hi⟩ := List.mem_iff_getElem?.1 he
    rw [List.getElem?_modify] at hi
    by_cases hij : j = i
    · subst hij
      cases hl : es.toList[j]? with
      | none => rw [hl] at hi; simp at hi
      | some a =>
        rw [hl] at hi
        simp at hi
        subst hi
        exact H.born a (List.mem_iff_getElem?.2 ⟨_, hl⟩)
    · simp [hij] at hi
      exact H.born e (List.mem_iff_getElem?.2 ⟨i, by simpa using hi⟩)
theorem run_findAt (hk : KeyT P K κ) {es : Array MapEntry} {clk : Nat} {l : List (κ × ν)} (H : MapO es clk l) (key : κ) (v : ν) :
    ((∀ w, (Instr.findKey K (reg key) es.toList).run P w = .ok none w) ∧ mins l key v = l ++ [(key, v)] ∧ mfind l key = none) ∨
    ∃ j u e p, (∀ w, (Instr.findKey K (reg key) es.toList).run P w = .ok (some (j, u)) w) ∧ es[j]? = some e ∧ e.key = reg key ∧ u = e.val ∧ u = reg p.2 ∧ mfind l key = some p.2 ∧ l[j]? = some p ∧ key = p.1 ∧ mins l key v = l.modify j (fun p => (p.1, v)) := by
  have h1 := fun w => findKey_run hk key w H.kv
  have h2 := mins_fidx key v l 0
  have h3 := fidx_find key l 0
  cases hf : fidx key (l.map (·.1)) 0 with
  | none => rw [hf] at h1 h2 h3; exact .inl ⟨h1, h2, h3⟩
  | some j =>
    rw [hf] at h1 h2 h3
    obtain ⟨_, h4, p, h5, h6⟩ := h2
    obtain ⟨_, p', h5', _, h7⟩ := h3
    rw [h5] at h5'
    obtain rfl := Option.some.inj h5'
    simp only [Nat.sub_zero] at h4 h5
    have hj := congrArg (fun l => l[j]?) H.kv
    simp only [List.getElem?_map, h5, Option.map_some] at hj
    rw [Option.map_eq_some_iff] at hj
    obtain ⟨e, he, h8⟩ := hj
    obtain ⟨h9, h10⟩ := Prod.mk.inj h8
    refine .inr ⟨j, e.val, e, p, ?_, by simpa using he, by rw [h9, h6], rfl, h10, h7, h5, h6, h4⟩
    intro w
    rw [h1]
    show Result.ok (some (j, ((es.toList[j]?).map (·.val)).getD undef)) w = _
    rw [he]
    rfl
end
/-! maps as the printer uses them -/
def mchk {κ ν α : Type} [Ty κ] [Ty ν] (m : Mp) (g : List (κ × ν) → α) (y : α) (k : H → Prop) : H → Prop := fun h => (∃ l : List (κ × ν), MapIs h m l ∧ g l = y) ∧ k h
/-- an iterator and what it has still to give -/
def Rng {κ ν : Type} [Ty κ] [Ty ν] (h : H) (p : Addr) (m : Mp) (todo : List (κ × ν)) : Prop :=
  (∃ b, p = ⟨b, 0, none⟩) ∧ ((m.r = none ∧ todo = [] ∧ ∃ s0 s1 s2, h[p.block]? = some (.mapIter none s0 s1 s2)) ∨ ∃ (r : Nat) (es : Array MapEntry) (clk : Nat) (l : List (κ × ν)) (seen : Array Nat),
    m.r = some r ∧ h[p.block]? = some (.mapIter (some r) clk seen clk) ∧ h[r]? = some (.map es clk) ∧ MapO es clk l ∧ todo = ((es.toList.zip l).filter fun q => !seen.contains q.1.born).map (·.2))
/-- the entry that an iterator gave last -/
def EntIs {κ ν : Type} [Ty κ] [Ty ν] (h : H) (p : Addr) (m : Mp) (q : T2 κ ν) : Prop :=
  (∃ b, p = ⟨b, 0, none⟩) ∧ ∃ (r : Nat) (es : Array MapEntry) (clk : Nat) (seen : Array Nat) (since : Nat) (e : MapEntry), m.r = some r ∧ h[p.block]? = some (.mapIter (some r) since (seen.push e.born) clk) ∧ h[r]? = some (.map es clk) ∧ e ∈ es.toList ∧ (es.toList.map (·.born)).Nodup ∧ e.key = reg q.a ∧ e.val = reg q.b
structure Nx (κ ν : Type) where
  o : Option (T2 κ ν)
instance {κ ν : Type} [Ty κ] [Ty ν] : Ty (Nx κ ν) := ⟨fun n => match n.o with
  | none => .tuple #[.bool false]
  | some q => .tuple #[.bool true, reg q.a, reg q.b]⟩
def rng {κ ν : Type} [Ty κ] [Ty ν] (m : Mp) (_ : List (κ × ν)) (k : Addr → H → Prop) : H → Prop := fun h => ∃ l : List (κ × ν), MapIs h m l ∧ ∀ p o, p = ⟨h.size, 0, none⟩ → Rng (h.push o) p m l → k p (h.push o)
def nxt {κ ν : Type} [Ty κ] [Ty ν] (p : Addr) (k : Nx κ ν → H → Prop) : H → Prop := fun h => ∃ (m : Mp) (todo : List (κ × ν)), Rng h p m todo ∧ (todo = [] → k ⟨none⟩ h) ∧
  ∀ q rest o, todo.Perm (q :: rest) → Rng (h.setIfInBounds p.block o) p m rest → EntIs (h.setIfInBounds p.block o) p m (⟨q.1, q.2⟩ : T2 κ ν) → k ⟨some ⟨q.1, q.2⟩⟩ (h.setIfInBounds p.block o)
def ent {κ ν : Type} [Ty κ] [Ty ν] (p : Addr) (k : T2 κ ν → H → Prop) : H → Prop := fun h => ∃ q : T2 κ ν, (∃ m, EntIs h p m q) ∧ k q h
/-- a place in a map is taken for a key -/
def mins0 {κ ν : Type} [DecidableEq κ] (z : ν) (l : List (κ × ν)) (k : κ) : ν := (mfind l k).getD z
def Stamp {κ ν : Type} [Ty κ] [Ty ν] [DecidableEq κ] (h : H) (m : Mp) (l : List (κ × ν)) (key : κ) (s : Int) : Prop :=
  ∃ (r : Nat) (es : Array MapEntry) (clk : Nat), m.r = some r ∧ h[r]? = some (.map es clk) ∧ MapO es clk l ∧ ∃ j e p, es[j]? = some e ∧ (e.born : Int) = s ∧ e.key = reg key ∧ l[j]? = some p ∧ key = p.1 ∧ ∀ v, mins l key v = l.modify j fun p => (p.1, v)
def ment {κ ν : Type} [Ty κ] [Ty ν] [DecidableEq κ] (z : ν) (m : Mp) (key : κ) (k : T2 ν Int → H → Prop) : H → Prop := fun h => ∃ (r : Nat) (es : Array MapEntry) (clk : Nat) (l : List (κ × ν)), m.r = some r ∧ h[r]? = some (.map es clk) ∧ MapO es clk l ∧
  ∀ o s, MapIs (h.setIfInBounds r o) m (mins l key (mins0 z l key)) → Stamp (h.setIfInBounds r o) m (mins l key (mins0 z l key)) key s → k ⟨mins0 z l key, s⟩ (h.setIfInBounds r o)
def mste {κ ν : Type} [Ty κ] [Ty ν] [DecidableEq κ] (_ : List (κ × ν)) (m : Mp) (s : Int) (v : ν) (k : H → Prop) : H → Prop := fun h => ∃ (l : List (κ × ν)) (key : κ), Stamp h m l key s ∧ ∀ r o, m.r = some r → MapIs (h.setIfInBounds r o) m (mins l key v) → k (h.setIfInBounds r o)
theorem mins_push {κ ν : Type} [DecidableEq κ] (k : κ) (z v : ν) : ∀ l : List (κ × ν), mfind l k = none → mins (l ++ [(k, z)]) k v = (l ++ [(k, z)]).modify l.length fun p => (p.1, v)
  | [], _ => by simp [mins]
  | p :: l, h => by
    by_cases hc : k = p.1
    · simp [mfind, hc] at h
    · have h' : mfind l k = none := by simpa [mfind, hc] using h
      have ih := mins_push k z v l h'
      simp [mins, hc, ih]
theorem AtLast {h : H} {r : Nat} {o : Obj} {o' : Obj} (hb : h[r]? = some o) : (h.setIfInBounds r o')[r]? = some o' := by
  rw [Array.getElem?_eq_some_iff] at hb
  obtain ⟨hlt, _⟩ := hb
  simp [hlt]
theorem todo_perm {κ ν : Type} : ∀ (es : List MapEntry) (l : List (κ × ν)) (seen : Array Nat), es.length = l.length → (es.map (·.born)).Nodup → ∀ {j : Nat} {e : MapEntry} {q : κ × ν}, es[j]? = some e → l[j]? = some q → seen.contains e.born = false →
    (((es.zip l).filter fun q => !seen.contains q.1.born).map (·.2)).Perm (q :: (((es.zip l).filter fun q => !(seen.push e.born).contains q.1.born).map (·.2)))
  | [], l, seen, hl, hn, j, e, q, he, hq, hs => by simp at he
  | a :: es, [], seen, hl, hn, j, e, q, he, hq, hs => by simp at hl
  | a :: es, b :: l, seen, hl, hn, j, e, q, he, hq, hs => by
    simp only [List.length_cons, Nat.add_right_cancel_iff] at hl
    simp only [List.map_cons, List.nodup_cons] at hn
    have key : ∀ (es : List MapEntry) (l : List (κ × ν)), e.born ∉ es.map (·.born) → (es.zip l).filter (fun q => !(seen.push e.born).contains q.1.born) = (es.zip l).filter (fun q => !seen.contains q.1.born) := by
      intro es l hne
      apply List.filter_congr
      intro x hx
      have hx1 := (List.of_mem_zip hx).1
      have : x.1.born ≠ e.born := fun e' => hne (List.mem_map.2 ⟨x.1, hx1, e'⟩)
      rw [Bool.eq_iff_iff]
      simp [this]
    cases j with
    | zero =>
      simp only [List.getElem?_cons_zero, Option.some.injEq] at he hq
      subst he; subst hq
      have := key es l hn.1
      simp only [List.zip_cons_cons, List.filter_cons, hs, Bool.not_false, if_true, List.map_cons]
      rw [if_neg (by simp), this]
    | succ j =>
      simp only [List.getElem?_cons_succ] at he hq
      have ih := todo_perm es l seen hl hn.2 he hq hs
      have hab : a.born ≠ e.born := fun e' => hn.1 (List.mem_map.2 ⟨e, List.mem_of_getElem? he, e'.symm⟩)
      simp only [List.zip_cons_cons, List.filter_cons]
      by_cases hsa : seen.contains a.born = true
      · rw [if_neg (by simp only [hsa]; decide), if_neg (by simp at hsa ⊢; intro hx; exact absurd hsa hx)]
        exact ih
      · have hsa' : seen.contains a.born = false := by simpa using hsa
        have h1 : (!(seen.push e.born).contains a.born) = true := by
          simp at hsa' ⊢; exact ⟨hsa', hab⟩
        rw [if_pos (by simp only [hsa']; rfl), if_pos h1]
        simp only [List.map_cons]
        exact (List.Perm.cons b ih).trans (List.Perm.swap _ _ _) |>.trans (by exact List.Perm.refl _)
section
variable {C : Ctx} {ρ : Env} {h : H} {ty : TypeId} {Q : Exit → Act → World → Prop} {J : Env → H → Prop} {dst : Option Tmp} {T K E : TypeId} {κ ν : Type} [Ty κ] [Ty ν] [DecidableEq κ]
theorem v_lookupOk {x i : Operand} {m : Mp} {key : κ} {z : ν} {l : List (κ × ν)} {y : T2 ν Bool} (hT : C.P.underlying T = some (.map K E)) (hk : KeyT C.P K κ) (hz : ZeroV C.P E (reg z)) (hx : ev ρ x = reg m) (hi : ev ρ i = reg key) (hm : MapIs h m l) (hg : mlook z l key = y) :
    OpVal C (.lookup T x i true) ty ρ h (reg y) := by
  intro w hw pos after g d; subst hw; subst hg; simp [execOp, hx, hi, run_lookupH hT hk hz key true hm]
theorem v_lookup {x i : Operand} {m : Mp} {key : κ} {z : ν} {l : List (κ × ν)} {y : ν} (hT : C.P.underlying T = some (.map K E)) (hk : KeyT C.P K κ) (hz : ZeroV C.P E (reg z)) (hx : ev ρ x = reg m) (hi : ev ρ i = reg key) (hm : MapIs h m l) (hg : (mlook z l key).a = y) :
    OpVal C (.lookup T x i false) ty ρ h (reg y) := by
  intro w hw pos after g d; subst hw; subst hg; simp [execOp, hx, hi, run_lookupH hT hk hz key false hm]
theorem v_lenm {x : Operand} {m : Mp} {l : List (κ × ν)} {y : Int} (hT : C.P.underlying T = some (.map K E)) (hx : ev ρ x = reg m) (hm : MapIs h m l) (hg : (l.length : Int) = y) : OpVal C (.call ⟨.builtin .len, #[x], #[T]⟩) ty ρ h (reg y) := by
  intro w hw pos after g d
  subst hw; subst hg
  have hx' : ev ρ x = .map m.r := hx
  rcases hm with ⟨hr, rfl⟩ | ⟨r, es, clk, hr, hb, H⟩
  · simp [execOp, hx', hr, resolve, invoke, builtin, Builtin.len_, run_underlying hT, reg, goInt]
  · have hl : es.size = l.length := by have := congrArg List.length H.kv; simpa using this
    simp [execOp, hx', hr, resolve, invoke, builtin, Builtin.len_, run_underlying hT, reg, goInt, run_getObjH hb, hl]
theorem e_mkmap {k : Mp → H → Prop} (hd : okd C.n dst = true) (hh : mkmap k h) (hj : ∀ (h' : H) (r : Mp), k r h' → J (upo ρ dst (reg r)) h') : OpE C Q (.makeMap T none) ty dst J ρ h := by
  refine OpE.of hd (v := .map (some h.size)) (h.push (.map #[] 0)) (fun w hw pos after g => ⟨{ w with heap := h.push (.map #[] 0) }, ?_, rfl, rfl, rfl, rfl⟩) (hj _ ⟨some h.size⟩ (hh _ rfl))
  subst hw
  simp [execOp, Instr.makeMap]
theorem e_mput {m : Mp} {key : κ} {v : ν} {k : H → Prop} {mo ko vo : Operand} (hT : C.P.underlying T = some (.map K E)) (hk : KeyT C.P K κ) (hm : ev ρ mo = reg m) (hko : ev ρ ko = reg key) (hvo : ev ρ vo = reg v)
    (hh : mput m key v k h) (hj : ∀ h' : H, k h' → J ρ h') : OpE C Q (.mapUpdate T mo ko vo) ty none J ρ h := by
  obtain ⟨r, es, clk, l, hr, hb, H, hkk⟩ := hh
  have hm' : ev ρ mo = .map (some r) := by rw [hm, ← hr]; rfl
  rcases run_findAt hk H key v with ⟨hf, hmi, _⟩ | ⟨j, u, e, p, hf, he, hke, _, _, _, hlj, hp, hmi⟩
  · refine OpE.ofSkip (h.setIfInBounds r (.map (es.push { key := reg key, val := reg v, born := clk }) (clk + 1))) rfl (fun w hw pos after g => ⟨{ w with heap := h.setIfInBounds r (.map (es.push { key := reg key, val := reg v, born := clk }) (clk + 1)) }, ?_, rfl, rfl, rfl, rfl⟩) (hj _ (hkk _ _ (by rw [hmi]; exact H.push key v)))
    have hb' : w.heap[r]? = some (.map es clk) := by rw [hw]; exact hb
    simp [execOp, hm', hko, hvo, Instr.mapUpdate, run_underlying hT, run_getObjH hb', hk.ok, hf, run_setObjH _ hb', hw]
  · refine OpE.ofSkip (h.setIfInBounds r (.map (es.modify j fun e => { e with key := reg key, val := reg v }) clk)) rfl (fun w hw pos after g => ⟨{ w with heap := h.setIfInBounds r (.map (es.modify j fun e => { e with key := reg key, val := reg v }) clk) }, ?_, rfl, rfl, rfl, rfl⟩) (hj _ (hkk _ _ (by rw [hmi]; exact H.setAt hlj key v hp)))
    have hb' : w.heap[r]? = some (.map es clk) := by rw [hw]; exact hb
    simp [execOp, hm', hko, hvo, Instr.mapUpdate, run_underlying hT, run_getObjH hb', hk.ok, hf, he, hke, run_keyStays hk, run_setObjH _ hb', hw]
theorem e_ment {m : Mp} {key : κ} {z : ν} {k : T2 ν Int → H → Prop} {mo ko : Operand} (hT : C.P.underlying T = some (.map K E)) (hk : KeyT C.P K κ) (hz : ZeroV C.P E (reg z)) (hm : ev ρ mo = reg m) (hko : ev ρ ko = reg key) (hd : okd C.n dst = true)
    (hh : ment z m key k h) (hj : ∀ (h' : H) (r : T2 ν Int), k r h' → J (upo ρ dst (reg r)) h') : OpE C Q (.mapEntry T mo ko) ty dst J ρ h := by
  obtain ⟨r, es, clk, l, hr, hb, H, hkk⟩ := hh
  obtain ⟨i, hi, hzv⟩ := hz
  have hm' : ev ρ mo = .map (some r) := by rw [hm, ← hr]; rfl
  rcases run_findAt hk H key z with ⟨hf, hmi, hno⟩ | ⟨j, u, e, p, hf, he, hke, hu, hup, hso, hlj, hp, hmi⟩
  · have e0 : mins0 z l key = z := by simp [mins0, hno]
    rw [e0] at hkk
    have HP := H.push key z
    rw [← hmi] at HP
    have hlast := AtLast (o' := .map (es.push { key := reg key, val := reg z, born := clk }) (clk + 1)) hb
    have hlen : es.size = l.length := by have := congrArg List.length H.kv; simpa using this
    refine OpE.of hd (v := reg (⟨z, (clk : Int)⟩ : T2 ν Int)) (h.setIfInBounds r (.map (es.push { key := reg key, val := reg z, born := clk }) (clk + 1))) (fun w hw pos after g => ⟨{ w with heap := h.setIfInBounds r (.map (es.push { key := reg key, val := reg z, born := clk }) (clk + 1)) }, ?_, rfl, rfl, rfl, rfl⟩) (hj _ _ (hkk _ _ (.inr ⟨r, _, _, hr, hlast, HP⟩) ⟨r, _, _, hr, hlast, HP, es.size, { key := reg key, val := reg z, born := clk }, (key, z), by simp, rfl, rfl, by rw [hmi, hlen]; simp, rfl, fun v => by rw [hmi, hlen]; exact mins_push key z v l hno⟩))
    have hb' : w.heap[r]? = some (.map es clk) := by rw [hw]; exact hb
    simp [execOp, hm', hko, Instr.mapEntry, run_underlying hT, run_getObjH hb', hk.ok, hf, zeroValue, typeInfo, hi, hzv, run_setObjH _ hb', hw, goInt, reg]
  · have e0 : mins0 z l key = p.2 := by simp [mins0, hso]
    rw [e0] at hkk
    rcases run_findAt hk H key p.2 with ⟨_, _, hno⟩ | ⟨j', u', e', p', hf', he', _, _, _, _, hlj', hp', hmi'⟩
    · rw [hno] at hso; cases hso
    have hjj : j' = j := by
      have h1 := hf default; have h2 := hf' default
      rw [h1] at h2
      simp only [Result.ok.injEq, Option.some.injEq, Prod.mk.injEq] at h2
      exact h2.1.1.symm
    subst hjj
    rw [hlj] at hlj'
    obtain rfl := Option.some.inj hlj'
    have HS := H.setAt hlj key p.2 hp
    rw [← hmi'] at HS
    have hmm : (es.modify j' fun e => { e with key := reg key, val := reg p.2 }) = (es.modify j' fun e => { e with key := reg key }) := by
      apply Array.ext
      · simp
      · intro i h1 h2
        rw [Array.getElem_modify, Array.getElem_modify]
        split
        · rename_i e2; subst e2
          rw [Array.getElem?_eq_some_iff] at he
          rw [he.2, ← hup, hu]
        · rfl
    rw [hmm] at HS
    have hlast := AtLast (o' := .map (es.modify j' fun e => { e with key := reg key }) clk) hb
    have hall : ∀ v, mins (mins l key p.2) key v = (mins l key p.2).modify j' fun p => (p.1, v) := by
      have hid : mins l key p.2 = l := by
        rw [hmi']
        apply List.ext_getElem?
        intro i
        rw [List.getElem?_modify]
        by_cases hij : j' = i
        · subst hij; rw [hlj]; simp
        · simp [hij]
      rw [hid]
      intro v
      rcases run_findAt hk H key v with ⟨_, _, hno⟩ | ⟨j2, u2, e2, p2, hf2, _, _, _, _, _, _, _, hmi2⟩
      · rw [hno] at hso; cases hso
      · have h1 := hf default; have h2 := hf2 default
        rw [h1] at h2
        simp only [Result.ok.injEq, Option.some.injEq, Prod.mk.injEq] at h2
        rw [hmi2, h2.1.1]
    have hat : (mins l key p.2)[j']? = some (key, p.2) := by
      rw [hmi', List.getElem?_modify, hlj]; simp [hp]
    refine OpE.of hd (v := reg (⟨p.2, (e.born : Int)⟩ : T2 ν Int)) (h.setIfInBounds r (.map (es.modify j' fun e => { e with key := reg key }) clk)) (fun w hw pos after g => ⟨{ w with heap := h.setIfInBounds r (.map (es.modify j' fun e => { e with key := reg key }) clk) }, ?_, rfl, rfl, rfl, rfl⟩) (hj _ _ (hkk _ _ (.inr ⟨r, _, _, hr, hlast, HS⟩) ⟨r, _, _, hr, hlast, HS, j', { e with key := reg key }, (key, p.2), by simp [Array.getElem?_modify, he], rfl, rfl, hat, rfl, hall⟩))
    have hb' : w.heap[r]? = some (.map es clk) := by rw [hw]; exact hb
    simp [execOp, hm', hko, Instr.mapEntry, run_underlying hT, run_getObjH hb', hk.ok, hf, he, hke, run_keyStays hk, run_setObjH _ hb', hw, goInt, reg, hup]
theorem e_mste {m : Mp} {s : Int} {v : ν} {k : H → Prop} {mo so vo : Operand} (l0 : List (κ × ν)) (hm : ev ρ mo = reg m) (hso : ev ρ so = reg s) (hvo : ev ρ vo = reg v)
    (hh : mste l0 m s v k h) (hj : ∀ h' : H, k h' → J ρ h') : OpE C Q (.entryStore T mo so vo) ty none J ρ h := by
  obtain ⟨l, key, ⟨r, es, clk, hr, hb, H, j, e, p, he, hs, hke, hlj, hp, hmi⟩, hkk⟩ := hh
  have hm' : ev ρ mo = .map (some r) := by rw [hm, ← hr]; rfl
  have hso' : ev ρ so = .int .i64 s := hso
  have hfi : es.findIdx? (fun e => (e.born : Int) == s) = some j := by
    rw [Array.findIdx?_eq_some_iff_getElem]
    rw [Array.getElem?_eq_some_iff] at he
    obtain ⟨hlt, he⟩ := he
    refine ⟨hlt, by rw [he]; simpa using hs, fun i hi => ?_⟩
    have hilt : i < es.size := by omega
    have hn := List.pairwise_iff_getElem.1 H.nodup i j (by simpa using hilt) (by simpa using hlt) hi
    simp only [List.getElem_map, Array.getElem_toList, he] at hn
    simp only [beq_iff_eq, ← hs]
    omega
  have HS := H.setAt hlj key v hp
  rw [← hmi] at HS
  have hmm : (es.modify j fun e => { e with key := reg key, val := reg v }) = (es.modify j fun e => { e with val := reg v }) := by
    apply Array.ext
    · simp
    · intro i h1 h2
      rw [Array.getElem_modify, Array.getElem_modify]
      split
      · rename_i e2; subst e2
        rw [Array.getElem?_eq_some_iff] at he
        rw [he.2, ← hke]
      · rfl
  rw [hmm] at HS
  refine OpE.ofSkip (h.setIfInBounds r (.map (es.modify j fun e => { e with val := reg v }) clk)) rfl (fun w hw pos after g => ⟨{ w with heap := h.setIfInBounds r (.map (es.modify j fun e => { e with val := reg v }) clk) }, ?_, rfl, rfl, rfl, rfl⟩) (hj _ (hkk _ _ hr (.inr ⟨r, _, _, hr, AtLast hb, HS⟩)))
  have hb' : w.heap[r]? = some (.map es clk) := by rw [hw]; exact hb
  simp [execOp, hm', hso', hvo, Instr.entryStore, run_getObjH hb', asInt, asIntOf, hfi, run_setObjH _ hb', hw]
theorem e_rng {m : Mp} {k : Addr → H → Prop} {mo : Operand} (l0 : List (κ × ν)) (hT : C.P.underlying T = some (.map K E)) (hm : ev ρ mo = reg m) (hd : okd C.n dst = true)
    (hh : rng m l0 k h) (hj : ∀ (h' : H) (p : Addr), k p h' → J (upo ρ dst (.pointer (some p))) h') : OpE C Q (.range T mo) ty dst J ρ h := by
  obtain ⟨l, hm0, hkk⟩ := hh
  have hm' : ev ρ mo = .map m.r := hm
  rcases hm0 with ⟨hr, rfl⟩ | ⟨r, es, clk, hr, hb, H⟩
  · refine OpE.of hd (v := .pointer (some ⟨h.size, 0, none⟩)) (h.push (.mapIter none 0 #[] 0)) (fun w hw pos after g => ⟨{ w with heap := h.push (.mapIter none 0 #[] 0) }, ?_, rfl, rfl, rfl, rfl⟩) (hj _ _ (hkk _ _ rfl ⟨⟨_, rfl⟩, .inl ⟨hr, rfl, 0, #[], 0, by simp⟩⟩))
    subst hw
    simp [execOp, hm', hr, Instr.range, run_underlying hT]
  · have hlt : r < h.size := by rw [Array.getElem?_eq_some_iff] at hb; exact hb.1
    refine OpE.of hd (v := .pointer (some ⟨h.size, 0, none⟩)) (h.push (.mapIter (some r) clk #[] clk)) (fun w hw pos after g => ⟨{ w with heap := h.push (.mapIter (some r) clk #[] clk) }, ?_, rfl, rfl, rfl, rfl⟩) (hj _ _ (hkk _ _ rfl ⟨⟨_, rfl⟩, .inr ⟨r, es, clk, l, #[], hr, by simp, by rw [Array.getElem?_push_lt hlt]; simpa using (Array.getElem?_eq_some_iff.1 hb).2, H, ?_⟩⟩))
    · subst hw
      simp [execOp, hm', hr, Instr.range, run_underlying hT, run_getObjH hb]
    · have hl : es.toList.length = l.length := by have := congrArg List.length H.kv; simpa using this
      rw [List.filter_eq_self.2 (by simp)]
      exact (List.map_snd_zip (by omega)).symm
theorem e_nxt {p : Addr} {k : Nx κ ν → H → Prop} {io : Operand} (hi : ev ρ io = .pointer (some p)) (hd : okd C.n dst = true)
    (hh : nxt p k h) (hj : ∀ (h' : H) (r : Nx κ ν), k r h' → J (upo ρ dst (reg r)) h') : OpE C Q (.next io false) ty dst J ρ h := by
  obtain ⟨m, todo, ⟨⟨b, rfl⟩, hcase⟩, hnil, hcons⟩ := hh
  rcases hcase with ⟨hr, h0, s0, s1, s2, hb⟩ | ⟨r, es, clk, l, seen, hr, hit, hb, H, htodo⟩
  · refine OpE.of hd (v := reg (⟨none⟩ : Nx κ ν)) h (fun w hw pos after g => ⟨w, ?_, hw, rfl, rfl, rfl⟩) (hj _ _ (hnil h0))
    subst hw
    simp [execOp, hi, Instr.next, run_getItH hb, reg]
  · refine OpE.ofAny hd (fun w hw pos after g => ?_)
    have hit' : w.heap[b]? = some (.mapIter (some r) clk seen clk) := by rw [hw]; exact hit
    have hb' : w.heap[r]? = some (.map es clk) := by rw [hw]; exact hb
    have hl : es.toList.length = l.length := by have := congrArg List.length H.kv; simpa using this
    have hne : b ≠ r := fun e => by subst e; simp only at hit; rw [hit] at hb; cases hb
    rcases run_next_at (P := C.P) w ty b r clk clk seen es clk hit' hb' H.born (Nat.le_refl _) with ⟨hz, hrun⟩ | ⟨e, he, w1, hw1, hrun⟩
    · refine ⟨reg (⟨none⟩ : Nx κ ν), h, w, by simp [execOp, hi, hrun, reg], hw, rfl, rfl, rfl, hj _ _ (hnil ?_)⟩
      have hz' : ∀ e ∈ es.toList, seen.contains e.born = true := by
        have : leftOf es seen = #[] := Array.eq_empty_of_size_eq_zero hz
        unfold leftOf at this
        rw [Array.filter_eq_empty_iff] at this
        intro e he
        simpa using this e (by simpa using he)
      rw [htodo]
      simp only [List.map_eq_nil_iff, List.filter_eq_nil_iff]
      intro q hq
      have := hz' q.1 (List.of_mem_zip hq).1
      rw [this]; decide
    · have hel : e ∈ es.toList ∧ seen.contains e.born = false := by
        unfold leftOf at he
        simp at he
        exact ⟨by simpa using he.1, by simpa using he.2⟩
      obtain ⟨j, hj'⟩ := List.mem_iff_getElem?.1 hel.1
      have hjl : j < l.length := by
        rw [List.getElem?_eq_some_iff] at hj'; obtain ⟨h9, _⟩ := hj'; omega
      have hkv := congrArg (fun l => l[j]?) H.kv
      simp only [List.getElem?_map, hj', Option.map_some, List.getElem?_eq_getElem hjl, Option.some.injEq, Prod.mk.injEq] at hkv
      have hw1h : w1.heap = h := by rcases hw1 with rfl | rfl <;> exact hw
      refine ⟨reg (⟨some ⟨l[j].1, l[j].2⟩⟩ : Nx κ ν), h.setIfInBounds b (.mapIter (some r) clk (seen.push e.born) clk), setBlock w1 b (.mapIter (some r) clk (seen.push e.born) clk), ?_, ?_, ?_, ?_, ?_, ?_⟩
      · simp [execOp, hi, hrun, reg, hkv.1, hkv.2]
      · simp [setBlock, hw1h]
      · rcases hw1 with rfl | rfl <;> rfl
      · rcases hw1 with rfl | rfl <;> rfl
      · rcases hw1 with rfl | rfl <;> rfl
      · have hit2 : (h.setIfInBounds b (.mapIter (some r) clk (seen.push e.born) clk))[b]? = some (.mapIter (some r) clk (seen.push e.born) clk) := AtLast hit
        have hb2 : (h.setIfInBounds b (.mapIter (some r) clk (seen.push e.born) clk))[r]? = some (.map es clk) := by rw [Array.getElem?_setIfInBounds_ne hne]; exact hb
        refine hj _ _ (hcons l[j] _ _ ?_ ⟨⟨b, rfl⟩, .inr ⟨r, es, clk, l, seen.push e.born, hr, hit2, hb2, H, rfl⟩⟩ ⟨⟨b, rfl⟩, r, es, clk, seen, clk, e, hr, hit2, hb2, hel.1, H.nodup, hkv.1, hkv.2⟩)
        rw [htodo]
        exact todo_perm es.toList l seen hl H.nodup hj' (List.getElem?_eq_getElem hjl) hel.2
theorem v_ent {p : Addr} {q : T2 κ ν} {io : Operand} (hi : ev ρ io = .pointer (some p)) (he : ∃ m, EntIs h p m q) : OpVal C (.entry io) ty ρ h (reg q) := by
  obtain ⟨m, ⟨b, rfl⟩, r, es, clk, seen, since, e, _, hit, hb, hel, hn, hk, hv⟩ := he
  intro w hw pos after g d
  subst hw
  have := run_entry_at (P := C.P) w b r since seen es clk e hit hb hel hn
  simp [execOp, hi, this, reg, hk, hv]
theorem v_extnx {x : Operand} {n : Nx κ ν} (hx : ev ρ x = reg n) : OpVal C (.extract x 0) ty ρ h (reg n.o.isSome) := by
  intro w hw pos after g d
  obtain ⟨o⟩ := n
  cases o with
  | none => have hx' : ev ρ x = .tuple #[.bool false] := hx
            simp [execOp, hx', Instr.extract, reg]
  | some q => have hx' : ev ρ x = .tuple #[.bool true, reg q.a, reg q.b] := hx
              simp [execOp, hx', Instr.extract, reg]
end
end Go.Sh
namespace Go.Sh
open Go
open Go.Sh.Ty (reg)
/-- a call of a function value -/
def callv {β : Type} [Ty β] (P : Program) (fv : Fv) (vs : List Value) (k : β → H → Prop) : H → Prop := fun h => FnOk P fv.f ∧ CallsH P fv.f (vs.toArray ++ fv.cap) h fun v h' => ∃ r : β, v = reg r ∧ k r h'
section
variable {C : Ctx} {ρ : Env} {h : H} {ty : TypeId} {Q : Exit → Act → World → Prop} {J : Env → H → Prop} {dst : Option Tmp}
theorem e_callv {β : Type} [Ty β] {fv : Fv} {fo : Operand} {xs : Array Operand} {ts : Array TypeId} {vs : List Value} {k : β → H → Prop} (hf : ev ρ fo = reg fv) (hx : xs.toList.map (ev ρ) = vs) (hd : okd C.n dst = true) (hc : callv C.P fv vs k h) (hj : ∀ (h' : H) (n : β), k n h' → J (upo ρ dst (reg n)) h') :
    OpE C Q (.call ⟨.value fo, xs, ts⟩) ty dst J ρ h := by
  obtain ⟨hok, hc⟩ := hc
  intro a w s pos after g
  unfold Oper.wp
  rw [s.evals]
  have hf' : ev ρ fo = .func (.func fv.f) #[] fv.cap := hf
  have hxx : xs.map (ev ρ) = vs.toArray := by subst hx; apply Array.toList_inj.1; simp
  have hr : (execOp (ev ρ) ⟨dst, .call ⟨.value fo, xs, ts⟩, ty, pos, after, g⟩).run C.P w = .ok (.enter fv.f (vs.toArray ++ fv.cap)) w := by
    simp [execOp, resolve, hf', Deferred.ofValue, invoke, run_callFunc hok, hxx]
  rw [hr]
  show Calls C.P fv.f (vs.toArray ++ fv.cap) w _
  refine (hc w s.heap).mono ?_
  rintro e w' ⟨v, rfl, ht, ho, hu, r, rfl, hk⟩
  exact ⟨_, _, (s.put hd _).world ht ho hu, hj _ _ hk⟩
theorem v_makeFunc {f : FuncId} {cs : Array Operand} {vs : List Value} (hx : cs.toList.map (ev ρ) = vs) : OpVal C (.makeFunc (.func f) #[] cs) ty ρ h (reg (⟨f, vs.toArray⟩ : Fv)) := by
  have hxx : cs.map (ev ρ) = vs.toArray := by subst hx; apply Array.toList_inj.1; simp
  intro w hw pos after g d; simp [execOp, Instr.makeFunc, hxx, reg]
theorem equal_sl_nil {P : Program} {T e : TypeId} (hT : P.underlying T = some (.slice e)) (s : Sl) (w : World) : (Op.equal T (reg s) (reg Sl.nil)).run P w = .ok s.a.isNone w := by
  have hs : reg s = .slice s.a s.len s.cap := rfl
  have hn : reg Sl.nil = .slice none 0 0 := rfl
  rw [hs, hn]
  unfold Op.equal Op.maxDepth Op.equalIn
  cases s.a <;> simp [run_underlying hT]
theorem v_eq_slnil {x y : Operand} {s : Sl} {T e T' : TypeId} (hT : C.P.underlying T = some (.slice e)) (hx : ev ρ x = reg s) (hy : ev ρ y = reg Sl.nil) : OpVal C (.binOp .eql T x y T') ty ρ h (reg s.a.isNone) := by
  intro w hw pos after g d
  have e1 : binOp .eql T (reg s) (reg Sl.nil) = (do pure (.bool (← Op.equal T (reg s) (reg Sl.nil)))) := rfl
  have e2 : eqGuard .eql T x y (reg s) (reg Sl.nil) = pure () := rfl
  have h3 := equal_sl_nil hT s w
  simp only [execOp, hx, hy, e1, e2]
  simp [h3]
  simp [reg]
theorem flatten_get {α : Type} (sz : Nat) : ∀ (L : List (List α)) (i : Nat) (l : List α), (∀ x ∈ L, x.length = sz) → L[i]? = some l → (L.flatten.drop (i * sz)).take sz = l
  | [], i, l, _, h => by simp at h
  | x :: L, 0, l, hl, h => by
    simp only [List.getElem?_cons_zero, Option.some.injEq] at h
    subst h
    have := hl x (by simp)
    simp only [List.flatten_cons, Nat.zero_mul, List.drop_zero, ← this]
    simp
  | x :: L, i + 1, l, hl, h => by
    simp only [List.getElem?_cons_succ] at h
    have hx := hl x (by simp)
    rw [List.flatten_cons, Nat.succ_mul, Nat.add_comm, ← hx, ← List.drop_drop, List.drop_left' rfl, hx]
    exact flatten_get sz L i l (fun y hy => hl y (by simp [hy])) h
end
/-! keys of maps -/
section
variable {P : Program}
theorem KeyT.int {K : TypeId} (hK : P.underlying K = some (.int .i64)) : KeyT P K Int where
  eq a b w := by
    have : (Op.equal K (.int .i64 a) (.int .i64 b)).run P w = .ok (a == b) w := run_equalIn_int w 9999 K .i64 .i64 a b hK
    rw [show decide (a = b) = (a == b) by simp [BEq.beq]]
    exact this
  ok e a w := by
    show (Instr.checkKey e (9999 + 1) K (.int .i64 a)).run P w = _
    unfold Instr.checkKey
    simp [run_underlying hK]
  same a := by simp [reg, Instr.sameBits]
  now := ⟨_, hK, .inl fun a b => by simp [reg, Instr.sameNow]; rfl⟩
theorem sb_list (n : Nat) : ∀ l : List Value, (∀ x ∈ l, Instr.sameBits n x x = true) → ((l.zip l).all fun (x, y) => Instr.sameBits n x y) = true
  | [], _ => rfl
  | x :: l, h => by
    simp only [List.zip_cons_cons, List.all_cons, Bool.and_eq_true]
    exact ⟨h x (by simp), sb_list n l fun y hy => h y (by simp [hy])⟩
theorem sb_agg (n : Nat) (l : List Value) (h : ∀ x ∈ l, Instr.sameBits n x x = true) : Instr.sameBits (n + 1) (.agg l.toArray) (.agg l.toArray) = true := by
  simp only [Instr.sameBits, beq_self_eq_true, Bool.true_and]
  exact sb_list n l h
theorem sb_int (n : Nat) (k : IntKind) (a : Int) : Instr.sameBits n (.int k a) (.int k a) = true := by
  cases n <;> simp [Instr.sameBits]
theorem KeyT.bytes {K : TypeId} {n : Nat} (hK : BytesT P K n) : KeyT P K (Arr n UInt8) where
  eq a b w := equal_arr8 hK a b w
  ok e a w := by
    obtain ⟨⟨t, h1, h2, h3⟩, _⟩ := hK
    have hne : NotAgg P t := ⟨_, h2, trivial⟩
    show (Instr.checkKey e (9999 + 1) K (reg a)).run P w = _
    have hr : reg a = .agg (List.ofFn fun i => reg (a i)).toArray := rfl
    rw [hr]
    unfold Instr.checkKey
    simp only [Sem.run_bind, run_underlying h1, Result.andThen_ok]
    have body : ∀ i, i < n → ∀ w', ((do Instr.checkKey e 9999 t (← part t (List.ofFn fun i => reg (a i)).toArray (i * (← sizeOf t)))) : Sem Unit).run P w' = .ok () w' := by
      intro i hi w'
      simp only [Sem.run_bind, run_sizeOf h3, Result.andThen_ok, Nat.mul_one, part, run_isAgg_no hne]
      simp [hi]
      show (Instr.checkKey e (9998 + 1) t (reg (a ⟨i, hi⟩))).run P w' = _
      unfold Instr.checkKey
      simp [run_underlying h2, reg]
    have loop : ∀ (m k : Nat) (w' : World), k + m = n → (forIn (m := Sem) (List.range' k m) PUnit.unit fun i _ => do Instr.checkKey e 9999 t (← part t (List.ofFn fun i => reg (a i)).toArray (i * (← sizeOf t))); pure (ForInStep.yield PUnit.unit)).run P w' = .ok PUnit.unit w' := by
      intro m
      induction m with
      | zero => intro k w' _; simp
      | succ m ih =>
        intro k w' hk
        have hb := body k (by omega) w'
        simp only [Sem.run_bind] at hb
        simp only [List.range'_succ, List.forIn_cons, Sem.run_bind]
        simp only [run_sizeOf h3, Result.andThen_ok] at hb ⊢
        generalize (part t (List.ofFn fun i => reg (a i)).toArray (k * 1)).run P w' = r at hb ⊢
        cases r with
        | ok v w2 =>
          simp only [Result.andThen_ok] at hb ⊢
          rw [hb]
          simp only [Result.andThen_ok, Sem.run_pure]
          exact ih (k + 1) w' (by omega)
        | halt x w2 => simp [Result.andThen] at hb
    have := loop n 0 w (by omega)
    simp only [Std.Legacy.Range.forIn_eq_forIn_range', Std.Legacy.Range.size]
    simp only [Nat.sub_zero, Nat.add_sub_cancel, Nat.div_one, Sem.run_bind]
    rw [this]
    rfl
  same a := sb_agg 9999 _ (by intro x hx; simp only [List.mem_ofFn] at hx; obtain ⟨i, rfl⟩ := hx; exact sb_int _ _ _)
  now := by
    obtain ⟨⟨t, h1, _⟩, _⟩ := hK
    exact ⟨_, h1, .inr fun a b => by simp [reg, Instr.sameNow]⟩
end
end Go.Sh
namespace Go.Sh
open Go
open Go.Sh.Ty (reg)
theorem one_app {a b : List Value} (ha : a.all (·.oneCell') = true) (hb : b.all (·.oneCell') = true) : (a ++ b).all (·.oneCell') = true := by
  rw [List.all_append, ha, hb]; rfl
theorem one_i (x : Int) : (enc x).all (·.oneCell') = true := rfl
theorem one_b (x : Bool) : (enc x).all (·.oneCell') = true := rfl
theorem one_u8 (x : UInt8) : (enc x).all (·.oneCell') = true := rfl
theorem one_s (x : ByteArray) : (enc x).all (·.oneCell') = true := rfl
theorem one_sl (x : Sl) : (enc x).all (·.oneCell') = true := rfl
theorem one_cx (x : Cx) : (enc x).all (·.oneCell') = true := rfl
theorem one_arr {n : Nat} {α : Type} [Ty α] (h1 : ∀ x : α, (reg x).oneCell' = true) (x : Arr n α) : (enc x).all (·.oneCell') = true := by
  have e : enc x = List.ofFn fun i => reg (x i) := rfl
  rw [e, List.all_eq_true]
  intro v hv
  simp only [List.mem_ofFn] at hv
  obtain ⟨i, rfl⟩ := hv
  exact h1 _
theorem flatten_len {α : Type} (sz : Nat) : ∀ L : List (List α), (∀ x ∈ L, x.length = sz) → L.flatten.length = L.length * sz
  | [], _ => by simp
  | x :: L, h => by
    rw [List.flatten_cons, List.length_append, h x (by simp), flatten_len sz L fun y hy => h y (by simp [hy]), List.length_cons, Nat.succ_mul, Nat.add_comm]
theorem fill_step {place : Nat → Option (Nat × Nat)} {cells cells' nv out : List Value} {i off size m : Nat} {v : Value} {rest : List (Nat × Value)} (hp : place i = some (off, size)) (hv : v.cells.toList = nv) (hn : nv.length = size) (hc : cells.length = m) (hb : Nat.ble (off + size) m = true)
    (hs : cells.take off ++ nv ++ cells.drop (off + nv.length) = cells') (hr : fillL place cells' rest = some out) : fillL place cells ((i, v) :: rest) = some out := by
  unfold fillL
  rw [hp]
  simp only
  have e1 : v.cells.size = size := by rw [← hn, ← hv]; simp
  rw [e1, hc, hb, hv]
  simp only [Nat.beq_refl, Bool.and_self, if_true]
  rw [hn] at hs
  rw [hs]
  exact hr
section
variable {C : Ctx} {ρ : Env} {h : H} {ty : TypeId} {Q : Exit → Act → World → Prop} {J : Env → H → Prop} {dst : Option Tmp}
theorem e_storeN {T : TypeId} {x y : Operand} {v : Value} {p : Addr} {cs cs' nv : List Value} {m c : Nat} (off : Nat) (hx : ev ρ x = .pointer (some (p.add off))) (hy : ev ρ y = v) (hv : v.cells = nv.toArray) (hT : SizeOf C.P T m)
    (h1 : nv.all (·.oneCell') = true) (hat : AtH h p cs) (hw : WAt h p cs.length) (hc : cs.length = c) (hm : nv.length = m) (hl : Nat.ble (off + m) c = true) (hcs : cs.take off ++ nv ++ cs.drop (off + nv.length) = cs') (hj : J ρ (putC h p cs')) :
    OpE C Q (.store T x y) ty none J ρ h := by
  subst hm; subst hc
  exact e_store off hx hy hv hT h1 hat hw hl hcs hj
end
end Go.Sh
namespace Go.Sh
open Go
open Go.Sh.Ty (reg)
def trip (f : Field) : Bool × TypeId × Nat := (f.name != "_", f.type, f.offset)
def eqT (d : Nat) (xs ys : Array Value) : List (Bool × TypeId × Nat) → Sem Bool
  | [] => pure true
  | (b, t, o) :: fs => if b = true then do
      let a ← part t xs o
      let c ← part t ys o
      let r ← Op.equalIn d t a c
      if (!r) = true then pure false else eqT d xs ys fs
    else eqT d xs ys fs
theorem eqFields_trip (d : Nat) (xs ys : Array Value) : ∀ fs : List Field, Op.eqFields d xs ys fs = eqT d xs ys (fs.map trip)
  | [] => rfl
  | f :: fs => by
    simp only [Op.eqFields, List.map_cons, trip, eqT, eqFields_trip d xs ys fs]
    by_cases hn : f.name = "_"
    · simp [hn]
    · simp [hn]
def ckT (e : Bool) (n : Nat) (cs : Array Value) : List (Bool × TypeId × Nat) → Sem Unit
  | [] => pure ()
  | (b, t, o) :: fs => do
    if b = true then
      let a ← part t cs o
      Instr.checkKey e n t a
    ckT e n cs fs
theorem ck_trip {P : Program} (e : Bool) (n : Nat) (t : TypeId) (cs : Array Value) (ht : P.underlying t = some (.struct (P.fieldsOf t))) (w : World) :
    (Instr.checkKey e (n + 1) t (.agg cs)).run P w = (ckT e n cs ((P.fieldsOf t).toList.map trip)).run P w := by
  unfold Instr.checkKey
  simp only [Sem.run_bind, run_underlying ht, Result.andThen_ok]
  rw [← Array.forIn_toList]
  generalize (P.fieldsOf t).toList = fs
  induction fs generalizing w with
  | nil => simp [ckT]
  | cons f fs ih =>
    simp only [List.forIn_cons, List.map_cons, trip, ckT, Sem.run_bind]
    by_cases hn : f.name = "_"
    · simp only [hn, ne_eq, not_true_eq_false, if_false, Sem.run_pure, Result.andThen_ok, Sem.run_bind]
      have := ih w
      simpa using this
    · simp only [ne_eq, hn, not_false_eq_true, if_true, Sem.run_bind]
      simp only [show (f.name != "_") = true by simpa using hn, if_true, Sem.run_bind]
      cases h1 : (part f.type cs f.offset).run P w with
      | ok a w1 =>
        simp only [Result.andThen_ok]
        cases h2 : (Instr.checkKey e n f.type a).run P w1 with
        | ok u w2 =>
          simp only [Result.andThen_ok, Sem.run_pure]
          have := ih w2
          simpa using this
        | halt x w2 => simp [Result.andThen]
      | halt x w1 => simp [Result.andThen]
theorem part_one {P : Program} {t : TypeId} (ht : NotAgg P t) {cs : Array Value} {o : Nat} {v : Value} (hv : cs[o]? = some v) (w : World) : (part t cs o).run P w = .ok v w := by
  simp [part, run_isAgg_no ht, hv]
theorem part_agg {P : Program} {t : TypeId} {n : Nat} (ht : IsAgg P t n) (cs : Array Value) (o : Nat) (w : World) : (part t cs o).run P w = .ok (.agg (cs.extract o (o + n))) w := by
  simp [part, run_isAgg_yes ht, run_sizeOf ht.size]
theorem eqIn_int {P : Program} {t : TypeId} (h : P.underlying t = some (.int .i64)) (d : Nat) (a b : Int) (w : World) : (Op.equalIn (d + 1) t (.int .i64 a) (.int .i64 b)).run P w = .ok (decide (a = b)) w := by
  rw [run_equalIn_int w d t .i64 .i64 a b h]
  congr 1
theorem ck_int {P : Program} {t : TypeId} (h : P.underlying t = some (.int .i64)) (d : Nat) (e : Bool) (a : Int) (w : World) : (Instr.checkKey e (d + 1) t (.int .i64 a)).run P w = .ok () w := by
  unfold Instr.checkKey
  simp [run_underlying h]
section
variable {P : Program}
theorem ck_bytes {K : TypeId} {n : Nat} (hK : BytesT P K n) (d : Nat) (e : Bool) (a : Arr n UInt8) (w : World) : (Instr.checkKey e (d + 2) K (reg a)).run P w = .ok () w := by
    obtain ⟨⟨t, h1, h2, h3⟩, _⟩ := hK
    have hne : NotAgg P t := ⟨_, h2, trivial⟩
    show (Instr.checkKey e (d + 1 + 1) K (reg a)).run P w = _
    have hr : reg a = .agg (List.ofFn fun i => reg (a i)).toArray := rfl
    rw [hr]
    unfold Instr.checkKey
    simp only [Sem.run_bind, run_underlying h1, Result.andThen_ok]
    have body : ∀ i, i < n → ∀ w', ((do Instr.checkKey e (d + 1) t (← part t (List.ofFn fun i => reg (a i)).toArray (i * (← sizeOf t)))) : Sem Unit).run P w' = .ok () w' := by
      intro i hi w'
      simp only [Sem.run_bind, run_sizeOf h3, Result.andThen_ok, Nat.mul_one, part, run_isAgg_no hne]
      simp [hi]
      show (Instr.checkKey e (d + 1) t (reg (a ⟨i, hi⟩))).run P w' = _
      unfold Instr.checkKey
      simp [run_underlying h2, reg]
    have loop : ∀ (m k : Nat) (w' : World), k + m = n → (forIn (m := Sem) (List.range' k m) PUnit.unit fun i _ => do Instr.checkKey e (d + 1) t (← part t (List.ofFn fun i => reg (a i)).toArray (i * (← sizeOf t))); pure (ForInStep.yield PUnit.unit)).run P w' = .ok PUnit.unit w' := by
      intro m
      induction m with
      | zero => intro k w' _; simp
      | succ m ih =>
        intro k w' hk
        have hb := body k (by omega) w'
        simp only [Sem.run_bind] at hb
        simp only [List.range'_succ, List.forIn_cons, Sem.run_bind]
        simp only [run_sizeOf h3, Result.andThen_ok] at hb ⊢
        generalize (part t (List.ofFn fun i => reg (a i)).toArray (k * 1)).run P w' = r at hb ⊢
        cases r with
        | ok v w2 =>
          simp only [Result.andThen_ok] at hb ⊢
          rw [hb]
          simp only [Result.andThen_ok, Sem.run_pure]
          exact ih (k + 1) w' (by omega)
        | halt x w2 => simp [Result.andThen] at hb
    have := loop n 0 w (by omega)
    simp only [Std.Legacy.Range.forIn_eq_forIn_range', Std.Legacy.Range.size]
    simp only [Nat.sub_zero, Nat.add_sub_cancel, Nat.div_one, Sem.run_bind]
    rw [this]
    rfl
theorem equalIn_arr8 {n : Nat} {T : TypeId} (hT : BytesT P T n) (d : Nat) (a b : Arr n UInt8) (w : World) : (Op.equalIn (d + 1 + 1) T (reg a) (reg b)).run P w = .ok (decide (a = b)) w := by
  obtain ⟨⟨e, h1, h2, h3⟩, hg⟩ := hT
  rw [reg_arr8, reg_arr8]
  have := Go.run_equalIn_bytes (P := P) w d T e n h1 h2 (run_sizeOf h3) (List.ofFn a) (List.ofFn b) (by simp) (by simp)
  have e2 : (List.ofFn a == List.ofFn b) = decide (a = b) := by
    rw [Bool.eq_iff_iff]; simp only [beq_iff_eq, decide_eq_true_eq]
    exact ⟨fun e => by funext i; have := congrArg (fun l => l[i.1]?) e; simpa using this, fun e => by rw [e]⟩
  rw [← e2]
  exact this
end
section
variable {C : Ctx} {ρ : Env} {h : H} {ty : TypeId}
theorem v_sub64 {x y : Operand} {a b : UInt64} {T T' : TypeId} (hx : ev ρ x = reg a) (hy : ev ρ y = reg b) : OpVal C (.binOp .sub T x y T') ty ρ h (reg (a - b)) := by
  intro w hw pos after g d
  simp only [reg] at hx hy
  have e : IntKind.u64.wrap ((a.toNat : Int) - b.toNat) = ((a - b).toNat : Int) := by
    rw [wrap_toU64, UInt64.toNat_sub]
    have h1 := a.toNat_lt
    have h2 := b.toNat_lt
    simp only [toU64, UInt64.toNat_ofNat']
    omega
  simp [execOp, hx, hy, eqGuard, binOp, Op.intArith, reg, e]
end
end Go.Sh
namespace Go.Sh
open Go
open Go.Sh.Ty (reg)
/-- all but the blocks S is as it was -/
structure Fr (S : List Nat) (h h' : H) : Prop where
  size : h.size ≤ h'.size
  same : ∀ i, i < h.size → i ∉ S → h'[i]? = h[i]?
abbrev Ext (h h' : H) : Prop := Fr [] h h'
theorem Fr.refl (S : List Nat) (h : H) : Fr S h h := ⟨Nat.le_refl _, fun _ _ _ => rfl⟩
theorem Fr.trans {S S' : List Nat} {h h' h'' : H} (a : Fr S h h') (b : Fr S' h' h'') (hs : ∀ x ∈ S', x ∈ S ∨ h.size ≤ x) : Fr S h h'' :=
  ⟨Nat.le_trans a.size b.size, fun i hi hn => by
    have h1 := a.same i hi hn
    have h2 := b.same i (Nat.lt_of_lt_of_le hi a.size) (fun hx => by rcases hs i hx with h | h; exact hn h; omega)
    rw [h2, h1]⟩
theorem Ext.trans {h h' h'' : H} (a : Ext h h') (b : Ext h' h'') : Ext h h'' := Fr.trans a b (fun _ hx => by cases hx)
theorem Fr.mono {S S' : List Nat} {h h' : H} (a : Fr S h h') (hs : ∀ x ∈ S, x ∈ S') : Fr S' h h' := ⟨a.size, fun i hi hn => a.same i hi fun hx => hn (hs i hx)⟩
theorem Fr.push (h : H) (o : Obj) : Ext h (h.push o) := ⟨by simp, fun i hi _ => by rw [Array.getElem?_push_lt hi]; simp [hi]⟩
theorem Fr.set (h : H) (b : Nat) (o : Obj) : Fr [b] h (h.setIfInBounds b o) := ⟨by simp, fun i hi hn => by rw [Array.getElem?_setIfInBounds_ne]; simp at hn; omega⟩
theorem AtH.fr {S : List Nat} {h h' : H} (f : Fr S h h') {p : Addr} {cs : List Value} (H : AtH h p cs) (hp : p.block ∉ S) : AtH h' p cs := by
  obtain ⟨hs, arr, T, fr, hb, hc⟩ := H
  refine ⟨hs, arr, T, fr, ?_, hc⟩
  rw [f.same _ (by rw [Array.getElem?_eq_some_iff] at hb; exact hb.1) hp, hb]
theorem SlC.fr {S : List Nat} {h h' : H} (f : Fr S h h') {s : Sl} {sz : Nat} {cs : List Value} (H : SlC h s sz cs) (hp : ∀ a, s.a = some a → a.block ∉ S) : SlC h' s sz cs := by
  rcases H with H | ⟨a, ha, hat, hl⟩
  · exact .inl H
  · exact .inr ⟨a, ha, hat.fr f (hp a ha), hl⟩
theorem SlC.ext {h h' : H} (f : Ext h h') {s : Sl} {sz : Nat} {cs : List Value} (H : SlC h s sz cs) : SlC h' s sz cs := H.fr f fun _ _ hx => by cases hx
theorem AtH.ext {h h' : H} (f : Ext h h') {p : Addr} {cs : List Value} (H : AtH h p cs) : AtH h' p cs := H.fr f fun hx => by cases hx
/-- a whole variable of its own block -/
def Cel (T : Nat) (p : Addr) (cs : List Value) (h : H) : Prop := p = ⟨p.block, 0, none⟩ ∧ h[p.block]? = some (.cells cs.toArray T (0, 0))
theorem Cel.lt {T : Nat} {p : Addr} {cs : List Value} {h : H} (H : Cel T p cs h) : p.block < h.size := by
  have := H.2; rw [Array.getElem?_eq_some_iff] at this; exact this.1
theorem Cel.at_ {T : Nat} {p : Addr} {cs : List Value} {h : H} (H : Cel T p cs h) : AtH h p cs := by
  obtain ⟨hp, hb⟩ := H
  rw [hp]
  exact ⟨rfl, _, T, _, hb, fun i v hi => by simpa using hi⟩
theorem Cel.w {T : Nat} {p : Addr} {cs : List Value} {h : H} (H : Cel T p cs h) : WAt h p cs.length := by
  obtain ⟨hp, hb⟩ := H
  rw [hp]
  exact ⟨rfl, _, T, _, hb, by simp, fun i hi => by simp⟩
theorem Cel.put {T : Nat} {p : Addr} {cs : List Value} {h : H} (H : Cel T p cs h) (off : Nat) (ys : List Value) (hl : off + ys.length ≤ cs.length) :
    Cel T p (cs.take off ++ ys ++ cs.drop (off + ys.length)) (putC h (p.add off) ys) ∧ Fr [p.block] h (putC h (p.add off) ys) ∧ WAt h (p.add off) ys.length := by
  obtain ⟨hp, hb⟩ := H
  obtain ⟨blk, o, sp⟩ := p
  simp only [Addr.mk.injEq, true_and] at hp
  obtain ⟨rfl, rfl⟩ := hp
  simp only at hb
  have e : (⟨blk, 0, none⟩ : Addr).add off = ⟨blk, off, none⟩ := by rw [add_spot rfl]; simp
  rw [e]
  have e2 : putC h ⟨blk, off, none⟩ ys = h.setIfInBounds blk (.cells (splice cs.toArray off ys) T (0, 0)) := by unfold putC; simp only [hb]
  rw [e2]
  refine ⟨⟨rfl, ?_⟩, Fr.set _ _ _, rfl, _, T, _, hb, by simpa using hl, fun i hi => by simp⟩
  rw [Array.getElem?_eq_some_iff] at hb
  obtain ⟨hlt, hb⟩ := hb
  simp [hlt, splice]
theorem Cel.set {T : Nat} {p : Addr} {cs : List Value} {h : H} (H : Cel T p cs h) (ys : List Value) (hl : ys.length = cs.length) :
    Cel T p ys (putC h p ys) ∧ Fr [p.block] h (putC h p ys) := by
  have := H.put 0 ys (by omega)
  have e : p.add 0 = p := rfl
  rw [e, Nat.zero_add, hl] at this
  simp at this
  exact ⟨this.1, this.2.1⟩
theorem Cel.fr {S : List Nat} {h h' : H} (f : Fr S h h') {T : Nat} {p : Addr} {cs : List Value} (H : Cel T p cs h) (hp : p.block ∉ S) : Cel T p cs h' := by
  have hlt := H.lt
  refine ⟨H.1, ?_⟩
  rw [f.same _ hlt hp]; exact H.2
theorem Cel.new (h : H) (T : Nat) (cs : List Value) : Cel T ⟨h.size, 0, none⟩ cs (newC h T cs) := ⟨rfl, by simp [newC]⟩
/-- something that is owned: its blocks, and what is so of them -/
structure En where
  F : List Nat
  A : H → Prop
def Loc (e : En) : Prop := ∀ h h' : H, (∀ b ∈ e.F, h'[b]? = h[b]?) → e.A h → e.A h'
def cel (T : Nat) (p : Addr) (cs : List Value) : En := ⟨[p.block], Cel T p cs⟩
theorem cel_loc (T : Nat) (p : Addr) (cs : List Value) : Loc (cel T p cs) := fun h h' hb H => ⟨H.1, by rw [hb p.block (by simp [cel])]; exact H.2⟩
structure Sat (h0 : H) (S : List Nat) (h : H) (L : List En) : Prop where
  fr : Fr S h0 h
  ok : ∀ e ∈ L, e.A h ∧ Loc e ∧ ∀ b ∈ e.F, b < h.size ∧ (b ∈ S ∨ h0.size ≤ b)
  dis : L.Pairwise fun a b => ∀ x ∈ a.F, x ∉ b.F
section
variable {h0 h h' : H} {S : List Nat} {L : List En}
theorem Sat.init (h : H) : Sat h [] h [] := ⟨Fr.refl _ _, by simp, .nil⟩
theorem Sat.init1 {h : H} {e : En} (ha : e.A h) (hl : Loc e) (hb : ∀ b ∈ e.F, b < h.size) : Sat h e.F h [e] :=
  ⟨Fr.refl _ _, by intro e' he; simp only [List.mem_singleton] at he; subst he; exact ⟨ha, hl, fun b h => ⟨hb b h, .inl h⟩⟩, by simp⟩
theorem Sat.get (hs : Sat h0 S h L) {e : En} (he : e ∈ L) : e.A h := (hs.ok e he).1
theorem Sat.at_ (hs : Sat h0 S h L) {e : En} {i : Nat} (he : L[i]? = some e) : e.A h := (hs.ok e (List.mem_of_getElem? he)).1
/-- other blocks may come, and some of no entry change -/
theorem Sat.ext (hs : Sat h0 S h L) (f : Ext h h') : Sat h0 S h' L :=
  ⟨hs.fr.trans f (fun _ hx => by cases hx), fun e he => by
    obtain ⟨h1, h2, h3⟩ := hs.ok e he
    exact ⟨h2 h h' (fun b hb => f.same b (h3 b hb).1 (by simp)) h1, h2, fun b hb => ⟨Nat.lt_of_lt_of_le (h3 b hb).1 f.size, (h3 b hb).2⟩⟩, hs.dis⟩
/-- a new thing -/
theorem Sat.add (hs : Sat h0 S h L) {e : En} (f : Ext h h') (ha : e.A h') (hl : Loc e) (hb : ∀ b ∈ e.F, h.size ≤ b ∧ b < h'.size) : Sat h0 S h' (e :: L) := by
  have h1 := hs.ext f
  refine ⟨h1.fr, fun e' he => ?_, ?_⟩
  · rcases List.mem_cons.1 he with rfl | he
    · exact ⟨ha, hl, fun b h => ⟨(hb b h).2, .inr (Nat.le_trans hs.fr.size (hb b h).1)⟩⟩
    · exact h1.ok e' he
  · refine List.Pairwise.cons (fun e' he x hx hx' => ?_) hs.dis
    have := (hb x hx).1
    have := ((hs.ok e' he).2.2 x hx').1
    omega
theorem pairwise_set {α : Type} {R : α → α → Prop} (sym : ∀ a b, R a b → R b a) : ∀ {L : List α} {i : Nat} {e e' : α}, L.Pairwise R → L[i]? = some e → (∀ (j : Nat) x, j ≠ i → L[j]? = some x → R e x → R e' x) → (L.set i e').Pairwise R
  | [], _, _, _, h, _, _ => by simpa using h
  | a :: L, 0, e, e', h, hi, hr => by
    simp only [List.getElem?_cons_zero, Option.some.injEq] at hi
    subst hi
    rw [List.set_cons_zero]
    rw [List.pairwise_cons] at h ⊢
    refine ⟨fun x hx => ?_, h.2⟩
    obtain ⟨j, hj⟩ := List.mem_iff_getElem?.1 hx
    exact hr (j + 1) x (by omega) (by simpa using hj) (h.1 x hx)
  | a :: L, i + 1, e, e', h, hi, hr => by
    simp only [List.getElem?_cons_succ] at hi
    rw [List.set_cons_succ]
    rw [List.pairwise_cons] at h ⊢
    refine ⟨fun x hx => ?_, pairwise_set sym h.2 hi (fun j x hj hx => hr (j + 1) x (by omega) (by simpa using hx))⟩
    rcases List.mem_or_eq_of_mem_set hx with hx | rfl
    · exact h.1 x hx
    · exact sym _ _ (hr 0 a (by omega) (by simp) (sym _ _ (h.1 e (List.mem_of_getElem? hi))))
/-- one of the things is changed; all else stays -/
theorem Sat.upd (hs : Sat h0 S h L) {i : Nat} {e e' : En} (hi : L[i]? = some e) (f : Fr e.F h h') (ha : e'.A h') (hl : Loc e') (hb : ∀ b ∈ e'.F, b < h'.size ∧ (b ∈ e.F ∨ h.size ≤ b)) : Sat h0 S h' (L.set i e') := by
  have hei := List.mem_of_getElem? hi
  have hdis : ∀ (j : Nat) x, j ≠ i → L[j]? = some x → ∀ b ∈ x.F, b ∉ e.F := by
    intro j x hj hx b hb hbe
    obtain ⟨hil, hie⟩ := List.getElem?_eq_some_iff.1 hi
    obtain ⟨hjl, hje⟩ := List.getElem?_eq_some_iff.1 hx
    rcases Nat.lt_or_gt_of_ne hj with h1 | h1
    · have := List.pairwise_iff_getElem.1 hs.dis j i hjl hil h1 b (by rw [hje]; exact hb)
      rw [hie] at this; exact this hbe
    · have := List.pairwise_iff_getElem.1 hs.dis i j hil hjl h1 b (by rw [hie]; exact hbe)
      rw [hje] at this; exact this hb
  refine ⟨hs.fr.trans f (fun x hx => ((hs.ok e hei).2.2 x hx).2), fun x hx => ?_, ?_⟩
  · obtain ⟨j, hj⟩ := List.mem_iff_getElem?.1 hx
    rw [List.getElem?_set] at hj
    by_cases hij : i = j
    · subst hij
      split at hj
      · split at hj
        · obtain rfl := Option.some.inj hj
          refine ⟨ha, hl, fun b hb' => ⟨(hb b hb').1, ?_⟩⟩
          rcases (hb b hb').2 with h1 | h1
          · exact ((hs.ok e hei).2.2 b h1).2
          · exact .inr (Nat.le_trans hs.fr.size h1)
        · cases hj
      · rename_i hne; exact absurd rfl hne
    · rw [if_neg hij] at hj
      obtain ⟨h1, h2, h3⟩ := hs.ok x (List.mem_of_getElem? hj)
      exact ⟨h2 h h' (fun b hb' => f.same b (h3 b hb').1 (hdis j x (Ne.symm hij) hj b hb')) h1, h2, fun b hb' => ⟨Nat.lt_of_lt_of_le (h3 b hb').1 f.size, (h3 b hb').2⟩⟩
  · refine pairwise_set (fun a b hab x hx hx' => hab x hx' hx) hs.dis hi (fun j x hj hx _ b hb' hbx => ?_)
    rcases (hb b hb').2 with h1 | h1
    · exact hdis j x hj hx b hbx h1
    · have := ((hs.ok x (List.mem_of_getElem? hx)).2.2 b hbx).1; omega
theorem Sat.drop (hs : Sat h0 S h L) {L' : List En} (hl : L'.Sublist L) : Sat h0 S h L' :=
  ⟨hs.fr, fun e he => hs.ok e (hl.subset he), hs.dis.sublist hl⟩
theorem Sat.old (hs : Sat h0 S h L) {p : Addr} {cs : List Value} (H : AtH h0 p cs) (hp : p.block ∉ S) : AtH h p cs := H.fr hs.fr hp
/-! the words, over what is owned -/
theorem Sat.box_ {α : Type} [Ty α] {T : Nat} {x : α} {k : Addr → H → Prop} (hs : Sat h0 S h L) (hk : ∀ p h', Sat h0 S h' (cel T p (enc x) :: L) → p.block = h.size → Ext h h' → k p h') : box T x k h := by
  intro p hp
  subst hp
  exact hk _ _ (hs.add (Fr.push _ _) (Cel.new h T _) (cel_loc _ _ _) (by intro b hb; simp only [cel, List.mem_singleton] at hb; subst hb; simp [newC])) rfl (Fr.push _ _)
theorem Sat.ld_ {σ α : Type} [Ty σ] {T : Nat} {x : σ} {p : Addr} {g : σ → α} {k : α → H → Prop} (i : Nat) (hs : Sat h0 S h L) (hi : L[i]? = some (cel T p (enc x))) (hk : k (g x) h) : ld p g k h :=
  ⟨_, ⟨x, Cel.at_ (hs.at_ hi), rfl⟩, hk⟩
theorem Sat.chk_ {σ α : Type} [Ty σ] {T : Nat} {x : σ} {p : Addr} {g : σ → α} {y : α} {k : H → Prop} (i : Nat) (hs : Sat h0 S h L) (hi : L[i]? = some (cel T p (enc x))) (hg : g x = y) (hk : k h) : chk p g y k h :=
  ⟨⟨x, Cel.at_ (hs.at_ hi), hg⟩, hk⟩
theorem Sat.st_ {σ : Type} [Ty σ] {T n : Nat} {x : σ} {p : Addr} {u : σ → σ} {k : H → Prop} (i : Nat) (hs : Sat h0 S h L) (hi : L[i]? = some (cel T p (enc x))) (hl : ∀ y : σ, (enc y).length = n)
    (hk : ∀ h', Sat h0 S h' (L.set i (cel T p (enc (u x)))) → h'.size = h.size → k h') : st p u k h := by
  have hc : Cel T p (enc x) h := hs.at_ hi
  have := hc.set (enc (u x)) (by rw [hl, hl])
  refine ⟨x, hc.at_, hc.w, hk _ (hs.upd hi this.2 this.1 (cel_loc _ _ _) ?_) ?_⟩
  · intro b hb
    simp only [cel, List.mem_singleton] at hb
    subst hb
    exact ⟨Nat.lt_of_lt_of_le hc.lt this.2.size, .inl (by simp [cel])⟩
  · unfold putC; split <;> simp
theorem ld_old {σ α : Type} [Ty σ] {x : σ} {p : Addr} {g : σ → α} {k : α → H → Prop} (H : AtH h p (enc x)) (hk : k (g x) h) : ld p g k h := ⟨_, ⟨x, H, rfl⟩, hk⟩
theorem nn_i {p : Addr} {k : Addr → H → Prop} (hk : k p h) : nn (some p) k h := ⟨p, rfl, hk⟩
theorem ifb_i {b : Bool} {x y : H → Prop} (h1 : b = true → x h) (h2 : b = false → y h) : ifb b x y h := ⟨h1, h2⟩
end
end Go.Sh
namespace Go.Sh
open Go
open Go.Sh.Ty (reg)
theorem wrap_eq {n : Int} (h1 : -9223372036854775808 ≤ n) (h2 : n < 9223372036854775808) : IntKind.i64.wrap n = n := by
  simp only [IntKind.wrap, IntKind.signed, IntKind.bits, Bool.true_and]
  split <;> simp_all <;> omega
theorem iadd_eq {a b : Int} (h1 : -9223372036854775808 ≤ a + b) (h2 : a + b < 9223372036854775808) : iadd a b = a + b := wrap_eq h1 h2
theorem isub_eq {a b : Int} (h1 : -9223372036854775808 ≤ a - b) (h2 : a - b < 9223372036854775808) : isub a b = a - b := wrap_eq h1 h2
theorem imul_eq {a b : Int} (h1 : -9223372036854775808 ≤ a * b) (h2 : a * b < 9223372036854775808) : imul a b = a * b := wrap_eq h1 h2
/-- a slice whose elements are l, n cells each -/
def SV {α : Type} [Ty α] (n : Nat) (h : H) (s : Sl) (l : List α) : Prop := SlC h s n (l.map enc).flatten ∧ s.len = l.length ∧ s.len ≤ s.cap
section
variable {α : Type} [Ty α] {n : Nat} {h h' : H} {s : Sl} {l : List α}
theorem SV.fr {S : List Nat} (f : Fr S h h') (hv : SV n h s l) (hp : ∀ a, s.a = some a → a.block ∉ S) : SV n h' s l := ⟨hv.1.fr f hp, hv.2⟩
theorem SV.ext (f : Ext h h') (hv : SV n h s l) : SV n h' s l := hv.fr f fun _ _ hx => by cases hx
theorem SV.nil : SV n h Sl.nil ([] : List α) := ⟨.inl ⟨rfl, rfl, rfl⟩, rfl, Nat.le_refl _⟩
theorem AtH.elem {sz : Nat} {p : Addr} {L : List (List Value)} (hsz : ∀ x ∈ L, x.length = sz) (H : AtH h p L.flatten) {i : Nat} {x : List Value} (hi : L[i]? = some x) : AtH h (p.add (i * sz)) x := by
  have := H.sub (i * sz) sz
  rwa [flatten_get sz L i x hsz hi] at this
theorem SV.elem (hn : ∀ y : α, (enc y).length = n) (hv : SV n h s l) {j : Int} {x : α} (h0 : 0 ≤ j) (hx : l[j.toNat]? = some x) : ∃ a, s.a = some a ∧ AtH h (a.add (j.toNat * n)) (enc x) ∧ j < s.len := by
  have hlt : j.toNat < l.length := by rw [List.getElem?_eq_some_iff] at hx; exact hx.1
  obtain ⟨hc, hl, hcap⟩ := hv
  rcases hc with ⟨ha, h1, h2⟩ | ⟨a, ha, hat, hlen⟩
  · omega
  · refine ⟨a, ha, hat.elem (L := l.map enc) (by intro x hx; simp only [List.mem_map] at hx; obtain ⟨y, _, rfl⟩ := hx; exact hn y) (by simp [hx]), by omega⟩
theorem sidx_ld {β : Type} (hn : ∀ y : α, (enc y).length = n) (hv : SV n h s l) {j : Int} {x : α} (h0 : 0 ≤ j) (hx : l[j.toNat]? = some x) {g : α → β} {K : β → H → Prop} (hk : K (g x) h) : sidx s j n (fun t => ld t g K) h := by
  obtain ⟨a, ha, hat, hlt⟩ := hv.elem hn h0 hx
  exact ⟨_, ⟨⟨a, ha, rfl⟩, h0, hlt⟩, ld_old hat hk⟩
theorem SV.cut (hn : ∀ y : α, (enc y).length = n) (hv : SV n h s l) {lo hi mx : Nat} (h1 : lo ≤ hi) (h2 : hi ≤ s.len) (h3 : hi ≤ mx) : SV n h (s.cut n lo hi mx) ((l.drop lo).take (hi - lo)) := by
  obtain ⟨hc, hl, hcap⟩ := hv
  have hlen : ((l.drop lo).take (hi - lo)).length = hi - lo := by simp; omega
  refine ⟨?_, by simp only [Sl.cut]; omega, by simp only [Sl.cut]; omega⟩
  have hfl : ∀ (L : List α), (L.map enc).flatten.length = L.length * n := fun L => by
    rw [flatten_len n]
    · simp
    · intro x hx; simp only [List.mem_map] at hx; obtain ⟨y, _, rfl⟩ := hx; exact hn y
  rcases hc with ⟨ha, h6, h4⟩ | ⟨a, ha, hat, hlen2⟩
  · left
    have : l = [] := List.eq_nil_of_length_eq_zero (by omega)
    subst this
    refine ⟨by simp [Sl.cut, ha], by simp only [Sl.cut]; omega, by simp⟩
  · right
    by_cases hm : mx = lo
    · have hd : hi = lo := by omega
      subst hd
      refine ⟨a, by simp [Sl.cut, hm, ha], ?_, by simp [Sl.cut]⟩
      have := hat.sub 0 0
      rw [show a.add 0 = a from rfl] at this
      simpa using this
    · refine ⟨a.add (lo * n), by simp [Sl.cut, hm, ha], ?_, by rw [hfl, hlen]; simp [Sl.cut]⟩
      have hsub := hat.sub (lo * n) ((hi - lo) * n)
      have e : ((l.map enc).flatten.drop (lo * n)).take ((hi - lo) * n) = (((l.drop lo).take (hi - lo)).map enc).flatten := by
        have e1 : l = l.take lo ++ (l.drop lo).take (hi - lo) ++ l.drop hi := by
          rw [List.append_assoc]
          conv => lhs; rw [← List.take_append_drop lo l]
          congr 1
          conv => lhs; rw [← List.take_append_drop (hi - lo) (l.drop lo)]
          rw [List.drop_drop]
          congr 2
          omega
        have e2 : (l.map enc).flatten = ((l.take lo).map enc).flatten ++ (((l.drop lo).take (hi - lo)).map enc).flatten ++ ((l.drop hi).map enc).flatten := by
          conv => lhs; rw [e1]
          simp
        rw [e2, List.append_assoc, List.drop_left' (by rw [hfl, List.length_take, Nat.min_eq_left (by omega)]), List.take_left' (by rw [hfl, hlen])]
      rwa [e] at hsub
end
/-- n rounds -/
def itF {α : Type} (f : Nat → α → α) : Nat → α → α
  | 0, a => a
  | n + 1, a => f n (itF f n a)
def updN {n : Nat} {α : Type} (x : Arr n α) (i : Nat) (v : α) : Arr n α := fun j => if j.val = i then v else x j
def getN {n : Nat} {α : Type} [Inhabited α] (x : Arr n α) (i : Nat) : α := if h : i < n then x ⟨i, h⟩ else default
theorem upd_N {n : Nat} {α : Type} (x : Arr n α) (i : Fin n) (v : α) : upd x i v = updN x i.val v := by
  funext j; simp only [upd, updN, Fin.ext_iff]
theorem bnd_N {n : Nat} {j : Int} {h : H} {k : Fin n → H → Prop} (h0 : 0 ≤ j) (h1 : j < n) (hk : ∀ i : Fin n, i.val = j.toNat → k i h) : bnd j n k h := ⟨⟨j.toNat, by omega⟩, by simp; omega, hk _ rfl⟩
theorem getN_fin {n : Nat} {α : Type} [Inhabited α] (x : Arr n α) (i : Fin n) (m : Nat) (h : i.val = m) : x i = getN x m := by subst h; simp [getN]
theorem Sat.bld {h0 h : H} {S : List Nat} {L : List En} {n T : Nat} {α : Type} [Ty α] [Inhabited α] {x : Arr n α} {p : Addr} {j : Int} {K : α → H → Prop} (i : Nat) (hs : Sat h0 S h L) (hi : L[i]? = some (cel T p (enc x))) (h0' : 0 ≤ j) (h1 : j < n) (hk : K (getN x j.toNat) h) :
    bnd j n (fun f => ld p (fun (x : Arr n α) => x f) K) h := by
  refine bnd_N h0' h1 (fun f hf => ?_)
  refine hs.ld_ i hi ?_
  rw [getN_fin x f _ hf]; exact hk
theorem old_bld {h : H} {n : Nat} {α : Type} [Ty α] [Inhabited α] {x : Arr n α} {p : Addr} {j : Int} {K : α → H → Prop} (hp : AtH h p (enc x)) (h0' : 0 ≤ j) (h1 : j < n) (hk : K (getN x j.toNat) h) :
    bnd j n (fun f => ld p (fun (x : Arr n α) => x f) K) h := by
  refine bnd_N h0' h1 (fun f hf => ?_)
  refine ld_old hp ?_
  rw [getN_fin x f _ hf]; exact hk
theorem Sat.bst {h0 h : H} {S : List Nat} {L : List En} {n T m : Nat} {α : Type} [Ty α] {x : Arr n α} {p : Addr} {j : Int} {v : α} {k : H → Prop} (i : Nat) (hs : Sat h0 S h L) (hi : L[i]? = some (cel T p (enc x))) (hl : ∀ y : Arr n α, (enc y).length = m) (h0' : 0 ≤ j) (h1 : j < n) (hk : ∀ h', Sat h0 S h' (L.set i (cel T p (enc (updN x j.toNat v)))) → k h') :
    bnd j n (fun f => Sh.st p (fun (x : Arr n α) => Sh.upd x f v) k) h := by
  refine bnd_N h0' h1 (fun f hf => ?_)
  refine hs.st_ i hi hl (fun h' hs' _ => hk h' ?_)
  rw [upd_N, hf] at hs'
  exact hs'
end Go.Sh

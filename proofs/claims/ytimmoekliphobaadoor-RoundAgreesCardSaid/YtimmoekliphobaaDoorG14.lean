/-
  THE CARD OF wapentakelaw19.RoundAgrees: for every input that the row lets in, RoundAgrees returns true and its arguments read as they did. Part 14 of 15. No condition stands ahead of the statement. Parts of this text were printed by a program of ours.
-/
import Derived.Test.YtimmoekliphobaaDoorG13
set_option linter.all false
set_option maxRecDepth 100000
set_option maxHeartbeats 4000000
namespace Go.Proofs.YtimmoekliphobaaDoor
open Go Go.Sh
open Go.Sh.Ty (reg)
theorem dec_str {t : TypeId} (ht : Tryd.prog.underlying t = some .string) : Dec t (fun _ (_ : ByteArray) => True) := by
  intro HT en W fuel cs x h
  obtain ⟨n, rfl, _⟩ := DataW.trod_string ht h
  exact ⟨n, rfl, trivial⟩
theorem dec_true {t : TypeId} {α : Type} [Ty α] {S : H → α → Prop} (D : Dec t S) : Dec t (fun _ (_ : α) => True) := by
  intro HT en W fuel cs x h
  obtain ⟨n, h1, _⟩ := D en W fuel cs x h
  exact ⟨n, h1, trivial⟩
theorem cof9 : Tryd.prog.cellsOf 9 = 1 := by kernel_rfl
theorem cof107 : Tryd.prog.cellsOf 107 = 33 := by kernel_rfl
theorem cof178 : Tryd.prog.cellsOf 178 = 36 := by kernel_rfl
theorem cof180 : Tryd.prog.cellsOf 180 = 40 := by kernel_rfl
theorem cof182 : Tryd.prog.cellsOf 182 = 42 := by kernel_rfl
theorem cof73 : Tryd.prog.cellsOf 73 = 1 := by kernel_rfl
theorem cof75 : Tryd.prog.cellsOf 75 = 99 := by kernel_rfl
theorem cof77 : Tryd.prog.cellsOf 77 = 108 := by kernel_rfl
theorem cof37 : Tryd.prog.cellsOf 37 = 41 := by kernel_rfl
theorem cof95 : Tryd.prog.cellsOf 95 = 152 := by kernel_rfl
theorem dec_key : Dec 107 (fun _ (_ : api_Key) => True) := by
  intro HT en W fuel cs x h
  obtain ⟨xs, n, _, _, hl, hxl, hf⟩ := DataW.trod_struct Tryd.underlying107 h
  rw [cof107] at hl
  obtain ⟨y0, e0⟩ := fld hxl 0 (by decide)
  obtain ⟨a0, c0, s0⟩ := fdec (S := fun _ (_ : Dig) => True) dec_dig cof24 0 (hf 0 _ rfl) e0
  obtain ⟨y1, e1⟩ := fld hxl 1 (by decide)
  obtain ⟨a1, c1, s1⟩ := fdec (S := fun _ (_ : Int) => True) (dec_true dec_i) cof3 32 (hf 1 _ rfl) e1
  refine ⟨⟨a0, a1⟩, ?_, trivial⟩
  rw [enc_api_Key]
  dsimp only
  rw [← c0, ← c1, ← cut_end (show cs.length = 32 + 1 by omega)]
  exact cut_at cs 0 32
theorem dec_change : Dec 178 (fun _ (_ : api_Change) => True) := by
  intro HT en W fuel cs x h
  obtain ⟨xs, n, _, _, hl, hxl, hf⟩ := DataW.trod_struct Tryd.underlying178 h
  rw [cof178] at hl
  obtain ⟨y0, e0⟩ := fld hxl 0 (by decide)
  obtain ⟨a0, c0, s0⟩ := fdec (S := fun _ (_ : Int) => True) (dec_true dec_i) cof3 0 (hf 0 _ rfl) e0
  obtain ⟨y1, e1⟩ := fld hxl 1 (by decide)
  obtain ⟨a1, c1, s1⟩ := fdec (S := fun _ (_ : Int) => True) (dec_true dec_i) cof3 1 (hf 1 _ rfl) e1
  obtain ⟨y2, e2⟩ := fld hxl 2 (by decide)
  obtain ⟨a2, c2, s2⟩ := fdec (S := fun _ (_ : Int) => True) (dec_true dec_i) cof3 2 (hf 2 _ rfl) e2
  obtain ⟨y3, e3⟩ := fld hxl 3 (by decide)
  obtain ⟨a3, c3, s3⟩ := fdec (S := fun _ (_ : api_Key) => True) dec_key cof107 3 (hf 3 _ rfl) e3
  refine ⟨⟨a0, a1, a2, a3⟩, ?_, trivial⟩
  rw [enc_api_Change]
  dsimp only
  rw [← c0, ← c1, ← c2, ← c3, ← cut_end (show cs.length = 3 + 33 by omega), ← cut_at cs 2 1, ← cut_at cs 1 1]
  exact cut_at cs 0 1
theorem dec_op : Dec 180 (fun _ (_ : api_Op) => True) := by
  intro HT en W fuel cs x h
  obtain ⟨xs, n, _, _, hl, hxl, hf⟩ := DataW.trod_struct Tryd.underlying180 h
  rw [cof180] at hl
  obtain ⟨y0, e0⟩ := fld hxl 0 (by decide)
  obtain ⟨a0, c0, s0⟩ := fdec (S := fun _ (_ : Int) => True) (dec_true dec_i) cof3 0 (hf 0 _ rfl) e0
  obtain ⟨y1, e1⟩ := fld hxl 1 (by decide)
  obtain ⟨a1, c1, s1⟩ := fdec (S := fun _ (_ : ByteArray) => True) (dec_str Tryd.underlying9) cof9 1 (hf 1 _ rfl) e1
  obtain ⟨y2, e2⟩ := fld hxl 2 (by decide)
  obtain ⟨a2, c2, s2⟩ := fdec (S := fun _ (_ : ByteArray) => True) (dec_str Tryd.underlying9) cof9 2 (hf 2 _ rfl) e2
  obtain ⟨y3, e3⟩ := fld hxl 3 (by decide)
  obtain ⟨a3, c3, s3⟩ := fdec (S := fun _ (_ : ByteArray) => True) (dec_str Tryd.underlying9) cof9 3 (hf 3 _ rfl) e3
  obtain ⟨y4, e4⟩ := fld hxl 4 (by decide)
  obtain ⟨a4, c4, s4⟩ := fdec (S := fun _ (_ : api_Change) => True) dec_change cof178 4 (hf 4 _ rfl) e4
  refine ⟨⟨a0, a1, a2, a3, a4⟩, ?_, trivial⟩
  rw [enc_api_Op]
  dsimp only
  rw [← c0, ← c1, ← c2, ← c3, ← c4, ← cut_end (show cs.length = 4 + 36 by omega), ← cut_at cs 3 1, ← cut_at cs 2 1, ← cut_at cs 1 1]
  exact cut_at cs 0 1
theorem dec_req : Dec 182 (fun _ (_ : api_Request) => True) := by
  intro HT en W fuel cs x h
  obtain ⟨xs, n, _, _, hl, hxl, hf⟩ := DataW.trod_struct Tryd.underlying182 h
  rw [cof182] at hl
  obtain ⟨y0, e0⟩ := fld hxl 0 (by decide)
  obtain ⟨a0, c0, s0⟩ := fdec (S := fun _ (_ : Int) => True) (dec_true dec_i) cof3 0 (hf 0 _ rfl) e0
  obtain ⟨y1, e1⟩ := fld hxl 1 (by decide)
  obtain ⟨a1, c1, s1⟩ := fdec (S := fun _ (_ : Int) => True) (dec_true dec_i) cof3 1 (hf 1 _ rfl) e1
  obtain ⟨y2, e2⟩ := fld hxl 2 (by decide)
  obtain ⟨a2, c2, s2⟩ := fdec (S := fun _ (_ : api_Op) => True) dec_op cof180 2 (hf 2 _ rfl) e2
  refine ⟨⟨a0, a1, a2⟩, ?_, trivial⟩
  rw [enc_api_Request]
  dsimp only
  rw [← c0, ← c1, ← c2, ← cut_end (show cs.length = 2 + 40 by omega), ← cut_at cs 1 1]
  exact cut_at cs 0 1
theorem dec_reqs : Dec 73 (SlOk (α := api_Request) 42 fun _ _ => True) := dec_slice Tryd.underlying73 cof182 (by decide) len_api_Request dec_req
def BlockDec (h : H) (x : api_Block) : Prop := SlOk (α := api_Request) 42 (fun _ _ => True) h x.Requests
theorem dec_block : Dec 75 BlockDec := by
  intro HT en W fuel cs x h
  obtain ⟨xs, n, _, _, hl, hxl, hf⟩ := DataW.trod_struct Tryd.underlying75 h
  rw [cof75] at hl
  obtain ⟨y0, e0⟩ := fld hxl 0 (by decide)
  obtain ⟨a0, c0, s0⟩ := fdec (S := fun _ (_ : Int) => True) (dec_true dec_i) cof3 0 (hf 0 _ rfl) e0
  obtain ⟨y1, e1⟩ := fld hxl 1 (by decide)
  obtain ⟨a1, c1, s1⟩ := fdec (S := fun _ (_ : Int) => True) (dec_true dec_i) cof3 1 (hf 1 _ rfl) e1
  obtain ⟨y2, e2⟩ := fld hxl 2 (by decide)
  obtain ⟨a2, c2, s2⟩ := fdec (S := fun _ (_ : Dig) => True) dec_dig cof24 2 (hf 2 _ rfl) e2
  obtain ⟨y3, e3⟩ := fld hxl 3 (by decide)
  obtain ⟨a3, c3, s3⟩ := fdec (S := fun _ (_ : Dig) => True) dec_dig cof24 34 (hf 3 _ rfl) e3
  obtain ⟨y4, e4⟩ := fld hxl 4 (by decide)
  obtain ⟨a4, c4, s4⟩ := fdec (S := fun _ (_ : Dig) => True) dec_dig cof24 66 (hf 4 _ rfl) e4
  obtain ⟨y5, e5⟩ := fld hxl 5 (by decide)
  obtain ⟨a5, c5, s5⟩ := fdec dec_reqs cof73 98 (hf 5 _ rfl) e5
  refine ⟨⟨a0, a1, a2, a3, a4, a5⟩, ?_, s5⟩
  rw [enc_api_Block]
  dsimp only
  rw [← c0, ← c1, ← c2, ← c3, ← c4, ← c5, ← cut_end (show cs.length = 98 + 1 by omega), ← cut_at cs 66 32, ← cut_at cs 34 32, ← cut_at cs 2 32, ← cut_at cs 1 1]
  exact cut_at cs 0 1
def PlanDec (h : H) (x : api_Plan) : Prop := BlockDec h x.Block ∧ SigOk h x.Sig
theorem dec_plan : Dec 77 PlanDec := by
  intro HT en W fuel cs x h
  obtain ⟨xs, n, _, _, hl, hxl, hf⟩ := DataW.trod_struct Tryd.underlying77 h
  rw [cof77] at hl
  obtain ⟨y0, e0⟩ := fld hxl 0 (by decide)
  obtain ⟨a0, c0, s0⟩ := fdec (S := fun _ (_ : Int) => True) (dec_true dec_i) cof3 0 (hf 0 _ rfl) e0
  obtain ⟨y1, e1⟩ := fld hxl 1 (by decide)
  obtain ⟨a1, c1, s1⟩ := fdec (S := fun _ (_ : Int) => True) (dec_true dec_i) cof3 1 (hf 1 _ rfl) e1
  obtain ⟨y2, e2⟩ := fld hxl 2 (by decide)
  obtain ⟨a2, c2, s2⟩ := fdec (S := fun _ (_ : Int) => True) (dec_true dec_i) cof3 2 (hf 2 _ rfl) e2
  obtain ⟨y3, e3⟩ := fld hxl 3 (by decide)
  obtain ⟨a3, c3, s3⟩ := fdec (S := fun _ (_ : Int) => True) (dec_true dec_i) cof3 3 (hf 3 _ rfl) e3
  obtain ⟨y4, e4⟩ := fld hxl 4 (by decide)
  obtain ⟨a4, c4, s4⟩ := fdec dec_block cof75 4 (hf 4 _ rfl) e4
  obtain ⟨y5, e5⟩ := fld hxl 5 (by decide)
  obtain ⟨a5, c5, s5⟩ := fdec (S := fun _ (_ : Int) => True) (dec_true dec_i) cof3 103 (hf 5 _ rfl) e5
  obtain ⟨y6, e6⟩ := fld hxl 6 (by decide)
  obtain ⟨a6, c6, s6⟩ := fdec (dec_sig (t := 35) rfl cof35) cof35 104 (hf 6 _ rfl) e6
  refine ⟨⟨a0, a1, a2, a3, a4, a5, a6⟩, ?_, s4, s6⟩
  rw [enc_api_Plan]
  dsimp only
  rw [← c0, ← c1, ← c2, ← c3, ← c4, ← c5, ← c6, ← cut_end (show cs.length = 104 + 4 by omega), ← cut_at cs 103 1, ← cut_at cs 4 99, ← cut_at cs 3 1, ← cut_at cs 2 1, ← cut_at cs 1 1]
  exact cut_at cs 0 1
def MoveDec (h : H) (x : law19_Move) : Prop := IntOk h x.N ∧ VoteOk h x.V ∧ PlanDec h x.P
theorem dec_move : Dec 95 MoveDec := by
  intro HT en W fuel cs x h
  obtain ⟨xs, n, _, _, hl, hxl, hf⟩ := DataW.trod_struct Tryd.underlying95 h
  rw [cof95] at hl
  obtain ⟨y0, e0⟩ := fld hxl 0 (by decide)
  obtain ⟨a0, c0, s0⟩ := fdec (S := fun _ (_ : Int) => True) (dec_true dec_i) cof3 0 (hf 0 _ rfl) e0
  obtain ⟨y1, e1⟩ := fld hxl 1 (by decide)
  obtain ⟨a1, c1, s1⟩ := fdec (S := fun _ (_ : Int) => True) (dec_true dec_i) cof3 1 (hf 1 _ rfl) e1
  obtain ⟨y2, e2⟩ := fld hxl 2 (by decide)
  obtain ⟨a2, c2, s2⟩ := fdec dec_i cof3 2 (hf 2 _ rfl) e2
  obtain ⟨y3, e3⟩ := fld hxl 3 (by decide)
  obtain ⟨a3, c3, s3⟩ := fdec (dec_vote (t := 37) rfl cof37) cof37 3 (hf 3 _ rfl) e3
  obtain ⟨y4, e4⟩ := fld hxl 4 (by decide)
  obtain ⟨a4, c4, s4⟩ := fdec dec_plan cof77 44 (hf 4 _ rfl) e4
  refine ⟨⟨a0, a1, a2, a3, a4⟩, ?_, s2, s3, s4⟩
  rw [enc_law19_Move]
  dsimp only
  rw [← c0, ← c1, ← c2, ← c3, ← c4, ← cut_end (show cs.length = 44 + 108 by omega), ← cut_at cs 3 41, ← cut_at cs 2 1, ← cut_at cs 1 1]
  exact cut_at cs 0 1
theorem dec_movs : Dec 93 (SlOk 152 MoveDec) := dec_slice Tryd.underlying93 cof95 (by decide) len_law19_Move dec_move
variable {HT : Type} {en : TypeId × Value → HT}
end Go.Proofs.YtimmoekliphobaaDoor

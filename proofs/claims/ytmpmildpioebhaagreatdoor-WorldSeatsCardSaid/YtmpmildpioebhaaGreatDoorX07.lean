/-
  The statement WorldSeats (law 23): a seat whose power goes off is gone, and comes back with nothing lost. Part 7 of 27. No condition stands ahead of the statement. Parts of this text were printed by a program of ours.
-/
import Derived.Test.YtmpmildpioebhaaGreatDoorX06
import Derived.Laws.MakeOwn
import Derived.Laws.IdiomStrings
set_option linter.all false
set_option maxRecDepth 100000
set_option maxHeartbeats 4000000
noncomputable section
namespace Go.Vm
open Go Go.Sh
open Go.Sh.Ty (reg)
section
variable {C:Ctx} {ρ:Env} {h:H} {ty:TypeId} {θ:Th} {X:Cx} {hp:Hp} {T:Tb}
theorem byS_get {n x m:Nat} (hm:m < n):(byS n x)[m]? = some (UInt8.ofNat (x / 256 ^ (n - 1 - m) % 256)):=by
 have:(byS n x)[m]? = (((byL n x).map UInt8.ofNat).toArray)[m]?:=rfl
 rw [this]
 simp [byL_get x hm]
theorem idxV_ok (hT:TbOk C.P T) {t:Nat} {a b:AV} {x y:Operand} (hx:RV θ a (ev ρ x)) (hy:RV θ b (ev ρ y)) (hn:(idxV T (tkT T t)).f a b ≠ .er):
  ∃ V,OpVal C (.index t x y) ty ρ h V∧RV θ ((idxV T (tkT T t)).f a b) V:=by
 cases hk:tkT T t with
 | str=>
  rw [hk] at hn
  cases a <;> first | exact absurd rfl hn | skip
  rename_i n u
  obtain ⟨hu,e⟩:=hx.ra (v:=.s n u) trivial
  obtain ⟨k,m,e2,hm,e3⟩:=idx_ok hy (show idx b n _ ≠ .er from hn)
  have e4:(idxV T .str).f (.s n u) b = .y (byt n u m):=e3
  rw [e4]
  have hb:=byS_get (x:=u) hm
  refine ⟨_,v_index_str (tk_str hT hk) e e2 (by omega) (by rw [Int.toNat_natCast]; exact hb),?_⟩
  rw [byt_eq]
  have hlt:u / 256 ^ (n - 1 - m) % 256 < 256:=Nat.mod_lt _ (by decide)
  refine .inl (.inl (.inl ⟨hlt,?_⟩))
  show Value.int .u8 ((UInt8.ofNat _).toNat:Int) = _
  rw [UInt8.toNat_ofNat',Nat.mod_eq_of_lt hlt]
 | ar n e sz=>
  rw [hk] at hn
  obtain ⟨hu,hsz⟩:=tk_ar hT hk
  have e0:idxV T (.ar n e sz) = (bif aggT T e then ⟨fun x y=>idxVa n sz x y⟩ else bif an (sclT T e) (Nat.beq sz 1) then ⟨fun x y=>idxV1 n x y⟩ else erB):=rfl
  rw [e0] at hn ⊢
  cases ca:aggT T e with
  | true=>
   rw [ca] at hn; simp only [cond_true] at hn ⊢
   cases a <;> first | exact absurd rfl hn | skip
   rename_i cs
   obtain ⟨vs,e1,hc⟩:=hx.agg
   obtain ⟨k,m,e2,hm,e3⟩:=idx_ok hy (show idx b n _ ≠ .er from hn)
   have e4:idxVa n sz (.a cs) b = bv (Nat.ble (m * sz + sz) (clen cs)) (.a (ctk (cdr cs (m * sz)) sz)) .er:=e3
   rw [e4] at hn ⊢
   obtain ⟨c,_⟩:=qa8 hn
   rw [c]
   have hle:=yh c
   rw [hc.len] at hle
   refine ⟨.agg (vs.toArray.extract (m * sz) (m * sz + sz)),?_,.inl (.inr (.inl ⟨_,(vs.drop (m * sz)).take sz,rfl,?_,ctk_ok (cdr_ok hc _ (by omega)) _ (by rw [List.length_drop]; omega)⟩))⟩
   ·have hag:=hT.agg ca
    rw [hsz] at hag
    intro w hw pos after g d
    simp [execOp,e1,e2,Instr.index,run_underlying hu,asIntOf,hm,Sh.run_sizeOf hag.size]
    have:=qc8 hag (Array.mk vs) (m * sz) w
    simp at this
    rw [this]; rfl
   ·congr 1
    apply Array.ext'
    simp [List.extract]
  | false=>
   rw [ca] at hn; simp only [cond_false] at hn ⊢
   cases cb:an (sclT T e) (Nat.beq sz 1) with
   | false=>rw [cb] at hn; exact absurd rfl hn
   | true=>
    rw [cb] at hn; simp only [cond_true] at hn ⊢
    obtain ⟨c1,c2⟩:=qaf cb
    have:=ya c2; subst this
    cases a <;> first | exact absurd rfl hn | skip
    rename_i cs
    obtain ⟨vs,e1,hc⟩:=hx.agg
    obtain ⟨k,m,e2,hm,e3⟩:=idx_ok hy (show idx b n _ ≠ .er from hn)
    have e4:idxV1 n (.a cs) b = ld1 cs m:=e3
    rw [e4] at hn ⊢
    obtain ⟨V,h1,h2⟩:=ld1_ok hc hn
    exact ⟨V,v_index1 ⟨hu,hT.size hsz (by decide)⟩ (hT.scl c1) e1 e2 (by omega) (by omega) (by simpa using h1),.inl (.inl h2)⟩
 | _=>rw [hk] at hn; exact absurd rfl hn
theorem fldQ_ok (hT:TbOk C.P T) {s f o t':Nat} (hf:fldOff T s f = some (o,t')) {a:AV} {x:Operand} (hx:RV θ a (ev ρ x)) (hn:(fldQ T t' o).f a hp ≠ .er):
  ∃ V,OpVal C (.field s x f) ty ρ h V∧RV θ ((fldQ T t' o).f a hp) V:=by
 obtain ⟨fs,y,hu,hy,rfl,rfl⟩:∃ fs y,C.P.underlying s = some (.struct fs)∧fs[f]? = some y∧y.offset = o∧y.type = t':=by
  unfold fldOff at hf
  cases e1:T.und s with
  | none=>rw [e1] at hf; cases hf
  | some d=>
   rw [e1] at hf
   cases d <;> first | (cases hf; done) | skip
   rename_i fs
   simp only at hf
   cases e2:fs[f]? with
   | none=>rw [e2] at hf; cases hf
   | some y=>
    rw [e2] at hf
    simp only at hf
    cases c:Nat.blt 0 (szT T y.type) with
    | false=>rw [c] at hf; cases hf
    | true=>
     rw [c] at hf
     simp only [cond_true,Option.some.injEq,Prod.mk.injEq] at hf
     exact ⟨fs,y,(hT.und e1).1,e2,hf.1,hf.2⟩
 unfold fldQ at hn ⊢
 cases ca:aggT T y.type with
 | true=>
  rw [ca] at hn; simp only [cond_true] at hn ⊢
  cases a <;> first | exact absurd rfl hn | skip
  rename_i cs
  obtain ⟨vs,e1,hc⟩:=hx.agg
  obtain ⟨c,_⟩:=qa8 (show bv (Nat.ble _ (clen cs)) _ .er ≠ .er from hn)
  have hle:=yh c
  rw [hc.len] at hle
  have hle':y.offset + szT T y.type≤vs.length:=hle
  show ∃ V,_∧RV θ (bv (Nat.ble (y.offset + szT T y.type) (clen cs)) (.a (ctk (cdr cs y.offset) (szT T y.type))) .er) V
  have c':Nat.ble (y.offset + szT T y.type) (clen cs) = true:=c
  rw [c']
  refine ⟨.agg (vs.toArray.extract y.offset (y.offset + szT T y.type)),?_,.inl (.inr (.inl ⟨_,(vs.drop y.offset).take (szT T y.type),rfl,?_,ctk_ok (cdr_ok hc _ (by omega)) _ (by rw [List.length_drop]; omega)⟩))⟩
  ·have hag:=hT.agg ca
   intro w hw pos after g d
   have:=qc8 hag (Array.mk vs) y.offset w
   simp at this
   simp [execOp,e1,Instr.field,run_underlying hu,hy,asAgg,this]
  ·congr 1
   apply Array.ext'
   simp [List.extract]
 | false=>
  rw [ca] at hn; simp only [cond_false] at hn ⊢
  cases cb:sclT T y.type with
  | false=>rw [cb] at hn; exact absurd rfl hn
  | true=>
   rw [cb] at hn; simp only [cond_true] at hn ⊢
   cases a <;> first | exact absurd rfl hn | skip
   rename_i cs
   obtain ⟨vs,e1,hc⟩:=hx.agg
   obtain ⟨V,h1,h2⟩:=ld1_ok hc (show ld1 cs y.offset ≠ .er from hn)
   refine ⟨V,?_,.inl (.inl h2)⟩
   intro w hw pos after g d
   have:=qcx (hT.scl cb) (cs:=Array.mk vs) (o:=y.offset) (v:=V) (by simpa using h1) w
   simp [execOp,e1,Instr.field,run_underlying hu,hy,asAgg,this]
theorem nth_ok:∀ {l:List AV} {vs:List Value} {n:Nat},RVs θ l vs→nth l n ≠ .er→∃ V,vs[n]? = some V∧RV1 θ (nth l n) V
 | [],_,_,_,hn=>absurd rfl hn
 | a :: l,_,n,⟨V,r,rfl,h1,h2⟩,hn=>by
  have e:nth (a :: l) n = bv (Nat.beq n 0) a (nth l (n - 1)):=rfl
  rw [e] at hn ⊢
  cases c:Nat.beq n 0 with
  | true=>have:=ya c; subst this; exact ⟨V,rfl,h1⟩
  | false=>
   rw [c] at hn
   obtain ⟨V',e1,e2⟩:=nth_ok h2 hn
   refine ⟨V',?_,e2⟩
   have:=qcl c
   obtain ⟨m,rfl⟩:∃ m,n = m + 1:=⟨n - 1,by omega⟩
   simpa using e1
theorem extQ_ok {a:AV} {x:Operand} {i:Nat} (hx:RV θ a (ev ρ x)) (hn:extQ a i ≠ .er):∃ V,OpVal C (.extract x i) ty ρ h V∧RV θ (extQ a i) V:=by
 cases a <;> first | exact absurd rfl hn | skip
 rename_i l
 obtain ⟨vs,e,hr⟩:=hx.tup
 obtain ⟨V,h1,h2⟩:=nth_ok hr (show nth l i ≠ .er from hn)
 exact ⟨V,qar e (by simpa using h1),.inl h2⟩
theorem nilQ_ok {a:AV} {x:Operand} (hx:RV θ a (ev ρ x)) (hn:nilQ a ≠ .er):∃ V,OpVal C (.nilCheck x) ty ρ h V∧RV θ (nilQ a) V:=by
 cases a <;> first | exact absurd rfl hn | skip
 rename_i r o
 obtain ⟨b,o0,t,hr,e⟩:=hx.ra (v:=.p r o) trivial
 exact ⟨_,qv e,.inl (.inl (.inl ⟨b,o0,t,hr,rfl⟩))⟩
theorem pickQ_ok {c a b:AV} {z x y:Operand} (hc:RV θ c (ev ρ z)) (hx:a ≠ .er→RV θ a (ev ρ x)) (hy:b ≠ .er→RV θ b (ev ρ y)) (hn:pickQ c a b ≠ .er):∃ V,OpVal C (.pick z x y) ty ρ h V∧RV θ (pickQ c a b) V:=by
 cases c <;> first | exact absurd rfl hn | skip
 rename_i v
 have e:=hc.ra (v:=.b v) trivial
 refine ⟨_,v_pick e rfl rfl,?_⟩
 cases v with
 | true=>exact hx hn
 | false=>exact hy hn
theorem notA_ok {a:AV} {x:Operand} {t:TypeId} (hx:RV θ a (ev ρ x)) (hn:notA a ≠ .er):∃ V,OpVal C (.unOp .not t x) ty ρ h V∧RV θ (notA a) V:=by
 cases a <;> first | exact absurd rfl hn | skip
 ·rename_i v
  have e:=hx.ra (v:=.b v) trivial
  refine ⟨_,v_not e,?_⟩
  cases v <;> exact rb
 ·rename_i k
  have hn:bv (Nat.beq k 2) (.o 2) .er ≠ .er:=hn
  obtain ⟨c,_⟩:=qa8 hn
  have:=ya c
  subst this
  obtain ⟨b,e⟩:=hx.ra (v:=.o 2) trivial
  exact ⟨_,v_not e,rv_ob _⟩
theorem unQ_ok {op:UnOp} {a:AV} {x:Operand} {t:TypeId} (hx:RV θ a (ev ρ x)) (hn:unQ op a ≠ .er):∃ V,OpVal C (.unOp op t x) ty ρ h V∧RV θ (unQ op a) V:=by
 cases op with
 | not=>exact notA_ok hx hn
 | plus=>exact absurd rfl hn
 | neg=>
  cases a <;> first | exact absurd rfl hn | skip
  rename_i n
  obtain ⟨h1,e⟩:=(kd_i.ra _ _ _).1 (hx.ra (v:=.i n) trivial)
  refine ⟨.int .i64 (IntKind.i64.wrap (0 - IntKind.i64.wrap n)),?_,kd_i.rv (Nat.mod_lt _ (by decide)) ?_⟩
  ·intro w hw pos after g d; simp [execOp,e,Op.unary,Op.intArith]
  ·rw [Int.sub_emod,kd_i.ww,← Int.sub_emod]
   show _ = (((18446744073709551616 - n) % 18446744073709551616:Nat):Int) % _
   omega
 | xor=>
  have neg1:∀ k:IntKind,(BitVec.ofInt k.bits (-1)).toNat = 2 ^ k.bits - 1:=by intro k; cases k <;> rfl
  have go:∀ k M Cn,Kd k M Cn→∀ n,RA θ (Cn n) (ev ρ x)→(∀ n,n < M→(2 ^ k.bits - 1) ^^^ n = M - 1 - n)→∃ V,OpVal C (.unOp .xor t x) ty ρ h V∧RV θ (Cn (M - 1 - n)) V:=by
   intro k M Cn K n h1 hxor
   obtain ⟨h2,e⟩:=(K.ra _ _ _).1 h1
   have hm:(BitVec.ofInt k.bits (if k.signed then -1 else k.max)).toNat = 2 ^ k.bits - 1:=by cases k <;> rfl
   refine ⟨.int k (k.wrap ((BitVec.ofInt k.bits (if k.signed then -1 else k.max)) ^^^ BitVec.ofInt k.bits (k.wrap n)).toNat),?_,?_⟩
   ·intro w hw pos after g d; simp only [execOp,e,Op.unary,Op.intBits,Sem.run_bind,Sem.run_pure,Result.andThen_ok]
   ·rw [BitVec.toNat_xor,bv_of K h2,hm,hxor n h2]
    have:=K.pos
    exact K.rv (by omega) rfl
  have xr:∀ b n,n < 2 ^ b→(2 ^ b - 1) ^^^ n = 2 ^ b - 1 - n:=by
   intro b n hn
   apply Nat.eq_of_testBit_eq
   intro i
   rw [Nat.testBit_xor,Nat.testBit_two_pow_sub_one]
   have:=Nat.testBit_two_pow_sub_succ (x:=n) (n:=b) hn i
   rw [show 2 ^ b - (n + 1) = 2 ^ b - 1 - n by omega] at this
   rw [this]
   by_cases hi:i < b
   ·simp [hi]
   ·simp only [hi,decide_false,Bool.false_and,Bool.false_bne]
    exact Nat.testBit_lt_two_pow (Nat.lt_of_lt_of_le hn (Nat.pow_le_pow_right (by decide) (by omega)))
  cases a <;> first | exact absurd rfl hn | skip
  ·exact go _ _ _ kd_i _ (hx.ra trivial) (fun n h=>xr 64 n h)
  ·exact go _ _ _ kd_w _ (hx.ra trivial) (fun n h=>xr 64 n h)
  ·exact go _ _ _ kd_y _ (hx.ra trivial) (fun n h=>xr 8 n h)
  ·exact go _ _ _ kd_h _ (hx.ra trivial) (fun n h=>xr 32 n h)
end
section
variable {C:Ctx} {ρ:Env} {h:H} {ty:TypeId} {θ:Th} {X:Cx} {hp:Hp} {T:Tb}
def Bd (ρ:Env) (o:Option Operand) (d y r:Nat):Prop:=match o with
 | none=>r = d
 | some z=>∃ k,ev ρ z = .int k (r:Int)∧r≤y
theorem qbr {x:Value} {k:IntKind} {r y:Nat} {code:BoundsCode} (hx:x = .int k (r:Int)) (h1:r≤y) (P:Program) (w:World):(Instr.sliceBound x y code).run P w = .ok r w:=by
 subst hx; simp [Instr.sliceBound,asIntOf,h1]
theorem v_slice_sl {x:Operand} {lo hi mx:Option Operand} {t e size:Nat} {a:Option Addr} {len cap l u m:Nat} (hs:SlT C.P t e size) (hx:ev ρ x = .slice a len cap)
  (hm:Bd ρ mx cap cap m) (hmh:mx = none∨hi ≠ none) (hh:Bd ρ hi len m u) (hl:Bd ρ lo 0 u l):
  OpVal C (.slice t x lo hi mx) ty ρ h (.slice (if m = l then a else a.map (·.add (l * size))) (u - l) (m - l)):=by
 intro w hw pos after g d
 cases mx with
 | none=>
  have hm':m = cap:=hm
  subst hm'
  cases hi with
  | none=>
   have:u = len:=hh
   subst this
   cases lo with
   | none=>
    have:l = 0:=hl
    subst this
    simp [execOp,hx,Instr.sliceAt,run_underlying hs.1,Instr.slice,Instr.sliceBounds,Sh.run_sizeOf hs.2]
   | some z=>
    obtain ⟨k,e1,b1⟩:=hl
    simp [execOp,hx,Instr.sliceAt,run_underlying hs.1,Instr.slice,Instr.sliceBounds,Sh.run_sizeOf hs.2,qbr e1 b1]
  | some z=>
   obtain ⟨k,e1,b1⟩:=hh
   cases lo with
   | none=>
    have:l = 0:=hl
    subst this
    simp [execOp,hx,Instr.sliceAt,run_underlying hs.1,Instr.slice,Instr.sliceBounds,Sh.run_sizeOf hs.2,qbr e1 b1]
   | some z=>
    obtain ⟨k2,e2,b2⟩:=hl
    simp [execOp,hx,Instr.sliceAt,run_underlying hs.1,Instr.slice,Instr.sliceBounds,Sh.run_sizeOf hs.2,qbr e1 b1,qbr e2 b2]
 | some y=>
  obtain ⟨k0,e0,b0⟩:=hm
  cases hi with
  | none=>rcases hmh with h | h <;> first | cases h | exact absurd rfl h
  | some z=>
   obtain ⟨k,e1,b1⟩:=hh
   cases lo with
   | none=>
    have:l = 0:=hl
    subst this
    simp [execOp,hx,Instr.sliceAt,run_underlying hs.1,Instr.slice,Instr.sliceBounds,Sh.run_sizeOf hs.2,qbr e1 b1,qbr e0 b0]
   | some z=>
    obtain ⟨k2,e2,b2⟩:=hl
    simp [execOp,hx,Instr.sliceAt,run_underlying hs.1,Instr.slice,Instr.sliceBounds,Sh.run_sizeOf hs.2,qbr e1 b1,qbr e2 b2,qbr e0 b0]
theorem v_slice_ar {x:Operand} {lo hi mx:Option Operand} {t e size n:Nat} {p:Addr} {l u m:Nat} (hs:ArrT C.P t n e size) (hx:ev ρ x = .pointer (some p))
  (hm:Bd ρ mx n n m) (hmh:mx = none∨hi ≠ none) (hh:Bd ρ hi n m u) (hl:Bd ρ lo 0 u l):
  OpVal C (.slice t x lo hi mx) ty ρ h (.slice (some (if m = l then p else p.add (l * size))) (u - l) (m - l)):=by
 intro w hw pos after g d
 cases mx with
 | none=>
  have hm':m = n:=hm
  subst hm'
  cases hi with
  | none=>
   have:u = m:=hh
   subst this
   cases lo with
   | none=>
    have:l = 0:=hl
    subst this
    simp [execOp,hx,Instr.sliceAt,run_underlying hs.1,Instr.sliceBounds,Sh.run_sizeOf hs.2,Instr.sureAddr]
   | some z=>
    obtain ⟨k,e1,b1⟩:=hl
    simp [execOp,hx,Instr.sliceAt,run_underlying hs.1,Instr.sliceBounds,Sh.run_sizeOf hs.2,Instr.sureAddr,qbr e1 b1]
  | some z=>
   obtain ⟨k,e1,b1⟩:=hh
   cases lo with
   | none=>
    have:l = 0:=hl
    subst this
    simp [execOp,hx,Instr.sliceAt,run_underlying hs.1,Instr.sliceBounds,Sh.run_sizeOf hs.2,Instr.sureAddr,qbr e1 b1]
   | some z=>
    obtain ⟨k2,e2,b2⟩:=hl
    simp [execOp,hx,Instr.sliceAt,run_underlying hs.1,Instr.sliceBounds,Sh.run_sizeOf hs.2,Instr.sureAddr,qbr e1 b1,qbr e2 b2]
 | some y=>
  obtain ⟨k0,e0,b0⟩:=hm
  cases hi with
  | none=>rcases hmh with h | h <;> first | cases h | exact absurd rfl h
  | some z=>
   obtain ⟨k,e1,b1⟩:=hh
   cases lo with
   | none=>
    have:l = 0:=hl
    subst this
    simp [execOp,hx,Instr.sliceAt,run_underlying hs.1,Instr.sliceBounds,Sh.run_sizeOf hs.2,Instr.sureAddr,qbr e1 b1,qbr e0 b0]
   | some z=>
    obtain ⟨k2,e2,b2⟩:=hl
    simp [execOp,hx,Instr.sliceAt,run_underlying hs.1,Instr.sliceBounds,Sh.run_sizeOf hs.2,Instr.sureAddr,qbr e1 b1,qbr e2 b2,qbr e0 b0]
theorem v_slice_str {x:Operand} {lo hi:Option Operand} {t:Nat} {s:ByteArray} {l u:Nat} (hs:C.P.underlying t = some .string) (hx:ev ρ x = .string s)
  (hh:Bd ρ hi s.size s.size u) (hl:Bd ρ lo 0 u l):OpVal C (.slice t x lo hi none) ty ρ h (.string (s.extract l u)):=by
 intro w hw pos after g d
 cases hi with
 | none=>
  have:u = s.size:=hh
  subst this
  cases lo with
  | none=>
   have:l = 0:=hl
   subst this
   simp [execOp,hx,Instr.sliceAt,run_underlying hs,Instr.slice,Instr.sliceBounds]
  | some z=>
   obtain ⟨k,e1,b1⟩:=hl
   simp [execOp,hx,Instr.sliceAt,run_underlying hs,Instr.slice,Instr.sliceBounds,qbr e1 b1]
 | some z=>
  obtain ⟨k,e1,b1⟩:=hh
  cases lo with
  | none=>
   have:l = 0:=hl
   subst this
   simp [execOp,hx,Instr.sliceAt,run_underlying hs,Instr.slice,Instr.sliceBounds,qbr e1 b1]
  | some z=>
   obtain ⟨k2,e2,b2⟩:=hl
   simp [execOp,hx,Instr.sliceAt,run_underlying hs,Instr.slice,Instr.sliceBounds,qbr e1 b1,qbr e2 b2]
def Bv (ρ:Env) (o:Option Operand) (d r:Nat):Prop:=match o with
 | none=>r = d
 | some z=>∃ k,ev ρ z = .int k (r:Int)
theorem Bv.bd {o:Option Operand} {d r:Nat} (h:Bv ρ o d r) (y:Nat) (hy:r≤y):Bd ρ o d y r:=by
 cases o with
 | none=>exact h
 | some z=>obtain ⟨k,e⟩:=h; exact ⟨k,e,hy⟩
theorem cnt_ne {v:AV} {g:Nat→AV} (h:cnt v g ≠ .er):v ≠ .er:=by intro e; subst e; exact h rfl
theorem qd0 {e:E} (he:RE θ e ρ) {o:Option Operand} {d:Nat} {g:Nat→AV} (hn:bnd ((gM o).f e) d g ≠ .er):∃ r,Bv ρ o d r∧bnd ((gM o).f e) d g = g r∧g r ≠ .er:=by
 cases o with
 | none=>exact ⟨d,rfl,rfl,hn⟩
 | some z=>
  have h1:cnt ((gO z).f e) g ≠ .er:=hn
  obtain ⟨k,m,e1,e2⟩:=cnt_ok (qa1 he (cnt_ne h1)) h1
  have e3:bnd ((gM (some z)).f e) d g = g m:=e2
  exact ⟨m,⟨k,e1⟩,e3,by rw [← e3]; exact hn⟩
theorem slM_ok {r:Rid} {o n c z l t m bb o0 tt:Nat} (hr:θ r = some (bb,o0,tt)) (hz:0 < z) (hn:slM r o n c z l t m ≠ .er):
  l≤t∧t≤m∧m≤c∧RV θ (slM r o n c z l t m) (.slice (some (if m = l then ⟨bb,o0 + o,none⟩ else (⟨bb,o0 + o,none⟩:Addr).add (l * z))) (t - l) (m - l)):=by
 unfold slM at hn ⊢
 obtain ⟨c1,h2⟩:=qa8 hn
 obtain ⟨a1,a2⟩:=qaf c1
 obtain ⟨a3,a4⟩:=qaf a2
 have k1:=yh a1; have k2:=yh a3; have k3:=yh a4
 refine ⟨k1,k2,k3,?_⟩
 rw [c1]
 show RV θ (bv (Nat.beq l m) .sz (.sr r (o + l * z) (t - l) (m - l) z)) _
 cases cb:Nat.beq l m with
 | true=>
  have:=ya cb; subst this
  have:t = l:=by omega
  subst this
  refine .inl (.inl (.inl ⟨⟨bb,o0 + o,none⟩,rfl,?_⟩))
  simp
 | false=>
  have hne:=qcl cb
  rw [if_neg (fun e=>hne e.symm),qb8]
  exact .inl (.inl (.inl ⟨bb,o0,tt,hr,hz,by omega,by rw [Nat.add_assoc]⟩))
theorem slS_ok (S:SR X θ hp h) {r:Rid} {o n z l t bb o0 tt c:Nat} (hr:θ r = some (bb,o0,tt)) (hz:0 < z) (hc:o + c * z = tt) (hnc:n≤c) (hn:slS r o n z l t hp ≠ .er):
  l≤t∧t≤c∧RV θ (slS r o n z l t hp) (.slice (some (if c = l then ⟨bb,o0 + o,none⟩ else (⟨bb,o0 + o,none⟩:Addr).add (l * z))) (t - l) (c - l)):=by
 unfold slS at hn ⊢
 obtain ⟨c1,h2⟩:=qa8 hn
 have k1:=yh c1
 rw [c1]
 have mid:∀ u,t≤c→l < c∨l = 0→o + l * z + (c - l) * z = tt→u = RA θ (.sl r (o + l * z) (t - l) z) (.slice (some (if c = l then ⟨bb,o0 + o,none⟩ else (⟨bb,o0 + o,none⟩:Addr).add (l * z))) (t - l) (c - l))→u:=by
  rintro u h1 h3 h4 rfl
  refine ⟨bb,o0,tt,c - l,hr,hz,h4,by omega,?_⟩
  by_cases e:c = l
  ·have:l = 0:=by omega
   subst this; simp [e]
  ·rw [if_neg e,qb8,Nat.add_assoc]
 have sum:l≤c→o + l * z + (c - l) * z = tt:=by
  intro h
  obtain ⟨d,rfl⟩:=Nat.exists_eq_add_of_le h
  rw [Nat.add_sub_cancel_left,← hc,Nat.add_mul,Nat.add_assoc]
 show l≤t∧t≤c∧RV θ (bv (Nat.ble t n) (bv (an (Nat.beq l n) (Nat.ble 1 n)) (.se r (o + n * z) z) (.sl r (o + l * z) (t - l) z)) _) _
 have h2':bv (Nat.ble t n) (bv (an (Nat.beq l n) (Nat.ble 1 n)) (.se r (o + n * z) z) (.sl r (o + l * z) (t - l) z)) _ ≠ .er:=h2
 cases c2:Nat.ble t n with
 | true=>
  have k2:=yh c2
  refine ⟨k1,by omega,?_⟩
  show RV θ (bv (an (Nat.beq l n) (Nat.ble 1 n)) (.se r (o + n * z) z) (.sl r (o + l * z) (t - l) z)) _
  cases c3:an (Nat.beq l n) (Nat.ble 1 n) with
  | true=>
   obtain ⟨a1,a2⟩:=qaf c3
   have:=ya a1; subst this
   have k3:=yh a2
   have:t = l:=by omega
   subst this
   refine .inl (.inl (.inl ⟨bb,o0,tt,c - t,hr,hz,sum hnc,?_⟩))
   by_cases e:c = t
   ·subst e; exact .inl ⟨by omega,⟨bb,o0 + o,none⟩,rfl,by simp⟩
   ·exact .inr ⟨by omega,by rw [if_neg e,qb8,Nat.sub_self,Nat.add_assoc]⟩
  | false=>
   refine .inl (.inl (.inl (mid _ (by omega) ?_ (sum (by omega)) rfl)))
   rw [an_eq] at c3
   by_cases e:l = n
   ·subst e
    simp at c3
    have:¬ 1≤l:=fun h=>by rw [Nat.ble_eq_true_of_le h] at c3; cases c3
    omega
   ·omega
 | false=>
  rw [c2] at h2'
  cases hg:getH hp r with
  | c L cs=>
   have h3:bv (Nat.ble (o + t * z) L) (bv (Nat.beq l t) .er (.sl r (o + l * z) (t - l) z)) .er ≠ .er:=by
    have:=h2'
    simp only [bv_f,hg] at this
    exact this
   obtain ⟨c4,h4⟩:=qa8 h3
   obtain ⟨c5,_⟩:=bv_er h4
   have k4:=yh c4
   have k5:=qcl c5
   obtain ⟨arr,E,fr,vs,g1,g2,g3,_⟩:=rowC_ok S hr hg
   have htc:t≤c:=by
    have:t * z≤c * z:=by omega
    exact Nat.le_of_mul_le_mul_right this hz
   refine ⟨k1,htc,?_⟩
   show RV θ (bv (Nat.ble (o + t * z) L) (bv (Nat.beq l t) .er (.sl r (o + l * z) (t - l) z)) .er) _
   rw [c4,c5]
   exact .inl (.inl (.inl (mid _ htc (by omega) (sum (by omega)) rfl)))
  | no=>simp only [bv_f,hg] at h2'; exact absurd rfl h2'
  | m=>simp only [bv_f,hg] at h2'; exact absurd rfl h2'
  | it=>simp only [bv_f,hg] at h2'; exact absurd rfl h2'
theorem sl0_ok {e:E} (he:RE θ e ρ) {a:AV} {lo hi mx:Option Operand} (hn:sl0 a ((gM lo).f e) ((gM hi).f e) ((gM mx).f e) ≠ .er):
  mx = none∧Bv ρ hi 0 0∧Bv ρ lo 0 0∧sl0 a ((gM lo).f e) ((gM hi).f e) ((gM mx).f e) = a:=by
 cases mx with
 | some z=>exact absurd rfl hn
 | none=>
  have h1:bnd ((gM hi).f e) 0 (fun t=>bnd ((gM lo).f e) 0 fun l=>bv (an (Nat.beq l 0) (Nat.beq t 0)) a .er) ≠ .er:=hn
  obtain ⟨t,b1,e1,h2⟩:=qd0 he h1
  obtain ⟨l,b2,e2,h3⟩:=qd0 he h2
  obtain ⟨c,_⟩:=qa8 h3
  obtain ⟨a1,a2⟩:=qaf c
  have:=ya a1; subst this
  have:=ya a2; subst this
  refine ⟨rfl,b1,b2,?_⟩
  show bnd ((gM hi).f e) 0 (fun t=>bnd ((gM lo).f e) 0 fun l=>bv (an (Nat.beq l 0) (Nat.beq t 0)) a .er) = a
  rw [e1,e2,c]; rfl
theorem slSl_ok (hT:TbOk C.P T) (S:SR X θ hp h) {e:E} (he:RE θ e ρ) {t el sz:Nat} (hu:C.P.underlying t = some (.slice el)) (hsz:szT T el = sz) (h0:0 < sz) {a:AV} {x:Operand} {lo hi mx:Option Operand} (hmh:mx = none∨hi ≠ none)
  (hx:RV θ a (ev ρ x)) (hn:slSl sz a ((gM lo).f e) ((gM hi).f e) ((gM mx).f e) hp ≠ .er):
  ∃ V,OpVal C (.slice t x lo hi mx) ty ρ h V∧RV θ (slSl sz a ((gM lo).f e) ((gM hi).f e) ((gM mx).f e) hp) V:=by
 have empty:∀ (V0:Option Addr) (cap:Nat),ev ρ x = .slice V0 0 cap→RV θ a (.slice V0 0 cap)→slSl sz a ((gM lo).f e) ((gM hi).f e) ((gM mx).f e) hp = sl0 a ((gM lo).f e) ((gM hi).f e) ((gM mx).f e) →
   ∃ V,OpVal C (.slice t x lo hi mx) ty ρ h V∧RV θ (slSl sz a ((gM lo).f e) ((gM hi).f e) ((gM mx).f e) hp) V:=by
  intro V0 cap e1 hv e2
  rw [e2] at hn ⊢
  obtain ⟨rfl,b1,b2,e3⟩:=sl0_ok he hn
  rw [e3]
  have hs:SlT C.P t el sz:=⟨hu,hT.size hsz h0⟩
  refine ⟨_,v_slice_sl hs e1 (m:=cap) (u:=0) (l:=0) rfl (.inl rfl) (b1.bd _ (Nat.zero_le _)) (b2.bd _ (Nat.le_refl _)),?_⟩
  have:(if cap = 0 then V0 else V0.map (·.add (0 * sz))) = V0:=by
   split
   ·rfl
   ·cases V0 with
    | none=>rfl
    | some p=>simp [Addr.add]
  rw [this]
  exact hv
 cases a <;> first | exact absurd rfl hn | skip
 ·rename_i r o n z
  have h1:bv (Nat.beq z sz) _ .er ≠ .er:=hn
  obtain ⟨c0,h2⟩:=qa8 h1
  have:=ya c0; subst this
  obtain ⟨bb,o0,tt,c,hr,hz,hc,hnc,e1⟩:=hx.ra (v:=.sl r o n z) trivial
  have hs:SlT C.P t el z:=⟨hu,hT.size hsz hz⟩
  cases mx with
  | none=>
   have h3:bnd ((gM hi).f e) n (fun t=>bnd ((gM lo).f e) 0 fun l=>slS r o n z l t hp) ≠ .er:=h2
   obtain ⟨u,b1,e2,h4⟩:=qd0 he h3
   obtain ⟨l,b2,e3,h5⟩:=qd0 he h4
   obtain ⟨k1,k2,hv⟩:=slS_ok S hr hz hc hnc h5
   refine ⟨_,v_slice_sl hs e1 (m:=c) (u:=u) (l:=l) rfl (.inl rfl) (b1.bd _ k2) (b2.bd _ k1),?_⟩
   show RV θ (bv (Nat.beq z z) (bnd ((gM hi).f e) n (fun t=>bnd ((gM lo).f e) 0 fun l=>slS r o n z l t hp)) .er) _
   rw [c0,bv_t,e2,e3]
   have:(if c = l then some (⟨bb,o0 + o,none⟩:Addr) else (some (⟨bb,o0 + o,none⟩:Addr)).map (·.add (l * z))) = some (if c = l then ⟨bb,o0 + o,none⟩ else (⟨bb,o0 + o,none⟩:Addr).add (l * z)):=by split <;> rfl
   rw [this]; exact hv
  | some q=>
   have h3:bnd ((gM (some q)).f e) 0 (fun m=>bnd ((gM hi).f e) n fun t=>bnd ((gM lo).f e) 0 fun l=>slM r o n n z l t m) ≠ .er:=h2
   obtain ⟨m,b0,e0,h4⟩:=qd0 he h3
   obtain ⟨u,b1,e2,h5⟩:=qd0 he h4
   obtain ⟨l,b2,e3,h6⟩:=qd0 he h5
   obtain ⟨k1,k2,k3,hv⟩:=slM_ok hr hz h6
   obtain ⟨kk,b0⟩:=b0
   refine ⟨_,v_slice_sl hs e1 (m:=m) (u:=u) (l:=l) ⟨kk,b0,by omega⟩ hmh (b1.bd _ k2) (b2.bd _ k1),?_⟩
   show RV θ (bv (Nat.beq z z) (bnd ((gM (some q)).f e) 0 (fun m=>bnd ((gM hi).f e) n fun t=>bnd ((gM lo).f e) 0 fun l=>slM r o n n z l t m)) .er) _
   rw [c0,bv_t,e0,e2,e3]
   have:(if m = l then some (⟨bb,o0 + o,none⟩:Addr) else (some (⟨bb,o0 + o,none⟩:Addr)).map (·.add (l * z))) = some (if m = l then ⟨bb,o0 + o,none⟩ else (⟨bb,o0 + o,none⟩:Addr).add (l * z)):=by split <;> rfl
   rw [this]; exact hv
 ·rename_i r o n c z
  have h1:bv (Nat.beq z sz) _ .er ≠ .er:=hn
  obtain ⟨c0,h2⟩:=qa8 h1
  have:=ya c0; subst this
  obtain ⟨bb,o0,tt,hr,hz,hnc,e1⟩:=hx.ra (v:=.sr r o n c z) trivial
  have hs:SlT C.P t el z:=⟨hu,hT.size hsz hz⟩
  have h3:bnd ((gM mx).f e) c (fun m=>bnd ((gM hi).f e) n fun t=>bnd ((gM lo).f e) 0 fun l=>slM r o n c z l t m) ≠ .er:=h2
  obtain ⟨m,b0,e0,h4⟩:=qd0 he h3
  obtain ⟨u,b1,e2,h5⟩:=qd0 he h4
  obtain ⟨l,b2,e3,h6⟩:=qd0 he h5
  obtain ⟨k1,k2,k3,hv⟩:=slM_ok hr hz h6
  refine ⟨_,v_slice_sl hs e1 (m:=m) (u:=u) (l:=l) (b0.bd _ k3) hmh (b1.bd _ k2) (b2.bd _ k1),?_⟩
  show RV θ (bv (Nat.beq z z) (bnd ((gM mx).f e) c (fun m=>bnd ((gM hi).f e) n fun t=>bnd ((gM lo).f e) 0 fun l=>slM r o n c z l t m)) .er) _
  rw [c0,bv_t,e0,e2,e3]
  have:(if m = l then some (⟨bb,o0 + o,none⟩:Addr) else (some (⟨bb,o0 + o,none⟩:Addr)).map (·.add (l * z))) = some (if m = l then ⟨bb,o0 + o,none⟩ else (⟨bb,o0 + o,none⟩:Addr).add (l * z)):=by split <;> rfl
  rw [this]; exact hv
 ·rename_i r o z
  obtain ⟨bb,o0,tt,c,hr,hz,hc,hv⟩:=hx.ra (v:=.se r o z) trivial
  rcases hv with ⟨rfl,p,hp',e1⟩ | ⟨hc0,e1⟩
  ·exact empty _ _ e1 (by rw [← e1]; exact hx) rfl
  ·exact empty _ _ e1 (by rw [← e1]; exact hx) rfl
 ·obtain ⟨p,hp',e1⟩:=hx.ra (v:=.sz) trivial
  exact empty _ _ e1 (by rw [← e1]; exact hx) rfl
 ·have e1:=hx.ra (v:=.sn) trivial
  exact empty _ _ e1 (by rw [← e1]; exact hx) rfl
theorem slArr_ok (hT:TbOk C.P T) {e:E} (he:RE θ e ρ) {t el n sz:Nat} (hu:C.P.underlying t = some (.array n el)) (hsz:szT T el = sz) (h0:0 < sz) {a:AV} {x:Operand} {lo hi mx:Option Operand} (hmh:mx = none∨hi ≠ none)
  (hx:RV θ a (ev ρ x)) (hn:slArr n sz a ((gM lo).f e) ((gM hi).f e) ((gM mx).f e) ≠ .er):
  ∃ V,OpVal C (.slice t x lo hi mx) ty ρ h V∧RV θ (slArr n sz a ((gM lo).f e) ((gM hi).f e) ((gM mx).f e)) V:=by
 cases a <;> first | exact absurd rfl hn | skip
 rename_i r o
 obtain ⟨bb,o0,tt,hr,e1⟩:=hx.ra (v:=.p r o) trivial
 have h3:bnd ((gM mx).f e) n (fun m=>bnd ((gM hi).f e) n fun t=>bnd ((gM lo).f e) 0 fun l=>slM r o n n sz l t m) ≠ .er:=hn
 obtain ⟨m,b0,e0,h4⟩:=qd0 he h3
 obtain ⟨u,b1,e2,h5⟩:=qd0 he h4
 obtain ⟨l,b2,e3,h6⟩:=qd0 he h5
 obtain ⟨k1,k2,k3,hv⟩:=slM_ok hr h0 h6
 refine ⟨_,v_slice_ar ⟨hu,hT.size hsz h0⟩ e1 (m:=m) (u:=u) (l:=l) (b0.bd _ k3) hmh (b1.bd _ k2) (b2.bd _ k1),?_⟩
 show RV θ (bnd ((gM mx).f e) n (fun m=>bnd ((gM hi).f e) n fun t=>bnd ((gM lo).f e) 0 fun l=>slM r o n n sz l t m)) _
 rw [e0,e2,e3]
 exact hv
theorem byS_extract {n x l t:Nat} (h1:l≤t) (h2:t≤n) (hx:x < 256 ^ n):(byS n x).extract l t = byS (t - l) (x / 256 ^ (n - t) % 256 ^ (t - l)):=by
 have e1:=qe4 (n:=n) (k:=l) (by omega) x
 have e2:=qe4 (n:=n - l) (k:=t - l) (by omega) (x % 256 ^ (n - l))
 have e3:x % 256 ^ (n - l) / 256 ^ (n - l - (t - l)) = x / 256 ^ (n - t) % 256 ^ (t - l):=by
  rw [show n - l - (t - l) = n - t by omega,show n - l = (n - t) + (t - l) by omega,Nat.pow_add]
  exact Nat.mod_mul_right_div_self _ _ _
 rw [e3] at e2
 unfold byS
 rw [e1,e2]
 simp only [List.map_append]
 apply ByteArray.ext
 apply Array.ext'
 simp only [ByteArray.data_extract,Array.toList_extract,List.extract]
 rw [List.drop_left' (by simp [qej]),List.take_left' (by simp [qej])]
theorem slStr_ok {e:E} (he:RE θ e ρ) {t:Nat} (hu:C.P.underlying t = some .string) {a:AV} {x:Operand} {lo hi mx:Option Operand}
  (hx:RV θ a (ev ρ x)) (hn:slStr a ((gM lo).f e) ((gM hi).f e) ((gM mx).f e) ≠ .er):
  ∃ V,OpVal C (.slice t x lo hi mx) ty ρ h V∧RV θ (slStr a ((gM lo).f e) ((gM hi).f e) ((gM mx).f e)) V:=by
 cases a <;> first | exact absurd rfl hn | skip
 rename_i n u
 obtain ⟨hu2,e1⟩:=hx.ra (v:=.s n u) trivial
 cases mx with
 | some q=>exact absurd rfl hn
 | none=>
  have h3:bnd ((gM hi).f e) n (fun t=>bnd ((gM lo).f e) 0 fun l=>bv (an (Nat.ble l t) (Nat.ble t n)) (.s (t - l) (Nat.mod (Nat.shiftRight u (p8 (n - t))) (Nat.shiftLeft 1 (p8 (t - l))))) .er) ≠ .er:=hn
  obtain ⟨r,b1,e2,h5⟩:=qd0 he h3
  obtain ⟨l,b2,e3,h6⟩:=qd0 he h5
  obtain ⟨c,_⟩:=qa8 h6
  obtain ⟨a1,a2⟩:=qaf c
  have k1:=yh a1; have k2:=yh a2
  have b1':Bv ρ hi (byS n u).size r:=by rw [qea]; exact b1
  refine ⟨_,v_slice_str hu e1 (u:=r) (l:=l) (b1'.bd _ (by rw [qea]; exact k2)) (b2.bd _ k1),?_⟩
  show RV θ (bnd ((gM hi).f e) n (fun t=>bnd ((gM lo).f e) 0 fun l=>bv (an (Nat.ble l t) (Nat.ble t n)) (.s (t - l) (Nat.mod (Nat.shiftRight u (p8 (n - t))) (Nat.shiftLeft 1 (p8 (t - l))))) .er)) _
  rw [e2,e3,c,byS_extract k1 k2 hu2,sh8,sl8,Nat.one_mul]
  exact .inl (.inl (.inl ⟨Nat.mod_lt _ (pow256 _),rfl⟩))
theorem slQ_ok (hT:TbOk C.P T) (S:SR X θ hp h) {e:E} (he:RE θ e ρ) {t:Nat} {a:AV} {x:Operand} {lo hi mx:Option Operand} (hmh:mx = none∨hi ≠ none)
  (hx:RV θ a (ev ρ x)) (hn:(slQ (tkT T t)).f a ((gM lo).f e) ((gM hi).f e) ((gM mx).f e) hp ≠ .er):
  ∃ V,OpVal C (.slice t x lo hi mx) ty ρ h V∧RV θ ((slQ (tkT T t)).f a ((gM lo).f e) ((gM hi).f e) ((gM mx).f e) hp) V:=by
 cases hk:tkT T t with
 | str=>rw [hk] at hn; exact slStr_ok he (tk_str hT hk) hx hn
 | sl el sz=>
  rw [hk] at hn
  obtain ⟨hu,hsz⟩:=tk_sl hT hk
  have e0:slQ (.sl el sz) = (bif Nat.ble 1 sz then ⟨fun x lo hi mx h=>slSl sz x lo hi mx h⟩ else erS):=rfl
  rw [e0] at hn ⊢
  cases c:Nat.ble 1 sz with
  | false=>rw [c] at hn; exact absurd rfl hn
  | true=>rw [c] at hn; exact slSl_ok hT S he hu hsz (yh c) hmh hx hn
 | ar n el sz=>
  rw [hk] at hn
  obtain ⟨hu,hsz⟩:=tk_ar hT hk
  have e0:slQ (.ar n el sz) = (bif Nat.ble 1 sz then ⟨fun x lo hi mx _=>slArr n sz x lo hi mx⟩ else erS):=rfl
  rw [e0] at hn ⊢
  cases c:Nat.ble 1 sz with
  | false=>rw [c] at hn; exact absurd rfl hn
  | true=>rw [c] at hn; exact slArr_ok hT he hu hsz (yh c) hmh hx hn
 | _=>rw [hk] at hn; exact absurd rfl hn
end
section
variable {C:Ctx} {ρ:Env} {h:H} {ty:TypeId} {θ:Th} {X:Cx} {hp:Hp} {T:Tb}
theorem cvN_ok {k:IntKind} {M:Nat} {Cn:Nat→AV} (K:Kd k M Cn) (hM:M ∣ 18446744073709551616) {s t:Nat} {ds:TypeDesc} (hs:C.P.underlying s = some ds) (ht:C.P.underlying t = some (.int k)) {a:AV} {x:Operand} (hx:RV θ a (ev ρ x)) (hn:cvN M Cn a ≠ .er):
  ∃ V,OpVal C (.convert s t x) ty ρ h V∧RV θ (cvN M Cn a) V:=by
 have run:∀ k' n,ev ρ x = .int k' n→OpVal C (.convert s t x) ty ρ h (.int k (k.wrap n)):=by
  intro k' n e w hw pos after g d
  simp [execOp,e,convert,run_underlying hs,run_underlying ht,Conv.intToInt]
 have fin:∀ n:Nat,RV θ (Cn (n % M)) (.int k (k.wrap (n:Int))):=fun n=>K.rv (Nat.mod_lt _ K.pos) (by simp)
 cases a <;> first | exact absurd rfl hn | skip
 ·rename_i n
  obtain ⟨_,e⟩:=hx.ra (v:=.i n) trivial
  refine ⟨_,run _ _ e,?_⟩
  have:k.wrap (IntKind.i64.wrap (n:Int)) = k.wrap (n:Int):=K.wc _ _ (by
   obtain ⟨c,hc⟩:=hM
   have:=IntKind.wrap_i64 (n:Int)
   have h2:=kd_i.ww n
   have h3:((18446744073709551616:Nat):Int) = (M:Int) * (c:Int):=by rw [hc,Int.natCast_mul]
   rw [h3] at h2
   rw [← Int.emod_emod_of_dvd (IntKind.i64.wrap (n:Int)) (Int.dvd_mul_right (M:Int) c),h2,Int.emod_emod_of_dvd _ (Int.dvd_mul_right (M:Int) c)])
  rw [this]; exact fin n
 ·rename_i n; exact ⟨_,run _ _ (hx.ra (v:=.w n) trivial).2,fin n⟩
 ·rename_i n; exact ⟨_,run _ _ (hx.ra (v:=.y n) trivial).2,fin n⟩
 ·rename_i n; exact ⟨_,run _ _ (hx.ra (v:=.h n) trivial).2,fin n⟩
theorem foldl_bytes:∀ (l:List Nat) (s:ByteArray),(l.map fun b=>((b:Nat):Int)).foldl (fun r n=>r.push (UInt8.ofNat n.toNat)) s = ⟨s.data ++ (l.map UInt8.ofNat).toArray⟩
 | [],s=>by simp
 | b :: l,s=>by
  simp only [List.map_cons,List.foldl_cons]
  rw [foldl_bytes l]
  apply ByteArray.ext
  apply Array.ext'
  simp
theorem strA_ok {a:AV} (hn:strA a ≠ .er) {vs:List Value} {V:Value} (hx:RV θ a V) (hV:V = .agg (Array.mk vs)):∃ n x,strA a = .s n x∧x < 256 ^ n∧vs = byV n x:=by
 cases a <;> first | exact absurd rfl hn | skip
 rename_i cs
 obtain ⟨us,e,hc⟩:=hx.agg
 rw [hV] at e; injection e with e; injection e with e; subst e
 cases cs with
 | nil=>have:vs = []:=hc; subst this; exact ⟨0,0,rfl,by decide,rfl⟩
 | cons w v tl=>
  cases tl with
  | cons=>exact absurd rfl hn
  | nil=>
   cases v <;> first | exact absurd rfl hn | skip
   rename_i n x
   obtain ⟨v1,v2,rfl,h1,h2⟩:=hc
   have:v2 = []:=h2
   subst this
   rcases h1 with ⟨y,e,h0,hx,rfl⟩ | ⟨_,_,U,_,hU⟩
   ·injection e with e1 e2; subst e1; subst e2
    exact ⟨_,_,rfl,hx,by simp⟩
   ·exact hU.noB.elim
theorem cvS_ok (S : SR X θ hp h) {s t el : Nat} (hs : C.P.underlying s = some (.slice el)) (hel : C.P.underlying el = some (.int .u8)) (ht : C.P.underlying t = some .string) {a : AV} {x : Operand} (hx : RV θ a (ev ρ x)) (hn : cvS a hp ≠ .er) :
    ∃ V, OpVal C (.convert s t x) ty ρ h V ∧ RV θ (cvS a hp) V := by
  have run : ∀ p l c (n u : Nat), ev ρ x = .slice (some p) l c → n = l → u < 256 ^ n → AtH h p (byV n u) → OpVal C (.convert s t x) ty ρ h (.string (byS n u)) := by
    rintro p l c n u e rfl hu hat w hw pos after g d
    have h1 := run_convert_bytes_string (P := C.P) w s t el (some p) n c hs hel ht
    have h2 := run_loadCells_list (P := C.P) (w := w) p (byV n u) (fun j v hj => cell?_of hw hat hj)
    rw [qc6    ] at h2
    have h3 := run_bytesToString (P := C.P) w p n c ((byL n u).map fun b => ((b : Nat) : Int)) (by rw [h2]; simp [byV, bV])
    rw [foldl_bytes] at h3
    simp only [execOp, e, Sem.run_bind, h1, h3, Result.andThen_ok, Sem.run_pure]
    congr 3
    unfold byS
    congr 1
    show #[] ++ _ = _
    simp
  have run0 : ∀ p c, p.spot = none → ev ρ x = .slice (some p) 0 c → OpVal C (.convert s t x) ty ρ h (.string (byS 0 0)) := by
    intro p c hsp e w hw pos after g d
    have h1 := run_convert_bytes_string (P := C.P) w s t el (some p) 0 c hs hel ht
    have h3 := run_bytesToString (P := C.P) w p 0 c [] (by simp [loadCells, loadCellsFrom])
    simp only [execOp, e, Sem.run_bind, h1, h3, Result.andThen_ok, Sem.run_pure]
    rfl
  have zero : RV θ (.s 0 0) (.string (byS 0 0)) := .inl (.inl (.inl ⟨by decide, rfl⟩))
  have row : ∀ r o n z c, (∃ bb o0 tt, θ r = some (bb, o0, tt) ∧ ev ρ x = .slice (some ⟨bb, o0 + o, none⟩) n c) → bv (Nat.beq z 1) (strA (rdC hp r o n)) .er ≠ .er →
      ∃ V, OpVal C (.convert s t x) ty ρ h V ∧ RV θ (bv (Nat.beq z 1) (strA (rdC hp r o n)) .er) V := by
    rintro r o n z c ⟨bb, o0, tt, hr, e⟩ hn
    obtain ⟨c0, hn1⟩ := qa8   hn
    rw [c0]
    show ∃ V, _ ∧ RV θ (strA (rdC hp r o n)) V
    cases hg : getH hp r with
    | c L cs =>
      have e0 : rdC hp r o n = bv (Nat.ble (o + n) L) (.a (ctk (cdr cs o) n)) .er := by unfold rdC; rw [hg]; rfl
      rw [e0] at hn1 ⊢
      cases c1 : Nat.ble (o + n) L with
      | false => rw [c1] at hn1; exact absurd rfl hn1
      | true =>
        rw [c1] at hn1
        have hle := yh     c1
        obtain ⟨vs, hat, hc, hl⟩ := qee     S hr hg
        have hlen : ((vs.drop o).take n).length = n := by rw [List.length_take, List.length_drop]; omega
        obtain ⟨m, u, e1, hu, e2⟩ := strA_ok hn1 (vs := (vs.drop o).take n) (θ := θ) (V := .agg (Array.mk ((vs.drop o).take n))) (.inl (.inr (.inl ⟨_, _, rfl, rfl, ctk_ok (cdr_ok hc o (by omega)) n (by rw [List.length_drop]; omega)⟩))) rfl
        have hm : m = n := by rw [e2, qc6    ] at hlen; exact hlen
        subst hm
        have hat2 := hat.sub o m
        rw [e2, qb8     ] at hat2
        refine ⟨_, run _ _ _ m u e rfl hu hat2, ?_⟩
        have e1' : strA (AV.a (ctk (cdr cs o) m)) = .s m u := e1
        rw [bv_t, e1']
        exact .inl (.inl (.inl ⟨hu, rfl⟩))
    | no => have e0 : rdC hp r o n = .er := by unfold rdC; rw [hg]
            rw [e0] at hn1; exact absurd rfl hn1
    | m => have e0 : rdC hp r o n = .er := by unfold rdC; rw [hg]
           rw [e0] at hn1; exact absurd rfl hn1
    | it => have e0 : rdC hp r o n = .er := by unfold rdC; rw [hg]
            rw [e0] at hn1; exact absurd rfl hn1
  cases a <;> first | exact absurd rfl hn | skip
  · rename_i r o n z
    obtain ⟨bb, o0, tt, c, hr, hz, hc, hnc, e⟩ := hx.ra (v := .sl r o n z) trivial
    exact row r o n z c ⟨bb, o0, tt, hr, e⟩ hn
  · rename_i r o n c z
    obtain ⟨bb, o0, tt, hr, hz, hnc, e⟩ := hx.ra (v := .sr r o n c z) trivial
    exact row r o n z c ⟨bb, o0, tt, hr, e⟩ hn
  · rename_i r o z
    obtain ⟨bb, o0, tt, c, hr, hz, hc, hv⟩ := hx.ra (v := .se r o z) trivial
    rcases hv with ⟨rfl, p, hp', e1⟩ | ⟨hc0, e1⟩
    · exact ⟨_, run0 _ _ hp' e1, zero⟩
    · exact ⟨_, run0 _ _ rfl e1, zero⟩
  · obtain ⟨p, hp', e1⟩ := hx.ra (v := .sz) trivial
    exact ⟨_, run0 _ _ hp' e1, zero⟩
  · have e := hx.ra (v := .sn) trivial
    have e' : ev ρ x = .slice none 0 0 := e
    refine ⟨.string (byS 0 0), ?_, zero⟩
    intro w hw pos after g d
    have h1 := run_convert_bytes_string (P := C.P) w s t el none 0 0 hs hel ht
    simp only [execOp, e', Sem.run_bind, h1, Conv.bytesToString, Result.andThen_ok, Sem.run_pure]
    rfl
theorem u8T_ok (hT:TbOk C.P T) {e:Nat} (h:u8T T e = true):C.P.underlying e = some (.int .u8):=by
 unfold u8T at h
 split at h
 ·rename_i e1; exact (hT.und e1).1
 ·cases h
theorem cvQ_ok (hT:TbOk C.P T) (S:SR X θ hp h) {s t:Nat} (ho:isOt (tkT T s) = false) {a:AV} {x:Operand} (hx:RV θ a (ev ρ x)) (hn:(cvQ T (tkT T s) (tkT T t)).f a hp ≠ .er):
  ∃ V,OpVal C (.convert s t x) ty ρ h V∧RV θ ((cvQ T (tkT T s) (tkT T t)).f a hp) V:=by
 obtain ⟨ds,hds⟩:=tk_some hT ho
 cases hk:tkT T t with
 | it k=>
  rw [hk] at hn
  have ht:=tk_it hT hk
  cases k <;> first | exact absurd rfl hn | skip
  ·exact cvN_ok kd_i ⟨1,rfl⟩ hds ht hx hn
  ·exact cvN_ok kd_y ⟨72057594037927936,rfl⟩ hds ht hx hn
  ·exact cvN_ok kd_h ⟨4294967296,rfl⟩ hds ht hx hn
  ·exact cvN_ok kd_w ⟨1,rfl⟩ hds ht hx hn
 | str=>
  rw [hk] at hn
  have ht:=tk_str hT hk
  cases hs:tkT T s with
  | sl el sz=>
   rw [hs] at hn
   have e0:cvQ T (.sl el sz) .str = (bif u8T T el then ⟨cvS⟩ else ⟨fun _ _=>.er⟩):=rfl
   rw [e0] at hn ⊢
   cases c:u8T T el with
   | false=>rw [c] at hn; exact absurd rfl hn
   | true=>rw [c] at hn; exact cvS_ok S (tk_sl hT hs).1 (u8T_ok hT c) ht hx hn
  | str=>
   rw [hs] at hn
   cases a <;> first | exact absurd rfl hn | skip
   rename_i n u
   obtain ⟨h1,e⟩:=hx.ra (v:=.s n u) trivial
   refine ⟨_,?_,.inl (.inl (.inl ⟨h1,rfl⟩))⟩
   intro w hw pos after g d
   simp [execOp,e,convert,run_underlying hds,run_underlying ht]
  | _=>rw [hs] at hn; exact absurd rfl hn
 | _=>rw [hk] at hn; exact absurd rfl hn
end
section
variable {C:Ctx} {ρ:Env} {h:H} {ty:TypeId} {θ:Th} {X:Cx} {hp:Hp} {T:Tb}
theorem lnI_ok {n:Nat} (hn:lnI n ≠ .er):RV θ (lnI n) (.int .i64 (n:Int)):=by
 unfold lnI at hn ⊢
 obtain ⟨c,_⟩:=qa8 hn
 have:=yh c
 rw [c,← qa4 (n:=n) (by omega)]
 exact kd_i.rv (by omega) rfl
theorem i0_ok:RV θ (.i 0) (.int .i64 0):=kd_i.rv (n:=0) (x:=0) (by decide) rfl
theorem KVs.len {kk:KK}:∀ {l:List KV} {ms:List MapEntry},KVs θ kk l ms→l.length = ms.length
 | [],_,h=>by have:_ = []:=h; subst this; rfl
 | _ :: _,_,⟨m,r,e,_,h2⟩=>by subst e; simp [KVs.len h2]
theorem lenT_ok (hT : TbOk C.P T) (S : SR X θ hp h) {t : Nat} {a : AV} {x : Operand} (hx : RV θ a (ev ρ x)) (hn : (lenT (tkT T t)).f a hp ≠ .er) :
    ∃ V, OpVal C (.call ⟨.builtin .len, #[x], #[t]⟩) ty ρ h V ∧ RV θ ((lenT (tkT T t)).f a hp) V := by
  cases hk : tkT T t with
  | str =>
    rw [hk] at hn
    cases a <;> first | exact absurd rfl hn | skip
    · rename_i n u
      obtain ⟨_, e⟩ := hx.ra (v := .s n u) trivial
      have := v_len_str (C := C) (ρ := ρ) (h := h) (ty := ty) (tk_str hT hk) e
      rw [qea     ] at this
      exact ⟨_, this, lnI_ok hn⟩
    · rename_i k
      have hn : bv (Nat.beq k 0) (.o 1) .er ≠ .er := hn
      obtain ⟨c, _⟩ := qa8   hn
      have := ya     c
      subst this
      obtain ⟨s, hs, e⟩ := hx.ra (v := .o 0) trivial
      refine ⟨_, v_len_str (s := s) (tk_str hT hk) e, .inl (.inl (.inl ⟨(s.size : Int), ?_, rfl⟩))⟩
      rw [qa4      (by omega)]
  | sl el sz =>
    rw [hk] at hn
    obtain ⟨hu, _⟩ := tk_sl hT hk
    have run : ∀ a0 l c, ev ρ x = .slice a0 l c → OpVal C (.call ⟨.builtin .len, #[x], #[t]⟩) ty ρ h (.int .i64 (l : Int)) := fun a0 l c e => qag      (s := ⟨a0, l, c⟩) hu e
    cases a <;> first | exact absurd rfl hn | skip
    · rename_i r o n z
      obtain ⟨bb, o0, tt, c, hr, hz, hc, hnc, e⟩ := hx.ra (v := .sl r o n z) trivial
      exact ⟨_, run _ _ _ e, lnI_ok hn⟩
    · rename_i r o n c z
      obtain ⟨bb, o0, tt, hr, hz, hnc, e⟩ := hx.ra (v := .sr r o n c z) trivial
      exact ⟨_, run _ _ _ e, lnI_ok hn⟩
    · rename_i r o z
      obtain ⟨bb, o0, tt, c, hr, hz, hc, hv⟩ := hx.ra (v := .se r o z) trivial
      rcases hv with ⟨rfl, p, hp', e1⟩ | ⟨hc0, e1⟩
      · exact ⟨_, run _ _ _ e1, i0_ok⟩
      · exact ⟨_, run _ _ _ e1, i0_ok⟩
    · obtain ⟨p, hp', e1⟩ := hx.ra (v := .sz) trivial
      exact ⟨_, run _ _ _ e1, i0_ok⟩
    · exact ⟨_, run _ _ _ (hx.ra (v := .sn) trivial), i0_ok⟩
  | mp k e =>
    rw [hk] at hn
    have hu := tk_mp hT hk
    cases a <;> first | exact absurd rfl hn | skip
    · rename_i r
      obtain ⟨bb, o0, tt, hr, e1⟩ := hx.ra (v := .m r) trivial
      have e0 : (lenT (.mp k e)).f (.m r) hp = lenQ (.m r) hp := rfl
      rw [e0] at hn ⊢
      cases hg : getH hp r with
      | m kk clk es =>
        have e2 : lenQ (.m r) hp = lnI es.length := by unfold lenQ; simp only [hg]
        rw [e2] at hn ⊢
        have := S.rows r _ hr
        rw [hg] at this
        obtain ⟨ms, g1, g2, _⟩ := this
        have hl := g2.len
        have := v_len_map (C := C) (ρ := ρ) (ty := ty) hu e1 g1
        refine ⟨_, this, ?_⟩
        have e3 : (ms.size : Int) = (es.length : Int) := by rw [hl]; simp
        show RV θ _ (.int .i64 (ms.size : Int))
        rw [e3]; exact lnI_ok hn
      | no => have e2 : lenQ (.m r) hp = .er := by unfold lenQ; simp only [hg]
              rw [e2] at hn; exact absurd rfl hn
      | c => have e2 : lenQ (.m r) hp = .er := by unfold lenQ; simp only [hg]
             rw [e2] at hn; exact absurd rfl hn
      | it => have e2 : lenQ (.m r) hp = .er := by unfold lenQ; simp only [hg]
              rw [e2] at hn; exact absurd rfl hn
    · have e1 : ev ρ x = .map none := hx.ra (v := .mn) trivial
      refine ⟨_, ?_, i0_ok⟩
      intro w hw pos after g d
      simp [execOp, e1, resolve, invoke, builtin, Builtin.len_, run_underlying hu, goInt]
  | _ => rw [hk] at hn; exact absurd rfl hn
theorem bv_lt {a b:Nat} {u v:AV} (h:a < b):bv (Nat.ble (Nat.add a 1) b) u v = u:=by
 have:Nat.ble (Nat.add a 1) b = true:=Nat.ble_eq_true_of_le h
 rw [this]; rfl
theorem bv_ge {a b:Nat} {u v:AV} (h:¬ a < b):bv (Nat.ble (Nat.add a 1) b) u v = v:=by
 have:Nat.ble (Nat.add a 1) b = false:=by
  cases c:Nat.ble (Nat.add a 1) b with
  | false=>rfl
  | true=>exact absurd (yh c) h
 rw [this]; rfl
theorem mn2_ok {n m:Nat} (h1:n < 2 ^ 64) (h2:m < 2 ^ 64):RV θ (mn2 n m) (.int .i64 (imin (IntKind.i64.wrap n) (IntKind.i64.wrap m))):=by
 have hd:=sx_lt h2 h1
 unfold imin mn2
 by_cases c:IntKind.i64.wrap (m:Int) < IntKind.i64.wrap (n:Int)
 ·rw [if_pos c,bv_lt (hd.1 c)]; exact kd_i.rv (n:=m) (x:=(m:Int)) h2 rfl
 ·rw [if_neg c,bv_ge (fun h=>c (hd.2 h))]; exact kd_i.rv (n:=n) (x:=(n:Int)) h1 rfl
theorem mx2_ok {n m:Nat} (h1:n < 2 ^ 64) (h2:m < 2 ^ 64):RV θ (mx2 n m) (.int .i64 (imax (IntKind.i64.wrap n) (IntKind.i64.wrap m))):=by
 have hd:=sx_lt h1 h2
 unfold imax mx2
 by_cases c:IntKind.i64.wrap (n:Int) < IntKind.i64.wrap (m:Int)
 ·rw [if_pos c,bv_lt (hd.1 c)]; exact kd_i.rv (n:=m) (x:=(m:Int)) h2 rfl
 ·rw [if_neg c,bv_ge (fun h=>c (hd.2 h))]; exact kd_i.rv (n:=n) (x:=(n:Int)) h1 rfl
theorem minQ_ok {a b:AV} {x y:Operand} {ts:Array TypeId} (hx:RV θ a (ev ρ x)) (hy:RV θ b (ev ρ y)) (hn:minQ a b ≠ .er):
  ∃ V,OpVal C (.call ⟨.builtin .min,#[x,y],ts⟩) ty ρ h V∧RV θ (minQ a b) V:=by
 obtain ⟨n,rfl⟩:∃ n,a = .i n:=by cases a with | i n=>exact ⟨n,rfl⟩ | _=>exact absurd rfl hn
 obtain ⟨m,rfl⟩:∃ m,b = .i m:=by cases b with | i m=>exact ⟨m,rfl⟩ | _=>exact absurd rfl hn
 obtain ⟨h1,e1⟩:=hx.ra (v:=.i n) trivial
 obtain ⟨h2,e2⟩:=hy.ra (v:=.i m) trivial
 exact ⟨_,v_min e1 e2,mn2_ok h1 h2⟩
theorem maxQ_ok {a b:AV} {x y:Operand} {ts:Array TypeId} (hx:RV θ a (ev ρ x)) (hy:RV θ b (ev ρ y)) (hn:maxQ a b ≠ .er):
  ∃ V,OpVal C (.call ⟨.builtin .max,#[x,y],ts⟩) ty ρ h V∧RV θ (maxQ a b) V:=by
 obtain ⟨n,rfl⟩:∃ n,a = .i n:=by cases a with | i n=>exact ⟨n,rfl⟩ | _=>exact absurd rfl hn
 obtain ⟨m,rfl⟩:∃ m,b = .i m:=by cases b with | i m=>exact ⟨m,rfl⟩ | _=>exact absurd rfl hn
 obtain ⟨h1,e1⟩:=hx.ra (v:=.i n) trivial
 obtain ⟨h2,e2⟩:=hy.ra (v:=.i m) trivial
 exact ⟨_,v_max e1 e2,mx2_ok h1 h2⟩
theorem fil1_ok {v:AV} {V:Value} {cs:CL AV} {vs:List Value} {o sz:Nat} {g:CL AV→AV} (hv:RV θ v V) (hc:RC θ cs vs) (hle:o + sz≤vs.length) (hn:fil1 v cs o sz g ≠ .er):
  ∃ l,RC θ l (vs.take o ++ V.cells.toList ++ vs.drop (o + sz))∧V.cells.size = sz∧fil1 v cs o sz g = g l:=by
 have plain:Atm v→(∀ n,v ≠ .y n)→fil1 v cs o sz g = bv (Nat.beq sz 1) (g (capp (ctk cs o) (.cons 1 v (cdr cs (o + 1))))) .er →
   ∃ l,RC θ l (vs.take o ++ V.cells.toList ++ vs.drop (o + sz))∧V.cells.size = sz∧fil1 v cs o sz g = g l:=by
  intro ha hy e
  rw [e] at hn ⊢
  obtain ⟨c,_⟩:=qa8 hn
  have:=ya c; subst this
  have h1:=hv.atm ha
  rw [h1.cells,c]
  refine ⟨_,?_,rfl,rfl⟩
  rw [List.append_assoc]
  exact qdv (ctk_ok hc o (by omega)) ⟨[V],_,rfl,RW.of h1 hy,cdr_ok hc _ hle⟩
 cases v <;> first
  | exact absurd rfl hn
  | exact plain trivial (by intro n e; cases e) rfl
  | skip
 ·rename_i n
  have e:fil1 (.y n) cs o sz g = bv (Nat.beq sz 1) (g (capp (ctk cs o) (cc 1 (.bs 1 n) (cdr cs (o + 1))))) .er:=rfl
  rw [e] at hn ⊢
  obtain ⟨c,_⟩:=qa8 hn
  have:=ya c; subst this
  obtain ⟨h1,e1⟩:=hv.ra (v:=.y n) trivial
  have h256:n < 256:=h1
  subst e1
  rw [c]
  refine ⟨_,?_,rfl,rfl⟩
  rw [List.append_assoc]
  have e2:(Value.int .u8 (n:Int)).cells.toList = byV 1 n:=by simp [byV,byL,bV,Value.cells,Nat.mod_eq_of_lt h256]
  rw [e2]
  exact qdv (ctk_ok hc o (by omega)) (cc_ok (RW.bs (by decide) (by simpa using h256)) (cdr_ok hc _ hle))
 ·rename_i l
  have e:fil1 (.a l) cs o sz g = bv (Nat.beq (clen l) sz) (g (capp (ctk cs o) (capp l (cdr cs (o + sz))))) .er:=rfl
  rw [e] at hn ⊢
  obtain ⟨c,_⟩:=qa8 hn
  have e0:=ya c
  obtain ⟨us,e1,hl⟩:=hv.agg
  subst e1
  rw [c]
  refine ⟨_,?_,by rw [← e0,hl.len]; rfl,rfl⟩
  rw [List.append_assoc]
  exact qdv (ctk_ok hc o (by omega)) (qdv hl (cdr_ok hc _ hle))
theorem filQ_ok {e:E} (he:RE θ e ρ) {pl:Nat→Option (Nat×Nat)}:∀ (ps:List (Nat×Operand)) {cs:CL AV} {vs:List Value} {L:Nat},RC θ cs vs→vs.length = L→(filQ L pl ps).f e cs ≠ .er →
  ∃ out,fillL pl vs (ps.map fun p=>(p.1,ev ρ p.2)) = some out∧out.length = L∧RV θ ((filQ L pl ps).f e cs) (.agg out.toArray)
 | [],cs,vs,L,hc,hl,hn=>⟨vs,rfl,hl,.inl (.inr (.inl ⟨_,_,rfl,rfl,hc⟩))⟩
 | (i,x) :: ps,cs,vs,L,hc,hl,hn=>by
  have e0:filQ L pl ((i,x) :: ps) = (match pl i with | some (o,sz)=>bif Nat.ble (Nat.add o sz) L then ⟨fun e cs=>fil1 ((gO x).f e) cs o sz fun cs=>(filQ L pl ps).f e cs⟩ else ⟨fun _ _=>.er⟩ | none=>⟨fun _ _=>.er⟩):=rfl
  rw [e0] at hn ⊢
  cases hp:pl i with
  | none=>rw [hp] at hn; exact absurd rfl hn
  | some q=>
   obtain ⟨o,sz⟩:=q
   rw [hp] at hn
   simp only at hn ⊢
   cases c:Nat.ble (Nat.add o sz) L with
   | false=>rw [c] at hn; exact absurd rfl hn
   | true=>
    rw [c] at hn
    simp only [cond_true] at hn ⊢
    have hle:o + sz≤vs.length:=by rw [hl]; exact yh c
    have hne:(gO x).f e ≠ .er:=by intro e1; rw [e1] at hn; exact hn rfl
    obtain ⟨l,hl2,hsz,e2⟩:=fil1_ok (qa1 he hne) hc hle hn
    rw [e2] at hn ⊢
    have hlen:(vs.take o ++ (ev ρ x).cells.toList ++ vs.drop (o + sz)).length = L:=by
     have h9:(ev ρ x).cells.toList.length = sz:=by rw [Array.length_toList]; exact hsz
     rw [List.length_append,List.length_append,List.length_take,List.length_drop,h9]; omega
    obtain ⟨out,h1,h2,h3⟩:=filQ_ok he ps hl2 hlen hn
    refine ⟨out,?_,h2,h3⟩
    simp only [List.map_cons,fillL,hp]
    rw [if_pos (by rw [hsz,Nat.beq_refl,Nat.ble_eq_true_of_le hle]; rfl)]
    exact h1
theorem plL_ok (hT:TbOk C.P T):∀ (l:List Field) {ps:List (Nat×Nat)},plL T l = some ps→l.mapM (fun f=>(C.P.info? f.type).map fun i=>(f.offset,i.size)) = some ps
 | [],ps,h=>by have:some [] = some ps:=h; cases this; rfl
 | f :: l,ps,h=>by
  have e0:plL T (f :: l) = (match T.info f.type,plL T l with | some i,some l=>some ((f.offset,i.size) :: l) | _,_=>none):=rfl
  rw [e0] at h
  cases e1:T.info f.type with
  | none=>rw [e1] at h; cases h
  | some i=>
   cases e2:plL T l with
   | none=>rw [e1,e2] at h; cases h
   | some r=>
    rw [e1,e2] at h
    injection h with h; subst h
    have:=plL_ok hT l e2
    simp [List.mapM_cons,hT.info _ _ e1,this]
theorem bldQ_ok (hT:TbOk C.P T) {e:E} (he:RE θ e ρ) {t:Nat} {ps:Array (Nat×Operand)} (hn:(bldQ T t ps.toList).f e ≠ .er):
  ∃ V,OpVal C (.build t ps) ty ρ h V∧RV θ ((bldQ T t ps.toList).f e) V:=by
 have two:∀ pl,(bld2 T t pl ps.toList).f e ≠ .er→∃ z out,ZeroOf C.P t z∧fillL pl z (ps.toList.map fun p=>(p.1,ev ρ p.2)) = some out∧RV θ ((bld2 T t pl ps.toList).f e) (.agg out.toArray):=by
  intro pl hn
  unfold bld2 at hn ⊢
  cases c:zOk T t with
  | false=>rw [c] at hn; exact absurd rfl hn
  | true=>
   rw [c] at hn
   simp only [cond_true] at hn ⊢
   obtain ⟨z,hz,hc⟩:=zero_ok hT (θ:=θ) c
   obtain ⟨out,h1,_,h3⟩:=filQ_ok he _ hc hc.len.symm hn
   exact ⟨z,out,hz,h1,h3⟩
 unfold bldQ at hn ⊢
 cases e1:T.und t with
 | none=>rw [e1] at hn; exact absurd rfl hn
 | some d=>
  have hu:=(hT.und e1).1
  rw [e1] at hn
  cases d <;> first | exact absurd rfl hn | skip
  ·rename_i n el
   simp only at hn ⊢
   cases c:Nat.ble 1 (szT T el) with
   | false=>rw [c] at hn; exact absurd rfl hn
   | true=>
    rw [c] at hn
    simp only [cond_true] at hn ⊢
    obtain ⟨z,out,hz,h1,h3⟩:=two _ hn
    exact ⟨_,v_build_a hz ⟨hu,hT.size rfl (yh c)⟩ rfl h1,h3⟩
  ·rename_i fs
   simp only at hn ⊢
   cases e2:plL T fs.toList with
   | none=>rw [e2] at hn; exact absurd rfl hn
   | some l=>
    rw [e2] at hn
    simp only at hn ⊢
    obtain ⟨z,out,hz,h1,h3⟩:=two _ hn
    exact ⟨_,v_build hz ⟨fs,hu,plL_ok hT _ e2⟩ rfl h1,h3⟩
theorem gL_at {e:E} (he:RE θ e ρ):∀ {l:List Operand},atL ((gL l).f e) = true→RAs θ ((gL l).f e) (l.map (ev ρ))
 | [],_=>rfl
 | x :: l,hn=>by
  have hn':an (atB ((gO x).f e)) (atL ((gL l).f e)) = true:=hn
  obtain ⟨h1,h2⟩:=qaf hn'
  have hne:(gO x).f e ≠ .er:=by intro e1; rw [e1] at h1; cases h1
  refine ⟨_,_,rfl,(qa1 he hne).ra ?_,gL_at he h2⟩
  revert h1
  cases (gO x).f e <;> intro h1 <;> first | trivial | cases h1
theorem mkF_ok {e:E} (he:RE θ e ρ) {f:Nat} {fs cs:Array Operand} (hn:mkF f ((gL fs.toList).f e) ((gL cs.toList).f e) ≠ .er):
  ∃ V,OpVal C (.makeFunc (.func f) fs cs) ty ρ h V∧RV θ (mkF f ((gL fs.toList).f e) ((gL cs.toList).f e)) V:=by
 unfold mkF at hn ⊢
 obtain ⟨c,_⟩:=qa8 hn
 obtain ⟨c1,c2⟩:=qaf c
 rw [c]
 refine ⟨.func (.func f) (fs.map (ev ρ)) (cs.map (ev ρ)),?_,.inl (.inl (.inr ⟨f,_,_,_,_,rfl,?_,gL_at he c1,gL_at he c2⟩))⟩
 ·intro w hw pos after g d; simp [execOp,Instr.makeFunc]
 ·congr 1 <;> (apply Array.ext'; simp)
end
structure K0 where
 d:Arr 32 UInt8
 n:Int
 deriving DecidableEq
structure K1k where
 a:Int
 b:Int
 c:Int
 deriving DecidableEq
structure K2k where
 n:Int
 d:Arr 32 UInt8
 deriving DecidableEq
instance:Ty K0:=⟨fun x=>.agg (enc x.d ++ [Value.int .i64 x.n]).toArray⟩
instance:Ty K1k:=⟨fun x=>.agg #[.int .i64 x.a,.int .i64 x.b,.int .i64 x.c]⟩
instance:Ty K2k:=⟨fun x=>.agg (Value.int .i64 x.n :: enc x.d).toArray⟩
structure StF (P:Program) (K:TypeId) (l:List (Bool×TypeId×Nat)):Prop where
 fo:P.underlying K = some (.struct (P.fieldsOf K))
 st:P.stoodInHeld K = false
 fields:(P.fieldsOf K).toList.map trip = l
section
variable {P:Program}
theorem extr_dig {a:Arr 32 UInt8} (pre post:List Value) (o:Nat) (ho:pre.length = o):((pre ++ enc a ++ post).toArray).extract o (o + 32) = (enc a).toArray:=by
 subst ho
 have hl:=qr a
 apply Array.ext'
 simp only [Array.toList_extract,List.extract]
 rw [List.append_assoc,List.drop_left' rfl,show pre.length + 32 - pre.length = 32 by omega,List.take_left' hl]
theorem enc_dig_one {a:Arr 32 UInt8} {x:Value} (h:x ∈ enc a):Instr.sameBits 9999 x x = true:=by
 have e:enc a = List.ofFn fun i=>reg (a i):=rfl
 rw [e,List.mem_ofFn] at h
 obtain ⟨i,rfl⟩:=h
 exact sb_int _ _ _
theorem kt_k1 {K t1 t2 t3:TypeId} (H:StF P K [(true,t1,0),(true,t2,1),(true,t3,2)]) (h1:P.underlying t1 = some (.int .i64)) (h2:P.underlying t2 = some (.int .i64)) (h3:P.underlying t3 = some (.int .i64)):KeyT P K K1k where
 eq a b w:=by
  have hr:∀ a:K1k,reg a = .agg #[.int .i64 a.a,.int .i64 a.b,.int .i64 a.c]:=fun a=>rfl
  show (Op.equalIn (9998 + 1 + 1) K (reg a) (reg b)).run P w = _
  rw [hr,hr,run_equalIn_struct w (9998 + 1) K _ _ H.fo H.st,qd2,H.fields]
  have p:∀ {t} (ht:P.underlying t = some (.int .i64)) (cs:Array Value) (o:Nat) (v:Value) (w:World),cs[o]? = some v→(part t cs o).run P w = .ok v w:=fun ht cs o v w h=>qcx ⟨_,ht,trivial⟩ h w
  have e:∀ {t} (ht:P.underlying t = some (.int .i64)) (a b:Int) (w:World),(Op.equalIn (9998 + 1) t (.int .i64 a) (.int .i64 b)).run P w = .ok (decide (a = b)) w:=fun ht a b w=>eqIn_int ht 9998 a b w
  simp only [Sh.eqT,if_true,Sem.run_bind]
  rw [p h1 _ 0 (.int .i64 a.a) w rfl,Result.andThen_ok,p h1 _ 0 (.int .i64 b.a) w rfl,Result.andThen_ok,e h1,Result.andThen_ok]
  obtain ⟨a1,a2,a3⟩:=a
  obtain ⟨b1,b2,b3⟩:=b
  simp only [K1k.mk.injEq]
  by_cases c1:a1 = b1
  ·simp only [c1,decide_true,Bool.not_true,Bool.false_eq_true,if_false,Sem.run_bind,true_and]
   rw [p h2 _ 1 (.int .i64 a2) w rfl,Result.andThen_ok,p h2 _ 1 (.int .i64 b2) w rfl,Result.andThen_ok,e h2,Result.andThen_ok]
   by_cases c2:a2 = b2
   ·simp only [c2,decide_true,Bool.not_true,Bool.false_eq_true,if_false,Sem.run_bind,true_and]
    rw [p h3 _ 2 (.int .i64 a3) w rfl,Result.andThen_ok,p h3 _ 2 (.int .i64 b3) w rfl,Result.andThen_ok,e h3,Result.andThen_ok]
    by_cases c3:a3 = b3 <;> simp [c3]
   ·simp [c2]
  ·simp [c1]
 ok em a w:=by
  have hr:reg a = .agg #[.int .i64 a.a,.int .i64 a.b,.int .i64 a.c]:=rfl
  rw [hr]
  show (Instr.checkKey em (9998 + 1 + 1) K _).run P w = _
  rw [ck_trip em (9998 + 1) K _ H.fo,H.fields]
  have p:∀ {t} (ht:P.underlying t = some (.int .i64)) (cs:Array Value) (o:Nat) (v:Value) (w:World),cs[o]? = some v→(part t cs o).run P w = .ok v w:=fun ht cs o v w h=>qcx ⟨_,ht,trivial⟩ h w
  simp only [ckT,if_true,Sem.run_bind]
  rw [p h1 _ 0 (.int .i64 a.a) w rfl,Result.andThen_ok,ck_int h1,Result.andThen_ok,p h2 _ 1 (.int .i64 a.b) w rfl,Result.andThen_ok,ck_int h2,Result.andThen_ok,p h3 _ 2 (.int .i64 a.c) w rfl,Result.andThen_ok,ck_int h3,Result.andThen_ok]
  rfl
 same a:=by
  have hr:reg a = .agg ([.int .i64 a.a,.int .i64 a.b,.int .i64 a.c]:List Value).toArray:=rfl
  rw [hr]
  exact sb_agg 9999 _ (by intro x hx; simp only [List.mem_cons,List.not_mem_nil,or_false] at hx; rcases hx with rfl | rfl | rfl <;> exact sb_int _ _ _)
 now:=⟨_,H.fo,.inr fun a b=>rfl⟩
theorem kt_k2 {K t1 t2:TypeId} (H:StF P K [(true,t1,0),(true,t2,1)]) (h1:P.underlying t1 = some (.int .i64)) (h2:BytesT P t2 32) (h3:IsAgg P t2 32):KeyT P K K2k where
 eq a b w:=by
  have hr:∀ a:K2k,reg a = .agg ([Value.int .i64 a.n] ++ enc a.d ++ []).toArray:=fun a=>by rw [List.append_nil]; rfl
  show (Op.equalIn (9998 + 1 + 1) K (reg a) (reg b)).run P w = _
  rw [hr,hr,run_equalIn_struct w (9998 + 1) K _ _ H.fo H.st,qd2,H.fields]
  simp only [Sh.eqT,if_true,Sem.run_bind]
  rw [qcx ⟨_,h1,trivial⟩ (v:=.int .i64 a.n) rfl,Result.andThen_ok,qcx ⟨_,h1,trivial⟩ (v:=.int .i64 b.n) rfl,Result.andThen_ok,eqIn_int h1 9998,Result.andThen_ok]
  obtain ⟨a1,a2⟩:=a
  obtain ⟨b1,b2⟩:=b
  simp only [K2k.mk.injEq]
  by_cases c1:a1 = b1
  ·simp only [c1,decide_true,Bool.not_true,Bool.false_eq_true,if_false,Sem.run_bind,true_and]
   rw [qc8 h3,Result.andThen_ok,qc8 h3,Result.andThen_ok,extr_dig _ _ 1 rfl,extr_dig _ _ 1 rfl]
   have h4:(Op.equalIn (9998 + 1) t2 (.agg (enc a2).toArray) (.agg (enc b2).toArray)).run P w = .ok (decide (a2 = b2)) w:=equalIn_arr8 h2 9997 a2 b2 w
   rw [h4]
   by_cases c2:a2 = b2 <;> simp [c2]
  ·simp [c1]
 ok em a w:=by
  have hr:reg a = .agg ([Value.int .i64 a.n] ++ enc a.d ++ []).toArray:=by rw [List.append_nil]; rfl
  rw [hr]
  show (Instr.checkKey em (9998 + 1 + 1) K _).run P w = _
  rw [ck_trip em (9998 + 1) K _ H.fo,H.fields]
  simp only [ckT,if_true,Sem.run_bind]
  rw [qcx ⟨_,h1,trivial⟩ (v:=.int .i64 a.n) rfl,Result.andThen_ok,ck_int h1,Result.andThen_ok,qc8 h3,Result.andThen_ok,extr_dig _ _ 1 rfl]
  have h4:=ck_bytes h2 9997 em a.d w
  have e1:reg a.d = .agg (enc a.d).toArray:=rfl
  rw [e1] at h4
  rw [show (9998 + 1:Nat) = 9997 + 2 from rfl,h4,Result.andThen_ok]
  rfl
 same a:=by
  have hr:reg a = .agg (Value.int .i64 a.n :: enc a.d).toArray:=rfl
  rw [hr]
  refine sb_agg 9999 _ (fun x hx=>?_)
  rw [List.mem_cons] at hx
  rcases hx with rfl | hx
  ·exact sb_int _ _ _
  ·exact enc_dig_one hx
 now:=⟨_,H.fo,.inr fun a b=>rfl⟩
theorem kt_k0 {K t1 t2:TypeId} (H:StF P K [(true,t1,0),(true,t2,32)]) (h1:BytesT P t1 32) (h3:IsAgg P t1 32) (h2:P.underlying t2 = some (.int .i64)):KeyT P K K0 where
 eq a b w:=by
  have hr:∀ a:K0,reg a = .agg ([] ++ enc a.d ++ [Value.int .i64 a.n]).toArray:=fun a=>rfl
  have g:∀ a:K0,(([] ++ enc a.d ++ [.int .i64 a.n]:List Value).toArray)[32]? = some (.int .i64 a.n):=fun a=>by
   have hl:=qr a.d
   simp only [List.nil_append,List.getElem?_toArray]
   rw [List.getElem?_append_right (by omega),hl]; rfl
  show (Op.equalIn (9998 + 1 + 1) K (reg a) (reg b)).run P w = _
  rw [hr,hr,run_equalIn_struct w (9998 + 1) K _ _ H.fo H.st,qd2,H.fields]
  simp only [Sh.eqT,if_true,Sem.run_bind]
  rw [qc8 h3,Result.andThen_ok,qc8 h3,Result.andThen_ok,extr_dig _ _ 0 rfl,extr_dig _ _ 0 rfl]
  have h4:(Op.equalIn (9998 + 1) t1 (.agg (enc a.d).toArray) (.agg (enc b.d).toArray)).run P w = .ok (decide (a.d = b.d)) w:=equalIn_arr8 h1 9997 a.d b.d w
  rw [h4,Result.andThen_ok]
  by_cases c1:a.d = b.d
  ·simp only [c1,decide_true,Bool.not_true,Bool.false_eq_true,if_false,Sem.run_bind]
   rw [qcx ⟨_,h2,trivial⟩ (v:=.int .i64 a.n) (by rw [← c1]; exact g a),Result.andThen_ok,qcx ⟨_,h2,trivial⟩ (v:=.int .i64 b.n) (g b),Result.andThen_ok,eqIn_int h2 9998,Result.andThen_ok]
   obtain ⟨a1,a2⟩:=a
   obtain ⟨b1,b2⟩:=b
   simp only [K0.mk.injEq] at c1 ⊢
   simp only [c1,true_and]
   by_cases c2:a2 = b2 <;> simp [c2]
  ·obtain ⟨a1,a2⟩:=a
   obtain ⟨b1,b2⟩:=b
   simp only [K0.mk.injEq] at c1 ⊢
   simp [c1]
 ok em a w:=by
  have hr:reg a = .agg ([] ++ enc a.d ++ [Value.int .i64 a.n]).toArray:=rfl
  have g:(([] ++ enc a.d ++ [.int .i64 a.n]:List Value).toArray)[32]? = some (.int .i64 a.n):=by
   have hl:=qr a.d
   simp only [List.nil_append,List.getElem?_toArray]
   rw [List.getElem?_append_right (by omega),hl]; rfl
  rw [hr]
  show (Instr.checkKey em (9998 + 1 + 1) K _).run P w = _
  rw [ck_trip em (9998 + 1) K _ H.fo,H.fields]
  simp only [ckT,if_true,Sem.run_bind]
  rw [qc8 h3,Result.andThen_ok,extr_dig _ _ 0 rfl]
  have h4:=ck_bytes h1 9997 em a.d w
  have e1:reg a.d = .agg (enc a.d).toArray:=rfl
  rw [e1] at h4
  rw [show (9998 + 1:Nat) = 9997 + 2 from rfl,h4,Result.andThen_ok,qcx ⟨_,h2,trivial⟩ (v:=.int .i64 a.n) g,Result.andThen_ok]
  rw [show (9997 + 2:Nat) = 9998 + 1 from rfl,ck_int h2,Result.andThen_ok]
  rfl
 same a:=by
  have hr:reg a = .agg (enc a.d ++ [Value.int .i64 a.n]).toArray:=rfl
  rw [hr]
  refine sb_agg 9999 _ (fun x hx=>?_)
  rw [List.mem_append] at hx
  rcases hx with hx | hx
  ·exact enc_dig_one hx
  ·rw [List.mem_singleton] at hx; subst hx; exact sb_int _ _ _
 now:=⟨_,H.fo,.inr fun a b=>rfl⟩
theorem bytes_beq (a b:ByteArray):(a == b) = decide (a = b):=by
 cases a with | mk x=>cases b with | mk y=>
 show (x == y) = decide (ByteArray.mk x = ByteArray.mk y)
 by_cases c:x = y
 ·subst c; simp
 ·have:¬ ByteArray.mk x = ByteArray.mk y:=fun e=>c (by injection e)
  rw [decide_eq_false this]; simpa using c
theorem kt_str {K:TypeId} (h:P.underlying K = some .string):KeyT P K ByteArray where
 eq a b w:=by
  show (Op.equalIn (9999 + 1) K (.string a) (.string b)).run P w = _
  unfold Op.equalIn
  simp [run_underlying h,bytes_beq]
 ok e a w:=by
  show (Instr.checkKey e (9999 + 1) K (.string a)).run P w = _
  unfold Instr.checkKey
  simp [run_underlying h]
 same a:=by simp [reg,Instr.sameBits,bytes_beq]
 now:=⟨_,h,.inl fun a b=>by simp [reg,Instr.sameNow,bytes_beq]⟩
theorem KeyT.sub {K:TypeId} {κ κ':Type} [Ty κ] [DecidableEq κ] [Ty κ'] [DecidableEq κ'] (H:KeyT P K κ) (f:κ'→κ) (hr:∀ x,reg x = reg (f x)) (hi:∀ x y:κ',f x = f y→x = y):KeyT P K κ' where
 eq a b w:=by
  rw [hr,hr,H.eq]
  congr 1
  by_cases c:a = b
  ·subst c; simp
  ·rw [decide_eq_false c,decide_eq_false (fun e=>c (hi _ _ e))]
 ok e a w:=by rw [hr]; exact H.ok e _ w
 same a:=by rw [hr]; exact H.same _
 now:=by
  obtain ⟨d,h1,h2⟩:=H.now
  refine ⟨d,h1,h2.imp (fun h a b=>?_) (fun h a b=>by rw [hr,hr]; exact h _ _)⟩
  rw [hr,hr,h]
  congr 1
  by_cases c:a = b
  ·subst c; simp
  ·rw [decide_eq_false c,decide_eq_false (fun e=>c (hi _ _ e))]
end
def isKey:KK→Value→Prop
 | .int,V=>∃ n:Int,V = reg n
 | .str,V=>∃ s:ByteArray,V = reg s
 | .dig,V=>∃ a:Arr 32 UInt8,V = reg a
 | .key 0,V=>∃ k:K0,V = reg k
 | .key 1,V=>∃ k:K1k,V = reg k
 | .key 2,V=>∃ k:K2k,V = reg k
 | .key _,_=>False
def KeyOf (kk:KK):Type:={ V:Value // isKey kk V }
instance (kk:KK):Ty (KeyOf kk):=⟨fun x=>x.1⟩
instance (kk:KK):DecidableEq (KeyOf kk):=fun a b=>Classical.propDecidable _
structure RawV where
 v:Value
instance:Ty RawV:=⟨RawV.v⟩
section
variable {P:Program} {T:Tb} (hT:TbOk P T)
include hT
theorem kk1_1 {t:Nat} (h:kk1 T t = 1):P.underlying t = some (.int .i64):=by
 unfold kk1 at h
 split at h
 ·rename_i e; exact (hT.und e).1
 ·cases h
 ·rename_i e1
  cases c:an (Nat.beq (szT T _) 1) (Nat.beq (szT T t) 32) with
  | false=>rw [c] at h; cases h
  | true=>rw [c] at h; simp only [cond_true] at h; split at h <;> cases h
 ·cases h
theorem kk1_3 {t:Nat} (h:kk1 T t = 3):P.underlying t = some .string:=by
 unfold kk1 at h
 split at h
 ·cases h
 ·rename_i e; exact (hT.und e).1
 ·rename_i e1
  cases c:an (Nat.beq (szT T _) 1) (Nat.beq (szT T t) 32) with
  | false=>rw [c] at h; cases h
  | true=>rw [c] at h; simp only [cond_true] at h; split at h <;> cases h
 ·cases h
theorem kk1_2 {t:Nat} (h:kk1 T t = 2):BytesT P t 32∧IsAgg P t 32:=by
 have hg:=hT.guard t h
 unfold kk1 at h
 split at h
 ·cases h
 ·cases h
 ·rename_i e e1
  cases c:an (Nat.beq (szT T e) 1) (Nat.beq (szT T t) 32) with
  | false=>rw [c] at h; cases h
  | true=>
   rw [c] at h
   simp only [cond_true] at h
   split at h
   ·rename_i e2
    obtain ⟨u1,i1,g1⟩:=hT.und e1
    obtain ⟨u2,i2,g2⟩:=hT.und e2
    obtain ⟨c1,c2⟩:=qaf c
    have s1:=ya c1
    have s2:=ya c2
    have z1:=hT.size' g1
    rw [s2] at z1
    exact ⟨⟨⟨e,u1,u2,hT.size s1 (by decide)⟩,hg⟩,⟨_,u1,.inr ⟨_,_,rfl⟩⟩,z1⟩
   ·cases h
 ·cases h
theorem keyT_of {K : Nat} {kk : KK} (h : kkT T K = some kk) : KeyT P K (KeyOf kk) := by
  have h0 := h
  unfold kkT at h
  split at h
  · rename_i fs e
    have hu := (hT.und e).1
    have hfo : P.fieldsOf K = fs := by unfold Program.fieldsOf; rw [hu]
    have hst : ∀ s, kk = .key s → P.stoodInHeld K = false := fun s e => (hT.stood K s (e ▸ h0)).1
    have stf : ∀ l, fs.toList.map trip = l → (∃ s, kk = .key s) → StF P K l := fun l hl ⟨s, hs⟩ => ⟨by rw [hfo]; exact hu, hst s hs, by rw [hfo]; exact hl⟩
    have nm : ∀ s : String, (s == "_") = false → (s != "_") = true := fun s h => by simp [bne, h]
    split at h
    · rename_i hl
      injection h with h; subst h
      obtain ⟨f1, r1, e1, g1, r2⟩ : ∃ f1 r1, fs.toList = f1 :: r1 ∧ (kk1 T f1.type, f1.offset, f1.name == "_") = (2, 0, false) ∧ r1.map (fun f => (kk1 T f.type, f.offset, f.name == "_")) = [(1, 32, false)] := by
        cases hf : fs.toList with
        | nil => rw [hf] at hl; cases hl
        | cons a r => rw [hf] at hl; injection hl with a1 a2; exact ⟨a, r, rfl, a1, a2⟩
      obtain ⟨f2, rfl, g2⟩ : ∃ f2, r1 = [f2] ∧ (kk1 T f2.type, f2.offset, f2.name == "_") = (1, 32, false) := by
        cases r1 with
        | nil => cases r2
        | cons a r =>
          injection r2 with a1 a2
          cases r with
          | nil => exact ⟨a, rfl, a1⟩
          | cons => cases a2
      simp only [Prod.mk.injEq] at g1 g2
      have H := stf [(true, f1.type, 0), (true, f2.type, 32)] (by rw [e1]; simp [trip, g1.2.1, g2.2.1, nm _ g1.2.2, nm _ g2.2.2]) ⟨_, rfl⟩
      obtain ⟨b1, b2⟩ := kk1_2 hT g1.1
      exact KeyT.sub (kt_k0 H b1 b2 (kk1_1 hT g2.1)) (fun x => x.2.choose) (fun x => x.2.choose_spec) (fun x y e => Subtype.ext (x.2.choose_spec.trans ((congrArg reg e).trans y.2.choose_spec.symm)))
    · rename_i hl
      injection h with h; subst h
      obtain ⟨f1, f2, f3, e1, g1, g2, g3⟩ : ∃ f1 f2 f3, fs.toList = [f1, f2, f3] ∧ (kk1 T f1.type, f1.offset, f1.name == "_") = (1, 0, false) ∧ (kk1 T f2.type, f2.offset, f2.name == "_") = (1, 1, false) ∧ (kk1 T f3.type, f3.offset, f3.name == "_") = (1, 2, false) := by
        revert hl
        rcases fs.toList with _ | ⟨a, _ | ⟨b, _ | ⟨c, _ | ⟨d, r⟩⟩⟩⟩ <;> intro hl <;> simp only [List.map_cons, List.map_nil, List.cons.injEq, reduceCtorEq, and_false, and_true] at hl
        exact ⟨a, b, c, rfl, hl.1, hl.2.1, hl.2.2⟩
      simp only [Prod.mk.injEq] at g1 g2 g3
      have H := stf [(true, f1.type, 0), (true, f2.type, 1), (true, f3.type, 2)] (by rw [e1]; simp [trip, g1.2.1, g2.2.1, g3.2.1, nm _ g1.2.2, nm _ g2.2.2, nm _ g3.2.2]) ⟨_, rfl⟩
      exact KeyT.sub (kt_k1 H (kk1_1 hT g1.1) (kk1_1 hT g2.1) (kk1_1 hT g3.1)) (fun x => x.2.choose) (fun x => x.2.choose_spec) (fun x y e => Subtype.ext (x.2.choose_spec.trans ((congrArg reg e).trans y.2.choose_spec.symm)))
    · rename_i hl
      injection h with h; subst h
      obtain ⟨f1, f2, e1, g1, g2⟩ : ∃ f1 f2, fs.toList = [f1, f2] ∧ (kk1 T f1.type, f1.offset, f1.name == "_") = (1, 0, false) ∧ (kk1 T f2.type, f2.offset, f2.name == "_") = (2, 1, false) := by
        revert hl
        rcases fs.toList with _ | ⟨a, _ | ⟨b, _ | ⟨c, r⟩⟩⟩ <;> intro hl <;> simp only [List.map_cons, List.map_nil, List.cons.injEq, reduceCtorEq, and_false, and_true] at hl
        exact ⟨a, b, rfl, hl.1, hl.2⟩
      simp only [Prod.mk.injEq] at g1 g2
      have H := stf [(true, f1.type, 0), (true, f2.type, 1)] (by rw [e1]; simp [trip, g1.2.1, g2.2.1, nm _ g1.2.2, nm _ g2.2.2]) ⟨_, rfl⟩
      obtain ⟨b1, b2⟩ := kk1_2 hT g2.1
      exact KeyT.sub (kt_k2 H (kk1_1 hT g1.1) b1 b2) (fun x => x.2.choose) (fun x => x.2.choose_spec) (fun x y e => Subtype.ext (x.2.choose_spec.trans ((congrArg reg e).trans y.2.choose_spec.symm)))
    · cases h
  · split at h
    · rename_i hk
      injection h with h; subst h
      exact KeyT.sub (KeyT.int (kk1_1 hT hk)) (fun x => x.2.choose) (fun x => x.2.choose_spec) (fun x y e => Subtype.ext (x.2.choose_spec.trans ((congrArg reg e).trans y.2.choose_spec.symm)))
    · rename_i hk
      injection h with h; subst h
      exact KeyT.sub (KeyT.bytes (kk1_2 hT hk).1) (fun x => x.2.choose) (fun x => x.2.choose_spec) (fun x y e => Subtype.ext (x.2.choose_spec.trans ((congrArg reg e).trans y.2.choose_spec.symm)))
    · rename_i hk
      injection h with h; subst h
      exact KeyT.sub (kt_str (kk1_3 hT hk)) (fun x => x.2.choose) (fun x => x.2.choose_spec) (fun x y e => Subtype.ext (x.2.choose_spec.trans ((congrArg reg e).trans y.2.choose_spec.symm)))
    · cases h
end
section
variable {θ θ':Th}
def digA (x:Nat):Arr 32 UInt8:=fun i=>UInt8.ofNat ((byL 32 x).getD i.val 0)
theorem enc_digA (x:Nat):enc (digA x) = byV 32 x:=by
 have e:enc (digA x) = List.ofFn fun i=>reg (digA x i):=rfl
 rw [e]
 apply List.ext_getElem?
 intro i
 rw [List.getElem?_ofFn]
 split
 ·rename_i hi
  simp only [byV,List.getElem?_map,byL_get x hi,Option.map_some]
  congr 1
  have h1:(byL 32 x).getD i 0 = x / 256 ^ (32 - 1 - i) % 256:=by
   rw [List.getD_eq_getElem?_getD,byL_get x hi]; rfl
  show Value.int .u8 ((UInt8.ofNat ((byL 32 x).getD i 0)).toNat:Int) = _
  rw [h1,UInt8.toNat_ofNat',Nat.mod_eq_of_lt (Nat.mod_lt _ (by decide))]
  rfl
 ·rename_i hi
  rw [List.getElem?_eq_none (by rw [qc6]; omega)]
theorem bV_inj {a b:Nat} (h:bV a = bV b):a = b:=by
 unfold bV at h; injection h with _ h; exact Int.ofNat.inj h
theorem mapV_inj:∀ {l m:List Nat},l.map bV = m.map bV→l = m
 | [],[],_=>rfl
 | [],_ :: _,h=>by cases h
 | _ :: _,[],h=>by cases h
 | a :: l,b :: m,h=>by
  simp only [List.map_cons,List.cons.injEq] at h
  rw [bV_inj h.1,mapV_inj h.2]
theorem byV_inj {n x y:Nat} (hx:x < 256 ^ n) (hy:y < 256 ^ n) (h:byV n x = byV n y):x = y:=by
 refine byL_inj hx hy ?_
 unfold byV at h
 exact mapV_inj h
theorem byS_inj {n m x y:Nat} (hx:x < 256 ^ n) (hy:y < 256 ^ m) (h:byS n x = byS m y):n = m∧x = y:=by
 have h1:=congrArg ByteArray.size h
 rw [qea,qea] at h1
 subst h1
 refine ⟨rfl,byL_inj hx hy ?_⟩
 unfold byS at h
 injection h with h
 have h2:=congrArg Array.toList h
 simp only at h2
 have h3:=congrArg (List.map UInt8.toNat) h2
 rw [List.map_map,List.map_map] at h3
 have key:∀ l:List Nat,(∀ b ∈ l,b < 256)→l.map (UInt8.toNat ∘ UInt8.ofNat) = l:=by
  intro l hl
  induction l with
  | nil=>rfl
  | cons a l ih=>
   simp only [List.map_cons,Function.comp]
   rw [UInt8.toNat_ofNat',Nat.mod_eq_of_lt (hl a (by simp))]
   congr 1
   exact ih fun b hb=>hl b (by simp [hb])
 rwa [key _ (fun b hb=>byL_lt hb),key _ (fun b hb=>byL_lt hb)] at h3
theorem cell_bs {x:Nat} {vs:List Value} {tl:CL AV} (h:RC θ (.cons 32 (.bs 32 x) tl) vs):∃ r,vs = byV 32 x ++ r∧x < 256 ^ 32∧RC θ tl r:=by
 obtain ⟨v1,v2,rfl,h1,h2⟩:=h
 rcases h1 with ⟨y,e,_,hx,rfl⟩ | ⟨_,_,U,_,hU⟩
 ·injection e with e1 e2; subst e2; exact ⟨v2,rfl,hx,h2⟩
 ·exact hU.noB.elim
theorem cell_i {n:Nat} {vs:List Value} {tl:CL AV} (h:RC θ (.cons 1 (.i n) tl) vs):∃ r,vs = .int .i64 (IntKind.i64.wrap n) :: r∧n < 2 ^ 64∧RC θ tl r:=by
 obtain ⟨v1,v2,rfl,h1,h2⟩:=h
 rcases h1 with ⟨y,e,_⟩ | ⟨_,_,U,rfl,hU⟩
 ·cases e
 ·obtain ⟨hn,rfl⟩:=hU.ra (v:=.i n) trivial
  exact ⟨v2,rfl,hn,h2⟩
inductive KR:KK→AV→Value→Prop where
 | int {n:Nat}:n < 2 ^ 64→KR .int (.i n) (.int .i64 (IntKind.i64.wrap n))
 | str {n x:Nat}:x < 256 ^ n→KR .str (.s n x) (.string (byS n x))
 | dig {x:Nat}:x < 256 ^ 32→KR .dig (.a (.cons 32 (.bs 32 x) .nil)) (.agg (Array.mk (byV 32 x)))
 | k0 {x n:Nat}:x < 256 ^ 32→n < 2 ^ 64→KR (.key 0) (.a (.cons 32 (.bs 32 x) (.cons 1 (.i n) .nil))) (.agg (Array.mk (byV 32 x ++ [.int .i64 (IntKind.i64.wrap n)])))
 | k1 {a b c:Nat}:a < 2 ^ 64→b < 2 ^ 64→c < 2 ^ 64→KR (.key 1) (.a (.cons 1 (.i a) (.cons 1 (.i b) (.cons 1 (.i c) .nil)))) (.agg #[.int .i64 (IntKind.i64.wrap a),.int .i64 (IntKind.i64.wrap b),.int .i64 (IntKind.i64.wrap c)])
 | k2 {n x:Nat}:n < 2 ^ 64→x < 256 ^ 32→KR (.key 2) (.a (.cons 1 (.i n) (.cons 32 (.bs 32 x) .nil))) (.agg (Array.mk (.int .i64 (IntKind.i64.wrap n) :: byV 32 x)))
theorem KR.of {kk:KK} {k:AV} {V:Value} (h:kOk kk k = true) (hv:RV θ k V):KR kk k V:=by
 unfold kOk at h
 split at h <;> first | cases h | skip
 ·obtain ⟨hn,rfl⟩:=hv.ra (v:=.i _) trivial; exact .int hn
 ·obtain ⟨hn,rfl⟩:=hv.ra (v:=.s _ _) trivial; exact .str hn
 ·obtain ⟨vs,rfl,hc⟩:=hv.agg
  obtain ⟨r,rfl,hx,h2⟩:=cell_bs hc
  have:r = []:=h2
  subst this
  rw [List.append_nil]; exact .dig hx
 ·obtain ⟨vs,rfl,hc⟩:=hv.agg
  obtain ⟨r,rfl,hx,h2⟩:=cell_bs hc
  obtain ⟨r,rfl,hn,h3⟩:=cell_i h2
  have:r = []:=h3
  subst this
  exact .k0 hx hn
 ·obtain ⟨vs,rfl,hc⟩:=hv.agg
  obtain ⟨r,rfl,h1,hc⟩:=cell_i hc
  obtain ⟨r,rfl,h2,hc⟩:=cell_i hc
  obtain ⟨r,rfl,h3,hc⟩:=cell_i hc
  have:r = []:=hc
  subst this
  exact .k1 h1 h2 h3
 ·obtain ⟨vs,rfl,hc⟩:=hv.agg
  obtain ⟨r,rfl,h1,hc⟩:=cell_i hc
  obtain ⟨r,rfl,h2,hc⟩:=cell_bs hc
  have:r = []:=hc
  subst this
  rw [List.append_nil]; exact .k2 h1 h2
theorem KR.isKey {kk:KK} {k:AV} {V:Value} (h:KR kk k V):isKey kk V:=by
 cases h with
 | int h=>exact ⟨_,rfl⟩
 | str h=>exact ⟨_,rfl⟩
 | dig h=>exact ⟨digA _,by show _ = Value.agg (enc (digA _)).toArray; rw [enc_digA]⟩
 | @k0 x n h h2=>exact ⟨⟨digA x,IntKind.i64.wrap n⟩,by show _ = Value.agg (enc (digA x) ++ [Value.int .i64 (IntKind.i64.wrap n)]).toArray; rw [enc_digA]⟩
 | @k1 a b c _ _ _=>exact ⟨⟨IntKind.i64.wrap a,IntKind.i64.wrap b,IntKind.i64.wrap c⟩,rfl⟩
 | @k2 n x h h2=>exact ⟨⟨IntKind.i64.wrap n,digA x⟩,by show _ = Value.agg (Value.int .i64 (IntKind.i64.wrap n) :: enc (digA x)).toArray; rw [enc_digA]⟩
theorem wrapi_inj {a b:Nat} (ha:a < 2 ^ 64) (hb:b < 2 ^ 64) (h:IntKind.i64.wrap (a:Int) = IntKind.i64.wrap (b:Int)):a = b:=by
 have e:=IntKind.wrap_i64 (a:Int)
 have e2:=IntKind.wrap_i64 (b:Int)
 have ha':a < 18446744073709551616:=ha
 have hb':b < 18446744073709551616:=hb
 omega
theorem qdx {a b:Nat}:Nat.beq a b = true ↔ a = b:=⟨ya,fun e=>by subst e; simp⟩
theorem an_iff {a b:Bool}:an a b = true ↔ a = true∧b = true:=by rw [an_eq]; simp
theorem keyE_ok {kk:KK} {k k':AV} {V V':Value} (h:KR kk k V) (h':KR kk k' V'):∃ β,keyE k k' = .b β∧(β = true ↔ V = V'):=by
 have ii:∀ {a b:Nat},a < 2 ^ 64→b < 2 ^ 64→(Value.int .i64 (IntKind.i64.wrap (a:Int)) = Value.int .i64 (IntKind.i64.wrap (b:Int)) ↔ a = b):=fun ha hb=>⟨fun e=>by injection e with _ e; exact wrapi_inj ha hb e,fun e=>by subst e; rfl⟩
 cases h with
 | int h=>cases h' with | int h'=>exact ⟨_,rfl,by rw [ii h h',qdx]⟩
 | str h=>cases h' with | str h'=>exact ⟨_,rfl,by
   rw [an_iff,qdx,qdx]
   exact ⟨fun ⟨e1,e2⟩=>by subst e1; subst e2; rfl,fun e=>byS_inj h h' (by injection e)⟩⟩
 | dig h=>cases h' with | dig h'=>exact ⟨_,rfl,by
   rw [an_iff,qdx]
   exact ⟨fun ⟨e1,_⟩=>by subst e1; rfl,fun e=>⟨byV_inj h h' (by injection e with e; injection e),rfl⟩⟩⟩
 | k0 h g=>cases h' with | k0 h' g'=>exact ⟨_,rfl,by
   rw [an_iff,qdx,an_iff,qdx]
   refine ⟨fun ⟨e1,e2,_⟩=>by subst e1; subst e2; rfl,fun e=>?_⟩
   injection e with e; injection e with e
   obtain ⟨e1,e2⟩:=List.append_inj e (by rw [qc6,qc6])
   injection e2 with e2
   exact ⟨byV_inj h h' e1,(ii g g').1 e2,rfl⟩⟩
 | k1 h1 h2 h3=>cases h' with | k1 g1 g2 g3=>exact ⟨_,rfl,by
   rw [an_iff,qdx,an_iff,qdx,an_iff,qdx]
   refine ⟨fun ⟨e1,e2,e3,_⟩=>by subst e1; subst e2; subst e3; rfl,fun e=>?_⟩
   injection e with e; injection e with e; injection e with e1 e; injection e with e2 e; injection e with e3 e
   exact ⟨(ii h1 g1).1 e1,(ii h2 g2).1 e2,(ii h3 g3).1 e3,rfl⟩⟩
 | k2 h1 h2=>cases h' with | k2 g1 g2=>exact ⟨_,rfl,by
   rw [an_iff,qdx,an_iff,qdx]
   refine ⟨fun ⟨e1,e2,_⟩=>by subst e1; subst e2; rfl,fun e=>?_⟩
   injection e with e; injection e with e; injection e with e1 e2
   exact ⟨(ii h1 g1).1 e1,byV_inj h2 g2 e2,rfl⟩⟩
end
theorem RV1.toRV {θ:Th} {v:AV} {V:Value} (h:RV1 θ v V):RV θ v V:=.inl h
inductive Fnd (θ:Th) (kk:KK) (k:AV) (V:Value) (es:List KV) (ms:List MapEntry):Option (Nat×Value)→Prop where
 | no:mfnd k es = none→(∀ m ∈ ms,m.key ≠ V)→(∀ v clk q,mset k v es clk q = frN (Nat.add clk 1) fun c=>q c (es ++ [⟨k,v,clk⟩]))→(∀ q,mdel k es q = q es)→Fnd θ kk k V es ms none
 | yes {j:Nat} {m:MapEntry} {e:KV}:ms[j]? = some m→es[j]? = some e→m.key = V→KVr θ kk e m→mfnd k es = some e→(∀ v clk q,mset k v es clk q = q clk (es.set j ⟨k,v,e.bn⟩)) →
   (∀ q,mdel k es q = q (es.eraseIdx j))→Fnd θ kk k V es ms (some (j,m.val))
theorem keys_of {θ:Th} {kk:KK}:∀ {es:List KV} {ms:List MapEntry},KVs θ kk es ms→∃ l:List (KeyOf kk×RawV),ms.map (fun e=>(e.key,e.val)) = l.map (fun p=>(reg p.1,reg p.2))
 | [],_,h=>⟨[],by rw [show _ = [] from h]; rfl⟩
 | e :: es,_,⟨m,r,e1,h1,h2⟩=>by
  obtain ⟨l,hl⟩:=keys_of h2
  subst e1
  refine ⟨(⟨m.key,(KR.of h1.1 h1.2.1.toRV).isKey⟩,⟨m.val⟩) :: l,?_⟩
  rw [List.map_cons,List.map_cons,hl]
  rfl
theorem reg_key {kk:KK} (x:KeyOf kk):reg x = x.1:=rfl
theorem fnd_core {θ:Th} {kk:KK} {k:AV} {V:Value} (hk:KR kk k V) (κ:KeyOf kk) (hκ:κ.1 = V):∀ (es:List KV) (ms:List MapEntry) (l:List (KeyOf kk×RawV)) (i:Nat),KVs θ kk es ms →
  ms.map (fun e=>(e.key,e.val)) = l.map (fun p=>(reg p.1,reg p.2)) →
  ∃ o,Fnd θ kk k V es ms o∧fidx κ (l.map (·.1)) i = o.map (fun p=>i + p.1)
 | [],ms,l,i,h,hl=>by
  have:ms = []:=h
  subst this
  have:l = []:=by simpa using hl.symm
  subst this
  exact ⟨none,.no rfl (by simp) (fun _ _ _=>rfl) (fun _=>rfl),rfl⟩
 | e :: es,_,l,i,⟨m,r,e1,h1,h2⟩,hl=>by
  subst e1
  cases l with
  | nil=>simp at hl
  | cons p l=>
   simp only [List.map_cons,List.cons.injEq,Prod.mk.injEq] at hl
   obtain ⟨⟨g1,g2⟩,g3⟩:=hl
   obtain ⟨o,ih1,ih2⟩:=fnd_core hk κ hκ es r l (i + 1) h2 g3
   obtain ⟨β,hβ,hv⟩:=keyE_ok hk (KR.of h1.1 h1.2.1.toRV)
   have hc:κ = p.1 ↔ V = m.key:=by
    rw [g1,reg_key]
    exact ⟨fun e=>by rw [← hκ,e],fun e=>Subtype.ext (by rw [hκ,e])⟩
   cases β with
   | true=>
    have hV:=hv.1 rfl
    refine ⟨some (0,m.val),.yes (j:=0) rfl rfl hV.symm h1 ?_ (fun v clk q=>?_) (fun q=>?_),?_⟩
    ·show (match keyE k e.k with | .b true=>some e | .b false=>mfnd k es | _=>some ⟨.er,.er,0⟩) = _
     rw [hβ]
    ·show (match keyE k e.k with | .b true=>q clk (⟨k,v,e.bn⟩ :: es) | .b false=>mset k v es clk fun c l=>q c (e :: l) | _=>.er 11) = _
     rw [hβ]; rfl
    ·show (match keyE k e.k with | .b true=>q es | .b false=>mdel k es fun l=>q (e :: l) | _=>.er 12) = _
     rw [hβ]; rfl
    ·rw [List.map_cons]; unfold fidx; rw [if_pos (hc.2 hV)]; rfl
   | false=>
    have hV:¬ V = m.key:=fun e=>by have:=hv.2 e; cases this
    have m0:mfnd k (e :: es) = mfnd k es:=by
     show (match keyE k e.k with | .b true=>some e | .b false=>mfnd k es | _=>some ⟨.er,.er,0⟩) = _
     rw [hβ]
    have m1:∀ v clk q,mset k v (e :: es) clk q = mset k v es clk fun c l=>q c (e :: l):=fun v clk q=>by
     show (match keyE k e.k with | .b true=>q clk (⟨k,v,e.bn⟩ :: es) | .b false=>mset k v es clk fun c l=>q c (e :: l) | _=>.er 11) = _
     rw [hβ]
    have m2:∀ q,mdel k (e :: es) q = mdel k es fun l=>q (e :: l):=fun q=>by
     show (match keyE k e.k with | .b true=>q es | .b false=>mdel k es fun l=>q (e :: l) | _=>.er 12) = _
     rw [hβ]
    have hf:fidx κ ((p :: l).map (·.1)) i = fidx κ (l.map (·.1)) (i + 1):=by
     rw [List.map_cons]; conv=>lhs; unfold fidx
     rw [if_neg (fun e=>hV (hc.1 e))]
    cases ih1 with
    | no a1 a2 a3 a4=>
     refine ⟨none,.no (m0.trans a1) ?_ (fun v clk q=>by rw [m1,a3]; rfl) (fun q=>by rw [m2,a4]),by rw [hf,ih2]; rfl⟩
     intro x hx
     rcases List.mem_cons.1 hx with e | hx
     ·subst e; exact fun e=>hV e.symm
     ·exact a2 x hx
    | @yes j m' e' a1 a2 a3 a4 a5 a6 a7=>
     refine ⟨some (j + 1,m'.val),.yes (j:=j + 1) (by simpa using a1) (by simpa using a2) a3 a4 (m0.trans a5) (fun v clk q=>by rw [m1,a6]; rfl) (fun q=>by rw [m2,a7]; rfl),?_⟩
     rw [hf,ih2]; show some (i + 1 + j) = some (i + (j + 1)); congr 1; omega
section
variable {P:Program} {T:Tb} (hT:TbOk P T) {θ:Th}
include hT
theorem find_ok {K:Nat} {kk:KK} (hkk:kkT T K = some kk) {k:AV} {V:Value} (hk:KR kk k V) {es:List KV} {ms:List MapEntry} (h:KVs θ kk es ms):
  ∃ o,Fnd θ kk k V es ms o∧∀ w,(Instr.findKey K V ms).run P w = .ok o w:=by
 obtain ⟨l,hl⟩:=keys_of h
 have hkT:=keyT_of hT hkk
 obtain ⟨o,ho,hf⟩:=fnd_core hk ⟨V,hk.isKey⟩ rfl es ms l 0 h hl
 refine ⟨o,ho,fun w=>?_⟩
 have:=qfv hkT ⟨V,hk.isKey⟩ w hl
 rw [hf] at this
 have e0:Instr.findKey K V ms = Instr.findKey K (reg (α:=KeyOf kk) ⟨V,hk.isKey⟩) ms:=rfl
 rw [e0,this]
 cases ho with
 | no=>rfl
 | yes a1 a2 a3=>simp [a1]
end
theorem KVs.set {θ:Th} {kk:KK}:∀ {es:List KV} {ms:List MapEntry} (j:Nat) {e:KV} {m:MapEntry},KVs θ kk es ms→KVr θ kk e m→KVs θ kk (es.set j e) (ms.set j m)
 | [],_,j,_,_,h,_=>by rw [show _ = [] from h]; exact rfl
 | a :: es,_,0,_,_,⟨m,r,e1,h1,h2⟩,h'=>by subst e1; exact ⟨_,r,rfl,h',h2⟩
 | a :: es,_,j + 1,_,_,⟨m,r,e1,h1,h2⟩,h'=>by subst e1; exact ⟨m,_,rfl,h1,KVs.set j h2 h'⟩
theorem KVs.erase {θ:Th} {kk:KK}:∀ {es:List KV} {ms:List MapEntry} (j:Nat),KVs θ kk es ms→KVs θ kk (es.eraseIdx j) (ms.eraseIdx j)
 | [],_,j,h=>by rw [show _ = [] from h]; exact rfl
 | a :: es,_,0,⟨m,r,e1,h1,h2⟩=>by subst e1; exact h2
 | a :: es,_,j + 1,⟨m,r,e1,h1,h2⟩=>by subst e1; exact ⟨m,_,rfl,h1,KVs.erase j h2⟩
theorem KVs.app {θ:Th} {kk:KK}:∀ {es:List KV} {ms:List MapEntry} {e:KV} {m:MapEntry},KVs θ kk es ms→KVr θ kk e m→KVs θ kk (es ++ [e]) (ms ++ [m])
 | [],_,_,_,h,h'=>by rw [show _ = [] from h]; exact ⟨_,[],rfl,h',rfl⟩
 | a :: es,_,_,_,⟨m,r,e1,h1,h2⟩,h'=>by subst e1; exact ⟨m,_,rfl,h1,KVs.app h2 h'⟩
theorem kEq_ok {a b:KK} (h:kEq a b = true):a = b:=by
 cases a <;> cases b <;> first | rfl | cases h | (have:=ya h; subst this; rfl)
theorem ofI_nt {k:IntKind} {n:Nat} {l:List AV}:ofI k n ≠ .t l:=by
 unfold ofI; split <;> (intro e; cases e)
theorem ofInt_nt {k:IntKind} {n:Int} {l:List AV}:ofInt k n ≠ .t l:=by
 unfold ofInt
 cases decide (k.wrap n = n) with
 | true=>exact ofI_nt
 | false=>intro e; cases e
theorem ofAtom_nt {v:Value} {l:List AV}:ofAtom v ≠ .t l:=by
 unfold ofAtom
 split <;> first | exact ofInt_nt | (intro e; cases e)
theorem ofV_nt {v:Value} {l:List AV}:ofV v ≠ .t l:=by
 unfold ofV
 split
 ·rename_i cs
  cases okC (ofCells cs.toList) <;> (intro e; cases e)
 ·exact ofAtom_nt
theorem zeroA_nt {T:Tb} {t:Nat} {l:List AV}:zeroA T t ≠ .t l:=by
 unfold zeroA
 split
 ·split
  ·exact ofV_nt
  ·intro e; cases e
 ·intro e; cases e
theorem RV.rv1 {θ:Th} {v:AV} {V:Value} (h:RV θ v V) (hn:∀ l,v ≠ .t l):RV1 θ v V:=by
 rcases h with h | ⟨l,_,e,_⟩
 ·exact h
 ·exact absurd e (hn l)
theorem RV1.ne {θ:Th} {v:AV} {V:Value} (h:RV1 θ v V):v ≠ .er:=by
 intro e; subst e
 rcases h with (h | ⟨_,_,_,_,_,e,_⟩) | ⟨_,_,e,_⟩ | ⟨e,_⟩
 ·exact h
 ·cases e
 ·cases e
 ·cases e
theorem rv_t2 {θ:Th} {v:AV} {V:Value} {β:Bool} (h:RV1 θ v V):RV θ (.t [v,.b β]) (.tuple #[V,.bool β]):=
 .inr ⟨_,[V,.bool β],rfl,rfl,V,[.bool β],rfl,h,.bool β,[],rfl,.inl (.inl rfl),rfl⟩
theorem cpA_ok {θ:Th} {v:AV} {V:Value} {β ok:Bool} (h:RV1 θ v V):RV θ (cpA v ok β) (if ok then .tuple #[V,.bool β] else V):=by
 cases ok with
 | true=>exact rv_t2 h
 | false=>exact h.toRV
theorem run_look {P:Program} {T K E:TypeId} (hT:P.underlying T = some (.map K E)) {V:Value} (hc:∀ e w,(Instr.checkKey e 10000 K V).run P w = .ok () w) {es:Array MapEntry} {o:Option (Nat×Value)} {w:World}
  (he:(Instr.findKey K V es.toList).run P w = .ok o w) {X:Value} (hX:(X = .map none∧es = #[])∨∃ r clk,X = .map (some r)∧w.heap[r]? = some (.map es clk)) {z:Value} (hz:o = none→ZeroV P E z) (b:Bool):
  (Instr.lookup T X V b).run P w = .ok (if b then .tuple #[(o.map (·.2)).getD z,.bool o.isSome] else (o.map (·.2)).getD z) w:=by
 rcases hX with ⟨rfl,rfl⟩ | ⟨r,clk,rfl,hb⟩
 ·cases o with
  | none=>
   obtain ⟨i,hi,hzv⟩:=hz rfl
   simp [Instr.lookup,run_underlying hT,hc,he,zeroValue,typeInfo,hi,hzv]
  | some p=>simp [Instr.lookup,run_underlying hT,hc,he]
 ·cases o with
  | none=>
   obtain ⟨i,hi,hzv⟩:=hz rfl
   simp [Instr.lookup,run_underlying hT,qbb hb,hc,he,zeroValue,typeInfo,hi,hzv]
  | some p=>simp [Instr.lookup,run_underlying hT,qbb hb,hc,he]
theorem kOk_ne {kk:KK} {k:AV} (h:kOk kk k = true):k ≠ .er:=by
 intro e; subst e
 unfold kOk at h
 split at h <;> first | (rename_i e; cases e; done) | cases h
theorem cpZ_ok {v:AV} {ok β:Bool} (h:v ≠ .er):cpZ v ok β = cpA v ok β:=by
 cases v <;> first | exact absurd rfl h | rfl
section
variable {C:Ctx} {ρ:Env} {h:H} {ty:TypeId} {θ:Th} {X:Cx} {hp:Hp} {T:Tb}
theorem look1 (hT:TbOk C.P T) {t K e:Nat} (hu:C.P.underlying t = some (.map K e)) {k:AV} {xo ko:Operand} {kk:KK} (hkk:kkT T K = some kk) (hk:RV θ k (ev ρ ko)) (hc:kOk kk k = true) {ms:Array MapEntry}
  (hX:(ev ρ xo = .map none∧ms = #[])∨∃ r clk,ev ρ xo = .map (some r)∧h[r]? = some (.map ms clk)) {es:List KV} (hes:KVs θ kk es ms.toList) (ok:Bool)
  (hn:(match mfnd k es with | some x=>cpZ x.v ok true | none=>cpZ (zeroA T e) ok false) ≠ .er):
  ∃ V,OpVal C (.lookup t xo ko ok) ty ρ h V∧RV θ (match mfnd k es with | some x=>cpZ x.v ok true | none=>cpZ (zeroA T e) ok false) V:=by
 have hkr:=KR.of hc hk
 have hkT:=keyT_of hT hkk
 have ck:∀ e w,(Instr.checkKey e 10000 K (ev ρ ko)).run C.P w = .ok () w:=fun e w=>hkT.ok e ⟨ev ρ ko,hkr.isKey⟩ w
 obtain ⟨o,hf,hrun⟩:=find_ok hT hkk hkr hes
 cases hf with
 | no a1 a2 a3 a4=>
  rw [a1] at hn ⊢
  simp only at hn ⊢
  have hz:zeroA T e ≠ .er:=by
   intro e1; rw [e1] at hn; exact hn rfl
  rw [cpZ_ok hz]
  obtain ⟨z,hzv,hr⟩:=zeroA_ok hT (θ:=θ) hz
  refine ⟨_,?_,cpA_ok (β:=false) (ok:=ok) (hr.rv1 fun l=>zeroA_nt)⟩
  intro w hw pos after g d
  subst hw
  have:=run_look hu ck (hrun w) hX (fun _=>hzv) ok
  simp only [Option.map_none,Option.getD_none,Option.isSome_none] at this
  simp [execOp,this]
 | @yes j m x a1 a2 a3 a4 a5 a6 a7=>
  rw [a5] at hn ⊢
  simp only at hn ⊢
  have hne:=a4.2.2.1.ne
  rw [cpZ_ok hne]
  refine ⟨_,?_,cpA_ok (β:=true) (ok:=ok) a4.2.2.1⟩
  intro w hw pos after g d
  subst hw
  have:=run_look (z:=.nilIface) hu ck (hrun w) hX (fun e=>by cases e) ok
  simp only [Option.map_some,Option.getD_some,Option.isSome_some] at this
  simp [execOp,this]
theorem lookQ_ok (hT : TbOk C.P T) (S : SR X θ hp h) {t : Nat} {x k : AV} {xo ko : Operand} {ok : Bool} (hx : RV θ x (ev ρ xo)) (hk : k ≠ .er → RV θ k (ev ρ ko)) (hn : lookQ T (tkT T t) x k ok hp ≠ .er) :
    ∃ V, OpVal C (.lookup t xo ko ok) ty ρ h V ∧ RV θ (lookQ T (tkT T t) x k ok hp) V := by
  cases htk : tkT T t with
  | mp K e =>
    rw [htk] at hn
    have hu := tk_mp hT htk
    cases x <;> first | exact absurd rfl hn | skip
    · rename_i r
      obtain ⟨bb, o0, tt, hr, e1⟩ := hx.ra (v := .m r) trivial
      cases hg : getH hp r with
      | m kk2 clk es =>
        have e2 : lookQ T (.mp K e) (.m r) k ok hp = lookF (zeroA T e) .u k (kkT T K) (some (kk2, es)) ok := by unfold lookQ; simp only [hg]
        rw [e2] at hn ⊢
        have := S.rows r _ hr
        rw [hg] at this
        obtain ⟨ms, g1, g2, g3⟩ := this
        unfold lookF at hn ⊢
        cases hkk : kkT T K with
        | none => rw [hkk] at hn; exact absurd rfl hn
        | some kk =>
          rw [hkk] at hn
          simp only at hn ⊢
          obtain ⟨c1, hn1⟩ := qa8   hn
          obtain ⟨c2, hn2⟩ := qa8   hn1
          rw [c1, c2]
          have := kEq_ok c2
          subst this
          exact look1 hT hu hkk (hk (kOk_ne c1)) c1 (.inr ⟨_, _, e1, g1⟩) g2 ok hn2
      | _ => have e2 : lookQ T (.mp K e) (.m r) k ok hp = .er := by unfold lookQ; simp only [hg]
             rw [e2] at hn; exact absurd rfl hn
    · have e1 := hx.ra (v := .mn) trivial
      have e2 : lookQ T (.mp K e) .mn k ok hp = lookF (zeroA T e) .u k (kkT T K) none ok := rfl
      rw [e2] at hn ⊢
      unfold lookF at hn ⊢
      cases hkk : kkT T K with
      | none => rw [hkk] at hn; exact absurd rfl hn
      | some kk =>
        rw [hkk] at hn
        simp only at hn ⊢
        obtain ⟨c1, hn⟩ := qa8   hn
        rw [c1]
        exact look1 hT hu hkk (hk (kOk_ne c1)) c1 (.inl ⟨e1, rfl⟩) (es := []) rfl ok hn
  | _ => rw [htk] at hn; exact absurd rfl hn
theorem eBn_ok {kk:KK} {b:Nat}:∀ {es:List KV} {ms:List MapEntry},KVs θ kk es ms→eBn b es ≠ .er→∃ m ∈ ms,m.born = b∧RV θ (eBn b es) (.tuple #[m.key,m.val])
 | [],_,_,hn=>absurd rfl hn
 | e :: es,_,⟨m,r,e1,h1,h2⟩,hn=>by
  subst e1
  have e0:eBn b (e :: es) = bif Nat.beq e.bn b then .t [e.k,e.v] else eBn b es:=rfl
  rw [e0] at hn ⊢
  cases c:Nat.beq e.bn b with
  | true=>
   refine ⟨m,List.mem_cons_self,h1.2.2.2.trans (ya c),?_⟩
   exact .inr ⟨_,[m.key,m.val],rfl,rfl,_,[m.val],rfl,h1.2.1,_,[],rfl,h1.2.2.1,rfl⟩
  | false=>
   rw [c] at hn
   obtain ⟨m',hm,h3⟩:=eBn_ok h2 hn
   exact ⟨m',List.mem_cons_of_mem _ hm,h3⟩
theorem entQ_ok (S:SR X θ hp h) {x:AV} {xo:Operand} (hx:RV θ x (ev ρ xo)) (hn:entQ x hp ≠ .er):∃ V,OpVal C (.entry xo) ty ρ h V∧RV θ (entQ x hp) V:=by
 unfold entQ at hn ⊢
 split at hn
 ·rename_i r
  split at hn
  ·rename_i m clk all todo b hg
   split at hn
   ·rename_i kk clk2 es hg2
    obtain ⟨c,hn1⟩:=qa8 hn
    obtain ⟨bb,o0,tt,hr,e1⟩:=hx.ra (v:=.p r 0) trivial
    have h1:=S.rows r _ hr
    rw [hg] at h1
    obtain ⟨mb,seen,g1,g2,g3,g4,bm,om,tm,g5,g6⟩:=h1
    have h2:=S.rows m _ g5
    rw [hg2] at h2
    obtain ⟨ms,f1,f2,f3,f4⟩:=h2
    simp only at f1 g1 g2
    have:=ya c
    subst this
    subst g6
    rw [c]
    obtain ⟨me,hm,hb,hv⟩:=eBn_ok f2 hn1
    refine ⟨_,?_,hv⟩
    obtain ⟨s0,hs0⟩:∃ s0:Array Nat,seen = s0.push me.born:=by
     have hl:=g4
     rw [List.getLast?_eq_some_iff] at hl
     obtain ⟨ys,hys⟩:=hl
     exact ⟨ys.toArray,by apply Array.ext'; simp [hys,hb]⟩
    subst hs0
    intro w hw pos after g d
    subst hw
    subst g2
    have:=run_entry_at (P:=C.P) w bb bm _ s0 ms _ me g1 f1 hm f4
    simp [execOp,e1,this]
   ·exact absurd rfl hn
  ·exact absurd rfl hn
 ·exact absurd rfl hn
end
section
variable {C:Ctx} {ρ:Env} {h:H} {θ:Th} {X:Cx} {hp:Hp} {T:Tb}
def EqR (C:Ctx) (ρ:Env) (h:H) (t:TypeId) (x y:Operand) (d:Bool):Prop:=
 ∀ ty T',OpVal C (.binOp .eql t x y T') ty ρ h (.bool d)∧OpVal C (.binOp .neq t x y T') ty ρ h (.bool (!d))
theorem eq_of {t:TypeId} {x y:Operand} {V V':Value} {d:Bool} (hx:ev ρ x = V) (hy:ev ρ y = V') (e1:binOp .eql t V V' = (do pure (.bool (← Op.equal t V V')))) (e2:binOp .neq t V V' = (do pure (.bool (!(← Op.equal t V V')))))
  (g1:eqGuard .eql t x y V V' = pure ()) (g2:eqGuard .neq t x y V V' = pure ()) (hq:∀ w,(Op.equal t V V').run C.P w = .ok d w):EqR C ρ h t x y d:=by
 intro ty T'
 constructor
 ·intro w hw pos after g d'
  have:=hq w
  simp only [execOp,hx,hy,e1,g1]
  simp [this]
 ·intro w hw pos after g d'
  have:=hq w
  simp only [execOp,hx,hy,e2,g2]
  simp [this]
theorem eq_agg {t:TypeId} {x y:Operand} {a b:Array Value} {d:Bool} (hx:ev ρ x = .agg a) (hy:ev ρ y = .agg b) (hg:C.P.eqGuardType C.P.depth t = false) (hq:∀ w,(Op.equal t (.agg a) (.agg b)).run C.P w = .ok d w):EqR C ρ h t x y d:=by
 intro ty T'
 have e1:binOp .eql t (.agg a) (.agg b) = (do pure (.bool (← Op.equal t (.agg a) (.agg b)))):=rfl
 have e2:binOp .neq t (.agg a) (.agg b) = (do pure (.bool (!(← Op.equal t (.agg a) (.agg b))))):=rfl
 have gg:∀ op,∃ msg:String,(op = .eql∨op = .neq)→eqGuard op t x y (.agg a) (.agg b) = (do
   if !(← program).eqGuardType (← program).depth t then return
   if ← Op.eqGuardIn Op.maxDepth t (.agg a) (.agg b) then unsupported (.noEntry msg)):=fun op=>⟨_,fun e=>by rcases e with rfl | rfl <;> rfl⟩
 obtain ⟨m1,g1⟩:=gg .eql
 obtain ⟨m2,g2⟩:=gg .neq
 constructor
 ·intro w hw pos after g d'
  have:=hq w
  simp only [execOp,hx,hy,e1,g1 (.inl rfl)]
  simp [this,hg]
 ·intro w hw pos after g d'
  have:=hq w
  simp only [execOp,hx,hy,e2,g2 (.inr rfl)]
  simp [this,hg]
theorem eq_int {t:TypeId} {x y:Operand} {k:IntKind} {a b:Int} {d:Bool} (hx:ev ρ x = .int k a) (hy:ev ρ y = .int k b) (hd:(a == b) = d):EqR C ρ h t x y d:=by
 intro ty T'
 subst hd
 exact ⟨eql_run.val hx hy,by have:=IntRun.val (C:=C) (ρ:=ρ) (h:=h) (ty:=ty) (T:=t) (T':=T') (neq_run (k:=k) (a:=a) (b:=b)) hx hy; exact this⟩
theorem ba_beq (a b:ByteArray):(a.toList == b.toList) = decide (a = b):=by
 rw [← beq_toListBytes,bytes_beq]
theorem eq_str {t:TypeId} {x y:Operand} {a b:ByteArray} {d:Bool} (hx:ev ρ x = .string a) (hy:ev ρ y = .string b) (hd:decide (a = b) = d):EqR C ρ h t x y d:=by
 intro ty T'
 subst hd
 constructor
 ·intro w hw pos after g d'
  simp [execOp,hx,hy,eqGuard,binOp,Op.stringOp,ba_beq]
 ·intro w hw pos after g d'
  simp [execOp,hx,hy,eqGuard,binOp,Op.stringOp,ba_beq]
theorem kd_eq {k:IntKind} {M:Nat} {Cn:Nat→AV} (K:Kd k M Cn) {n m:Nat} {x y:Operand} {t:TypeId} (hx:RA θ (Cn n) (ev ρ x)) (hy:RA θ (Cn m) (ev ρ y)):EqR C ρ h t x y (Nat.beq n m):=by
 obtain ⟨h1,e1⟩:=(K.ra _ _ _).1 hx
 obtain ⟨h2,e2⟩:=(K.ra _ _ _).1 hy
 refine eq_int e1 e2 ?_
 rw [← beq_dec,Bool.eq_iff_iff]
 simp only [beq_iff_eq,decide_eq_true_eq]
 refine ⟨fun e=>?_,fun e=>by rw [e]⟩
 have a1:=K.ww n
 have a2:=K.ww m
 rw [e] at a1
 have a3:((n:Nat):Int) % M = (m:Int) % M:=a1.symm.trans a2
 rw [Int.emod_eq_of_lt (by omega) (by omega),Int.emod_eq_of_lt (by omega) (by omega)] at a3
 omega
theorem eqN_ok {a b:AV} {x y:Operand} {t:TypeId} (hx:RV θ a (ev ρ x)) (hy:RV θ b (ev ρ y)) (hn:eqN a b ≠ .er):∃ d,eqN a b = .b d∧EqR C ρ h t x y d:=by
 cases a <;> first | exact absurd rfl hn | skip
 all_goals cases b <;> first | exact absurd rfl hn | skip
 ·exact ⟨_,rfl,kd_eq kd_i (hx.ra (v:=.i _) trivial) (hy.ra (v:=.i _) trivial)⟩
 ·exact ⟨_,rfl,kd_eq kd_w (hx.ra (v:=.w _) trivial) (hy.ra (v:=.w _) trivial)⟩
 ·exact ⟨_,rfl,kd_eq kd_y (hx.ra (v:=.y _) trivial) (hy.ra (v:=.y _) trivial)⟩
 ·exact ⟨_,rfl,kd_eq kd_h (hx.ra (v:=.h _) trivial) (hy.ra (v:=.h _) trivial)⟩
 ·rename_i n u m z
  obtain ⟨h1,e1⟩:=hx.ra (v:=.s n u) trivial
  obtain ⟨h2,e2⟩:=hy.ra (v:=.s m z) trivial
  refine ⟨_,rfl,eq_str e1 e2 ?_⟩
  rw [Bool.eq_iff_iff,decide_eq_true_eq,an_iff,qdx,qdx]
  exact ⟨fun e=>byS_inj h1 h2 e,fun ⟨e3,e4⟩=>by rw [e3,e4]⟩
theorem kkT_scl (hT:TbOk C.P T) {K:Nat} {kk:KK} (h:kkT T K = some kk) (ha:aggT T K = true):C.P.eqGuardType C.P.depth K = false∧kk ≠ .int∧kk ≠ .str:=by
 have h0:=h
 have hs:∀ s,kk = .key s→C.P.eqGuardType C.P.depth K = false:=fun s e=>(hT.stood K s (e ▸ h0)).2
 unfold kkT at h
 split at h
 ·split at h <;> first | (cases h; done) | (injection h with h; subst h; exact ⟨hs _ rfl,(fun e=>by cases e),(fun e=>by cases e)⟩)
 ·obtain ⟨⟨d,hd,hA⟩,_⟩:=hT.agg ha
  split at h
  ·rename_i e
   have:=kk1_1 hT e
   rw [this] at hd; injection hd with hd; subst hd
   rcases hA with ⟨_,e⟩ | ⟨_,_,e⟩ <;> cases e
  ·rename_i e; injection h with h; subst h
   exact ⟨hT.guard _ e,(fun e=>by cases e),(fun e=>by cases e)⟩
  ·rename_i e
   have:=kk1_3 hT e
   rw [this] at hd; injection hd with hd; subst hd
   rcases hA with ⟨_,e⟩ | ⟨_,_,e⟩ <;> cases e
  ·cases h
theorem KR.aggr {kk:KK} {k:AV} {V:Value} (h:KR kk k V) (n1:kk ≠ .int) (n2:kk ≠ .str):∃ A,V = .agg A:=by
 cases h <;> first | exact absurd rfl n1 | exact absurd rfl n2 | exact ⟨_,rfl⟩
theorem eq_key {P:Program} {K:TypeId} {kk:KK} (hk:KeyT P K (KeyOf kk)) (a b:KeyOf kk) {β:Bool} (e2:β = true ↔ a.1 = b.1) (w:World):(Op.equal K a.1 b.1).run P w = .ok β w:=by
 have:=hk.eq a b w
 have e3:decide (a = b) = β:=by
  rw [Bool.eq_iff_iff,decide_eq_true_eq,e2]
  exact ⟨fun e=>congrArg Subtype.val e,fun e=>Subtype.ext e⟩
 rw [e3] at this
 exact this
theorem eqT_ok (hT:TbOk C.P T) {t:Nat} {a b:AV} {x y:Operand} (hx:RV θ a (ev ρ x)) (hy:RV θ b (ev ρ y)) (hn:(eqT T t).f a b ≠ .er):∃ d,(eqT T t).f a b = .b d∧EqR C ρ h t x y d:=by
 unfold eqT at hn ⊢
 cases ca:aggT T t with
 | true=>
  rw [ca] at hn
  simp only [cond_true] at hn ⊢
  cases hk:kkT T t with
  | none=>rw [hk] at hn; exact absurd rfl hn
  | some kk=>
   rw [hk] at hn
   simp only at hn ⊢
   obtain ⟨c,hn1⟩:=qa8 hn
   obtain ⟨c1,c2⟩:=qaf c
   rw [c]
   have k1:=KR.of c1 hx
   have k2:=KR.of c2 hy
   obtain ⟨β,e1,e2⟩:=keyE_ok k1 k2
   obtain ⟨hg,n1,n2⟩:=kkT_scl hT hk ca
   refine ⟨β,e1,?_⟩
   have hq:∀ w,(Op.equal t (ev ρ x) (ev ρ y)).run C.P w = .ok β w:=fun w=>eq_key (keyT_of hT hk) ⟨ev ρ x,k1.isKey⟩ ⟨ev ρ y,k2.isKey⟩ e2 w
   obtain ⟨A,hA⟩:=k1.aggr n1 n2
   obtain ⟨B,hB⟩:=k2.aggr n1 n2
   rw [hA,hB] at hq
   exact eq_agg hA hB hg hq
 | false=>
  rw [ca] at hn
  simp only [cond_false] at hn ⊢
  cases hk:tkT T t with
  | it k=>rw [hk] at hn; exact eqN_ok hx hy hn
  | str=>rw [hk] at hn; exact eqN_ok hx hy hn
  | bo=>
   rw [hk] at hn
   have hu:=tk_bo hT hk
   cases a <;> first | exact absurd rfl hn | skip
   cases b <;> first | exact absurd rfl hn | skip
   rename_i u v
   have e1:=hx.ra (v:=.b u) trivial
   have e2:=hy.ra (v:=.b v) trivial
   refine ⟨_,rfl,?_⟩
   refine eq_of e1 e2 rfl rfl rfl rfl fun w=>?_
   unfold Op.equal Op.maxDepth Op.equalIn
   simp only [Sem.run_bind,run_underlying hu,Result.andThen_ok]
   cases u <;> cases v <;> rfl
  | pt e=>
   rw [hk] at hn
   have hu:=tk_pt hT hk
   have go:∀ p q d,(p = none∨q = none)→d = (p.isNone && q.isNone)→ev ρ x = .pointer p→ev ρ y = .pointer q→EqR C ρ h t x y d:=fun p q d h1 h2 e1 e2=>by
    subst h2
    refine eq_of e1 e2 (binOp_eql_ptr _ _ _) (binOp_neq_ptr _ _ _) rfl rfl fun w=>?_
    unfold Op.equal Op.maxDepth Op.equalIn
    simp only [Sem.run_bind,run_underlying hu,Result.andThen_ok]
    cases p <;> cases q <;> first | rfl | (rcases h1 with h1 | h1 <;> cases h1)
   cases a <;> first | exact absurd rfl hn | skip
   all_goals cases b <;> first | exact absurd rfl hn | skip
   ·obtain ⟨bb,o0,tt,hr,e1⟩:=hx.ra (v:=.p _ _) trivial
    exact ⟨false,rfl,go _ _ _ (.inr rfl) rfl e1 (hy.ra (v:=.pn) trivial)⟩
   ·obtain ⟨bb,o0,tt,hr,e1⟩:=hy.ra (v:=.p _ _) trivial
    exact ⟨false,rfl,go _ _ _ (.inl rfl) rfl (hx.ra (v:=.pn) trivial) e1⟩
   ·exact ⟨true,rfl,go _ _ _ (.inl rfl) rfl (hx.ra (v:=.pn) trivial) (hy.ra (v:=.pn) trivial)⟩
  | sl e sz=>
   rw [hk] at hn
   obtain ⟨hu,_⟩:=tk_sl hT hk
   have go:∀ p n c q m k d,(p = none∨q = none)→d = (p.isNone && q.isNone)→ev ρ x = .slice p n c→ev ρ y = .slice q m k→EqR C ρ h t x y d:=fun p n c q m k d h1 h2 e1 e2=>by
    subst h2
    refine eq_of e1 e2 rfl rfl rfl rfl fun w=>?_
    unfold Op.equal Op.maxDepth Op.equalIn
    simp only [Sem.run_bind,run_underlying hu,Result.andThen_ok]
    cases p <;> cases q <;> first | rfl | (rcases h1 with h1 | h1 <;> cases h1)
   have hsl:∀ {c:AV} {V:Value},RV θ c V→(∃ r o n z,c = .sl r o n z)∨(∃ r o n k z,c = .sr r o n k z)∨(∃ r o z,c = .se r o z)∨c = .sz→∃ p n k,V = .slice (some p) n k:=by
    intro c V hc hs
    rcases hs with ⟨r,o,n,z,rfl⟩ | ⟨r,o,n,k,z,rfl⟩ | ⟨r,o,z,rfl⟩ | rfl
    ·obtain ⟨bb,o0,tt,c,hr,hz,hc,hnc,e⟩:=hc.ra (v:=.sl r o n z) trivial
     exact ⟨_,_,_,e⟩
    ·obtain ⟨bb,o0,tt,hr,hz,hnc,e⟩:=hc.ra (v:=.sr r o n k z) trivial
     exact ⟨_,_,_,e⟩
    ·obtain ⟨bb,o0,tt,c,hr,hz,hc,hv⟩:=hc.ra (v:=.se r o z) trivial
     rcases hv with ⟨rfl,p,hp',e1⟩ | ⟨hc0,e1⟩
     ·exact ⟨_,_,_,e1⟩
     ·exact ⟨_,_,_,e1⟩
    ·obtain ⟨p,hp',e1⟩:=hc.ra (v:=.sz) trivial
     exact ⟨_,_,_,e1⟩
   by_cases ha:a = .sn
   ·subst ha
    have e1:=hx.ra (v:=.sn) trivial
    cases b <;> first | exact absurd rfl hn | skip
    ·obtain ⟨p,n,k,e2⟩:=hsl hy (.inl ⟨_,_,_,_,rfl⟩)
     exact ⟨false,rfl,go _ _ _ _ _ _ _ (.inl rfl) rfl e1 e2⟩
    ·obtain ⟨p,n,k,e2⟩:=hsl hy (.inr (.inl ⟨_,_,_,_,_,rfl⟩))
     exact ⟨false,rfl,go _ _ _ _ _ _ _ (.inl rfl) rfl e1 e2⟩
    ·obtain ⟨p,n,k,e2⟩:=hsl hy (.inr (.inr (.inl ⟨_,_,_,rfl⟩)))
     exact ⟨false,rfl,go _ _ _ _ _ _ _ (.inl rfl) rfl e1 e2⟩
    ·obtain ⟨p,n,k,e2⟩:=hsl hy (.inr (.inr (.inr rfl)))
     exact ⟨false,rfl,go _ _ _ _ _ _ _ (.inl rfl) rfl e1 e2⟩
    ·exact ⟨true,rfl,go _ _ _ _ _ _ _ (.inl rfl) rfl e1 (hy.ra (v:=.sn) trivial)⟩
   ·have fin:eqSl a b = .b false→b = .sn→(∃ p n k,ev ρ x = .slice (some p) n k)→∃ d,eqSl a b = .b d∧EqR C ρ h t x y d:=by
     intro e0 e1 ⟨p,n,k,e2⟩
     subst e1
     exact ⟨false,e0,go _ _ _ _ _ _ _ (.inr rfl) rfl e2 (hy.ra (v:=.sn) trivial)⟩
    have hb:∀ c:AV,isSn c ≠ .er→c = .sn:=by intro c hc; cases c <;> first | rfl | exact absurd rfl hc
    cases a <;> first | exact absurd rfl hn | exact absurd rfl ha | skip
    all_goals (have hb1:=hb b hn; subst hb1)
    ·exact fin rfl rfl (hsl hx (.inl ⟨_,_,_,_,rfl⟩))
    ·exact fin rfl rfl (hsl hx (.inr (.inl ⟨_,_,_,_,_,rfl⟩)))
    ·exact fin rfl rfl (hsl hx (.inr (.inr (.inl ⟨_,_,_,rfl⟩))))
    ·exact fin rfl rfl (hsl hx (.inr (.inr (.inr rfl))))
  | mp k e=>
   rw [hk] at hn
   have hu:=tk_mp hT hk
   have go:∀ p q d,(p = none∨q = none)→d = (p.isNone && q.isNone)→ev ρ x = .map p→ev ρ y = .map q→EqR C ρ h t x y d:=fun p q d h1 h2 e1 e2=>by
    subst h2
    refine eq_of e1 e2 rfl rfl rfl rfl fun w=>?_
    unfold Op.equal Op.maxDepth Op.equalIn
    simp only [Sem.run_bind,run_underlying hu,Result.andThen_ok]
    cases p <;> cases q <;> first | rfl | (rcases h1 with h1 | h1 <;> cases h1)
   cases a <;> first | exact absurd rfl hn | skip
   all_goals cases b <;> first | exact absurd rfl hn | skip
   ·obtain ⟨bb,o0,tt,hr,e1⟩:=hx.ra (v:=.m _) trivial
    exact ⟨false,rfl,go _ _ _ (.inr rfl) rfl e1 (hy.ra (v:=.mn) trivial)⟩
   ·obtain ⟨bb,o0,tt,hr,e1⟩:=hy.ra (v:=.m _) trivial
    exact ⟨false,rfl,go _ _ _ (.inl rfl) rfl (hx.ra (v:=.mn) trivial) e1⟩
   ·exact ⟨true,rfl,go _ _ _ (.inl rfl) rfl (hx.ra (v:=.mn) trivial) (hy.ra (v:=.mn) trivial)⟩
  | fn=>
   rw [hk] at hn
   obtain ⟨a1,a2,a3,hu⟩:=tk_fn hT hk
   have hf:∀ {f:Nat} {fs cs:List AV} {V:Value},RV θ (.f f fs cs) V→∃ g a b,V = .func g a b:=by
    intro f fs cs V hv
    rcases hv with (hv | ⟨_,_,e,_⟩ | ⟨e,_⟩) | ⟨_,_,e,_⟩
    ·rcases hv with hv | ⟨_,_,_,_,_,e,e2,_⟩
     ·exact hv.elim
     ·exact ⟨_,_,_,e2⟩
    ·cases e
    ·cases e
    ·cases e
   have one:∀ g A B d,d = false→((ev ρ x = .nilFunc∧ev ρ y = .func g A B)∨(ev ρ x = .func g A B∧ev ρ y = .nilFunc))→EqR C ρ h t x y d:=fun g A B d hd hh=>by
    subst hd
    rcases hh with ⟨e1,e2⟩ | ⟨e1,e2⟩
    ·refine eq_of e1 e2 rfl rfl rfl rfl fun w=>?_
     unfold Op.equal Op.maxDepth Op.equalIn
     simp only [Sem.run_bind,run_underlying hu,Result.andThen_ok]
     rfl
    ·refine eq_of e1 e2 rfl rfl rfl rfl fun w=>?_
     unfold Op.equal Op.maxDepth Op.equalIn
     simp only [Sem.run_bind,run_underlying hu,Result.andThen_ok]
     rfl
   cases a <;> first | exact absurd rfl hn | skip
   all_goals cases b <;> first | exact absurd rfl hn | skip
   ·obtain ⟨g,A,B,e1⟩:=hf hx
    exact ⟨false,rfl,one _ _ _ _ rfl (.inr ⟨e1,hy.ra (v:=.fn) trivial⟩)⟩
   ·obtain ⟨g,A,B,e1⟩:=hf hy
    exact ⟨false,rfl,one _ _ _ _ rfl (.inl ⟨hx.ra (v:=.fn) trivial,e1⟩)⟩
   ·refine ⟨true,rfl,eq_of (hx.ra (v:=.fn) trivial) (hy.ra (v:=.fn) trivial) rfl rfl rfl rfl fun w=>?_⟩
    unfold Op.equal Op.maxDepth Op.equalIn
    simp only [Sem.run_bind,run_underlying hu,Result.andThen_ok]
    rfl
  | _=>rw [hk] at hn; exact absurd rfl hn
theorem binT_ok (hT:TbOk C.P T) {op:BinOp} {t T' ty:TypeId} {a b:AV} {x y:Operand} (hx:RV θ a (ev ρ x)) (hy:RV θ b (ev ρ y)) (hn:(binT T op t).f a b ≠ .er):
  ∃ V,OpVal C (.binOp op t x y T') ty ρ h V∧RV θ ((binT T op t).f a b) V:=by
 cases op with
 | eql=>
  obtain ⟨d,e,hd⟩:=eqT_ok (h:=h) hT hx hy hn
  have e0:(binT T .eql t).f a b = (eqT T t).f a b:=rfl
  rw [e0,e]
  exact ⟨_,(hd ty T').1,rb⟩
 | neq=>
  have e0:(binT T .neq t).f a b = notA ((eqT T t).f a b):=rfl
  rw [e0] at hn ⊢
  have hn1:(eqT T t).f a b ≠ .er:=by intro e; rw [e] at hn; exact hn rfl
  obtain ⟨d,e,hd⟩:=eqT_ok (h:=h) hT hx hy hn1
  rw [e]
  refine ⟨_,(hd ty T').2,?_⟩
  cases d <;> exact rb
 | _=>exact binQ_ok hx hy hn
end
section
variable {T:Tb} {hp:Hp}
theorem bv_same (c:Bool):bv c .er .er = .er:=by cases c <;> rfl
theorem ldQ_er {t:Nat}:(ldQ T t).f .er hp = .er:=by
 unfold ldQ; cases aggT T t <;> cases sclT T t <;> rfl
theorem idxA_er1 {S:TK} {b:AV}:(idxA S).f .er b = .er:=by
 cases S <;> first | rfl | skip
 rename_i n e sz
 show (bif Nat.ble 1 sz then (⟨fun x y=>idxAr n sz x y⟩:Bf) else erB).f .er b = .er
 cases Nat.ble 1 sz <;> rfl
theorem idxA_er2 {S:TK} {a:AV}:(idxA S).f a .er = .er:=by
 cases S <;> first | rfl | skip
 ·cases a <;> first | rfl | exact bv_same _
 ·rename_i n e sz
  show (bif Nat.ble 1 sz then (⟨fun x y=>idxAr n sz x y⟩:Bf) else erB).f a .er = .er
  cases Nat.ble 1 sz
  ·rfl
  ·cases a <;> rfl
theorem idxV_er1 {S:TK} {b:AV}:(idxV T S).f .er b = .er:=by
 cases S <;> first | rfl | skip
 rename_i n e sz
 show (bif aggT T e then (⟨fun x y=>idxVa n sz x y⟩:Bf) else bif an (sclT T e) (Nat.beq sz 1) then ⟨fun x y=>idxV1 n x y⟩ else erB).f .er b = .er
 cases aggT T e <;> cases an (sclT T e) (Nat.beq sz 1) <;> rfl
theorem idxV_er2 {S:TK} {a:AV}:(idxV T S).f a .er = .er:=by
 cases S <;> first | rfl | skip
 ·rename_i n e sz
  show (bif aggT T e then (⟨fun x y=>idxVa n sz x y⟩:Bf) else bif an (sclT T e) (Nat.beq sz 1) then ⟨fun x y=>idxV1 n x y⟩ else erB).f a .er = .er
  cases aggT T e <;> cases an (sclT T e) (Nat.beq sz 1) <;> cases a <;> rfl
 ·cases a <;> rfl
theorem fldQ_er {t o:Nat}:(fldQ T t o).f .er hp = .er:=by
 unfold fldQ; cases aggT T t <;> cases sclT T t <;> rfl
theorem slQ_er {S:TK} {lo hi mx:Option AV}:(slQ S).f .er lo hi mx hp = .er:=by
 cases S <;> first | rfl | skip
 ·rename_i e sz
  show (bif Nat.ble 1 sz then (⟨fun x lo hi mx h=>slSl sz x lo hi mx h⟩:Sq) else erS).f .er lo hi mx hp = .er
  cases Nat.ble 1 sz <;> rfl
 ·rename_i n e sz
  show (bif Nat.ble 1 sz then (⟨fun x lo hi mx _=>slArr n sz x lo hi mx⟩:Sq) else erS).f .er lo hi mx hp = .er
  cases Nat.ble 1 sz <;> rfl
theorem cvQ_er {S D:TK}:(cvQ T S D).f .er hp = .er:=by
 cases D <;> first | rfl | skip
 ·cases S <;> first | rfl | skip
  rename_i e sz
  show (bif u8T T e then (⟨cvS⟩:Lf) else ⟨fun _ _=>.er⟩).f .er hp = .er
  cases u8T T e <;> rfl
 ·rename_i k; cases k <;> rfl
theorem lenT_er {S:TK}:(lenT S).f .er hp = .er:=by cases S <;> rfl
theorem binQ_er1 {op:BinOp} {b:AV}:(binQ op).f .er b = .er:=by
 cases op <;> first | rfl | skip
 ·show cnt b (fun _=>.er) = .er
  cases b <;> first | rfl | exact bv_same _
 ·show cnt b (fun _=>.er) = .er
  cases b <;> first | rfl | exact bv_same _
theorem binQ_er2 {op:BinOp} {a:AV}:(binQ op).f a .er = .er:=by
 cases op <;> first | rfl | (cases a <;> rfl)
theorem eqT_er1 {t:Nat} {b:AV}:(eqT T t).f .er b = .er:=by
 unfold eqT
 cases aggT T t with
 | true=>
  cases hk:kkT T t with
  | none=>rfl
  | some kk=>
   show bv (an (kOk kk .er) (kOk kk b)) (keyE .er b) .er = .er
   cases c:kOk kk .er with
   | true=>exact absurd rfl (kOk_ne c)
   | false=>rfl
 | false=>cases tkT T t <;> rfl
theorem eqT_er2 {t:Nat} {a:AV}:(eqT T t).f a .er = .er:=by
 unfold eqT
 cases aggT T t with
 | true=>
  cases hk:kkT T t with
  | none=>rfl
  | some kk=>
   show bv (an (kOk kk a) (kOk kk .er)) (keyE a .er) .er = .er
   cases c:kOk kk .er with
   | true=>exact absurd rfl (kOk_ne c)
   | false=>rw [an_eq,Bool.and_false]; rfl
 | false=>cases tkT T t <;> cases a <;> rfl
theorem binT_bin {op:BinOp} {t:Nat} (h1:op ≠ .eql) (h2:op ≠ .neq):binT T op t = binQ op:=by cases op <;> first | rfl | exact absurd rfl h1 | exact absurd rfl h2
theorem binT_er1 {op:BinOp} {t:Nat} {b:AV}:(binT T op t).f .er b = .er:=by
 by_cases h1:op = .eql
 ·subst h1; exact eqT_er1
 by_cases h2:op ≠ .neq
 ·rw [binT_bin h1 h2]; exact binQ_er1
 have h3:op = .neq:=Decidable.not_not.1 h2
 subst h3
 show notA ((eqT T t).f .er b) = .er
 rw [eqT_er1]; rfl
theorem binT_er2 {op:BinOp} {t:Nat} {a:AV}:(binT T op t).f a .er = .er:=by
 by_cases h1:op = .eql
 ·subst h1; exact eqT_er2
 by_cases h2:op ≠ .neq
 ·rw [binT_bin h1 h2]; exact binQ_er2
 have h3:op = .neq:=Decidable.not_not.1 h2
 subst h3
 show notA ((eqT T t).f a .er) = .er
 rw [eqT_er2]; rfl
theorem unQ_er {op:UnOp}:unQ op .er = .er:=by cases op <;> rfl
theorem lookQ_er {S:TK} {k:AV} {ok:Bool}:lookQ T S .er k ok hp = .er:=by cases S <;> rfl
theorem minQ_er2 {a:AV}:minQ a .er = .er:=by cases a <;> rfl
theorem maxQ_er2 {a:AV}:maxQ a .er = .er:=by cases a <;> rfl
theorem list1 {α:Type} {xs:Array α} {x:α} (h:xs.toList = [x]):xs = #[x]:=by apply Array.ext'; rw [h]
theorem list2 {α:Type} {xs:Array α} {x y:α} (h:xs.toList = [x,y]):xs = #[x,y]:=by apply Array.ext'; rw [h]
end
section
variable {C:Ctx} {ρ:Env} {h:H} {ty:TypeId} {θ:Th} {X:Cx} {hp:Hp} {T:Tb}
theorem mh_ok {m h:Option Operand} (hh:∀ v,m = some v→h = none→False):m = none∨h ≠ none:=by
 cases m with
 | none=>exact .inl rfl
 | some v=>exact .inr fun e=>hh v rfl e
theorem v_mv {x:Operand} {e:E} (he:RE θ e ρ) {o:Op} (ho:o = .move x∨o = .assign x) (hn:(gO x).f e ≠ .er):∃ V,OpVal C o ty ρ h V∧RV θ ((gO x).f e) V:=by
 rcases ho with rfl | rfl
 ·exact ⟨_,qu rfl,qa1 he hn⟩
 ·exact ⟨_,qad rfl,qa1 he hn⟩
theorem cQ_ok (hT:TbOk C.P T) (S:SR X θ hp h) {e:E} (he:RE θ e ρ) {o:Op} {q:Qf} (hq:cQ T o = some q) (hn:q.f e hp ≠ .er):∃ V,OpVal C o ty ρ h V∧RV θ (q.f e hp) V:=by
 have hx:∀ {x:Operand} {f:AV→AV},f ((gO x).f e) ≠ .er→f .er = .er→RV θ ((gO x).f e) (ev ρ x):=fun {x f} h1 h2=>qa1 he fun e1=>h1 (by rw [e1,h2])
 unfold cQ at hq
 split at hq <;> first | (cases hq; done) | skip
 ·injection hq with hq; subst hq; exact v_mv he (.inl rfl) hn
 ·injection hq with hq; subst hq; exact v_mv he (.inr rfl) hn
 ·injection hq with hq; subst hq
  rename_i c a b
  exact pickQ_ok (hx (f:=fun y=>pickQ y _ _) hn rfl) (fun h=>qa1 he h) (fun h=>qa1 he h) hn
 ·injection hq with hq; subst hq; exact bldQ_ok hT he hn
 ·injection hq with hq; subst hq; exact ldQ_ok hT S (hx (f:=fun y=>(ldQ T _).f y hp) hn ldQ_er) hn
 ·injection hq with hq; subst hq; exact nilQ_ok (hx (f:=nilQ) hn rfl) hn
 ·injection hq with hq; subst hq; exact binT_ok hT (hx (f:=fun y=>(binT T _ _).f y _) hn binT_er1) (hx (f:=fun y=>(binT T _ _).f _ y) hn binT_er2) hn
 ·injection hq with hq; subst hq; exact unQ_ok (hx (f:=unQ _) hn unQ_er) hn
 ·rename_i s d x
  split at hq
  ·cases hq
  ·injection hq with hq; subst hq
   cases c:isOt (tkT T s) with
   | true=>rw [c] at hn; exact absurd rfl hn
   | false=>
    rw [c] at hn
    simp only [cond_false] at hn ⊢
    exact cvQ_ok hT S c (hx (f:=fun y=>(cvQ T _ _).f y hp) hn cvQ_er) hn
 ·split at hq
  ·injection hq with hq; subst hq; exact mkF_ok he hn
  ·injection hq with hq; subst hq; exact absurd rfl hn
 ·split at hq
  ·injection hq with hq; subst hq; exact absurd rfl hn
  ·rename_i hmh
   injection hq with hq; subst hq
   exact slQ_ok hT S he (mh_ok hmh) (hx (f:=fun y=>(slQ _).f y _ _ _ hp) hn slQ_er) hn
 ·split at hq
  ·rename_i hf
   injection hq with hq; subst hq; exact adr_ok hT hf (hx (f:=fun y=>adr y _) hn rfl) hn
  ·injection hq with hq; subst hq; exact absurd rfl hn
 ·split at hq
  ·rename_i hf
   injection hq with hq; subst hq; exact fldQ_ok hT hf (hx (f:=fun y=>(fldQ T _ _).f y hp) hn fldQ_er) hn
  ·injection hq with hq; subst hq; exact absurd rfl hn
 ·injection hq with hq; subst hq; exact idxA_ok hT (hx (f:=fun y=>(idxA _).f y _) hn idxA_er1) (hx (f:=fun y=>(idxA _).f _ y) hn idxA_er2) hn
 ·injection hq with hq; subst hq; exact idxV_ok hT (hx (f:=fun y=>(idxV T _).f y _) hn idxV_er1) (hx (f:=fun y=>(idxV T _).f _ y) hn idxV_er2) hn
 ·injection hq with hq; subst hq; exact lookQ_ok hT S (hx (f:=fun y=>lookQ T _ y _ _ hp) hn lookQ_er) (fun h=>qa1 he h) hn
 ·injection hq with hq; subst hq; exact entQ_ok S (hx (f:=fun y=>entQ y hp) hn rfl) hn
 ·injection hq with hq; subst hq; exact extQ_ok (hx (f:=fun y=>extQ y _) hn rfl) hn
 ·split at hq
  ·rename_i hxs hts
   injection hq with hq; subst hq
   rw [list1 hxs,list1 hts]
   exact lenT_ok hT S (hx (f:=fun y=>(lenT _).f y hp) hn lenT_er) hn
  ·injection hq with hq; subst hq; exact absurd rfl hn
 ·split at hq
  ·rename_i hxs
   injection hq with hq; subst hq
   rw [list2 hxs]
   exact minQ_ok (hx (f:=fun y=>minQ y _) hn rfl) (hx (f:=fun y=>minQ _ y) hn minQ_er2) hn
  ·injection hq with hq; subst hq; exact absurd rfl hn
 ·split at hq
  ·rename_i hxs
   injection hq with hq; subst hq
   rw [list2 hxs]
   exact maxQ_ok (hx (f:=fun y=>maxQ y _) hn rfl) (hx (f:=fun y=>maxQ _ y) hn maxQ_er2) hn
  ·injection hq with hq; subst hq; exact absurd rfl hn
end
def Kt (X:Cx) (θ:Th) (hp:Hp) (q:K1) (R:Value→H→Prop):Prop:=
 ∀ θ' hp' h' a w,SR X θ' hp' h'→Ext θ θ' (tor hp.nx)→tor hp.nx≤tor hp'.nx→RV θ' a w→X.G (q a hp')→R w h'
section
variable {C:Ctx} {ρ:Env} {h:H} {ty:TypeId} {Q:Exit→Act→World→Prop} {J:Env→H→Prop} {dst:Option Tmp} {X:Cx} {θ:Th} {hp:Hp} {T:Tb} {q:K1} {o:Op}
theorem OpE.skipD (hd:okd C.n dst = true) (h':H)
  (hr:∀ w,w.heap = h→∀ (pos:String) (after:Array Edge) (g:Option (Nat×Bool)),∃ w',(execOp (ev ρ) ⟨dst,o,ty,pos,after,g⟩).run C.P w = .ok .skip w'∧w'.heap = h'∧w'.tape = w.tape∧w'.os = w.os∧w'.output = w.output)
  (hj:J (upo ρ dst undef) h'):OpE C Q o ty dst J ρ h:=by
 intro a w s pos after g
 obtain ⟨w',hr,hh,ht,ho,hu⟩:=hr w s.heap pos after g
 unfold Oper.wp
 rw [s.evals,hr]
 have s1:=(s.put hd undef).world ht ho hu
 rw [hh] at s1
 exact ⟨_,_,s1,hj⟩
theorem splice_take {arr:Array Value} {o0 L:Nat} {vs:List Value} (hl:vs.length = L) (hb:o0 + L≤arr.size):(splice arr o0 vs).size = arr.size∧((splice arr o0 vs).toList.drop o0).take L = vs:=by
 subst hl
 have h1:(arr.toList.take o0).length = o0:=by simp; omega
 constructor
 ·simp [splice]; omega
 ·show ((arr.toList.take o0 ++ vs ++ arr.toList.drop (o0 + vs.length)).drop o0).take vs.length = vs
  rw [List.append_assoc,List.drop_append,h1,Nat.sub_self,List.drop_zero,List.drop_of_length_le (by omega),List.nil_append,List.take_append,List.take_length,Nat.sub_self,List.take_zero,List.append_nil]
theorem rowC_w (S:SR X θ hp h) {r:Rid} {b o0 t:Nat} (hr:θ r = some (b,o0,t)) {L:Nat} {cs:CL AV} (hg:getH hp r = .c L cs):WAt h ⟨b,o0,none⟩ L:=by
 obtain ⟨arr,E,fr,vs,h1,h2,h3,h4,h5,h6,h7⟩:=rowC_ok S hr hg
 exact ⟨rfl,arr,E,fr,h1,by show o0 + L≤_; omega,fun i hi ⟨k1,k2⟩=>by
  have k1:fr.1≤o0 + i:=k1
  have k2:o0 + i < fr.2:=k2
  rcases h4 with h4 | h4 <;> omega⟩
theorem rowC_put (S:SR X θ hp h) {r:Rid} {b o0 t:Nat} (hr:θ r = some (b,o0,t)) {L:Nat} {cs cs':CL AV} (hg:getH hp r = .c L cs) (hK:X.K r = none) {vs':List Value} (hc:RC θ cs' vs') (hl:vs'.length = L):
  SR X θ ⟨uR hp.rows r (.c L cs'),hp.nx,hp.ro⟩ (putC h ⟨b,o0,none⟩ vs'):=by
 obtain ⟨arr,E,fr,vs,h1,h2,h3,h4,h5,h6,h7⟩:=rowC_ok S hr hg
 have e:=putC_at (h:=h) (p:=⟨b,o0,none⟩) h1 vs'
 obtain ⟨s1,s2⟩:=splice_take (arr:=arr) (o0:=o0) hl (by omega)
 refine S.upd hr (by rw [hg]; trivial) hK (by rw [e]; simp) (fun b' hb=>?_) ?_
 ·rw [e]; rw [Array.getElem?_setIfInBounds_ne (Ne.symm hb)]
 ·refine ⟨splice arr o0 vs',E,fr,vs',?_,by rw [s1]; exact h2,h3,by rw [s1]; exact h4,hc,hl,s2⟩
  rw [e]
  show (h.setIfInBounds b _)[b]? = _
  have hb:b < h.size:=by rw [Array.getElem?_eq_some_iff] at h1; exact h1.1
  simp [hb]
theorem st_run (S:SR X θ hp h) {r:Rid} {b o0 t:Nat} (hr:θ r = some (b,o0,t)) {L:Nat} {cs:CL AV} (hg:getH hp r = .c L cs) {vs:List Value} (hat:AtH h ⟨b,o0,none⟩ vs) (hvl:vs.length = L) {o:Nat} {x y:Operand} {T':TypeId} {nv:List Value}
  (hx:ev ρ x = .pointer (some ⟨b,o0 + o,none⟩)) (hv:(ev ρ y).cells = nv.toArray) (hT:SizeOf C.P T' nv.length) (h1:nv.all (·.oneCell') = true) (hl:o + nv.length≤L) (hd:okd C.n dst = true)
  (hj:J (upo ρ dst undef) (putC h ⟨b,o0,none⟩ (vs.take o ++ nv ++ vs.drop (o + nv.length)))):OpE C Q (.store T' x y) ty dst J ρ h:=by
 have hw:=rowC_w S hr hg
 refine OpE.skipD hd (putC h ⟨b,o0,none⟩ (vs.take o ++ nv ++ vs.drop (o + nv.length))) (fun w hw' pos after g=>⟨{ w with heap:=putC h ⟨b,o0,none⟩ (vs.take o ++ nv ++ vs.drop (o + nv.length)) },?_,rfl,rfl,rfl,rfl⟩) hj
 subst hw'
 have ea:(⟨b,o0,none⟩:Addr).add o = ⟨b,o0 + o,none⟩:=qb8 b o0 o
 have hs:((⟨b,o0,none⟩:Addr).add o).spot = none:=by rw [ea]
 have hst:=qex C.P ((⟨b,o0,none⟩:Addr).add o) hs nv 0 w (by rw [show ((⟨b,o0,none⟩:Addr).add o).add 0 = (⟨b,o0,none⟩:Addr).add o from rfl]; rw [← hvl] at hw; exact hw.sub o _ (by omega)) h1
 rw [show ((⟨b,o0,none⟩:Addr).add o).add 0 = (⟨b,o0,none⟩:Addr).add o from rfl,putC_field o hat (by omega),ea] at hst
 simp [execOp,hx,Instr.storeAt,Instr.sureAddr,storeVar,hv,Sh.run_sizeOf hT,hst]
theorem rv_p {r:Rid} {b o0 t o:Nat} (h:θ r = some (b,o0,t)):RV θ (.p r o) (.pointer (some ⟨b,o0 + o,none⟩)):=.inl (.inl (.inl ⟨b,o0,t,h,rfl⟩))
theorem rv_m {r:Rid} {b o0 t:Nat} (h:θ r = some (b,o0,t)):RV θ (.m r) (.map (some b)):=.inl (.inl (.inl ⟨b,o0,t,h,rfl⟩))
theorem rv_sl {r:Rid} {b o0 t o n z c:Nat} (h:θ r = some (b,o0,t)) (hz:0 < z) (hc:o + c * z = t) (hn:n≤c):RV θ (.sl r o n z) (.slice (some ⟨b,o0 + o,none⟩) n c):=.inl (.inl (.inl ⟨b,o0,t,c,h,hz,hc,hn,rfl⟩))
theorem st1_atm {G:Ans→Prop} (hG:Gd G):∀ {l:CL AV} {o:Nat} {v:AV} {k:CL AV→Ans},G (st1 l o v k)→Atm v∧v ≠ .er
 | .nil,_,_,_,g=>(hG.er _ g).elim
 | .cons w x tl,o,v,k,g=>by
  have g':G (bz (Nat.ble (Nat.add o 1) w) (st2 x v w o tl k) (st1 tl (Nat.sub o w) v fun tl=>k (.cons w x tl))):=g
  cases c:Nat.ble (Nat.add o 1) w with
  | false=>rw [c] at g'; exact st1_atm hG (l:=tl) g'
  | true=>
   rw [c] at g'
   have g2:G (st2 x v w o tl k):=g'
   cases x <;> (cases v <;> first | exact (hG.er _ g2).elim | exact ⟨trivial,by intro e; cases e⟩)
theorem cSt_ok (hX:CxOk X) (hT:TbOk C.P T) (S:SR X θ hp h) {e:E} (he:RE θ e ρ) {cl:CallT} {t:Nat} {x y:Operand} (hd:okd C.n dst = true) (g:X.G ((cSt T t x y).f cl e hp q)) (hj:Kt X θ hp q fun w h'=>J (upo ρ dst w) h'):
  OpE C Q (.store t x y) ty dst J ρ h:=by
 unfold cSt at g
 cases ca:aggT T t with
 | true=>
  rw [ca] at g
  have g:X.G (stA (szT T t) ((gO x).f e) ((gO y).f e) hp q):=g
  cases hx:(gO x).f e <;> rw [hx] at g <;> first | exact (hX.gd.er _ g).elim | skip
  rename_i r o
  have hxr:=qa1 he (x:=x) (by rw [hx]; intro e; cases e)
  rw [hx] at hxr
  obtain ⟨b,o0,tt,hr,e1⟩:=hxr.ra (v:=.p r o) trivial
  have g1:X.G (match (motive:=AV→Ans) (gO y).f e with | .a l=>bz (Nat.beq (clen l) (szT T t)) (wrK hp r o (szT T t) l fun h=>q .u h) (.er 23) | _=>.er 23):=by
   revert g; cases (gO y).f e <;> exact id
  cases hy:(gO y).f e <;> rw [hy] at g1 <;> first | exact (hX.gd.er _ g1).elim | skip
  rename_i l
  have hyr:=qa1 he (x:=y) (by rw [hy]; intro e; cases e)
  rw [hy] at hyr
  obtain ⟨nv,e2,hc⟩:=hyr.agg
  obtain ⟨c1,g2⟩:=qak hX.gd g1
  have c1':=ya c1
  rw [hc.len] at c1'
  unfold wrK at g2
  cases hg:getH hp r <;> rw [hg] at g2 <;> first | exact (hX.gd.er _ g2).elim | skip
  rename_i L cs
  obtain ⟨c2,g3⟩:=qak hX.gd g2
  have c2':=yh c2
  have g4:=frC_ok hX.gd g3
  obtain ⟨hK,g5⟩:=S.K_none hX hr g4
  obtain ⟨vs,hat,hcs,hvl⟩:=qee S hr hg
  have hag:=hT.agg ca
  have c2'':o + nv.length≤L:=by rw [c1']; exact c2'
  refine st_run S hr hg hat hvl (nv:=nv) e1 (by rw [e2]; rfl) (by rw [c1']; exact hag.2) hc.one c2'' hd (hj θ _ _ .u _ (rowC_put S hr hg hK ?_ ?_) (Ext.refl _ _) (Nat.le_refl _) RV.undef g5)
  ·rw [← c1',List.append_assoc]
   refine qdv (ctk_ok hcs _ (by omega)) (qdv hc ?_)
   have:=cdr_ok hcs (o + nv.length) (by omega)
   exact this
  ·simp; omega
 | false=>
  rw [ca] at g
  simp only [cond_false] at g
  cases c:an (sclT T t) (Nat.beq (szT T t) 1) with
  | false=>rw [c] at g; exact (hX.gd.er _ g).elim
  | true=>
   rw [c] at g
   obtain ⟨_,c2⟩:=qaf c
   have hsz:=hT.size (ya c2) (by decide)
   have g:X.G (stS ((gO x).f e) ((gO y).f e) hp q):=g
   cases hx:(gO x).f e <;> rw [hx] at g <;> first | exact (hX.gd.er _ g).elim | skip
   rename_i r o
   have hxr:=qa1 he (x:=x) (by rw [hx]; intro e; cases e)
   rw [hx] at hxr
   obtain ⟨b,o0,tt,hr,e1⟩:=hxr.ra (v:=.p r o) trivial
   cases hg:getH hp r <;> (unfold stS at g; simp only [hg] at g) <;> first | exact (hX.gd.er _ g).elim | skip
   rename_i L cs
   obtain ⟨hat',hne⟩:=st1_atm hX.gd g
   have hv:=(qa1 he hne).atm hat'
   obtain ⟨vs,hat,hcs,hvl⟩:=qee S hr hg
   obtain ⟨ho,l',hl',g2⟩:=st1_ok hX.gd hcs hv g
   obtain ⟨hK,g5⟩:=S.K_none hX hr g2
   have hset:vs.set o (ev ρ y) = vs.take o ++ [ev ρ y] ++ vs.drop (o + 1):=by
    rw [List.set_eq_take_append_cons_drop,if_pos ho,List.append_assoc]; rfl
   refine st_run S hr hg hat hvl (nv:=[ev ρ y]) e1 (by rw [hv.cells]) hsz (by simp [hv.one]) (by show o + 1≤L; omega) hd (hj θ _ _ .u _ (rowC_put S hr hg hK (cs':=l') ?_ ?_) (Ext.refl _ _) (Nat.le_refl _) RV.undef g5)
   ·show RC θ l' (vs.take o ++ [ev ρ y] ++ vs.drop (o + 1))
    rw [← hset]; exact hl'
   ·show (vs.take o ++ [ev ρ y] ++ vs.drop (o + 1)).length = L
    rw [← hset]; simpa using hvl
theorem new_ok (S:SR X θ hp h) (hX:CxOk X) {E:TypeId} {L:Nat} {cs:CL AV} {vs us:List Value} (hc:RC θ cs vs) (hL:vs.length = L) {k:Rid→Hp→Ans} (g:X.G (hnew hp (.c L cs) k)):
  ∃ θ' hp',θ' hp.nx = some (h.size,0,L + us.length)∧SR X θ' hp' (newC h E (vs ++ us))∧Ext θ θ' (tor hp.nx)∧tor hp.nx≤tor hp'.nx∧X.G (k hp.nx hp'):=by
 obtain ⟨nx',hnx,g1⟩:=hnew_ok S hX g
 refine ⟨_,_,qb1 _ _ _,S.newC (T:=E) (us:=us) hc hL hnx,S.ext_new _,?_,g1⟩
 show tor hp.nx≤tor nx'
 omega
theorem boxA_ok (hX:CxOk X) (S:SR X θ hp h) {e:E} (he:RE θ e ρ) {t:Nat} {x:Operand} (hd:okd C.n dst = true) (g:X.G (boxA ((gO x).f e) hp q)) (hj:Kt X θ hp q fun w h'=>J (upo ρ dst w) h'):
  OpE C Q (.box t x) ty dst J ρ h:=by
 unfold boxA at g
 have hne:(gO x).f e ≠ .er:=by intro e1; rw [e1] at g; exact hX.gd.er _ g
 obtain ⟨l,vs,hc,hv,g1⟩:=toC_ok hX.gd (qa1 he hne) g
 have g2:=frC_ok hX.gd g1
 have g3:X.G (hnew hp (.c (clen l) l) fun r h=>q (.p r 0) h):=g2
 obtain ⟨θ',hp',h1,h2,h3,h4,g4⟩:=new_ok S hX (E:=t) (us:=[]) hc hc.len.symm g3
 rw [List.append_nil] at h2
 exact e_box rfl hv hd (hj θ' hp' _ _ _ h2 h3 h4 (rv_p (o:=0) h1) g4)
theorem alA_ok (hX:CxOk X) (hT:TbOk C.P T) (S:SR X θ hp h) {e:E} {cl:CallT} {t:Nat} (hd:okd C.n dst = true) (g:X.G ((alA T t).f cl e hp q)) (hj:Kt X θ hp q fun w h'=>J (upo ρ dst w) h'):
  OpE C Q (.alloc t) ty dst J ρ h:=by
 unfold alA at g
 cases c:zOk T t with
 | false=>rw [c] at g; exact (hX.gd.er _ g).elim
 | true=>
  rw [c] at g
  have g3:X.G (hnew hp (.c (szT T t) (zeroC T t)) fun r h=>q (.p r 0) h):=g
  obtain ⟨vs,hz,hc⟩:=zero_ok hT (θ:=θ) c
  obtain ⟨θ',hp',h1,h2,h3,h4,g4⟩:=new_ok S hX (E:=t) (us:=[]) hc (zero_len c hc) g3
  rw [List.append_nil] at h2
  exact e_alloc hz hd (hj θ' hp' _ _ _ h2 h3 h4 (rv_p (o:=0) h1) g4)
end
section
variable {C:Ctx} {ρ:Env} {h:H} {ty:TypeId} {Q:Exit→Act→World→Prop} {J:Env→H→Prop} {dst:Option Tmp} {X:Cx} {θ:Th} {hp:Hp} {T:Tb} {q:K1} {o:Op}
theorem newO_ok (S:SR X θ hp h) (hX:CxOk X) {row:Row} {obj:Obj} (x2:Nat×Nat) (hrow:∀ θ':Th,(∀ r y,θ r = some y→θ' r = some y)→RowOk θ' (h.size,x2) row (h.push obj)) {k:Rid→Hp→Ans} (g:X.G (hnew hp row k)):
  ∃ θ' hp',θ' hp.nx = some (h.size,x2)∧SR X θ' hp' (h.push obj)∧Ext θ θ' (tor hp.nx)∧tor hp.nx≤tor hp'.nx∧X.G (k hp.nx hp'):=by
 obtain ⟨nx',hnx,g1⟩:=hnew_ok S hX g
 have hsz:(h.push obj).size = h.size + 1:=by simp
 refine ⟨_,_,qb1 _ _ _,S.add (x:=(h.size,x2)) (row:=row) (h':=h.push obj) hnx (by omega) (by show h.size < _; omega) (fun b hb hn=>?_) S.no_size.1 S.no_size.2 (hrow _ (qe0 S.nx_none _)),S.ext_new _,?_,g1⟩
 ·rw [Array.getElem?_push,if_neg (by omega)]
 ·show tor hp.nx≤tor nx'
  omega
theorem push_at {h:H} {obj:Obj}:(h.push obj)[h.size]? = some obj:=by simp
theorem mmA_ok (hX:CxOk X) (hT:TbOk C.P T) (S:SR X θ hp h) {e:E} {cl:CallT} {t:Nat} (hd:okd C.n dst = true) (g:X.G ((mmA T t).f cl e hp q)) (hj:Kt X θ hp q fun w h'=>J (upo ρ dst w) h'):
  OpE C Q (.makeMap t none) ty dst J ρ h:=by
 unfold mmA at g
 split at g
 ·rename_i K e' hk
  split at g
  ·rename_i kk hkk
   obtain ⟨θ',hp',h1,h2,h3,h4,g4⟩:=newO_ok S hX (row:=.m kk 0 []) (obj:=.map #[] 0) (0,0) (fun θ' _=>⟨#[],push_at,rfl,by simp,by simp⟩) (k:=fun r h=>q (.m r) h) g
   refine OpE.of hd (v:=.map (some h.size)) (h.push (.map #[] 0)) (fun w hw pos after g=>⟨{ w with heap:=h.push (.map #[] 0) },?_,rfl,rfl,rfl,rfl⟩) (hj θ' hp' _ _ _ h2 h3 h4 (rv_m h1) g4)
   subst hw
   simp [execOp,Instr.makeMap]
  ·exact (hX.gd.er _ g).elim
 ·exact (hX.gd.er _ g).elim
def Pts (ρ:Env) (sz:Nat):List (Nat×Operand)→List (List Value)→Prop
 | [],l=>l = []
 | p :: ps,l=>∃ v r,l = v :: r∧(ev ρ p.2).cells = v.toArray∧v.length = sz∧Pts ρ sz ps r
theorem cel_ok (hX:CxOk X) {v:AV} {V:Value} {sz:Nat} {l:CL AV} {k:CL AV→Ans} {us:List Value} (hv:RV θ v V) (hl:RC θ l us) (g:X.G (cel v sz l k)):∃ vs l',V.cells = vs.toArray∧vs.length = sz∧RC θ l' (vs ++ us)∧X.G (k l'):=by
 have plain:Atm v→(∀ n,v ≠ .y n)→X.G (bz (Nat.beq sz 1) (k (.cons 1 v l)) (.er 24))→∃ vs l',V.cells = vs.toArray∧vs.length = sz∧RC θ l' (vs ++ us)∧X.G (k l'):=by
  intro ha hy g
  obtain ⟨c,g⟩:=qak hX.gd g
  have h1:=hv.atm ha
  exact ⟨[V],.cons 1 v l,by rw [h1.cells],(ya c).symm,⟨[V],us,rfl,RW.of h1 hy,hl⟩,g⟩
 cases v <;> first
  | exact (hX.gd.er _ g).elim
  | exact plain trivial (by intro n e; cases e) g
  | skip
 ·rename_i n
  obtain ⟨h1,e1⟩:=hv.ra (v:=.y n) trivial
  have h256:n < 256:=h1
  subst e1
  have g:X.G (bz (Nat.beq sz 1) (frC (cc 1 (.bs 1 n) l) k) (.er 24)):=g
  obtain ⟨c,g⟩:=qak hX.gd g
  have g:=frC_ok hX.gd g
  refine ⟨byV 1 n,_,by simp [byV,byL,bV,Value.cells,Nat.mod_eq_of_lt h256],by rw [qc6]; exact (ya c).symm,?_,g⟩
  exact cc_ok (RW.bs (by decide) (by simpa using h256)) hl
 ·rename_i m
  have g:X.G (bz (Nat.beq (clen m) sz) (frC (capp m l) k) (.er 24)):=g
  obtain ⟨c,g⟩:=qak hX.gd g
  have g:=frC_ok hX.gd g
  obtain ⟨vs,rfl,hc⟩:=hv.agg
  exact ⟨vs,_,rfl,by rw [← hc.len]; exact ya c,qdv hc hl,g⟩
theorem celK_ok (hX:CxOk X) {e:E} (he:RE θ e ρ) {sz:Nat}:∀ (ps:List (Nat×Operand)) {k:CL AV→Ans},X.G ((celK sz ps).f e k)→∃ vss l,Pts ρ sz ps vss∧RC θ l vss.flatten∧X.G (k l)
 | [],k,g=>⟨[],.nil,rfl,rfl,g⟩
 | p :: ps,k,g=>by
  have g1:X.G ((celK sz ps).f e fun gg=>frH ((gO p.2).f e) fun v=>cel v sz gg k):=g
  obtain ⟨vss,l,h1,h2,g2⟩:=celK_ok hX he ps g1
  obtain ⟨hne,g3⟩:=qdn hX.gd g2
  obtain ⟨vs,l',e1,e2,h3,g4⟩:=cel_ok hX (qa1 he hne) h2 g3
  exact ⟨vs :: vss,l',⟨vs,vss,rfl,e1,e2,h1⟩,h3,g4⟩
theorem Pts.len {sz:Nat}:∀ {ps:List (Nat×Operand)} {vss:List (List Value)},Pts ρ sz ps vss→vss.flatten.length = ps.length * sz
 | [],_,h=>by rw [show _ = [] from h]; simp
 | p :: ps,_,⟨v,r,e,_,h2,h3⟩=>by subst e; simp [Pts.len h3,h2,Nat.succ_mul]; omega
theorem covr_fill {sz : Nat} {z : List Value} (hz : z.length = sz) : ∀ {ps : List (Nat × Operand)} {vss : List (List Value)} {i n : Nat} {pre : List Value}, Pts ρ sz ps vss → covr ps i n = true → pre.length = i * sz →
    n = i + ps.length ∧ fillL (fun i => some (i * sz, sz)) (pre ++ (List.replicate ps.length z).flatten) (ps.map fun p => (p.1, ev ρ p.2)) = some (pre ++ vss.flatten)
  | [], _, i, n, pre, h, hc, hl => by
    rw [show _ = [] from h]
    have : i = n := ya     hc
    exact ⟨by simp [this], by simp [fillL]⟩
  | p :: ps, _, i, n, pre, ⟨v, r, e, h1, h2, h3⟩, hc, hl => by
    subst e
    obtain ⟨c1, c2⟩ := qaf   (show an (Nat.beq p.1 i) (covr ps (Nat.add i 1) n) = true from hc)
    have hpi := ya     c1
    have hl2 : (pre ++ v).length = (i + 1) * sz := by rw [List.length_append, hl, h2, Nat.succ_mul]
    obtain ⟨a1, a2⟩ := covr_fill hz h3 c2 hl2
    refine ⟨by have a1 : n = i + 1 + ps.length := a1
               show n = i + (ps.length + 1)
               omega, ?_⟩
    simp only [List.map_cons, fillL]
    have hsz : (ev ρ p.2).cells.size = sz := by rw [h1]; simpa using h2
    rw [if_pos]
    · rw [hpi, h1]
      have e1 : (pre ++ (List.replicate (p :: ps).length z).flatten).take (i * sz) ++ v.toArray.toList ++ (pre ++ (List.replicate (p :: ps).length z).flatten).drop (i * sz + sz) = pre ++ v ++ (List.replicate ps.length z).flatten := by
        rw [List.length_cons, List.replicate_succ, List.flatten_cons]
        rw [← hl, List.take_left' rfl, ← List.drop_drop, List.drop_left' rfl, List.drop_left' hz]
      rw [e1, a2]
      simp
    · rw [Bool.and_eq_true]
      refine ⟨by rw [hsz]; simp, ?_⟩
      rw [hpi]
      apply Nat.ble_eq_true_of_le
      simp only [List.length_append, List.length_cons, List.replicate_succ, List.flatten_cons, hl, hz]
      omega
theorem bsA_ok (hX:CxOk X) (hT:TbOk C.P T) (S:SR X θ hp h) {e:E} (he:RE θ e ρ) {cl:CallT} {t n:Nat} {ps:Array (Nat×Operand)} (hd:okd C.n dst = true) (g:X.G ((bsA T t n ps.toList).f cl e hp q)) (hj:Kt X θ hp q fun w h'=>J (upo ρ dst w) h'):
  OpE C Q (.buildSlice t n ps) ty dst J ρ h:=by
 unfold bsA at g
 split at g
 ·rename_i el sz hk
  obtain ⟨hu,hsz⟩:=tk_sl hT hk
  cases c:an (zOk T el) (an (Nat.ble 1 sz) (an (Nat.ble (Nat.mul n sz) 16777216) (covr ps.toList 0 n))) with
  | false=>rw [c] at g; exact (hX.gd.er _ g).elim
  | true=>
   rw [c] at g
   obtain ⟨c1,c⟩:=qaf c
   obtain ⟨c2,c⟩:=qaf c
   obtain ⟨c3,c4⟩:=qaf c
   have g:X.G ((celK sz ps.toList).f e fun l=>hnew hp (.c (Nat.mul n sz) l) fun r h=>q (.sl r 0 n sz) h):=g
   obtain ⟨vss,l,h1,h2,g1⟩:=celK_ok hX he _ g
   obtain ⟨z,hz,hzc⟩:=zero_ok hT (θ:=θ) c1
   have hzl:z.length = sz:=(zero_len c1 hzc).trans hsz
   obtain ⟨a1,a2⟩:=covr_fill hzl h1 c4 (pre:=[]) (by simp)
   have hn:n = ps.toList.length:=by omega
   have hlen:vss.flatten.length = n * sz:=by rw [h1.len,hn]
   obtain ⟨θ',hp',f1,f2,f3,f4,g4⟩:=new_ok S hX (E:=el) (us:=[]) h2 hlen g1
   rw [List.append_nil] at f2
   rw [List.nil_append,List.nil_append,← hn] at a2
   exact e_buildSlice hz ⟨hu,hT.size hsz (yh c2)⟩ hzl rfl c3 a2 hd (hj θ' hp' _ _ _ f2 f3 f4 (rv_sl (o:=0) (c:=n) f1 (yh c2) (by simp) (Nat.le_refl _)) g4)
 ·exact (hX.gd.er _ g).elim
theorem repl_ok {l:CL AV} {vs:List Value} (hc:RC θ l vs):∀ n,RC θ (repl l n) (List.replicate n vs).flatten
 | 0=>rfl
 | n + 1=>by rw [List.replicate_succ,List.flatten_cons]; exact qdv hc (repl_ok hc n)
theorem mods {z:List Value} {sz:Nat} (hz:z.length = sz) (h0:0 < sz):∀ (m j:Nat),j < m * sz→(List.replicate m z).flatten[j]? = z[j % sz]?:=by
 intro m
 induction m with
 | zero=>intro j hj; simp at hj
 | succ m ih=>
  intro j hj
  rw [List.replicate_succ,List.flatten_cons,List.getElem?_append,hz]
  split
  ·rename_i hlt; rw [Nat.mod_eq_of_lt hlt]
  ·rename_i hge
   have e:(m + 1) * sz = m * sz + sz:=Nat.succ_mul m sz
   rw [ih (j - sz) (by omega),Nat.mod_eq_sub_mod (by omega:j ≥ sz)]
theorem made_eq {z:List Value} {sz:Nat} (hz:z.length = sz) (h0:0 < sz) (n:Nat):((Array.range (n * sz)).map fun x=>z.toArray[x % z.toArray.size]!) = (List.replicate n z).flatten.toArray:=by
 have hl:((List.replicate n z).flatten).length = n * sz:=by simp [hz]
 apply Array.ext
 ·simp [hz]
 ·intro j h1 h2
  simp only [Array.size_map,Array.size_range] at h1
  have:=mods hz h0 n j h1
  have hlt:j % sz < z.length:=by rw [hz]; exact Nat.mod_lt _ h0
  rw [List.getElem?_eq_getElem hlt,List.getElem?_eq_some_iff] at this
  obtain ⟨h5,h6⟩:=this
  simp only [Array.getElem_map,Array.getElem_range,List.getElem_toArray,List.size_toArray,hz]
  rw [h6,getElem!_pos _ _ (by simpa [hz] using Nat.mod_lt _ h0)]
  rfl
theorem msA_ok (hX:CxOk X) (hT:TbOk C.P T) (S:SR X θ hp h) {e:E} (he:RE θ e ρ) {cl:CallT} {t:Nat} {no co:Operand} (hd:okd C.n dst = true) (g:X.G ((msA T t no co).f cl e hp q)) (hj:Kt X θ hp q fun w h'=>J (upo ρ dst w) h'):
  OpE C Q (.makeSlice t no co) ty dst J ρ h:=by
 unfold msA at g
 split at g
 ·rename_i el sz hk
  obtain ⟨hu,hsz⟩:=tk_sl hT hk
  cases c:an (zOk T el) (an (Nat.ble 1 sz) (byT T el)) with
  | false=>rw [c] at g; exact (hX.gd.er _ g).elim
  | true=>
   rw [c] at g
   simp only [cond_true] at g
   obtain ⟨c1,c⟩:=qaf c
   obtain ⟨c2,c3⟩:=qaf c
   have hi:∃ i,T.info el = some i∧i.bytes≤4096:=by
    unfold byT at c3
    cases hi:T.info el with
    | none=>rw [hi] at c3; cases c3
    | some i=>rw [hi] at c3; exact ⟨i,rfl,yh c3⟩
   obtain ⟨i,hi,hby⟩:=hi
   cases hn:(gO no).f e <;> simp only [hn] at g <;> first | exact (hX.gd.er _ g).elim | skip
   rename_i n
   have hnr:=qa1 he (x:=no) (by rw [hn]; intro e; cases e)
   rw [hn] at hnr
   obtain ⟨n1,n2⟩:=hnr.ra (v:=.i n) trivial
   cases hc:(gO co).f e <;> simp only [hc] at g <;> first | exact (hX.gd.er _ g).elim | skip
   rename_i c
   have hcr:=qa1 he (x:=co) (by rw [hc]; intro e; cases e)
   rw [hc] at hcr
   obtain ⟨m1,m2⟩:=hcr.ra (v:=.i c) trivial
   have g:X.G (bz (an (Nat.ble n c) (Nat.ble c 16777216)) (frC (repl (zeroC T el) c) fun l=>frN (Nat.mul c sz) fun L=>hnew hp (.c L l) fun r h=>q (.sl r 0 n sz) h) (.er 25)):=g
   obtain ⟨b,g⟩:=qak hX.gd g
   obtain ⟨b1,b2⟩:=qaf b
   have b1:=yh b1
   have b2:=yh b2
   have g1:=frC_ok hX.gd g
   have g1:X.G (hnew hp (.c (Nat.mul c sz) (repl (zeroC T el) c)) fun r h=>q (.sl r 0 n sz) h):=g1
   obtain ⟨z,hz,hzc⟩:=zero_ok hT (θ:=θ) c1
   have hzl:z.length = sz:=(zero_len c1 hzc).trans hsz
   have hlen:(List.replicate c z).flatten.length = c * sz:=by simp [hzl]
   obtain ⟨θ',hp',f1,f2,f3,f4,g4⟩:=new_ok S hX (E:=el) (us:=[]) (repl_ok hzc c) hlen g1
   rw [List.append_nil] at f2
   have h0:=yh c2
   rw [qa4 (n:=n) (by omega)] at n2
   rw [qa4 (n:=c) (by omega)] at m2
   obtain ⟨i',zv,hi',hzv,hzcv⟩:=hz
   have ei:i' = i:=by have:=hT.info _ _ hi; rw [this] at hi'; injection hi' with e; exact e.symm
   subst ei
   refine OpE.of hd (v:=.slice (some ⟨h.size,0,none⟩) n c) (newC h el (List.replicate c z).flatten) (fun w hw pos after g=>⟨{ w with heap:=newC h el (List.replicate c z).flatten },?_,rfl,rfl,rfl,rfl⟩) (hj θ' hp' _ _ _ f2 f3 f4 (rv_sl (o:=0) (c:=c) f1 h0 (by simp) b1) g4)
   subst hw
   have hisz:i'.size = sz:=by unfold szT at hsz; rw [hi] at hsz; exact hsz
   have:=run_make (P:=C.P) w t el i' zv hu hi' hzv .i64 .i64 (n:Int) (c:Int) (by omega) (by omega) (by
    have:i'.bytes * c≤4096 * 16777216:=Nat.mul_le_mul hby b2
    have h3:((i'.bytes * c:Nat):Int)≤((4096 * 16777216:Nat):Int):=by exact_mod_cast this
    rw [Int.natCast_mul] at h3
    omega) (by omega)
   simp only [execOp,n2,m2,Sem.run_bind,this,Result.andThen_ok,Sem.run_pure]
   have em:madeCells zv.cells ((c:Int).toNat * i'.size) = (List.replicate c z).flatten.toArray:=by
    rw [hzcv,hisz,Int.toNat_natCast]; exact made_eq hzl h0 c
   rw [em]
   rfl
 ·exact (hX.gd.er _ g).elim
end
theorem kOk_nt {kk:KK} {k:AV} {l:List AV} (h:kOk kk k = true):k ≠ .t l:=by
 intro e; subst e
 unfold kOk at h
 split at h <;> first | (rename_i e; cases e; done) | cases h
theorem okV_nt {v:AV} (h:okV v = true):∀ l,v ≠ .t l:=by
 intro l e; subst e; cases h
theorem KR.same {P:Program} {T:Tb} (hT:TbOk P T) {K:Nat} {kk:KK} (hkk:kkT T K = some kk) {k:AV} {V:Value} (h:KR kk k V):Instr.sameBits 10000 V V = true:=
 (keyT_of hT hkk).same ⟨V,h.isKey⟩
section
variable {C:Ctx} {ρ:Env} {h:H} {ty:TypeId} {Q:Exit→Act→World→Prop} {J:Env→H→Prop} {dst:Option Tmp} {X:Cx} {θ:Th} {hp:Hp} {T:Tb} {q:K1} {o:Op}
theorem rowM_ok (S:SR X θ hp h) {r:Rid} {b o0 t:Nat} (hr:θ r = some (b,o0,t)) {kk:KK} {clk:Nat} {es:List KV} (hg:getH hp r = .m kk clk es):
  ∃ ms,h[b]? = some (.map ms clk)∧KVs θ kk es ms.toList∧(∀ m ∈ ms.toList,m.born < clk)∧(ms.toList.map (·.born)).Nodup:=by
 have:=S.rows r _ hr
 rw [hg] at this
 exact this
theorem qe2 (S:SR X θ hp h) {r:Rid} {b o0 t:Nat} (hr:θ r = some (b,o0,t)) {kk:KK} {clk:Nat} {es:List KV} (hg:getH hp r = .m kk clk es) (hK:X.K r = none) {clk':Nat} {es':List KV} {ms':Array MapEntry}
  (h1:KVs θ kk es' ms'.toList) (h2:∀ m ∈ ms'.toList,m.born < clk') (h3:(ms'.toList.map (·.born)).Nodup):
  SR X θ ⟨uR hp.rows r (.m kk clk' es'),hp.nx,hp.ro⟩ (h.setIfInBounds b (.map ms' clk')):=by
 obtain ⟨ms,g1,_⟩:=rowM_ok S hr hg
 have hb:b < h.size:=by rw [Array.getElem?_eq_some_iff] at g1; exact g1.1
 refine S.upd hr (by rw [hg]; trivial) hK (by simp) (fun b' hb'=>by rw [Array.getElem?_setIfInBounds_ne (Ne.symm hb')]) ⟨ms',?_,h1,h2,h3⟩
 show (h.setIfInBounds b _)[b]? = _
 simp [hb]
theorem laid {kk:KK} {es:List KV} {ms:List MapEntry} {clk:Nat} (h1:KVs θ kk es ms) (h2:∀ m ∈ ms,m.born < clk) (h3:(ms.map (·.born)).Nodup) {k v:AV} {V W:Value} (hkv:KVr θ kk ⟨k,v,clk⟩ ⟨V,W,clk⟩):
  KVs θ kk (es ++ [⟨k,v,clk⟩]) (ms ++ [(⟨V,W,clk⟩:MapEntry)])∧(∀ m ∈ ms ++ [(⟨V,W,clk⟩:MapEntry)],m.born < clk + 1)∧((ms ++ [(⟨V,W,clk⟩:MapEntry)]).map (·.born)).Nodup:=by
 refine ⟨h1.app hkv,fun m hm=>?_,?_⟩
 ·rcases List.mem_append.1 hm with hm | hm
  ·have:=h2 m hm; omega
  ·rw [List.mem_singleton] at hm; subst hm; exact Nat.lt_succ_self _
 ·rw [List.map_append,List.map_singleton,List.nodup_append]
  refine ⟨h3,by simp,fun a ha b hb=>?_⟩
  rw [List.mem_map] at ha
  obtain ⟨m,hm,rfl⟩:=ha
  rw [List.mem_singleton] at hb
  subst hb
  exact Nat.ne_of_lt (h2 m hm)
theorem map_set {α β:Type} (f:α→β):∀ (l:List α) (j:Nat) (x y:α),l[j]? = some x→f y = f x→(l.set j y).map f = l.map f
 | [],_,_,_,h,_=>by cases h
 | a :: l,0,x,y,h,e=>by cases h; simp [e]
 | a :: l,j + 1,x,y,h,e=>by simpa using map_set f l j x y h e
theorem turned {kk:KK} {es:List KV} {ms:List MapEntry} {clk j:Nat} (h1:KVs θ kk es ms) (h2:∀ m ∈ ms,m.born < clk) (h3:(ms.map (·.born)).Nodup) {m m':MapEntry} {e':KV} (hj:ms[j]? = some m) (hb:m'.born = m.born) (hkv:KVr θ kk e' m'):
  KVs θ kk (es.set j e') (ms.set j m')∧(∀ m ∈ ms.set j m',m.born < clk)∧((ms.set j m').map (·.born)).Nodup:=by
 refine ⟨h1.set j hkv,fun x hx=>?_,?_⟩
 ·rcases List.mem_or_eq_of_mem_set hx with hx | hx
  ·exact h2 x hx
  ·subst hx; rw [hb]; exact h2 m (List.mem_of_getElem? hj)
 ·rw [map_set _ _ _ _ _ hj hb]; exact h3
theorem modify_set {ms:Array MapEntry} {j:Nat} {m:MapEntry} (f:MapEntry→MapEntry) (hj:ms.toList[j]? = some m):(ms.modify j f).toList = ms.toList.set j (f m):=by
 rw [Array.toList_modify]
 apply List.ext_getElem?
 intro i
 rw [List.getElem?_modify,List.getElem?_set]
 by_cases e:j = i
 ·subst e
  rw [hj]
  have:j < ms.size:=by rw [List.getElem?_eq_some_iff] at hj; simpa using hj.1
  simp [this]
 ·simp [e]
theorem muA_ok (hX:CxOk X) (hT:TbOk C.P T) (S:SR X θ hp h) {e:E} (he:RE θ e ρ) {cl:CallT} {t:Nat} {mo ko vo:Operand} (ho:o = .mapUpdate t mo ko vo∨o = .insert t mo ko vo) (hd:okd C.n dst = true)
  (g:X.G ((muA T t mo ko vo).f cl e hp q)) (hj:Kt X θ hp q fun w h'=>J (upo ρ dst w) h'):OpE C Q o ty dst J ρ h:=by
 have hexec:∀ pos after g w,(execOp (ev ρ) ⟨dst,o,ty,pos,after,g⟩).run C.P w = (execOp (ev ρ) ⟨dst,.mapUpdate t mo ko vo,ty,pos,after,g⟩).run C.P w:=by
  intro pos after g w; rcases ho with rfl | rfl <;> rfl
 unfold muA at g
 split at g
 ·rename_i K el hk
  have hu:=tk_mp hT hk
  cases hm:(gO mo).f e <;> simp only [hm] at g <;> first | exact (hX.gd.er _ g).elim | skip
  rename_i r
  have hmr:=qa1 he (x:=mo) (by rw [hm]; intro e; cases e)
  rw [hm] at hmr
  obtain ⟨b,o0,tt,hr,e1⟩:=hmr.ra (v:=.m r) trivial
  obtain ⟨nk,g⟩:=qdn hX.gd g
  obtain ⟨nv,g⟩:=qdn hX.gd g
  obtain ⟨cv,g⟩:=qak hX.gd g
  have hkr:=qa1 he nk
  have hvr:=(qa1 he nv).rv1 (okV_nt cv)
  unfold muR at g
  cases hkk:kkT T K with
  | none=>rw [hkk] at g; exact (hX.gd.er _ g).elim
  | some kk=>
   rw [hkk] at g
   simp only at g
   obtain ⟨c1,g⟩:=qak hX.gd g
   have hKR:=KR.of c1 hkr
   have hk1:=hkr.rv1 (fun l=>kOk_nt c1)
   cases hg:getH hp r <;> rw [hg] at g <;> first | exact (hX.gd.er _ g).elim | skip
   rename_i kk2 clk es
   simp only at g
   obtain ⟨c2,g⟩:=qak hX.gd g
   have:=kEq_ok c2
   subst this
   obtain ⟨ms,g1,g2,g3,g4⟩:=rowM_ok S hr hg
   obtain ⟨oo,hf,hrun⟩:=find_ok hT hkk hKR g2
   have hckT:=keyT_of hT hkk
   have hck:∀ e w,(Instr.checkKey e 10000 K (ev ρ ko)).run C.P w = .ok () w:=fun e w=>hckT.ok e ⟨ev ρ ko,hKR.isKey⟩ w
   cases hf with
   | no a1 a2 a3 a4=>
    rw [a3] at g
    have g:X.G (hset hp r (.m kk (clk + 1) (es ++ [⟨(gO ko).f e,(gO vo).f e,clk⟩])) fun h=>q .u h):=g
    obtain ⟨hK,g5⟩:=S.K_none hX hr g
    obtain ⟨l1,l2,l3⟩:=laid g2 g3 g4 (k:=(gO ko).f e) (v:=(gO vo).f e) (V:=ev ρ ko) (W:=ev ρ vo) ⟨c1,hk1,hvr,rfl⟩
    have S':=qe2 S hr hg hK (clk':=clk + 1) (ms':=ms.push ⟨ev ρ ko,ev ρ vo,clk⟩) (by simpa using l1) (by simpa using l2) (by simpa using l3)
    refine OpE.skipD hd _ (fun w hw pos after g=>⟨{ w with heap:=h.setIfInBounds b (.map (ms.push ⟨ev ρ ko,ev ρ vo,clk⟩) (clk + 1)) },?_,rfl,rfl,rfl,rfl⟩) (hj θ _ _ .u _ S' (Ext.refl _ _) (Nat.le_refl _) RV.undef g5)
    rw [hexec]
    have hb':w.heap[b]? = some (.map ms clk):=by rw [hw]; exact g1
    simp [execOp,e1,Instr.mapUpdate,run_underlying hu,qbb hb',hck,hrun,qcq _ hb',hw]
   | @yes j m x a1 a2 a3 a4 a5 a6 a7=>
    rw [a6] at g
    have g:X.G (hset hp r (.m kk clk (es.set j ⟨(gO ko).f e,(gO vo).f e,x.bn⟩)) fun h=>q .u h):=g
    obtain ⟨hK,g5⟩:=S.K_none hX hr g
    obtain ⟨l1,l2,l3⟩:=turned g2 g3 g4 (m':=⟨ev ρ ko,ev ρ vo,m.born⟩) (e':=⟨(gO ko).f e,(gO vo).f e,x.bn⟩) a1 rfl ⟨c1,hk1,hvr,a4.2.2.2⟩
    have hmod:=modify_set (fun e=>{ e with key:=ev ρ ko,val:=ev ρ vo }) a1
    have S':=qe2 S hr hg hK (clk':=clk) (ms':=ms.modify j fun e=>{ e with key:=ev ρ ko,val:=ev ρ vo }) (by rw [hmod]; exact l1) (by rw [hmod]; exact l2) (by rw [hmod]; exact l3)
    refine OpE.skipD hd _ (fun w hw pos after g=>⟨{ w with heap:=h.setIfInBounds b (.map (ms.modify j fun e=>{ e with key:=ev ρ ko,val:=ev ρ vo }) clk) },?_,rfl,rfl,rfl,rfl⟩) (hj θ _ _ .u _ S' (Ext.refl _ _) (Nat.le_refl _) RV.undef g5)
    rw [hexec]
    have hb':w.heap[b]? = some (.map ms clk):=by rw [hw]; exact g1
    have a1':ms[j]? = some m:=by simpa using a1
    have hks:∀ w,(Instr.keyThatStays (ev ρ ko) (ev ρ ko)).run C.P w = .ok (ev ρ ko) w:=fun w=>by simp [Instr.keyThatStays,hKR.same hT hkk]
    simp [execOp,e1,Instr.mapUpdate,run_underlying hu,qbb hb',hck,hrun,a1',a3,hks,qcq _ hb',hw]
 ·exact (hX.gd.er _ g).elim
theorem wr_nat {n:Nat} (h:n≤4611686018427387904):RV1 θ (.i n) (goInt (n:Int)):=by
 refine .inl (.inl ⟨by omega,?_⟩)
 rw [qa4 (n:=n) (by omega)]; rfl
theorem meA_ok (hX:CxOk X) (hT:TbOk C.P T) (S:SR X θ hp h) {e:E} (he:RE θ e ρ) {cl:CallT} {t:Nat} {mo ko:Operand} (hd:okd C.n dst = true)
  (g:X.G ((meA T t mo ko).f cl e hp q)) (hj:Kt X θ hp q fun w h'=>J (upo ρ dst w) h'):OpE C Q (.mapEntry t mo ko) ty dst J ρ h:=by
 unfold meA at g
 split at g
 ·rename_i K el hk
  have hu:=tk_mp hT hk
  cases hm:(gO mo).f e <;> simp only [hm] at g <;> first | exact (hX.gd.er _ g).elim | skip
  rename_i r
  have hmr:=qa1 he (x:=mo) (by rw [hm]; intro e; cases e)
  rw [hm] at hmr
  obtain ⟨b,o0,tt,hr,e1⟩:=hmr.ra (v:=.m r) trivial
  obtain ⟨nk,g⟩:=qdn hX.gd g
  have hkr:=qa1 he nk
  unfold meR at g
  cases hkk:kkT T K with
  | none=>rw [hkk] at g; exact (hX.gd.er _ g).elim
  | some kk=>
   rw [hkk] at g
   simp only at g
   obtain ⟨c1,g⟩:=qak hX.gd g
   have hKR:=KR.of c1 hkr
   have hk1:=hkr.rv1 (fun l=>kOk_nt c1)
   cases hg:getH hp r <;> rw [hg] at g <;> first | exact (hX.gd.er _ g).elim | skip
   rename_i kk2 clk es
   simp only at g
   obtain ⟨c2,g⟩:=qak hX.gd g
   have:=kEq_ok c2
   subst this
   obtain ⟨ms,g1,g2,g3,g4⟩:=rowM_ok S hr hg
   obtain ⟨oo,hf,hrun⟩:=find_ok hT hkk hKR g2
   have hckT:=keyT_of hT hkk
   have hck:∀ e w,(Instr.checkKey e 10000 K (ev ρ ko)).run C.P w = .ok () w:=fun e w=>hckT.ok e ⟨ev ρ ko,hKR.isKey⟩ w
   cases hf with
   | no a1 a2 a3 a4=>
    unfold meF at g
    rw [a1] at g
    simp only at g
    obtain ⟨nz,g⟩:=qdn hX.gd g
    obtain ⟨cb,g⟩:=qak hX.gd g
    rw [a3] at g
    have g:X.G (hset hp r (.m kk (clk + 1) (es ++ [⟨(gO ko).f e,zeroA T el,clk⟩])) fun h=>q (.t [zeroA T el,.i clk]) h):=g
    obtain ⟨hK,g5⟩:=S.K_none hX hr g
    obtain ⟨z,⟨i,hi,hzv⟩,hzr⟩:=zeroA_ok hT (θ:=θ) nz
    have hz1:=hzr.rv1 (fun l=>zeroA_nt)
    obtain ⟨l1,l2,l3⟩:=laid g2 g3 g4 (k:=(gO ko).f e) (v:=zeroA T el) (V:=ev ρ ko) (W:=z) ⟨c1,hk1,hz1,rfl⟩
    have S':=qe2 S hr hg hK (clk':=clk + 1) (ms':=ms.push ⟨ev ρ ko,z,clk⟩) (by simpa using l1) (by simpa using l2) (by simpa using l3)
    have hres:RV θ (.t [zeroA T el,.i clk]) (.tuple #[z,goInt (clk:Int)]):=.inr ⟨_,[z,goInt (clk:Int)],rfl,rfl,_,[goInt (clk:Int)],rfl,hz1,_,[],rfl,wr_nat (yh cb),rfl⟩
    refine OpE.of hd (v:=.tuple #[z,goInt (clk:Int)]) _ (fun w hw pos after g=>⟨{ w with heap:=h.setIfInBounds b (.map (ms.push ⟨ev ρ ko,z,clk⟩) (clk + 1)) },?_,rfl,rfl,rfl,rfl⟩) (hj θ _ _ _ _ S' (Ext.refl _ _) (Nat.le_refl _) hres g5)
    have hb':w.heap[b]? = some (.map ms clk):=by rw [hw]; exact g1
    simp [execOp,e1,Instr.mapEntry,run_underlying hu,qbb hb',hck,hrun,zeroValue,typeInfo,hi,hzv,qcq _ hb',hw]
   | @yes j m x a1 a2 a3 a4 a5 a6 a7=>
    unfold meF at g
    rw [a5] at g
    simp only at g
    obtain ⟨cb,g⟩:=qak hX.gd g
    rw [a6] at g
    have g:X.G (hset hp r (.m kk clk (es.set j ⟨(gO ko).f e,x.v,x.bn⟩)) fun h=>frH (.t [x.v,.i x.bn]) fun v=>q v h):=g
    obtain ⟨hK,g5⟩:=S.K_none hX hr g
    obtain ⟨_,g6⟩:=qdn hX.gd g5
    have hb:=a4.2.2.2
    obtain ⟨l1,l2,l3⟩:=turned g2 g3 g4 (m':={ m with key:=ev ρ ko }) (e':=⟨(gO ko).f e,x.v,x.bn⟩) a1 rfl ⟨c1,hk1,a4.2.2.1,hb⟩
    have hmod:=modify_set (fun e=>{ e with key:=ev ρ ko }) a1
    have S':=qe2 S hr hg hK (clk':=clk) (ms':=ms.modify j fun e=>{ e with key:=ev ρ ko }) (by rw [hmod]; exact l1) (by rw [hmod]; exact l2) (by rw [hmod]; exact l3)
    have hres:RV θ (.t [x.v,.i x.bn]) (.tuple #[m.val,goInt (m.born:Int)]):=.inr ⟨_,[m.val,goInt (m.born:Int)],rfl,rfl,_,[goInt (m.born:Int)],rfl,a4.2.2.1,_,[],rfl,by rw [hb]; exact wr_nat (yh cb),rfl⟩
    refine OpE.of hd (v:=.tuple #[m.val,goInt (m.born:Int)]) _ (fun w hw pos after g=>⟨{ w with heap:=h.setIfInBounds b (.map (ms.modify j fun e=>{ e with key:=ev ρ ko }) clk) },?_,rfl,rfl,rfl,rfl⟩) (hj θ _ _ _ _ S' (Ext.refl _ _) (Nat.le_refl _) hres g6)
    have hb':w.heap[b]? = some (.map ms clk):=by rw [hw]; exact g1
    have a1':ms[j]? = some m:=by simpa using a1
    have hks:∀ w,(Instr.keyThatStays (ev ρ ko) (ev ρ ko)).run C.P w = .ok (ev ρ ko) w:=fun w=>by simp [Instr.keyThatStays,hKR.same hT hkk]
    simp [execOp,e1,Instr.mapEntry,run_underlying hu,qbb hb',hck,hrun,a1',a3,hks,qcq _ hb',hw]
 ·exact (hX.gd.er _ g).elim
theorem msto_ok {G:Ans→Prop} (hG:Gd G) {kk:KK} {bn:Nat} {v:AV}:∀ {es:List KV} {ms:List MapEntry} {k:List KV→Ans},KVs θ kk es ms→G (msto bn v es k) →
  ∃ j m x,ms[j]? = some m∧es[j]? = some x∧KVr θ kk x m∧ms.findIdx? (fun e=>(e.born:Int) == (bn:Int)) = some j∧G (k (es.set j ⟨x.k,v,x.bn⟩))
 | [],_,k,_,g=>(hG.er _ g).elim
 | x :: es,_,k,⟨m,r,e1,h1,h2⟩,g=>by
  subst e1
  have g:G (bz (Nat.beq x.bn bn) (k (⟨x.k,v,x.bn⟩ :: es)) (msto bn v es fun l=>k (x :: l))):=g
  cases c:Nat.beq x.bn bn with
  | true=>
   rw [c] at g
   refine ⟨0,m,x,rfl,rfl,h1,?_,g⟩
   have:m.born = bn:=h1.2.2.2.trans (ya c)
   simp [List.findIdx?_cons,this]
  | false=>
   rw [c] at g
   obtain ⟨j,m',x',a1,a2,a3,a4,a5⟩:=msto_ok hG h2 (k:=fun l=>k (x :: l)) g
   refine ⟨j + 1,m',x',a1,a2,a3,?_,a5⟩
   have hne:¬ (m.born:Int) = (bn:Int):=by
    intro e
    have:m.born = bn:=by omega
    exact qcl c (h1.2.2.2.symm.trans this)
   rw [List.findIdx?_cons,if_neg (by simpa using hne),a4]; rfl
theorem esA_ok (hX:CxOk X) (hT:TbOk C.P T) (S:SR X θ hp h) {e:E} (he:RE θ e ρ) {cl:CallT} {t:Nat} {mo so vo:Operand} (hd:okd C.n dst = true)
  (g:X.G ((esA mo so vo).f cl e hp q)) (hj:Kt X θ hp q fun w h'=>J (upo ρ dst w) h'):OpE C Q (.entryStore t mo so vo) ty dst J ρ h:=by
 unfold esA at g
 simp only at g
 split at g
 ·rename_i r bn hm hs
  have hmr:=qa1 he (x:=mo) (by rw [hm]; intro e; cases e)
  rw [hm] at hmr
  obtain ⟨b,o0,tt,hr,e1⟩:=hmr.ra (v:=.m r) trivial
  have hsr:=qa1 he (x:=so) (by rw [hs]; intro e; cases e)
  rw [hs] at hsr
  obtain ⟨n1,e2⟩:=hsr.ra (v:=.i bn) trivial
  obtain ⟨nv,g⟩:=qdn hX.gd g
  obtain ⟨cc,g⟩:=qak hX.gd g
  obtain ⟨cv,cb⟩:=qaf cc
  have hvr:=(qa1 he nv).rv1 (okV_nt cv)
  rw [qa4 (n:=bn) (by have:=yh cb; omega)] at e2
  cases hg:getH hp r <;> rw [hg] at g <;> first | exact (hX.gd.er _ g).elim | skip
  rename_i kk clk es
  obtain ⟨ms,g1,g2,g3,g4⟩:=rowM_ok S hr hg
  obtain ⟨j,m,x,a1,a2,a3,a4,a5⟩:=msto_ok hX.gd g2 g
  obtain ⟨hK,g5⟩:=S.K_none hX hr a5
  obtain ⟨l1,l2,l3⟩:=turned g2 g3 g4 (m':={ m with val:=ev ρ vo }) (e':=⟨x.k,(gO vo).f e,x.bn⟩) a1 rfl ⟨a3.1,a3.2.1,hvr,a3.2.2.2⟩
  have hmod:=modify_set (fun e=>{ e with val:=ev ρ vo }) a1
  have S':=qe2 S hr hg hK (clk':=clk) (ms':=ms.modify j fun e=>{ e with val:=ev ρ vo }) (by rw [hmod]; exact l1) (by rw [hmod]; exact l2) (by rw [hmod]; exact l3)
  refine OpE.skipD hd _ (fun w hw pos after g=>⟨{ w with heap:=h.setIfInBounds b (.map (ms.modify j fun e=>{ e with val:=ev ρ vo }) clk) },?_,rfl,rfl,rfl,rfl⟩) (hj θ _ _ .u _ S' (Ext.refl _ _) (Nat.le_refl _) RV.undef g5)
  have hb':w.heap[b]? = some (.map ms clk):=by rw [hw]; exact g1
  have hfi:ms.findIdx? (fun e=>(e.born:Int) == (bn:Int)) = some j:=by
   have e0:ms = ms.toList.toArray:=by simp
   rw [e0,List.findIdx?_toArray]; exact a4
  simp [execOp,e1,e2,Instr.entryStore,qbb hb',asInt,asIntOf,hfi,qcq _ hb',hw]
 ·exact (hX.gd.er _ g).elim
theorem dlE_ok (hX:CxOk X) (hT:TbOk C.P T) (S:SR X θ hp h) {e:E} (he:RE θ e ρ) {cl:CallT} {t:Nat} {mo ko:Operand} {ts:Array TypeId} {tl:List TypeId} (hts:ts.toList = t :: tl) (hd:okd C.n dst = true)
  (g:X.G ((dlE T t mo ko).f cl e hp q)) (hj:Kt X θ hp q fun w h'=>J (upo ρ dst w) h'):OpE C Q (.call ⟨.builtin .delete,#[mo,ko],ts⟩) ty dst J ρ h:=by
 have ht0:ts[0]? = some t:=by rw [← Array.getElem?_toList,hts]; rfl
 unfold dlE at g
 split at g
 ·rename_i K el hk
  have hu:=tk_mp hT hk
  simp only at g
  split at g
  ·rename_i r hm
   have hmr:=qa1 he (x:=mo) (by rw [hm]; intro e; cases e)
   rw [hm] at hmr
   obtain ⟨b,o0,tt,hr,e1⟩:=hmr.ra (v:=.m r) trivial
   obtain ⟨nk,g⟩:=qdn hX.gd g
   have hkr:=qa1 he nk
   cases hkk:kkT T K with
   | none=>rw [hkk] at g; exact (hX.gd.er _ g).elim
   | some kk=>
    rw [hkk] at g
    simp only at g
    obtain ⟨c1,g⟩:=qak hX.gd g
    have hKR:=KR.of c1 hkr
    cases hg:getH hp r <;> rw [hg] at g <;> first | exact (hX.gd.er _ g).elim | skip
    rename_i kk2 clk es
    simp only at g
    obtain ⟨c2,g⟩:=qak hX.gd g
    have:=kEq_ok c2
    subst this
    obtain ⟨ms,g1,g2,g3,g4⟩:=rowM_ok S hr hg
    obtain ⟨oo,hf,hrun⟩:=find_ok hT hkk hKR g2
    have hckT:=keyT_of hT hkk
    have hck:∀ e w,(Instr.checkKey e 10000 K (ev ρ ko)).run C.P w = .ok () w:=fun e w=>hckT.ok e ⟨ev ρ ko,hKR.isKey⟩ w
    have hres:RV θ (.t []) (.tuple #[]):=.inr ⟨[],[],rfl,rfl,rfl⟩
    cases hf with
    | no a1 a2 a3 a4=>
     rw [a4] at g
     obtain ⟨hK,g5⟩:=S.K_none hX hr g
     have S':=qe2 S hr hg hK (clk':=clk) (ms':=ms) g2 g3 g4
     refine OpE.of hd (v:=.tuple #[]) _ (fun w hw pos after g=>⟨{ w with heap:=h.setIfInBounds b (.map ms clk) },?_,rfl,rfl,rfl,rfl⟩) (hj θ _ _ _ _ S' (Ext.refl _ _) (Nat.le_refl _) hres g5)
     have hb':w.heap[b]? = some (.map ms clk):=by rw [hw]; exact g1
     simp [execOp,resolve,invoke,builtin,Builtin.delete_,ht0,e1,run_underlying hu,qbb hb',hck,hrun,qcq _ hb',hw]
    | @yes j m x a1 a2 a3 a4 a5 a6 a7=>
     rw [a7] at g
     obtain ⟨hK,g5⟩:=S.K_none hX hr g
     have hjl:j < ms.size:=by rw [List.getElem?_eq_some_iff] at a1; simpa using a1.1
     have her:(ms.eraseIdxIfInBounds j).toList = ms.toList.eraseIdx j:=by simp [Array.eraseIdxIfInBounds,hjl]
     have S':=qe2 S hr hg hK (clk':=clk) (ms':=ms.eraseIdxIfInBounds j) (by rw [her]; exact g2.erase j) (by rw [her]; exact fun m hm=>g3 m (List.mem_of_mem_eraseIdx hm)) (by
      rw [her]; exact ((List.eraseIdx_sublist _ _).map _).nodup g4)
     refine OpE.of hd (v:=.tuple #[]) _ (fun w hw pos after g=>⟨{ w with heap:=h.setIfInBounds b (.map (ms.eraseIdxIfInBounds j) clk) },?_,rfl,rfl,rfl,rfl⟩) (hj θ _ _ _ _ S' (Ext.refl _ _) (Nat.le_refl _) hres g5)
     have hb':w.heap[b]? = some (.map ms clk):=by rw [hw]; exact g1
     simp [execOp,resolve,invoke,builtin,Builtin.delete_,ht0,e1,run_underlying hu,qbb hb',hck,hrun,qcq _ hb',hw]
  ·exact (hX.gd.er _ g).elim
 ·exact (hX.gd.er _ g).elim
end
end Go.Vm
namespace Go.Vm
open Go Go.Sh Go.ChangeMaps
open Go.Sh.Ty (reg)
theorem bns_eq {θ:Th} {kk:KK}:∀ {es:List KV} {ms:List MapEntry},KVs θ kk es ms→bns es = ms.map (·.born)
 | [],_,h=>by rw [show _ = [] from h]; rfl
 | x :: es,_,⟨m,r,e,h1,h2⟩=>by
  subst e
  show x.bn :: bns es = _
  rw [bns_eq h2,List.map_cons,h1.2.2.2]
theorem eqNs_ok:∀ {l m:List Nat},eqNs l m = true→l = m
 | [],[],_=>rfl
 | [],_ :: _,h=>by cases h
 | _ :: _,[],h=>by cases h
 | a :: l,b :: m,h=>by
  obtain ⟨c1,c2⟩:=qaf (show an (Nat.beq a b) (eqNs l m) = true from h)
  rw [ya c1,eqNs_ok c2]
theorem fBn_ok {θ:Th} {kk:KK} {b:Nat}:∀ {es:List KV} {ms:List MapEntry} {x:KV},KVs θ kk es ms→fBn b es = some x→∃ m ∈ ms,m.born = b∧KVr θ kk x m
 | [],_,_,_,h=>by cases h
 | y :: es,_,x,⟨m,r,e,h1,h2⟩,h=>by
  subst e
  have h:(bif Nat.beq y.bn b then some y else fBn b es) = some x:=h
  cases c:Nat.beq y.bn b with
  | true=>rw [c] at h; cases h; exact ⟨m,List.mem_cons_self,h1.2.2.2.trans (ya c),h1⟩
  | false=>
   rw [c] at h
   obtain ⟨m',a1,a2⟩:=fBn_ok h2 h
   exact ⟨m',List.mem_cons_of_mem _ a1,a2⟩
theorem born_inj:∀ {ms:List MapEntry} {m m':MapEntry},(ms.map (·.born)).Nodup→m ∈ ms→m' ∈ ms→m.born = m'.born→m = m'
 | [],_,_,_,h,_,_=>by cases h
 | a :: ms,m,m',hn,h,h',e=>by
  rw [List.map_cons,List.nodup_cons] at hn
  rcases List.mem_cons.1 h with h1 | h1 <;> rcases List.mem_cons.1 h' with h2 | h2
  ·rw [h1,h2]
  ·exact absurd (List.mem_map.2 ⟨m',h2,by rw [← e,h1]⟩) hn.1
  ·exact absurd (List.mem_map.2 ⟨m,h1,by rw [e,h2]⟩) hn.1
  ·exact born_inj hn.2 h1 h2 e
theorem frk_ok {X:Cx} (hX:CxOk X) (hro:X.ro ≠ none) {g:Nat→List Nat→Ans}:∀ {l pre:List Nat},X.G (frk g l pre)→∀ e ∈ l,∃ l1 l2,l = l1 ++ e :: l2∧X.G (g e (pre ++ l1 ++ l2))
 | [],pre,_,e,he=>by cases he
 | [a],pre,h,e,he=>by
  rw [List.mem_singleton] at he; subst he
  have h:X.G (g e pre):=h
  exact ⟨[],[],rfl,by simpa using h⟩
 | a :: b :: l,pre,h,e,he=>by
  have h:X.G (eqO (g a (pre ++ b :: l)) (frk g (b :: l) (pre ++ [a]))):=h
  obtain ⟨h1,h2⟩:=hX.mg hro _ _ h
  rcases List.mem_cons.1 he with rfl | he
  ·exact ⟨[],b :: l,rfl,by simpa using h1⟩
  ·obtain ⟨l1,l2,e1,e2⟩:=frk_ok hX hro h2 e he
   exact ⟨a :: l1,l2,by rw [e1]; rfl,by simpa using e2⟩
section
variable {C:Ctx} {ρ:Env} {h:H} {ty:TypeId} {Q:Exit→Act→World→Prop} {J:Env→H→Prop} {dst:Option Tmp} {X:Cx} {θ:Th} {hp:Hp} {T:Tb} {q:K1} {o:Op}
theorem rgA_ok (hX:CxOk X) (hT:TbOk C.P T) (S:SR X θ hp h) {e:E} (he:RE θ e ρ) {cl:CallT} {t:Nat} {xo:Operand} (hd:okd C.n dst = true)
  (g:X.G ((rgA T t xo).f cl e hp q)) (hj:Kt X θ hp q fun w h'=>J (upo ρ dst w) h'):OpE C Q (.range t xo) ty dst J ρ h:=by
 unfold rgA at g
 split at g
 ·rename_i K el hk
  have hu:=tk_mp hT hk
  simp only at g
  split at g
  ·rename_i r hm
   have hmr:=qa1 he (x:=xo) (by rw [hm]; intro e; cases e)
   rw [hm] at hmr
   obtain ⟨b,o0,tt,hr,e1⟩:=hmr.ra (v:=.m r) trivial
   cases hg:getH hp r <;> rw [hg] at g <;> first | exact (hX.gd.er _ g).elim | skip
   rename_i kk clk es
   obtain ⟨ms,g1,g2,g3,g4⟩:=rowM_ok S hr hg
   obtain ⟨θ',hp',h1,h2,h3,h4,g5⟩:=newO_ok S hX (row:=.it (some r) clk (bns es) (bns es) none) (obj:=.mapIter (some b) clk #[] clk) (0,0)
    (fun θ' hh=>⟨some b,#[],push_at,rfl,⟨by rw [bns_eq g2]; exact g4,by simp⟩,rfl,_,_,_,hh _ _ hr,rfl⟩) (k:=fun i h=>q (.p i 0) h) g
   refine OpE.of hd (v:=.pointer (some ⟨h.size,0,none⟩)) (h.push (.mapIter (some b) clk #[] clk)) (fun w hw pos after g=>⟨{ w with heap:=h.push (.mapIter (some b) clk #[] clk) },?_,rfl,rfl,rfl,rfl⟩) (hj θ' hp' _ _ _ h2 h3 h4 (rv_p (o:=0) h1) g5)
   subst hw
   simp [execOp,e1,Instr.range,run_underlying hu,qbb g1]
  ·rename_i hm
   have hmr:=qa1 he (x:=xo) (by rw [hm]; intro e; cases e)
   rw [hm] at hmr
   have e1:=hmr.ra (v:=.mn) trivial
   obtain ⟨θ',hp',h1,h2,h3,h4,g5⟩:=newO_ok S hX (row:=.it none 0 [] [] none) (obj:=.mapIter none 0 #[] 0) (0,0)
    (fun θ' hh=>⟨none,#[],push_at,rfl,⟨List.nodup_nil,by simp⟩,rfl,rfl⟩) (k:=fun i h=>q (.p i 0) h) g
   refine OpE.of hd (v:=.pointer (some ⟨h.size,0,none⟩)) (h.push (.mapIter none 0 #[] 0)) (fun w hw pos after g=>⟨{ w with heap:=h.push (.mapIter none 0 #[] 0) },?_,rfl,rfl,rfl,rfl⟩) (hj θ' hp' _ _ _ h2 h3 h4 (rv_p (o:=0) h1) g5)
   subst hw
   have e1':ev ρ xo = .map none:=e1
   simp [execOp,e1',Instr.range,run_underlying hu]
  ·exact (hX.gd.er _ g).elim
 ·exact (hX.gd.er _ g).elim
theorem nx1_ok (hX:CxOk X) (S:SR X θ hp h) {i m:Rid} {bi oi ti bm om tm:Nat} (hri:θ i = some (bi,oi,ti)) (hrm:θ m = some (bm,om,tm)) {clk:Nat} {all todo:List Nat} {cur:Option Nat} (hgi:getH hp i = .it (some m) clk all todo cur)
  {kk:KK} {es:List KV} (hgm:getH hp m = .m kk clk es) {seen:Array Nat} (hit:h[bi]? = some (.mapIter (some bm) clk seen clk)) (ho:oi = 0) {ms:Array MapEntry} (g1:h[bm]? = some (.map ms clk)) (g2:KVs θ kk es ms.toList) (g4:(ms.toList.map (·.born)).Nodup)
  {b:Nat} {r:List Nat} (hr:r.Nodup∧∀ b',b' ∈ r ↔ b' ∈ all∧b' ∉ (seen.push b).toList) (g:X.G (nx1 i m clk all es hp q b r)) {me:MapEntry} (hme:me ∈ ms.toList) (hb:me.born = b):
  ∃ hp' a,SR X θ hp' (h.setIfInBounds bi (.mapIter (some bm) clk (seen.push b) clk))∧tor hp.nx≤tor hp'.nx∧RV θ a (.tuple #[.bool true,me.key,me.val])∧X.G (q a hp'):=by
 unfold nx1 at g
 cases hf:fBn b es with
 | none=>rw [hf] at g; exact (hX.gd.er _ g).elim
 | some x=>
  rw [hf] at g
  simp only at g
  obtain ⟨hK,g5⟩:=S.K_none hX hri g
  obtain ⟨_,g6⟩:=qdn hX.gd g5
  obtain ⟨m',a1,a2,a3⟩:=fBn_ok g2 hf
  have:m' = me:=born_inj g4 a1 hme (a2.trans hb.symm)
  subst this
  have hbs:bi < h.size:=by rw [Array.getElem?_eq_some_iff] at hit; exact hit.1
  refine ⟨_,_,S.upd hri (row:=.it (some m) clk all r (some b)) (by rw [hgi]; trivial) hK (by simp) (fun b' hb'=>by rw [Array.getElem?_setIfInBounds_ne (Ne.symm hb')]) ?_,Nat.le_refl _,?_,g6⟩
  ·refine ⟨some bm,seen.push b,?_,ho,hr,by simp,_,_,_,hrm,rfl⟩
   show (h.setIfInBounds bi _)[bi]? = _
   simp [hbs]
  ·exact .inr ⟨_,[.bool true,m'.key,m'.val],rfl,rfl,_,[m'.key,m'.val],rfl,.inl (.inl rfl),_,[m'.val],rfl,a3.2.1,_,[],rfl,a3.2.2.1,rfl⟩
theorem nxA_ok (hX:CxOk X) (S:SR X θ hp h) {e:E} (he:RE θ e ρ) {cl:CallT} {xo:Operand} (hd:okd C.n dst = true)
  (g:X.G ((nxA xo).f cl e hp q)) (hj:Kt X θ hp q fun w h'=>J (upo ρ dst w) h'):OpE C Q (.next xo false) ty dst J ρ h:=by
 unfold nxA at g
 simp only at g
 have hfalse:RV θ (.t [.b false]) (.tuple #[.bool false]):=.inr ⟨_,[.bool false],rfl,rfl,_,[],rfl,.inl (.inl rfl),rfl⟩
 split at g
 ·rename_i i hx
  have hxr:=qa1 he (x:=xo) (by rw [hx]; intro e; cases e)
  rw [hx] at hxr
  obtain ⟨bi,oi,ti,hri,e1⟩:=hxr.ra (v:=.p i 0) trivial
  split at g
  ·rename_i clk all todo cur hgi
   have h1:=S.rows i _ hri
   rw [hgi] at h1
   obtain ⟨mb,seen,f1,f2,f3,f4,f5⟩:=h1
   simp only at f1 f2 f5
   subst f5; subst f2
   refine OpE.of hd (v:=.tuple #[.bool false]) h (fun w hw pos after g=>⟨w,?_,hw,rfl,rfl,rfl⟩) (hj θ _ _ _ _ S (Ext.refl _ _) (Nat.le_refl _) hfalse g)
   subst hw
   simp [execOp,e1,Instr.next,run_getItH f1]
  ·rename_i m clk all todo cur hgi
   have h1:=S.rows i _ hri
   rw [hgi] at h1
   obtain ⟨mb,seen,f1,f2,f3,f4,bm,om,tm,f5,f6⟩:=h1
   simp only at f1 f2
   subst f6
   subst f2
   split at g
   ·rename_i kk clk2 es hgm
    obtain ⟨c,gg⟩:=qak hX.gd g
    obtain ⟨c1,c2⟩:=qaf c
    have:=ya c1
    subst this
    have hall:=eqNs_ok c2
    obtain ⟨ms,g1,g2,g3,g4⟩:=rowM_ok S f5 hgm
    rw [bns_eq g2] at hall
    have left_iff:∀ x:MapEntry,x ∈ (leftOf ms seen).toList ↔ x ∈ ms.toList∧x.born ∈ todo:=by
     intro x
     unfold leftOf
     have:x.born ∈ todo ↔ x.born ∈ all∧x.born ∉ seen.toList:=f3.2 x.born
     simp only [Array.toList_filter,List.mem_filter,Bool.not_eq_true',Array.contains_eq_mem,decide_eq_false_iff_not,Array.mem_toList_iff]
     constructor
     ·intro ⟨a,b⟩
      exact ⟨a,this.2 ⟨by rw [← hall]; exact List.mem_map.2 ⟨x,by simpa using a,rfl⟩,by simpa using b⟩⟩
     ·intro ⟨a,b⟩
      exact ⟨a,by simpa using (this.1 b).2⟩
    have some_left:∀ b ∈ todo,∃ x ∈ (leftOf ms seen).toList,x.born = b:=by
     intro b hb
     have h2:=((f3.2 b).1 hb).1
     rw [← hall,List.mem_map] at h2
     obtain ⟨x,hx,rfl⟩:=h2
     exact ⟨x,(left_iff x).2 ⟨hx,hb⟩,rfl⟩
    refine OpE.ofAny hd (fun w hw pos after _=>?_)
    have hit':w.heap[bi]? = some (.mapIter (some bm) clk seen clk):=by rw [hw]; exact f1
    have hb':w.heap[bm]? = some (.map ms clk):=by rw [hw]; exact g1
    have e1':ev ρ xo = .pointer (some ⟨bi,0,none⟩):=e1
    rcases run_next_at (P:=C.P) w ty bi bm clk clk seen ms clk hit' hb' g3 (Nat.le_refl _) with ⟨hz,hrun⟩ | ⟨x,hx,w1,hw1,hrun⟩
    ·have htodo:todo = []:=by
      cases todo with
      | nil=>rfl
      | cons b l=>
       obtain ⟨x,hx,_⟩:=some_left b List.mem_cons_self
       have:leftOf ms seen = #[]:=Array.eq_empty_of_size_eq_zero hz
       rw [this] at hx; cases hx
     subst htodo
     exact ⟨_,h,w,by simp [execOp,e1',hrun],hw,rfl,rfl,rfl,hj θ _ _ _ _ S (Ext.refl _ _) (Nat.le_refl _) hfalse gg⟩
    ·obtain ⟨hx1,hx2⟩:=(left_iff x).1 hx
     have hw1h:w1.heap = h:=by rcases hw1 with rfl | rfl <;> exact hw
     have key:∃ r:List Nat,(r.Nodup∧∀ b',b' ∈ r ↔ b' ∈ all∧b' ∉ (seen.push x.born).toList)∧X.G (nx1 i m clk all es hp q x.born r):=by
      have push_iff:∀ b',b' ∉ (seen.push x.born).toList ↔ b' ∉ seen.toList∧b' ≠ x.born:=by
       intro b'
       rw [Array.toList_push,List.mem_append,List.mem_singleton]
       exact ⟨fun h=>⟨fun a=>h (.inl a),fun a=>h (.inr a)⟩,fun h a=>a.elim h.1 h.2⟩
      have gen:∀ l1 l2,todo = l1 ++ x.born :: l2→((l1 ++ l2).Nodup∧∀ b',b' ∈ l1 ++ l2 ↔ b' ∈ all∧b' ∉ (seen.push x.born).toList):=by
       intro l1 l2 e
       have hn:=f3.1
       rw [e] at hn
       have hn2:=(List.perm_middle (a:=x.born) (l₁:=l1) (l₂:=l2)).nodup_iff.1 hn
       rw [List.nodup_cons] at hn2
       refine ⟨hn2.2,fun b'=>?_⟩
       rw [push_iff]
       have:=f3.2 b'
       rw [e] at this
       constructor
       ·intro hb
        have hb2:b' ∈ l1 ++ x.born :: l2:=by
         rcases List.mem_append.1 hb with h | h
         ·exact List.mem_append_left _ h
         ·exact List.mem_append_right _ (List.mem_cons_of_mem _ h)
        obtain ⟨a1,a2⟩:=this.1 hb2
        exact ⟨a1,a2,fun e=>hn2.1 (e ▸ hb)⟩
       ·intro ⟨a1,a2,a3⟩
        rcases List.mem_append.1 (this.2 ⟨a1,a2⟩) with h | h
        ·exact List.mem_append_left _ h
        ·rcases List.mem_cons.1 h with h | h
         ·exact absurd h a3
         ·exact List.mem_append_right _ h
      match todo,gg,hx2,gen with
      | [],_,hx2,_=>cases hx2
      | [b],g,hx2,gen=>
       rw [List.mem_singleton] at hx2
       subst hx2
       exact ⟨[],gen [] [] rfl,g⟩
      | a :: b :: l,g,hx2,gen=>
       have g:X.G (match hp.ro with | none=>.er 33 | some _=>frk (nx1 i m clk all es hp q) (a :: b :: l) []):=g
       have hro:X.ro ≠ none:=by
        rw [← S.ro]
        intro e; rw [e] at g; exact hX.gd.er _ g
       have g':X.G (frk (nx1 i m clk all es hp q) (a :: b :: l) []):=by
        revert g
        cases hro':hp.ro with
        | none=>rw [S.ro] at hro'; exact absurd hro' hro
        | some _=>exact id
       obtain ⟨l1,l2,e1,e2⟩:=frk_ok hX hro g' x.born hx2
       exact ⟨l1 ++ l2,gen l1 l2 e1,by simpa using e2⟩
     obtain ⟨r,hr,gr⟩:=key
     obtain ⟨hp',a,k1,k2,k3,k4⟩:=nx1_ok hX S hri f5 hgi hgm f1 rfl g1 g2 g4 hr gr hx1 rfl
     refine ⟨_,h.setIfInBounds bi (.mapIter (some bm) clk (seen.push x.born) clk),setBlock w1 bi (.mapIter (some bm) clk (seen.push x.born) clk),by simp [execOp,e1',hrun],by simp [setBlock,hw1h],?_,?_,?_,hj θ hp' _ _ _ k1 (Ext.refl _ _) k2 k3 k4⟩
     ·rcases hw1 with rfl | rfl <;> rfl
     ·rcases hw1 with rfl | rfl <;> rfl
     ·rcases hw1 with rfl | rfl <;> rfl
   ·exact (hX.gd.er _ g).elim
  ·exact (hX.gd.er _ g).elim
 ·exact (hX.gd.er _ g).elim
end
end Go.Vm
namespace Go.Vm
open Go Go.Sh
open Go.Sh.Ty (reg)
theorem rvT0 {θ:Th}:RV θ (.t []) (.tuple #[]):=.inr ⟨[],[],rfl,rfl,rfl⟩
theorem rvi {θ:Th} {n:Nat} (h:n≤4611686018427387904):RV θ (.i n) (goInt (n:Int)):=(wr_nat h).toRV
section
variable {C:Ctx} {ρ:Env} {h:H} {ty:TypeId} {Q:Exit→Act→World→Prop} {J:Env→H→Prop} {dst:Option Tmp} {X:Cx} {θ:Th} {hp:Hp} {T:Tb} {q:K1} {o:Op}
def Src (P:Program) (h:H) (V:Value) (sz m:Nat) (ys:List Value):Prop:=
 ys.length = m * sz∧ys.all (·.oneCell') = true∧∀ w:World,w.heap = h→(Builtin.lenOf V).run P w = .ok m w∧∀ c,c≤m→(Builtin.firstCells sz c V).run P w = .ok (ys.take (c * sz)).toArray w
theorem load0 {P:Program} {a:Addr} {w:World}:(loadCells a 0).run P w = .ok #[] w:=by simp [loadCells,loadCellsFrom]
theorem src_nil {P:Program} {V:Value} {sz c:Nat} {a:Option Addr} (e:V = .slice a 0 c):Src P h V sz 0 []:=by
 subst e
 refine ⟨by simp,rfl,fun w _=>⟨by simp [Builtin.lenOf],fun c' hc=>?_⟩⟩
 have:c' = 0:=by omega
 subst this
 cases a with
 | none=>simp [Builtin.firstCells]
 | some a=>simp [Builtin.firstCells,load0]
theorem src_at {P:Program} {V:Value} {sz n c:Nat} {a:Addr} {ys:List Value} (e:V = .slice (some a) n c) (hat:AtH h a ys) (hl:ys.length = n * sz) (h1:ys.all (·.oneCell') = true):Src P h V sz n ys:=by
 subst e
 refine ⟨hl,h1,fun w hw=>⟨by simp [Builtin.lenOf],fun c' hc=>?_⟩⟩
 have hle:c' * sz≤n * sz:=Nat.mul_le_mul_right _ hc
 have h2:AtH h a (ys.take (c' * sz)):=by
  obtain ⟨hs,arr,E,fr,hb,hcc⟩:=hat
  refine ⟨hs,arr,E,fr,hb,fun i v hi=>hcc i v ?_⟩
  rw [List.getElem?_take] at hi
  split at hi
  ·exact hi
  ·cases hi
 have:=qdj (P:=P) (s:=⟨some a,c',c⟩) (size:=sz) (cs:=ys.take (c' * sz)) (.inr ⟨a,rfl,h2,by rw [List.length_take,hl]; show min _ _ = c' * sz; omega⟩) hw
 exact this
theorem strC_byS (n x:Nat):strC (byS n x) = byV n x:=by
 unfold strC byS byV
 simp only [List.map_map]
 apply List.map_congr_left
 intro b hb
 show Value.int .u8 ((UInt8.ofNat b).toNat:Int) = bV b
 rw [UInt8.toNat_ofNat',Nat.mod_eq_of_lt (byL_lt hb)]; rfl
theorem src_str {P:Program} {V:Value} {n x:Nat} (e:V = .string (byS n x)):Src P h V 1 n (byV n x):=by
 subst e
 have h1:(byV n x).all (·.oneCell') = true:=by rw [← strC_byS]; exact strC_one _
 refine ⟨by rw [qc6]; omega,h1,fun w _=>⟨by simp [Builtin.lenOf,qea],fun c hc=>?_⟩⟩
 simp only [Builtin.firstCells,Sem.run_pure]
 congr 1
 apply Array.ext'
 rw [← strC_byS]
 simp [strC,reg,List.map_take]
theorem rdK_ok (hX:CxOk X) (S:SR X θ hp h) {r:Rid} {b o0 t:Nat} (hr:θ r = some (b,o0,t)) {o n:Nat} {k:CL AV→Ans} (g:X.G (rdK hp r o n k)):∃ l ys,RC θ l ys∧ys.length = n∧AtH h ⟨b,o0 + o,none⟩ ys∧X.G (k l):=by
 unfold rdK at g
 cases hg:getH hp r <;> rw [hg] at g <;> first | exact (hX.gd.er _ g).elim | skip
 rename_i L cs
 obtain ⟨vs,hat,hc,hl⟩:=qee S hr hg
 have g:X.G (bz (an (Nat.beq o 0) (Nat.beq n L)) (k cs) (bz (Nat.ble (Nat.add o n) L) (frC (ctk (cdr cs o) n) k) (.er 7))):=g
 cases c:an (Nat.beq o 0) (Nat.beq n L) with
 | true=>
  rw [c] at g
  obtain ⟨c1,c2⟩:=qaf c
  have:=ya c1; subst this
  have:=ya c2; subst this
  exact ⟨cs,vs,hc,hl,hat,g⟩
 | false=>
  rw [c] at g
  obtain ⟨c2,g⟩:=qak hX.gd (show X.G (bz (Nat.ble (Nat.add o n) L) (frC (ctk (cdr cs o) n) k) (.er 7)) from g)
  have c2:=yh c2
  have c2:o + n≤L:=c2
  have g:=frC_ok hX.gd g
  have ea:=qb8 b o0 o
  refine ⟨_,(vs.drop o).take n,ctk_ok (cdr_ok hc o (by omega)) n (by simp; omega),by simp; omega,?_,g⟩
  rw [← ea]; exact hat.sub o n
theorem srcK_ok (hX:CxOk X) (S:SR X θ hp h) {e:E} (he:RE θ e ρ) {x:Operand} {sz:Nat} {k:Nat→CL AV→Ans} (g:X.G (srcK ((gO x).f e) sz hp k)):∃ m ys l,RC θ l ys∧Src C.P h (ev ρ x) sz m ys∧X.G (k m l):=by
 have hne:(gO x).f e ≠ .er:=by intro e1; rw [e1] at g; exact hX.gd.er _ g
 have hx:=qa1 he hne
 revert g hx
 generalize (gO x).f e = a
 intro g hx
 cases a <;> first | exact (hX.gd.er _ g).elim | skip
 ·rename_i n u
  have g:X.G (bz (Nat.beq sz 1) (bz (Nat.beq n 0) (k 0 .nil) (k n (.cons n (.bs n u) .nil))) (.er 34)):=g
  obtain ⟨c,g⟩:=qak hX.gd g
  have:=ya c; subst this
  obtain ⟨h1,e1⟩:=hx.ra (v:=.s n u) trivial
  cases c:Nat.beq n 0 with
  | true=>
   rw [c] at g
   have:=ya c; subst this
   exact ⟨0,[],.nil,rfl,src_str (x:=u) e1,g⟩
  | false=>
   rw [c] at g
   have:=qcl c
   exact ⟨n,byV n u,.cons n (.bs n u) .nil,⟨byV n u,[],by simp,RW.bs (by omega) h1,rfl⟩,src_str e1,g⟩
 ·rename_i r o n z
  have g:X.G (bz (Nat.beq z sz) (bz (Nat.beq n 0) (k 0 .nil) (rdK hp r o (Nat.mul n sz) fun l=>k n l)) (.er 34)):=g
  obtain ⟨c,g⟩:=qak hX.gd g
  have:=ya c; subst this
  obtain ⟨b,o0,t,cc,hr,hz,hc,hn,e1⟩:=hx.ra (v:=.sl r o n z) trivial
  cases c:Nat.beq n 0 with
  | true=>
   rw [c] at g
   have:=ya c; subst this
   exact ⟨0,[],.nil,rfl,src_nil e1,g⟩
  | false=>
   rw [c] at g
   obtain ⟨l,ys,a1,a2,a3,g⟩:=rdK_ok hX S hr g
   exact ⟨n,ys,l,a1,src_at e1 a3 a2 a1.one,g⟩
 ·rename_i r o n c z
  have g:X.G (bz (Nat.beq z sz) (bz (Nat.beq n 0) (k 0 .nil) (rdK hp r o (Nat.mul n sz) fun l=>k n l)) (.er 34)):=g
  obtain ⟨c,g⟩:=qak hX.gd g
  have:=ya c; subst this
  obtain ⟨b,o0,t,hr,hz,hn,e1⟩:=hx.ra (v:=.sr r o n _ z) trivial
  cases c:Nat.beq n 0 with
  | true=>
   rw [c] at g
   have:=ya c; subst this
   exact ⟨0,[],.nil,rfl,src_nil e1,g⟩
  | false=>
   rw [c] at g
   obtain ⟨l,ys,a1,a2,a3,g⟩:=rdK_ok hX S hr g
   exact ⟨n,ys,l,a1,src_at e1 a3 a2 a1.one,g⟩
 ·rename_i r o z
  obtain ⟨b,o0,t,cc,hr,hz,hc,hv⟩:=hx.ra (v:=.se r o z) trivial
  rcases hv with ⟨rfl,p,hp',e1⟩ | ⟨hc0,e1⟩
  ·exact ⟨0,[],.nil,rfl,src_nil e1,g⟩
  ·exact ⟨0,[],.nil,rfl,src_nil e1,g⟩
 ·obtain ⟨p,hp',e1⟩:=hx.ra (v:=.sz) trivial
  exact ⟨0,[],.nil,rfl,src_nil e1,g⟩
 ·exact ⟨0,[],.nil,rfl,src_nil (hx.ra (v:=.sn) trivial),g⟩
theorem wrK_ok (hX:CxOk X) (S:SR X θ hp h) {r:Rid} {b o0 t:Nat} (hr:θ r = some (b,o0,t)) {o n:Nat} {l:CL AV} {ys:List Value} (hc:RC θ l ys) (hl:ys.length = n) {k:Hp→Ans} (g:X.G (wrK hp r o n l k)):
  ∃ hp',SR X θ hp' (putC h ⟨b,o0 + o,none⟩ ys)∧WAt h ⟨b,o0 + o,none⟩ ys.length∧tor hp'.nx = tor hp.nx∧X.G (k hp'):=by
 unfold wrK at g
 cases hg:getH hp r <;> rw [hg] at g <;> first | exact (hX.gd.er _ g).elim | skip
 rename_i L cs
 obtain ⟨c2,g3⟩:=qak hX.gd g
 have c2':o + n≤L:=yh c2
 have g4:=frC_ok hX.gd g3
 obtain ⟨hK,g5⟩:=S.K_none hX hr g4
 obtain ⟨vs,hat,hcs,hvl⟩:=qee S hr hg
 have ea:=qb8 b o0 o
 have hw:=rowC_w S hr hg
 have e1:=putC_field (h:=h) (p:=⟨b,o0,none⟩) (cs:=vs) (nv:=ys) o hat (by omega)
 rw [ea] at e1
 refine ⟨⟨uR hp.rows r (.c L (capp (ctk cs o) (capp l (cdr cs (Nat.add o n))))),hp.nx,hp.ro⟩,?_,?_,rfl,g5⟩
 ·rw [e1]
  refine rowC_put S hr hg hK ?_ (by simp; omega)
  rw [List.append_assoc]
  refine qdv (ctk_ok hcs _ (by omega)) (qdv hc ?_)
  have:=cdr_ok hcs (o + ys.length) (by omega)
  rw [hl] at this ⊢
  exact this
 ·rw [← ea]; exact hw.sub o _ (by omega)
end
section
variable {C:Ctx} {ρ:Env} {h:H} {ty:TypeId} {Q:Exit→Act→World→Prop} {J:Env→H→Prop} {dst:Option Tmp} {X:Cx} {θ:Th} {hp:Hp} {T:Tb} {q:K1} {o:Op}
theorem e_copyG {t u el sz:Nat} {dO xo:Operand} {a:Option Addr} {n c m:Nat} {ys:List Value} (hT:SlT C.P t el sz) (hs:ev ρ dO = .slice a n c) (hx:Src C.P h (ev ρ xo) sz m ys) (hd:okd C.n dst = true)
  (hw:∀ p,a = some p→WAt h p (min m n * sz)) (hj:J (upo ρ dst (goInt ((min m n:Nat):Int))) (match a with | some p=>putC h p (ys.take (min m n * sz)) | none=>h)):OpE C Q (.call ⟨.builtin .copy,#[dO,xo],#[t,u]⟩) ty dst J ρ h:=by
 obtain ⟨hl,h1,hrun⟩:=hx
 have hle:min m n * sz≤m * sz:=Nat.mul_le_mul_right _ (Nat.min_le_left _ _)
 have hlen:(ys.take (min m n * sz)).length = min m n * sz:=by rw [List.length_take,hl]; omega
 have h1':(ys.take (min m n * sz)).all (·.oneCell') = true:=by
  rw [List.all_eq_true] at h1 ⊢; exact fun v hv=>h1 v (List.mem_of_mem_take hv)
 refine OpE.ofAny hd (fun w hw' pos after g=>?_)
 obtain ⟨r1,r2⟩:=hrun w hw'
 have r2:=r2 (min m n) (Nat.min_le_left _ _)
 have hmin:Nat.min m n = min m n:=rfl
 cases a with
 | none=>
  refine ⟨goInt ((min m n:Nat):Int),h,w,?_,hw',rfl,rfl,rfl,hj⟩
  simp only [execOp,resolve,invoke,builtin,hs,Builtin.copy_,List.map_cons,List.map_nil,List.map_toArray]
  simp [run_underlying hT.1,Sh.run_sizeOf hT.2,r1,hmin,r2]
 | some p=>
  have hst:=qdw C.P (a:=p) (ys:=ys.take (min m n * sz)) (w:=w) (by rw [hw',hlen]; exact hw p rfl) h1'
  refine ⟨goInt ((min m n:Nat):Int),putC h p (ys.take (min m n * sz)),{ w with heap:=putC w.heap p (ys.take (min m n * sz)) },?_,by rw [hw'],rfl,rfl,rfl,hj⟩
  simp only [execOp,resolve,invoke,builtin,hs,Builtin.copy_,List.map_cons,List.map_nil,List.map_toArray]
  simp [run_underlying hT.1,Sh.run_sizeOf hT.2,r1,hmin,r2,hst]
theorem e_copy0 {t u el sz:Nat} {dO xo:Operand} {a:Option Addr} {n c m:Nat} {ys:List Value} (hT:SlT C.P t el sz) (hs:ev ρ dO = .slice a n c) (hx:Src C.P h (ev ρ xo) sz m ys) (hd:okd C.n dst = true)
  (h0:min m n = 0) (hj:J (upo ρ dst (goInt 0)) h):OpE C Q (.call ⟨.builtin .copy,#[dO,xo],#[t,u]⟩) ty dst J ρ h:=by
 obtain ⟨hl,h1,hrun⟩:=hx
 refine OpE.ofAny hd (fun w hw' pos after g=>?_)
 obtain ⟨r1,r2⟩:=hrun w hw'
 have r2:=r2 (min m n) (Nat.min_le_left _ _)
 have hmin:Nat.min m n = min m n:=rfl
 rw [h0,Nat.zero_mul,List.take_zero] at r2
 rw [h0] at hmin
 refine ⟨goInt 0,h,w,?_,hw',rfl,rfl,rfl,hj⟩
 cases a with
 | none=>
  simp only [execOp,resolve,invoke,builtin,hs,Builtin.copy_,List.map_cons,List.map_nil,List.map_toArray]
  simp [run_underlying hT.1,Sh.run_sizeOf hT.2,r1,hmin,r2]
 | some p=>
  simp only [execOp,resolve,invoke,builtin,hs,Builtin.copy_,List.map_cons,List.map_nil,List.map_toArray]
  simp [run_underlying hT.1,Sh.run_sizeOf hT.2,r1,hmin,r2,storeCells]
theorem cpE_ok (hX:CxOk X) (hT:TbOk C.P T) (S:SR X θ hp h) {e:E} (he:RE θ e ρ) {cl:CallT} {t u:Nat} {dO xo:Operand} (hd:okd C.n dst = true)
  (g:X.G ((cpE T t dO xo).f cl e hp q)) (hj:Kt X θ hp q fun w h'=>J (upo ρ dst w) h'):OpE C Q (.call ⟨.builtin .copy,#[dO,xo],#[t,u]⟩) ty dst J ρ h:=by
 unfold cpE at g
 split at g
 ·rename_i el sz hk
  obtain ⟨hu,hsz⟩:=tk_sl hT hk
  cases c1:Nat.ble 1 sz with
  | false=>rw [c1] at g; exact (hX.gd.er _ g).elim
  | true=>
   rw [c1] at g
   have h0:=yh c1
   have hsl:SlT C.P t el sz:=⟨hu,hT.size hsz h0⟩
   obtain ⟨m,ys,l,hl,hsrc,g⟩:=srcK_ok (C:=C) hX S he (k:=fun m xs=>cp2 ((gO dO).f e) sz m xs hp q) g
   have hne:(gO dO).f e ≠ .er:=by intro e1; rw [e1] at g; exact hX.gd.er _ g
   have hx:=qa1 he hne
   revert g hx
   generalize (gO dO).f e = a
   intro g hx
   have zero:∀ {a:Option Addr} {c:Nat},ev ρ dO = .slice a 0 c→X.G (q (.i 0) hp)→OpE C Q (.call ⟨.builtin .copy,#[dO,xo],#[t,u]⟩) ty dst J ρ h:=fun e1 g=>
    e_copy0 hsl e1 hsrc hd (Nat.min_zero _) (hj θ _ _ _ _ S (Ext.refl _ _) (Nat.le_refl _) (rvi (by decide)) g)
   have main:∀ {r:Rid} {b o0 tt o n c:Nat},θ r = some (b,o0,tt)→ev ρ dO = .slice (some ⟨b,o0 + o,none⟩) n c→X.G (cp1 r o n sz m l hp q)→OpE C Q (.call ⟨.builtin .copy,#[dO,xo],#[t,u]⟩) ty dst J ρ h:=by
    intro r b o0 tt o n c hr e1 g
    have g:X.G (bz (Nat.ble (min m n) 16777216) (bz (Nat.beq (min m n) 0) (q (.i 0) hp) (wrK hp r o (Nat.mul (min m n) sz) (ctk l (Nat.mul (min m n) sz)) fun h=>q (.i (min m n)) h)) (.er 38)):=g
    obtain ⟨cm,g⟩:=qak hX.gd g
    have cm:=yh cm
    cases c2:Nat.beq (min m n) 0 with
    | true=>
     rw [c2] at g
     exact e_copy0 hsl e1 hsrc hd (ya c2) (hj θ _ _ _ _ S (Ext.refl _ _) (Nat.le_refl _) (rvi (by decide)) g)
    | false=>
     rw [c2] at g
     have hle:min m n * sz≤m * sz:=Nat.mul_le_mul_right _ (Nat.min_le_left _ _)
     have hlen:(ys.take (min m n * sz)).length = min m n * sz:=by rw [List.length_take,hsrc.1]; omega
     obtain ⟨hp',S',hw,hnx,g⟩:=wrK_ok hX S hr (ctk_ok hl (min m n * sz) (by rw [hsrc.1]; exact hle)) hlen g
     exact e_copyG hsl e1 hsrc hd (fun p hp=>by injection hp with hp; subst hp; rw [← hlen]; exact hw) (hj θ _ _ _ _ S' (Ext.refl _ _) (by rw [hnx]; exact Nat.le_refl _) (rvi (by omega)) g)
   cases a <;> first | exact (hX.gd.er _ g).elim | skip
   ·rename_i r o n z
    have g:X.G (bz (Nat.beq z sz) (cp1 r o n sz m l hp q) (.er 38)):=g
    obtain ⟨_,g⟩:=qak hX.gd g
    obtain ⟨b,o0,tt,c,hr,hz,hc,hn,e1⟩:=hx.ra (v:=.sl r o n z) trivial
    exact main hr e1 g
   ·rename_i r o n c z
    have g:X.G (bz (Nat.beq z sz) (cp1 r o n sz m l hp q) (.er 38)):=g
    obtain ⟨_,g⟩:=qak hX.gd g
    obtain ⟨b,o0,tt,hr,hz,hn,e1⟩:=hx.ra (v:=.sr r o n c z) trivial
    exact main hr e1 g
   ·rename_i r o z
    obtain ⟨b,o0,tt,c,hr,hz,hc,hv⟩:=hx.ra (v:=.se r o z) trivial
    rcases hv with ⟨rfl,p,hp',e1⟩ | ⟨hc0,e1⟩
    ·exact zero e1 g
    ·exact zero e1 g
   ·obtain ⟨p,hp',e1⟩:=hx.ra (v:=.sz) trivial
    exact zero e1 g
   ·exact zero (hx.ra (v:=.sn) trivial) g
 ·exact (hX.gd.er _ g).elim
theorem e_clr0 {t el sz:Nat} {dO:Operand} {a:Option Addr} {n c:Nat} (hu:C.P.underlying t = some (.slice el)) (hs:ev ρ dO = .slice a n c) (hd:okd C.n dst = true) (h0:a = none∨n = 0) (hj:J (upo ρ dst (.tuple #[])) h):OpE C Q (.call ⟨.builtin .clear,#[dO],#[t]⟩) ty dst J ρ h:=by
 refine OpE.ofAny hd (fun w hw pos after g=>⟨.tuple #[],h,w,?_,hw,rfl,rfl,rfl,hj⟩)
 rcases h0 with rfl | rfl
 ·simp only [execOp,resolve,invoke,builtin,hs,Builtin.clear_,List.map_cons,List.map_nil,List.map_toArray]
  simp [run_underlying hu]
 ·cases a <;> (simp only [execOp,resolve,invoke,builtin,hs,Builtin.clear_,List.map_cons,List.map_nil,List.map_toArray]; simp [run_underlying hu])
theorem clE_ok (hX:CxOk X) (hT:TbOk C.P T) (S:SR X θ hp h) {e:E} (he:RE θ e ρ) {cl:CallT} {t:Nat} {dO:Operand} (hd:okd C.n dst = true)
  (g:X.G ((clE T t dO).f cl e hp q)) (hj:Kt X θ hp q fun w h'=>J (upo ρ dst w) h'):OpE C Q (.call ⟨.builtin .clear,#[dO],#[t]⟩) ty dst J ρ h:=by
 unfold clE at g
 split at g
 ·rename_i K el hk
  have hu:=tk_mp hT hk
  simp only at g
  split at g
  ·rename_i hx
   have hxr:=qa1 he (x:=dO) (by rw [hx]; intro e; cases e)
   rw [hx] at hxr
   have e1:ev ρ dO = .map none:=hxr.ra (v:=.mn) trivial
   refine OpE.ofAny hd (fun w hw pos after _=>⟨.tuple #[],h,w,?_,hw,rfl,rfl,rfl,hj θ _ _ _ _ S (Ext.refl _ _) (Nat.le_refl _) rvT0 g⟩)
   simp only [execOp,resolve,invoke,builtin,e1,Builtin.clear_,List.map_cons,List.map_nil,List.map_toArray]
   simp [run_underlying hu]
  ·rename_i r hx
   have hxr:=qa1 he (x:=dO) (by rw [hx]; intro e; cases e)
   rw [hx] at hxr
   obtain ⟨b,o0,tt,hr,e1⟩:=hxr.ra (v:=.m r) trivial
   cases hg:getH hp r <;> rw [hg] at g <;> first | exact (hX.gd.er _ g).elim | skip
   rename_i kk clk es
   obtain ⟨ms,g1,g2,g3,g4⟩:=rowM_ok S hr hg
   obtain ⟨hK,g5⟩:=S.K_none hX hr g
   have S':=qe2 S hr hg hK (clk':=clk) (es':=[]) (ms':=#[]) rfl (by simp) (by simp)
   refine OpE.of hd (v:=.tuple #[]) _ (fun w hw pos after _=>⟨{ w with heap:=h.setIfInBounds b (.map #[] clk) },?_,rfl,rfl,rfl,rfl⟩) (hj θ _ _ _ _ S' (Ext.refl _ _) (Nat.le_refl _) rvT0 g5)
   have hb':w.heap[b]? = some (.map ms clk):=by rw [hw]; exact g1
   simp only [execOp,resolve,invoke,builtin,e1,Builtin.clear_,List.map_cons,List.map_nil,List.map_toArray]
   simp [run_underlying hu,qbb hb',qcq _ hb',hw]
  ·exact (hX.gd.er _ g).elim
 ·rename_i el sz hk
  obtain ⟨hu,hsz⟩:=tk_sl hT hk
  cases c:an (zOk T el) (Nat.ble 1 sz) with
  | false=>rw [c] at g; exact (hX.gd.er _ g).elim
  | true=>
   rw [c] at g
   obtain ⟨c1,c2⟩:=qaf c
   have h0:=yh c2
   obtain ⟨z,hz,hzc⟩:=zero_ok hT (θ:=θ) c1
   have hzl:z.length = sz:=(zero_len c1 hzc).trans hsz
   have main:∀ {r:Rid} {b o0 tt o n c:Nat},θ r = some (b,o0,tt)→ev ρ dO = .slice (some ⟨b,o0 + o,none⟩) n c→X.G (bz (Nat.beq n 0) (q (.t []) hp) (wrK hp r o (Nat.mul n sz) (repl (zeroC T el) n) fun h=>q (.t []) h))→OpE C Q (.call ⟨.builtin .clear,#[dO],#[t]⟩) ty dst J ρ h:=by
    intro r b o0 tt o n c hr e1 g
    cases c3:Nat.beq n 0 with
    | true=>
     rw [c3] at g
     exact e_clr0 (sz:=sz) hu e1 hd (.inr (ya c3)) (hj θ _ _ _ _ S (Ext.refl _ _) (Nat.le_refl _) rvT0 g)
    | false=>
     rw [c3] at g
     have hn:=qcl c3
     have hlen:(List.replicate n z).flatten.length = n * sz:=by simp [hzl]
     obtain ⟨hp',S',hw,hnx,gg⟩:=wrK_ok hX S hr (repl_ok hzc n) hlen g
     have hone:(List.replicate n z).flatten.all (·.oneCell') = true:=(repl_ok hzc n).one
     obtain ⟨i,zv,hi,hzv,hzcv⟩:=hz
     obtain ⟨n',rfl⟩:∃ n',n = n' + 1:=⟨n - 1,by omega⟩
     have hzf:=qe9 z (n' + 1)
     refine OpE.ofAny hd (fun w hw' pos after _=>?_)
     have hst:=qdw C.P (a:=⟨b,o0 + o,none⟩) (ys:=(List.replicate (n' + 1) z).flatten) (w:=w) (by rw [hw']; exact hw) hone
     refine ⟨.tuple #[],putC h ⟨b,o0 + o,none⟩ (List.replicate (n' + 1) z).flatten,{ w with heap:=putC w.heap ⟨b,o0 + o,none⟩ (List.replicate (n' + 1) z).flatten },?_,by rw [hw'],rfl,rfl,rfl,hj θ _ _ _ _ S' (Ext.refl _ _) (by rw [hnx]; exact Nat.le_refl _) rvT0 gg⟩
     simp only [execOp,resolve,invoke,builtin,e1,Builtin.clear_,List.map_cons,List.map_nil,List.map_toArray]
     simp [run_underlying hu,zeroValue,typeInfo,hi,hzv,hzcv,hzf,hst]
   have zero:∀ {a:Option Addr} {n c:Nat},ev ρ dO = .slice a n c→(a = none∨n = 0)→X.G (q (.t []) hp)→OpE C Q (.call ⟨.builtin .clear,#[dO],#[t]⟩) ty dst J ρ h:=fun e1 h0 g=>
    e_clr0 (sz:=sz) hu e1 hd h0 (hj θ _ _ _ _ S (Ext.refl _ _) (Nat.le_refl _) rvT0 g)
   simp only [cond_true] at g
   have hne:(gO dO).f e ≠ .er:=by intro e1; rw [e1] at g; exact hX.gd.er _ g
   have hx:=qa1 he hne
   revert g hx
   generalize (gO dO).f e = a
   intro g hx
   cases a <;> first | exact (hX.gd.er _ g).elim | skip
   ·rename_i r o n z
    obtain ⟨_,g⟩:=qak hX.gd g
    obtain ⟨b,o0,tt,c,hr,hz,hc,hn,e1⟩:=hx.ra (v:=.sl r o n z) trivial
    exact main hr e1 g
   ·rename_i r o n c z
    obtain ⟨_,g⟩:=qak hX.gd g
    obtain ⟨b,o0,tt,hr,hz,hn,e1⟩:=hx.ra (v:=.sr r o n c z) trivial
    exact main hr e1 g
   ·rename_i r o z
    obtain ⟨b,o0,tt,c,hr,hz,hc,hv⟩:=hx.ra (v:=.se r o z) trivial
    rcases hv with ⟨rfl,p,hp',e1⟩ | ⟨hc0,e1⟩
    ·exact zero e1 (.inr rfl) g
    ·exact zero e1 (.inr rfl) g
   ·obtain ⟨p,hp',e1⟩:=hx.ra (v:=.sz) trivial
    exact zero e1 (.inr rfl) g
   ·exact zero (hx.ra (v:=.sn) trivial) (.inl rfl) g
 ·exact (hX.gd.er _ g).elim
end
section
variable {C:Ctx} {ρ:Env} {h:H} {ty:TypeId} {Q:Exit→Act→World→Prop} {J:Env→H→Prop} {dst:Option Tmp} {X:Cx} {θ:Th} {hp:Hp} {T:Tb} {q:K1} {o:Op}
theorem cvL_ok (hX:CxOk X) (hT:TbOk C.P T) (S:SR X θ hp h) {e:E} (he:RE θ e ρ) {cl:CallT} {s d el sz:Nat} {xo:Operand} (hk:tkT T d = .sl el sz) (hd:okd C.n dst = true)
  (g:X.G ((cvL T xo (tkT T s) el sz).f cl e hp q)) (hj:Kt X θ hp q fun w h'=>J (upo ρ dst w) h'):OpE C Q (.convert s d xo) ty dst J ρ h:=by
 obtain ⟨hu,_⟩:=tk_sl hT hk
 cases hks:tkT T s with
 | str=>
  rw [hks] at g
  have hus:=tk_str hT hks
  unfold cvL at g
  simp only at g
  cases c:an (Nat.beq sz 1) (u8T T el) with
  | false=>rw [c] at g; exact (hX.gd.er _ g).elim
  | true=>
   rw [c] at g
   obtain ⟨_,c2⟩:=qaf c
   have he8:=u8T_ok hT c2
   simp only [cond_true] at g
   cases hx:(gO xo).f e <;> simp only [hx] at g <;> first | exact (hX.gd.er _ g).elim | skip
   rename_i n x
   have hxr:=qa1 he (x:=xo) (by rw [hx]; intro e; cases e)
   rw [hx] at hxr
   obtain ⟨h1,e1⟩:=hxr.ra (v:=.s n x) trivial
   refine OpE.ofAny hd (fun w hw pos after _=>?_)
   have hrun:=run_bytes_of_string (P:=C.P) w s d el (byS n x) hus hu he8
   have hcap:=grownCap_ge w (byS n x).size 0 el
   rw [qea] at hrun hcap
   revert hrun hcap
   generalize grownCap w n 0 el = cap
   intro hrun hcap
   have hrow:(bytesRow (byS n x) cap).toList = byV n x ++ List.replicate (cap - n) (.int .u8 0):=by
    unfold bytesRow
    rw [qea,Array.toList_append,Array.toList_replicate,← strC_byS]
    simp [strC,reg]
   have hsz:(bytesRow (byS n x) cap).size = cap:=by
    rw [← Array.length_toList,hrow,List.length_append,qc6,List.length_replicate]; omega
   have hrc:RC θ (bc (Nat.beq n 0) .nil (.cons n (.bs n x) .nil)) (byV n x):=by
    cases c:Nat.beq n 0 with
    | true=>have:=ya c; subst this; rfl
    | false=>have:=qcl c; exact ⟨byV n x,[],by simp,RW.bs (by omega) h1,rfl⟩
   obtain ⟨θ',hp',f1,f2,f3,f4,f5⟩:=newO_ok S hX (row:=.c n (bc (Nat.beq n 0) .nil (.cons n (.bs n x) .nil))) (obj:=.cells (bytesRow (byS n x) cap) el ((bytesRow (byS n x) cap).size,(bytesRow (byS n x) cap).size + 1)) (0,cap)
    (fun θ' hh=>⟨_,_,_,byV n x,push_at,by rw [hsz]; simp,hcap,.inr (Nat.le_refl _),RC.mono hh hrc,qc6 n x,by
     show ((bytesRow (byS n x) cap).toList.drop 0).take n = byV n x
     rw [hrow,List.drop_zero,List.take_left' (qc6 n x)]⟩) (k:=fun r h=>q (.sl r 0 n 1) h) g
   refine ⟨.slice (some ⟨w.heap.size,0,none⟩) n cap,h.push (.cells (bytesRow (byS n x) cap) el ((bytesRow (byS n x) cap).size,(bytesRow (byS n x) cap).size + 1)),w.drew.alloc (.cells (bytesRow (byS n x) cap) el ((bytesRow (byS n x) cap).size,(bytesRow (byS n x) cap).size + 1)),?_,by rw [← hw]; rfl,rfl,rfl,rfl,?_⟩
   ·simp only [execOp,e1,Sem.run_bind,hrun,Result.andThen_ok,Sem.run_pure]
   rw [hw]
   exact hj θ' hp' _ _ _ f2 f3 f4 (rv_sl (o:=0) (c:=cap) f1 (by decide) (by simp) hcap) f5
 | _=>rw [hks] at g; exact (hX.gd.er _ g).elim
theorem cvM_ok (hX:CxOk X) (hT:TbOk C.P T) (S:SR X θ hp h) {e:E} (he:RE θ e ρ) {cl:CallT} {s d el sz el2 sz2:Nat} {xo:Operand} (hk:tkT T d = .sl el sz) (hks:tkT T s = .sl el2 sz2) (hd:okd C.n dst = true)
  (g:X.G ((cvM T xo s d el sz).f cl e hp q)) (hj:Kt X θ hp q fun w h'=>J (upo ρ dst w) h'):OpE C Q (.convert s d xo) ty dst J ρ h:=by
 obtain ⟨hu,hsz⟩:=tk_sl hT hk
 unfold cvM at g
 cases c:an (Nat.beq s d) (an (Nat.beq sz 1) (u8T T el)) with
 | false=>rw [c] at g; exact (hX.gd.er _ g).elim
 | true=>
  rw [c] at g
  obtain ⟨c1,c2⟩:=qaf c
  obtain ⟨c3,c4⟩:=qaf c2
  have:=ya c1
  subst this
  have he8:=u8T_ok hT c4
  have hs1:=ya c3
  subst hs1
  simp only [cond_true] at g
  cases hx:(gO xo).f e <;> simp only [hx] at g <;> first | exact (hX.gd.er _ g).elim | skip
  rename_i r o n z
  have hxr:=qa1 he (x:=xo) (by rw [hx]; intro e; cases e)
  rw [hx] at hxr
  obtain ⟨b,o0,tt,cc,hr,hz,hc,hn,e1⟩:=hxr.ra (v:=.sl r o n z) trivial
  cases hg:getH hp r <;> simp only [hg] at g <;> first | exact (hX.gd.er _ g).elim | skip
  rename_i L cs
  obtain ⟨arr,E,fr,vs,h1,h2,h3,h4,h5,h6,h7⟩:=rowC_ok S hr hg
  have hb:b < h.size:=by rw [Array.getElem?_eq_some_iff] at h1; exact h1.1
  have efr:frz h b = h.setIfInBounds b (.cells arr E (if fr.1 == fr.2 then (arr.size,arr.size + 1) else (min fr.1 arr.size,max fr.2 (arr.size + 1)))):=by unfold frz; rw [h1]
  have S':SR X θ hp (frz h b):=by
   refine S.heap hr (by rw [hg]; trivial) (by rw [efr]; simp) (fun b' hb'=>by rw [efr,Array.getElem?_setIfInBounds_ne (Ne.symm hb')]) ?_
   rw [hg]
   refine ⟨arr,E,(if fr.1 == fr.2 then (arr.size,arr.size + 1) else (min fr.1 arr.size,max fr.2 (arr.size + 1))),vs,by rw [efr]; show (h.setIfInBounds b _)[b]? = _; simp [hb],h2,h3,.inr ?_,h5,h6,h7⟩
   by_cases e:fr.1 = fr.2
   ·simp [e]
   ·have e2:(fr.1 == fr.2) = false:=by simpa using e
    rw [e2]
    rcases h4 with h4 | h4
    ·exact absurd h4 e
    ·show arr.size≤min fr.1 arr.size
     omega
  have hsl:ev ρ xo = reg (⟨some ⟨b,o0 + o,none⟩,n,cc⟩:Sl):=e1
  refine e_strish (s:=⟨some ⟨b,o0 + o,none⟩,n,cc⟩) (k:=fun s h'=>s = ⟨some ⟨b,o0 + o,none⟩,n,cc⟩∧h' = frz h b) ⟨hu,hT.size hsz (by decide)⟩ he8 hsl hd ⟨_,arr,E,fr,rfl,h1,rfl,rfl⟩ (fun h' r' hh=>?_)
  obtain ⟨rfl,rfl⟩:=hh
  exact hj θ _ _ _ _ S' (Ext.refl _ _) (Nat.le_refl _) (rv_sl hr hz hc hn) g
end
end Go.Vm

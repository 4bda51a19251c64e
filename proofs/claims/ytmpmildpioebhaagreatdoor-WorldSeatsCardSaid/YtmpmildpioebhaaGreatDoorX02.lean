/-
  The statement WorldSeats (law 23): a seat whose power goes off is gone, and comes back with nothing lost. Part 2 of 27. No condition stands ahead of the statement. Parts of this text were printed by a program of ours.
-/
import Derived.Test.YtmpmildpioebhaaGreatDoorX01
set_option linter.all false
set_option maxRecDepth 100000
set_option maxHeartbeats 4000000
noncomputable section
namespace Go.Sh
open Go
class Ty (α:Type) where
 reg:α→Value
open Go.Sh.Ty (reg)
def enc {α:Type} [Ty α] (x:α):List Value:=(reg x).cells.toList
instance:Ty Int:=⟨fun n=>.int .i64 n⟩
instance:Ty Bool:=⟨fun b=>.bool b⟩
instance:Ty UInt8:=⟨fun b=>.int .u8 (b.toNat:Int)⟩
instance:Ty UInt32:=⟨fun b=>.int .u32 (b.toNat:Int)⟩
instance:Ty UInt64:=⟨fun b=>.int .u64 (b.toNat:Int)⟩
instance:Ty ByteArray:=⟨fun s=>.string s⟩
structure Sl where
 a:Option Addr
 len:Nat
 cap:Nat
deriving DecidableEq
instance:Ty Sl:=⟨fun s=>.slice s.a s.len s.cap⟩
def Sl.nil:Sl:=⟨none,0,0⟩
abbrev Pt:=Option Addr
instance:Ty (Option Addr):=⟨fun p=>.pointer p⟩
structure Mp where
 r:Option Nat
deriving DecidableEq
instance:Ty Mp:=⟨fun m=>.map m.r⟩
structure Fl where
 b:Nat
deriving DecidableEq
instance:Ty Fl:=⟨fun m=>.float .f64 m.b⟩
structure Cx where
 re:Nat
 im:Nat
deriving DecidableEq
instance:Ty Cx:=⟨fun m=>.complex .f64 m.re m.im⟩
instance:Ty Unit:=⟨fun _=>.tuple #[]⟩
structure T2 (α β:Type) where
 a:α
 b:β
instance {α β:Type} [Ty α] [Ty β]:Ty (T2 α β):=⟨fun m=>.tuple #[reg m.a,reg m.b]⟩
structure T3 (α β γ:Type) where
 a:α
 b:β
 c:γ
instance {α β γ:Type} [Ty α] [Ty β] [Ty γ]:Ty (T3 α β γ):=⟨fun m=>.tuple #[reg m.a,reg m.b,reg m.c]⟩
abbrev Arr (n:Nat) (α:Type):=Fin n→α
abbrev Dig:=Arr 32 UInt8
instance instTyArr {n:Nat} {α:Type} [Ty α]:Ty (Arr n α):=⟨fun x=>.agg (List.ofFn fun i=>reg (x i)).toArray⟩
structure ArrA (n:Nat) (α:Type) where
 f:Fin n→α
instance {n:Nat} {α:Type} [Ty α]:Ty (ArrA n α):=⟨fun x=>.agg (List.ofFn fun i=>enc (x.f i)).flatten.toArray⟩
def AtH (h:H) (p:Addr) (cs:List Value):Prop:=
 p.spot = none∧∃ arr T fr,h[p.block]? = some (.cells arr T fr)∧∀ i v,cs[i]? = some v→arr[p.off + i]? = some v
theorem AtH.sub {h:H} {p:Addr} {cs:List Value} (H:AtH h p cs) (off n:Nat):AtH h (p.add off) ((cs.drop off).take n):=by
 obtain ⟨hs,arr,T,fr,hb,hc⟩:=H
 refine ⟨?_,arr,T,fr,?_,fun i v hi=>?_⟩
 ·unfold Addr.add; split <;> simp_all
 ·unfold Addr.add; split <;> simp_all
 ·have:cs[off + i]? = some v:=by
   rw [List.getElem?_take] at hi
   split at hi
   ·simpa [List.getElem?_drop] using hi
   ·cases hi
  have:=hc _ _ this
  unfold Addr.add
  split
  ·rename_i h0; subst h0; simpa using this
  ·simp only; rw [← Nat.add_assoc] at this; exact this
theorem cell?_of {h:H} {w:World} (hw:w.heap = h) {p:Addr} {cs:List Value} (H:AtH h p cs) {i:Nat} {v:Value} (hi:cs[i]? = some v):w.cell? (p.add i) = some v:=by
 obtain ⟨hs,arr,T,fr,hb,hc⟩:=H
 have h1:=hc i v hi
 subst hw
 by_cases h0:i = 0
 ·subst h0
  simp only [Nat.add_zero] at h1
  simp [World.cell?,Addr.add,hb,hs,h1]
 ·simp [World.cell?,Addr.add,h0,hb,h1]
def IsAgg (P:Program) (t:TypeId) (n:Nat):Prop:=(∃ d,P.underlying t = some d∧((∃ x,d = .struct x)∨∃ m e,d = .array m e))∧∃ i,P.info? t = some i∧i.size = n
def NotAgg (P:Program) (t:TypeId):Prop:=∃ d,P.underlying t = some d∧(match d with | .struct _ | .array _ _=>False | _=>True)
def SizeOf (P:Program) (t:TypeId) (n:Nat):Prop:=∃ i,P.info? t = some i∧i.size = n
def FldAt (P:Program) (s:TypeId) (f off:Nat):Prop:=∃ fs x n,P.underlying s = some (.struct fs)∧fs[f]? = some x∧x.offset = off∧SizeOf P x.type (n + 1)
def ArrT (P:Program) (t:TypeId) (n:Nat) (e:TypeId) (size:Nat):Prop:=P.underlying t = some (.array n e)∧SizeOf P e size
def SlT (P:Program) (t:TypeId) (e:TypeId) (size:Nat):Prop:=P.underlying t = some (.slice e)∧SizeOf P e size
theorem qf0 {P:Program} {t:TypeId} {n:Nat} (h:IsAgg P t n) (w:World):(isAgg t).run P w = .ok true w:=by
 obtain ⟨⟨d,hd,hx⟩,_⟩:=h
 rcases hx with ⟨x,rfl⟩ | ⟨m,e,rfl⟩ <;> simp [isAgg,run_underlying hd]
theorem qe3 {P:Program} {t:TypeId} (h:NotAgg P t) (w:World):(isAgg t).run P w = .ok false w:=by
 obtain ⟨d,hd,hx⟩:=h
 cases d <;> simp_all [isAgg,run_underlying hd]
theorem run_sizeOf {P:Program} {t:TypeId} {n:Nat} (h:SizeOf P t n) (w:World):(sizeOf t).run P w = .ok n w:=by
 obtain ⟨i,hi,rfl⟩:=h
 simp [sizeOf,typeInfo,hi]
theorem IsAgg.size {P:Program} {t:TypeId} {n:Nat} (h:IsAgg P t n):SizeOf P t n:=h.2
section
variable {C:Ctx} {ρ:Env} {h:H} {ty:TypeId}
theorem qu {x:Operand} {v:Value} (hx:ev ρ x = v):OpVal C (.move x) ty ρ h v:=by
 intro w hw pos after g d; simp [execOp,hx]
theorem qad {x:Operand} {v:Value} (hx:ev ρ x = v):OpVal C (.assign x) ty ρ h v:=by
 intro w hw pos after g d; simp [execOp,hx]
theorem v_pick {c x y:Operand} {b:Bool} {v u:Value} (hc:ev ρ c = .bool b) (hx:ev ρ x = v) (hy:ev ρ y = u):OpVal C (.pick c x y) ty ρ h (if b then v else u):=by
 intro w hw pos after g d; simp [execOp,hc,hx,hy,asBool]
theorem qd4 {c x y:Operand} {a b:Bool} (hc:ev ρ c = .bool a) (hx:a = true→ev ρ x = .bool b) (hy:ev ρ y = .bool false):OpVal C (.pick c x y) ty ρ h (reg (a && b)):=by
 intro w hw pos after g d; cases a <;> simp_all [execOp,asBool,reg]
theorem qb2 {c x y:Operand} {a b:Bool} (hc:ev ρ c = .bool a) (hx:ev ρ x = .bool true) (hy:a = false→ev ρ y = .bool b):OpVal C (.pick c x y) ty ρ h (reg (a || b)):=by
 intro w hw pos after g d; cases a <;> simp_all [execOp,asBool,reg]
theorem qv {x:Operand} {p:Addr} (hx:ev ρ x = .pointer (some p)):OpVal C (.nilCheck x) ty ρ h (.pointer (some p)):=by
 intro w hw pos after g d; simp [execOp,hx]
def iadd (a b:Int):Int:=IntKind.i64.wrap (a + b)
def isub (a b:Int):Int:=IntKind.i64.wrap (a - b)
def imul (a b:Int):Int:=IntKind.i64.wrap (a * b)
def iquo (a b:Int):Int:=IntKind.i64.wrap (a.tdiv b)
def irem (a b:Int):Int:=a.tmod b
theorem qbp {x y:Operand} {a b:Int} {T T':TypeId} (hx:ev ρ x = .int .i64 a) (hy:ev ρ y = .int .i64 b):OpVal C (.binOp .add T x y T') ty ρ h (reg (iadd a b)):=by
 intro w hw pos after g d; simp [execOp,hx,hy,eqGuard,binOp,Op.intArith,reg,iadd]
theorem v_isub {x y:Operand} {a b:Int} {T T':TypeId} (hx:ev ρ x = .int .i64 a) (hy:ev ρ y = .int .i64 b):OpVal C (.binOp .sub T x y T') ty ρ h (reg (isub a b)):=by
 intro w hw pos after g d; simp [execOp,hx,hy,eqGuard,binOp,Op.intArith,reg,isub]
theorem v_imul {x y:Operand} {a b:Int} {T T':TypeId} (hx:ev ρ x = .int .i64 a) (hy:ev ρ y = .int .i64 b):OpVal C (.binOp .mul T x y T') ty ρ h (reg (imul a b)):=by
 intro w hw pos after g d; simp [execOp,hx,hy,eqGuard,binOp,Op.intArith,reg,imul]
theorem v_iquo {x y:Operand} {a b:Int} {T T':TypeId} (hx:ev ρ x = .int .i64 a) (hy:ev ρ y = .int .i64 b) (h0:b ≠ 0):OpVal C (.binOp .quo T x y T') ty ρ h (reg (iquo a b)):=by
 intro w hw pos after g d; simp [execOp,hx,hy,eqGuard,binOp,Op.intDiv,reg,iquo,h0]
theorem v_irem {x y:Operand} {a b:Int} {T T':TypeId} (hx:ev ρ x = .int .i64 a) (hy:ev ρ y = .int .i64 b) (h0:b ≠ 0):OpVal C (.binOp .rem T x y T') ty ρ h (reg (irem a b)):=by
 intro w hw pos after g d; simp [execOp,hx,hy,eqGuard,binOp,Op.intDiv,reg,irem,h0]
theorem qeh {x y:Operand} {k:IntKind} {a b:Int} {T T':TypeId} (hx:ev ρ x = .int k a) (hy:ev ρ y = .int k b):OpVal C (.binOp .eql T x y T') ty ρ h (reg (a == b)):=by
 intro w hw pos after g d; simp [execOp,hx,hy,eqGuard,binOp,Op.intCmp,reg]
theorem qdz {x y:Operand} {k:IntKind} {a b:Int} {T T':TypeId} (hx:ev ρ x = .int k a) (hy:ev ρ y = .int k b):OpVal C (.binOp .neq T x y T') ty ρ h (reg (a != b)):=by
 intro w hw pos after g d; simp [execOp,hx,hy,eqGuard,binOp,Op.intCmp,reg]
theorem qax {x y:Operand} {k:IntKind} {a b:Int} {T T':TypeId} (hx:ev ρ x = .int k a) (hy:ev ρ y = .int k b):OpVal C (.binOp .lss T x y T') ty ρ h (reg (decide (a < b))):=by
 intro w hw pos after g d; simp [execOp,hx,hy,eqGuard,binOp,Op.intCmp,reg]
theorem v_ileq {x y:Operand} {k:IntKind} {a b:Int} {T T':TypeId} (hx:ev ρ x = .int k a) (hy:ev ρ y = .int k b):OpVal C (.binOp .leq T x y T') ty ρ h (reg (decide (a≤b))):=by
 intro w hw pos after g d; simp [execOp,hx,hy,eqGuard,binOp,Op.intCmp,reg]
theorem qd6 {x y:Operand} {k:IntKind} {a b:Int} {T T':TypeId} (hx:ev ρ x = .int k a) (hy:ev ρ y = .int k b):OpVal C (.binOp .gtr T x y T') ty ρ h (reg (decide (b < a))):=by
 intro w hw pos after g d; simp [execOp,hx,hy,eqGuard,binOp,Op.intCmp,reg]
theorem v_igeq {x y:Operand} {k:IntKind} {a b:Int} {T T':TypeId} (hx:ev ρ x = .int k a) (hy:ev ρ y = .int k b):OpVal C (.binOp .geq T x y T') ty ρ h (reg (decide (b≤a))):=by
 intro w hw pos after g d; simp [execOp,hx,hy,eqGuard,binOp,Op.intCmp,reg]
def ishl (a:Int) (n:Nat):Int:=IntKind.i64.wrap (a * 2 ^ (min n 64))
theorem v_ishl {x y:Operand} {k:IntKind} {a b:Int} {T T':TypeId} (hx:ev ρ x = .int .i64 a) (hy:ev ρ y = .int k b) (h0:0≤b):OpVal C (.binOp .shl T x y T') ty ρ h (reg (ishl a b.toNat)):=by
 intro w hw pos after g d; simp [execOp,hx,hy,eqGuard,binOp,Op.shift,reg,ishl,show ¬ b < 0 by omega,IntKind.bits]
theorem v_not {x:Operand} {T:TypeId} {b:Bool} (hx:ev ρ x = .bool b):OpVal C (.unOp .not T x) ty ρ h (reg (!b)):=by
 intro w hw pos after g d; simp [execOp,hx,Op.unary,reg]
theorem qar {x:Operand} {vs:Array Value} {i:Nat} {v:Value} (hx:ev ρ x = .tuple vs) (hv:vs[i]? = some v):OpVal C (.extract x i) ty ρ h v:=by
 intro w hw pos after g d; simp [execOp,hx,Instr.extract,hv]
theorem qd {x:Operand} {s:TypeId} {f off:Nat} {p:Addr} (hf:FldAt C.P s f off) (hx:ev ρ x = .pointer (some p)):OpVal C (.fieldAddr s x f) ty ρ h (.pointer (some (p.add off))):=by
 obtain ⟨fs,y,n,hu,hy,rfl,hsz⟩:=hf
 intro w hw pos after g d; simp [execOp,hx,Instr.fieldAt,run_underlying hu,hy,Instr.sureAddr,fieldPlace,run_sizeOf hsz]
theorem v_load1 {x:Operand} {T:TypeId} {p:Addr} {cs:List Value} {v:Value} (off:Nat) (hT:NotAgg C.P T) (hx:ev ρ x = .pointer (some (p.add off))) (hat:AtH h p cs) (hv:cs[off]? = some v):OpVal C (.load T x) ty ρ h v:=by
 intro w hw pos after g d; simp [execOp,hx,Instr.loadAt,Instr.sureAddr,loadVar,qe3 hT,cell?_of hw hat hv]
theorem v_loadA {x:Operand} {T:TypeId} {p:Addr} {cs cs':List Value} {n:Nat} (off:Nat) (hT:IsAgg C.P T n) (hx:ev ρ x = .pointer (some (p.add off))) (hat:AtH h p cs) (hv:(cs.drop off).take n = cs') (hl:cs'.length = n):OpVal C (.load T x) ty ρ h (.agg cs'.toArray):=by
 intro w hw pos after g d
 have hs:=hat.sub off n
 rw [hv] at hs
 have:=run_loadCells_list (P:=C.P) (w:=w) (p.add off) cs' (fun j v hj=>cell?_of hw hs hj)
 rw [hl] at this
 simp [execOp,hx,Instr.loadAt,Instr.sureAddr,loadVar,qf0 hT,run_sizeOf hT.size,this]
theorem wrap_u32 (n:Nat):IntKind.u32.wrap (n:Int) = ((UInt32.ofNat n).toNat:Int):=by
 simp only [IntKind.wrap,IntKind.signed,IntKind.bits,Bool.false_and,Bool.false_eq_true,if_false,UInt32.toNat_ofNat']
 omega
theorem wrap_u64 (n:Nat):IntKind.u64.wrap (n:Int) = ((UInt64.ofNat n).toNat:Int):=by
 simp only [IntKind.wrap,IntKind.signed,IntKind.bits,Bool.false_and,Bool.false_eq_true,if_false,UInt64.toNat_ofNat']
 omega
def toU8 (n:Int):UInt8:=UInt8.ofNat (n % 256).toNat
def toU32 (n:Int):UInt32:=UInt32.ofNat (n % 4294967296).toNat
def toU64 (n:Int):UInt64:=UInt64.ofNat (n % 18446744073709551616).toNat
theorem wrap_toU8 (n:Int):IntKind.u8.wrap n = ((toU8 n).toNat:Int):=by
 simp only [IntKind.wrap,IntKind.signed,IntKind.bits,Bool.false_and,Bool.false_eq_true,if_false,UInt8.toNat_ofNat',toU8]
 omega
theorem wrap_toU32 (n:Int):IntKind.u32.wrap n = ((toU32 n).toNat:Int):=by
 simp only [IntKind.wrap,IntKind.signed,IntKind.bits,Bool.false_and,Bool.false_eq_true,if_false,UInt32.toNat_ofNat',toU32]
 omega
theorem wrap_toU64 (n:Int):IntKind.u64.wrap n = ((toU64 n).toNat:Int):=by
 simp only [IntKind.wrap,IntKind.signed,IntKind.bits,Bool.false_and,Bool.false_eq_true,if_false,UInt64.toNat_ofNat',toU64]
 omega
theorem qeg {x y:Operand} {a b:UInt32} {T T':TypeId} (hx:ev ρ x = reg a) (hy:ev ρ y = reg b):OpVal C (.binOp .add T x y T') ty ρ h (reg (a + b)):=by
 intro w hw pos after g d
 simp only [reg] at hx hy
 have e:IntKind.u32.wrap ((a.toNat:Int) + b.toNat) = ((a + b).toNat:Int):=by
  have:=wrap_u32 (a.toNat + b.toNat)
  rw [Int.natCast_add] at this
  rw [this,UInt32.toNat_add,UInt32.toNat_ofNat']
 simp [execOp,hx,hy,eqGuard,binOp,Op.intArith,reg,e]
theorem bv_u32 (a:UInt32):BitVec.ofInt 32 (a.toNat:Int) = a.toBitVec:=by
 apply BitVec.eq_of_toNat_eq
 simp
theorem wrap_of_u32 (a:UInt32):IntKind.u32.wrap (a.toNat:Int) = (a.toNat:Int):=by
 rw [wrap_u32,UInt32.ofNat_toNat]
theorem intBits_and32 (a b:UInt32):Op.intBits .and .u32 (a.toNat:Int) (b.toNat:Int) = pure (reg (a &&& b)):=by
 have h:Op.intBits .and .u32 (a.toNat:Int) (b.toNat:Int) = pure (.int .u32 (IntKind.u32.wrap ((BitVec.ofInt 32 (a.toNat:Int) &&& BitVec.ofInt 32 (b.toNat:Int)).toNat:Int))):=rfl
 rw [h,bv_u32,bv_u32]
 exact congrArg (fun n=>pure (Value.int .u32 n)) (wrap_of_u32 (a &&& b))
theorem intBits_or32 (a b:UInt32):Op.intBits .or .u32 (a.toNat:Int) (b.toNat:Int) = pure (reg (a ||| b)):=by
 have h:Op.intBits .or .u32 (a.toNat:Int) (b.toNat:Int) = pure (.int .u32 (IntKind.u32.wrap ((BitVec.ofInt 32 (a.toNat:Int) ||| BitVec.ofInt 32 (b.toNat:Int)).toNat:Int))):=rfl
 rw [h,bv_u32,bv_u32]
 exact congrArg (fun n=>pure (Value.int .u32 n)) (wrap_of_u32 (a ||| b))
theorem intBits_xor32 (a b:UInt32):Op.intBits .xor .u32 (a.toNat:Int) (b.toNat:Int) = pure (reg (a ^^^ b)):=by
 have h:Op.intBits .xor .u32 (a.toNat:Int) (b.toNat:Int) = pure (.int .u32 (IntKind.u32.wrap ((BitVec.ofInt 32 (a.toNat:Int) ^^^ BitVec.ofInt 32 (b.toNat:Int)).toNat:Int))):=rfl
 rw [h,bv_u32,bv_u32]
 exact congrArg (fun n=>pure (Value.int .u32 n)) (wrap_of_u32 (a ^^^ b))
theorem v_and32 {x y:Operand} {a b:UInt32} {T T':TypeId} (hx:ev ρ x = reg a) (hy:ev ρ y = reg b):OpVal C (.binOp .and T x y T') ty ρ h (reg (a &&& b)):=by
 intro w hw pos after g d
 have hx':ev ρ x = .int .u32 (a.toNat:Int):=hx
 have hy':ev ρ y = .int .u32 (b.toNat:Int):=hy
 simp [execOp,hx',hy',eqGuard,binOp,intBits_and32]
theorem v_or32 {x y:Operand} {a b:UInt32} {T T':TypeId} (hx:ev ρ x = reg a) (hy:ev ρ y = reg b):OpVal C (.binOp .or T x y T') ty ρ h (reg (a ||| b)):=by
 intro w hw pos after g d
 have hx':ev ρ x = .int .u32 (a.toNat:Int):=hx
 have hy':ev ρ y = .int .u32 (b.toNat:Int):=hy
 simp [execOp,hx',hy',eqGuard,binOp,intBits_or32]
theorem qel {x y:Operand} {a b:UInt32} {T T':TypeId} (hx:ev ρ x = reg a) (hy:ev ρ y = reg b):OpVal C (.binOp .xor T x y T') ty ρ h (reg (a ^^^ b)):=by
 intro w hw pos after g d
 have hx':ev ρ x = .int .u32 (a.toNat:Int):=hx
 have hy':ev ρ y = .int .u32 (b.toNat:Int):=hy
 simp [execOp,hx',hy',eqGuard,binOp,intBits_xor32]
theorem v_not32 {x:Operand} {a:UInt32} {T:TypeId} (hx:ev ρ x = reg a):OpVal C (.unOp .xor T x) ty ρ h (reg ((-1) ^^^ a:UInt32)):=by
 intro w hw pos after g d
 have hx':ev ρ x = .int .u32 (a.toNat:Int):=hx
 have h:Op.intBits .xor .u32 4294967295 (a.toNat:Int) = pure (reg ((-1) ^^^ a:UInt32)):=intBits_xor32 (-1) a
 have e:(if IntKind.u32.signed = true then -1 else IntKind.u32.max) = 4294967295:=rfl
 simp [execOp,hx',Op.unary,e,h]
theorem bv_u64 (a:UInt64):BitVec.ofInt 64 (a.toNat:Int) = a.toBitVec:=by
 apply BitVec.eq_of_toNat_eq
 simp
theorem wrap_of_u64 (a:UInt64):IntKind.u64.wrap (a.toNat:Int) = (a.toNat:Int):=by
 rw [wrap_u64,UInt64.ofNat_toNat]
theorem intBits_and64 (a b:UInt64):Op.intBits .and .u64 (a.toNat:Int) (b.toNat:Int) = pure (reg (a &&& b)):=by
 have h:Op.intBits .and .u64 (a.toNat:Int) (b.toNat:Int) = pure (.int .u64 (IntKind.u64.wrap ((BitVec.ofInt 64 (a.toNat:Int) &&& BitVec.ofInt 64 (b.toNat:Int)).toNat:Int))):=rfl
 rw [h,bv_u64,bv_u64]
 exact congrArg (fun n=>pure (Value.int .u64 n)) (wrap_of_u64 (a &&& b))
theorem v_and64 {x y:Operand} {a b:UInt64} {T T':TypeId} (hx:ev ρ x = reg a) (hy:ev ρ y = reg b):OpVal C (.binOp .and T x y T') ty ρ h (reg (a &&& b)):=by
 intro w hw pos after g d
 have hx':ev ρ x = .int .u64 (a.toNat:Int):=hx
 have hy':ev ρ y = .int .u64 (b.toNat:Int):=hy
 simp [execOp,hx',hy',eqGuard,binOp,intBits_and64]
def shl32 (a:UInt32) (n:Nat):UInt32:=UInt32.ofNat (a.toNat * 2 ^ (min n 32))
def shr32 (a:UInt32) (n:Nat):UInt32:=UInt32.ofNat (a.toNat / 2 ^ (min n 32))
def shl64 (a:UInt64) (n:Nat):UInt64:=UInt64.ofNat (a.toNat * 2 ^ (min n 64))
def shr64 (a:UInt64) (n:Nat):UInt64:=UInt64.ofNat (a.toNat / 2 ^ (min n 64))
theorem fdiv_pow (a n:Nat):(a:Int).fdiv (2 ^ n) = ((a / 2 ^ n:Nat):Int):=by
 rw [show ((2:Int) ^ n) = ((2 ^ n:Nat):Int) by simp,Int.fdiv_eq_ediv_of_nonneg _ (Int.natCast_nonneg _)]
 rfl
theorem v_shl32 {x y:Operand} {a:UInt32} {k:IntKind} {b:Int} {T T':TypeId} (hx:ev ρ x = reg a) (hy:ev ρ y = .int k b) (h0:0≤b):OpVal C (.binOp .shl T x y T') ty ρ h (reg (shl32 a b.toNat)):=by
 intro w hw pos after g d
 simp only [reg] at hx
 have e:IntKind.u32.wrap ((a.toNat:Int) * 2 ^ (min b.toNat 32)) = ((shl32 a b.toNat).toNat:Int):=by
  rw [show (a.toNat:Int) * 2 ^ (min b.toNat 32) = ((a.toNat * 2 ^ (min b.toNat 32):Nat):Int) by simp,wrap_u32]; rfl
 simp [execOp,hx,hy,eqGuard,binOp,Op.shift,reg,show ¬ b < 0 by omega,IntKind.bits,e]
theorem v_shr32 {x y:Operand} {a:UInt32} {k:IntKind} {b:Int} {T T':TypeId} (hx:ev ρ x = reg a) (hy:ev ρ y = .int k b) (h0:0≤b):OpVal C (.binOp .shr T x y T') ty ρ h (reg (shr32 a b.toNat)):=by
 intro w hw pos after g d
 simp only [reg] at hx
 have e:(shr32 a b.toNat).toNat = a.toNat / 2 ^ (min b.toNat 32):=by
  rw [shr32,UInt32.toNat_ofNat',Nat.mod_eq_of_lt]
  exact Nat.lt_of_le_of_lt (Nat.div_le_self _ _) a.toNat_lt
 simp [execOp,hx,hy,eqGuard,binOp,Op.shift,reg,show ¬ b < 0 by omega,IntKind.bits,fdiv_pow,e]
theorem v_shl64 {x y:Operand} {a:UInt64} {k:IntKind} {b:Int} {T T':TypeId} (hx:ev ρ x = reg a) (hy:ev ρ y = .int k b) (h0:0≤b):OpVal C (.binOp .shl T x y T') ty ρ h (reg (shl64 a b.toNat)):=by
 intro w hw pos after g d
 simp only [reg] at hx
 have e:IntKind.u64.wrap ((a.toNat:Int) * 2 ^ (min b.toNat 64)) = ((shl64 a b.toNat).toNat:Int):=by
  rw [show (a.toNat:Int) * 2 ^ (min b.toNat 64) = ((a.toNat * 2 ^ (min b.toNat 64):Nat):Int) by simp,wrap_u64]; rfl
 simp [execOp,hx,hy,eqGuard,binOp,Op.shift,reg,show ¬ b < 0 by omega,IntKind.bits,e]
theorem v_shr64 {x y:Operand} {a:UInt64} {k:IntKind} {b:Int} {T T':TypeId} (hx:ev ρ x = reg a) (hy:ev ρ y = .int k b) (h0:0≤b):OpVal C (.binOp .shr T x y T') ty ρ h (reg (shr64 a b.toNat)):=by
 intro w hw pos after g d
 simp only [reg] at hx
 have e:(shr64 a b.toNat).toNat = a.toNat / 2 ^ (min b.toNat 64):=by
  rw [shr64,UInt64.toNat_ofNat',Nat.mod_eq_of_lt]
  exact Nat.lt_of_le_of_lt (Nat.div_le_self _ _) a.toNat_lt
 simp [execOp,hx,hy,eqGuard,binOp,Op.shift,reg,show ¬ b < 0 by omega,IntKind.bits,fdiv_pow,e]
theorem v_conv_u8 {x:Operand} {k:IntKind} {n:Int} {T T':TypeId} {d':TypeDesc} (hs:C.P.underlying T = some d') (hT:C.P.underlying T' = some (.int .u8)) (hx:ev ρ x = .int k n):OpVal C (.convert T T' x) ty ρ h (reg (toU8 n)):=by
 intro w hw pos after g d
 cases d' <;> simp [execOp,hx,convert,run_underlying hs,run_underlying hT,Conv.intToInt,reg,wrap_toU8]
theorem v_conv_u32 {x:Operand} {k:IntKind} {n:Int} {T T':TypeId} {d':TypeDesc} (hs:C.P.underlying T = some d') (hT:C.P.underlying T' = some (.int .u32)) (hx:ev ρ x = .int k n):OpVal C (.convert T T' x) ty ρ h (reg (toU32 n)):=by
 intro w hw pos after g d
 cases d' <;> simp [execOp,hx,convert,run_underlying hs,run_underlying hT,Conv.intToInt,reg,wrap_toU32]
theorem v_conv_u64 {x:Operand} {k:IntKind} {n:Int} {T T':TypeId} {d':TypeDesc} (hs:C.P.underlying T = some d') (hT:C.P.underlying T' = some (.int .u64)) (hx:ev ρ x = .int k n):OpVal C (.convert T T' x) ty ρ h (reg (toU64 n)):=by
 intro w hw pos after g d
 cases d' <;> simp [execOp,hx,convert,run_underlying hs,run_underlying hT,Conv.intToInt,reg,wrap_toU64]
def fnear (n:Int):Fl:=⟨FloatKind.f64.nearest n⟩
theorem v_conv_fl {x:Operand} {k:IntKind} {n:Int} {T T':TypeId} {d':TypeDesc} (hs:C.P.underlying T = some d') (hT:C.P.underlying T' = some (.float .f64)) (hx:ev ρ x = .int k n):OpVal C (.convert T T' x) ty ρ h (reg (fnear n)):=by
 intro w hw pos after g d
 cases d' <;> simp [execOp,hx,convert,run_underlying hs,run_underlying hT,Conv.intToFloat,reg,fnear]
def fcut (x:Fl):Option Int:=match (FloatKind.f64.decode x.b).toInt .zero with
 | some n=>if IntKind.i64.min≤n∧n≤IntKind.i64.max then some n else none
 | none=>none
theorem v_conv_cut {x:Operand} {f:Fl} {n:Int} {T T':TypeId} {k':FloatKind} (hs:C.P.underlying T = some (.float k')) (hT:C.P.underlying T' = some (.int .i64)) (hx:ev ρ x = reg f) (hn:fcut f = some n):OpVal C (.convert T T' x) ty ρ h (reg n):=by
 intro w hw pos after g d
 have hx':ev ρ x = .float .f64 f.b:=hx
 have hc:Conv.floatToInt .f64 f.b .i64 = pure (reg n):=by
  unfold fcut at hn
  unfold Conv.floatToInt
  split at hn
  ·rename_i m hm
   split at hn
   ·rename_i hr
    obtain rfl:=Option.some.inj hn
    rw [hm]
    exact if_pos hr
   ·cases hn
  ·cases hn
 simp [execOp,hx',convert,run_underlying hs,run_underlying hT,hc]
def flt (x y:Fl):Bool:=FloatKind.f64.format.order x.b y.b == some .lt
def fle (x y:Fl):Bool:=FloatKind.f64.format.order x.b y.b == some .lt || FloatKind.f64.format.order x.b y.b == some .eq
def fge (x y:Fl):Bool:=FloatKind.f64.format.order x.b y.b == some .gt || FloatKind.f64.format.order x.b y.b == some .eq
def feq (x y:Fl):Bool:=FloatKind.f64.format.order x.b y.b == some .eq
theorem v_fleq {x y:Operand} {a b:Fl} {T T':TypeId} (hx:ev ρ x = reg a) (hy:ev ρ y = reg b):OpVal C (.binOp .leq T x y T') ty ρ h (reg (fle a b)):=by
 intro w hw pos after g d; simp only [reg] at hx hy; simp [execOp,hx,hy,eqGuard,binOp,Op.floatCmp,reg,fle]
theorem v_fgeq {x y:Operand} {a b:Fl} {T T':TypeId} (hx:ev ρ x = reg a) (hy:ev ρ y = reg b):OpVal C (.binOp .geq T x y T') ty ρ h (reg (fge a b)):=by
 intro w hw pos after g d; simp only [reg] at hx hy; simp [execOp,hx,hy,eqGuard,binOp,Op.floatCmp,reg,fge]
theorem v_feql {x y:Operand} {a b:Fl} {T T':TypeId} (hx:ev ρ x = reg a) (hy:ev ρ y = reg b):OpVal C (.binOp .eql T x y T') ty ρ h (reg (feq a b)):=by
 intro w hw pos after g d; simp only [reg] at hx hy; simp [execOp,hx,hy,eqGuard,binOp,Op.floatCmp,reg,feq]
def fadd (x y:Fl):Option Fl:=(FloatKind.f64.format.add x.b y.b).map Fl.mk
theorem v_fadd {x y:Operand} {a b c:Fl} {T T':TypeId} (hx:ev ρ x = reg a) (hy:ev ρ y = reg b) (hc:fadd a b = some c):OpVal C (.binOp .add T x y T') ty ρ h (reg c):=by
 intro w hw pos after g d; simp only [reg] at hx hy
 unfold fadd at hc
 rw [Option.map_eq_some_iff] at hc
 obtain ⟨r,hr,rfl⟩:=hc
 simp [execOp,hx,hy,eqGuard,binOp,Op.floatArith,reg,hr]
end
end Go.Sh

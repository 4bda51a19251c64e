/-
  The statement WorldSeats (law 23): a seat whose power goes off is gone, and comes back with nothing lost. Part 14 of 27. No condition stands ahead of the statement. Parts of this text were printed by a program of ours.
-/
import Derived.Test.YtmpmildpioebhaaGreatDoorX10
import Derived.Laws.BytesString
set_option linter.all false
set_option maxRecDepth 100000
set_option maxHeartbeats 4000000
noncomputable section
namespace Go.Proofs.YtmpmildpioebhaaGreatDoor
open Go Go.Sh
open Go.Sh.Ty (reg)
abbrev D64:Ieee.Format:=Ieee.double
theorem d64:FloatKind.f64.format = D64:=rfl
theorem lp64:D64.leastPlace = -1074:=by decide
theorem bn64:D64.binade = 2 ^ 52:=rfl
theorem inf64:D64.infRung = 2047 * 2 ^ 52:=rfl
theorem sw64:D64.signWeight = 2 ^ 63:=rfl
theorem log2_scaled (c s:Nat) (h0:0 < c):(c * 2 ^ s).log2 = c.log2 + s:=by
 have hp:0 < 2 ^ s:=Nat.two_pow_pos s
 have h1:c * 2 ^ s ≠ 0:=Nat.ne_of_gt (Nat.mul_pos h0 hp)
 have l1:=Nat.log2_self_le (Nat.ne_of_gt h0)
 have l2:=Nat.lt_log2_self (n:=c)
 apply Nat.le_antisymm
 ·apply Nat.le_of_lt_succ
  rw [Nat.log2_lt h1]
  rw [show (c.log2 + s).succ = (c.log2 + 1) + s by omega,Nat.pow_add]
  exact (Nat.mul_lt_mul_right hp).2 l2
 ·rw [Nat.le_log2 h1,Nat.pow_add]
  exact Nat.mul_le_mul_right _ l1
theorem cut_exact (n:Nat) (d:Nat) (hn:0 < n):Ieee.Toward.even.cut false (n * 2 ^ d) d = n:=by
 unfold Ieee.Toward.cut
 have hl:min d ((n * 2 ^ d).log2 + 2) = d:=by rw [log2_scaled n d hn]; omega
 simp only [hl]
 rw [Nat.shiftLeft_eq,Nat.one_mul]
 have hp:0 < 2 ^ d:=Nat.two_pow_pos d
 rw [Nat.mul_mod_left,Nat.mul_div_cancel _ hp]
 have:¬ (2 ^ d < 2 * 0):=by omega
 have h2:(2 ^ d == 2 * 0) = false:=by rw [beq_eq_false_iff_ne]; omega
 simp
theorem log2_le (c:Nat) (h0:0 < c) (h1:c < 2 ^ 53):c.log2≤52:=by
 have:=(Nat.log2_lt (k:=53) (Nat.ne_of_gt h0)).2 h1
 omega
theorem near_scaled (c s:Nat) (h0:0 < c) (h1:c < 2 ^ 53):D64.nearest false (c * 2 ^ s) (-(s:Int)) = (1022 + c.log2) * 2 ^ 52 + c * 2 ^ (52 - c.log2):=by
 have hL:=log2_le c h0 h1
 have hp:0 < 2 ^ s:=Nat.two_pow_pos s
 unfold Ieee.Format.nearest
 rw [if_neg (Nat.ne_of_gt (Nat.mul_pos h0 hp)),log2_scaled c s h0,lp64,bn64,inf64]
 have hlast:max (-(s:Int) + ((c.log2 + s:Nat):Int) - (D64.fractionBits:Int)) (-1074) = (c.log2:Int) - 52:=by
  rw [show (D64.fractionBits:Int) = 52 from rfl]; omega
 simp only [hlast]
 have hk:Ieee.Toward.even.cut false ((c * 2 ^ s) <<< (-(s:Int) - ((c.log2:Int) - 52)).toNat) (((c.log2:Int) - 52) - -(s:Int)).toNat = c * 2 ^ (52 - c.log2):=by
  rw [Nat.shiftLeft_eq,Nat.mul_assoc,← Nat.pow_add]
  have e:s + (-(s:Int) - ((c.log2:Int) - 52)).toNat = (52 - c.log2) + (((c.log2:Int) - 52) - -(s:Int)).toNat:=by omega
  rw [e,Nat.pow_add,← Nat.mul_assoc]
  exact cut_exact _ _ (Nat.mul_pos h0 (Nat.two_pow_pos _))
 rw [hk]
 have e2:((c.log2:Int) - 52 - -1074).toNat = 1022 + c.log2:=by omega
 rw [e2]
 have hlt:c * 2 ^ (52 - c.log2) < 2 ^ 53:=by
  have l2:=Nat.lt_log2_self (n:=c)
  calc c * 2 ^ (52 - c.log2) < 2 ^ (c.log2 + 1) * 2 ^ (52 - c.log2):=(Nat.mul_lt_mul_right (Nat.two_pow_pos _)).2 l2
   _ = 2 ^ 53:=by rw [← Nat.pow_add]; congr 1; omega
 have:min ((1022 + c.log2) * 2 ^ 52 + c * 2 ^ (52 - c.log2)) (2047 * 2 ^ 52) = (1022 + c.log2) * 2 ^ 52 + c * 2 ^ (52 - c.log2):=by omega
 rw [this]
 rfl
theorem read_scaled (c:Nat) (h0:0 < c) (h1:c < 2 ^ 53):D64.read ((1022 + c.log2) * 2 ^ 52 + c * 2 ^ (52 - c.log2)) = .number false (c * 2 ^ (52 - c.log2)) (-((52 - c.log2:Nat):Int)):=by
 have hL:=log2_le c h0 h1
 have hlt:c * 2 ^ (52 - c.log2) < 2 ^ 53:=by
  have l2:=Nat.lt_log2_self (n:=c)
  calc c * 2 ^ (52 - c.log2) < 2 ^ (c.log2 + 1) * 2 ^ (52 - c.log2):=(Nat.mul_lt_mul_right (Nat.two_pow_pos _)).2 l2
   _ = 2 ^ 53:=by rw [← Nat.pow_add]; congr 1; omega
 have hge:2 ^ 52≤c * 2 ^ (52 - c.log2):=by
  have l1:=Nat.log2_self_le (Nat.ne_of_gt h0)
  calc 2 ^ 52 = 2 ^ c.log2 * 2 ^ (52 - c.log2):=by rw [← Nat.pow_add]; congr 1; omega
   _≤c * 2 ^ (52 - c.log2):=Nat.mul_le_mul_right _ l1
 generalize hM:c * 2 ^ (52 - c.log2) = M at *
 generalize c.log2 = L at *
 unfold Ieee.Format.read
 rw [lp64,bn64,inf64,sw64]
 have hw:((1022 + L) * 2 ^ 52 + M) / 2 ^ 63 = 0:=Nat.div_eq_of_lt (by omega)
 have hr:((1022 + L) * 2 ^ 52 + M) % 2 ^ 63 = (1022 + L) * 2 ^ 52 + M:=Nat.mod_eq_of_lt (by omega)
 simp only [hw,hr]
 rw [if_neg (by omega),if_pos (by omega)]
 have hd:((1022 + L) * 2 ^ 52 + M) / 2 ^ 52 = 1023 + L:=by omega
 have hm:((1022 + L) * 2 ^ 52 + M) % 2 ^ 52 = M - 2 ^ 52:=by omega
 rw [hd,hm]
 have e1:2 ^ 52 + (M - 2 ^ 52) = M:=by omega
 have e2:(-1074:Int) + ((1023 + L - 1:Nat):Int) = -((52 - L:Nat):Int):=by omega
 rw [e1,e2]
 rfl
def FlIs (w c:Nat):Prop:=∃ s:Nat,D64.read w = .number false (c * 2 ^ s) (-(s:Int))
theorem flIs_near (c s:Nat) (h1:c < 2 ^ 53):FlIs (D64.nearest false (c * 2 ^ s) (-(s:Int))) c:=by
 rcases Nat.eq_zero_or_pos c with rfl | h0
 ·rw [Nat.zero_mul]
  have e:D64.nearest false 0 (-(s:Int)) = 0:=rfl
  rw [e]
  obtain ⟨u,hu⟩:∃ u:Nat,u = 1074:=⟨_,rfl⟩
  refine ⟨u,?_⟩
  rw [Nat.zero_mul,hu]; decide
 ·rw [near_scaled c s h0 h1]
  exact ⟨_,read_scaled c h0 h1⟩
theorem qez (n:Nat) (h:n < 2 ^ 53):FlIs (fnear (n:Int)).b n:=by
 have:=flIs_near n 0 h
 simp only [Nat.pow_zero,Nat.mul_one] at this
 show FlIs (D64.nearest _ _ _) n
 have e:decide ((n:Int) < 0) = false:=by simp
 rw [e]
 simpa using this
theorem qfq (m u:Nat):Ieee.signed false m u = ((m * 2 ^ u:Nat):Int):=by simp [Ieee.signed,Nat.shiftLeft_eq]
theorem order_is {w v a b:Nat} (hw:FlIs w a) (hv:FlIs v b):D64.order w v = some (compare (a:Int) (b:Int)):=by
 obtain ⟨s,hs⟩:=hw
 obtain ⟨t,ht⟩:=hv
 unfold Ieee.Format.order
 rw [hs,ht]
 simp only [Ieee.Datum.order,qfq]
 congr 1
 rw [Nat.mul_assoc,Nat.mul_assoc,← Nat.pow_add,← Nat.pow_add]
 have e1:s + (-(s:Int) - min (-(s:Int)) (-(t:Int))).toNat = max s t:=by omega
 have e2:t + (-(t:Int) - min (-(s:Int)) (-(t:Int))).toNat = max s t:=by omega
 rw [e1,e2]
 have hp:0 < 2 ^ max s t:=Nat.two_pow_pos _
 generalize 2 ^ max s t = q at *
 have hq:(0:Int) < q:=by omega
 simp only [compare,compareOfLessAndEq]
 have c1:((a:Int) * q < b * q) ↔ ((a:Int) < b):=Int.mul_lt_mul_right hq
 have c2:((a:Int) * q = b * q) ↔ ((a:Int) = b):=Int.mul_eq_mul_right_iff (by omega)
 simp only [Int.natCast_mul,c1,c2]
theorem fcut_is {f:Fl} {a:Nat} (hf:FlIs f.b a) (h:a < 2 ^ 63):fcut f = some (a:Int):=by
 obtain ⟨s,hs⟩:=hf
 unfold fcut
 have e:FloatKind.f64.decode f.b = .number false (a * 2 ^ s) (-(s:Int)):=hs
 rw [e]
 have e2:Ieee.Datum.toInt .zero (.number false (a * 2 ^ s) (-(s:Int))) = some (a:Int):=by
  unfold Ieee.Datum.toInt Ieee.Datum.integral
  simp only [qfq,Nat.pow_zero,Nat.mul_one,Int.neg_neg]
  congr 2
  have h0:(-(s:Int)).toNat = 0:=by omega
  have h1:((s:Int)).toNat = s:=by omega
  rw [h0,h1,Nat.shiftLeft_zero]
  unfold Ieee.Toward.cut
  rcases Nat.eq_zero_or_pos a with rfl | ha
  ·simp
  ·have hl:min s ((a * 2 ^ s).log2 + 2) = s:=by rw [log2_scaled a s ha]; omega
   simp only [hl]
   rw [Nat.shiftLeft_eq,Nat.one_mul,Nat.mul_div_cancel _ (Nat.two_pow_pos s)]
   simp
 rw [e2]
 simp only
 rw [if_pos ?_]
 simp only [IntKind.min,IntKind.max,IntKind.signed,IntKind.bits]
 constructor <;> (first | (simp; done) | (simp; omega) | omega)
theorem fadd_is {f g:Fl} {a b:Nat} (hf:FlIs f.b a) (hg:FlIs g.b b) (h:a + b < 2 ^ 53):∃ r,fadd f g = some r∧FlIs r.b (a + b):=by
 obtain ⟨s,hs⟩:=hf
 obtain ⟨t,ht⟩:=hg
 have key:D64.add f.b g.b = some (D64.nearest false ((a + b) * 2 ^ max s t) (-((max s t:Nat):Int))):=by
  unfold Ieee.Format.add
  rw [hs,ht]
  simp only [Ieee.Datum.sum,qfq,Option.map_some]
  have e0:min (-(s:Int)) (-(t:Int)) = -((max s t:Nat):Int):=by omega
  rw [e0]
  rw [Nat.mul_assoc,Nat.mul_assoc,← Nat.pow_add,← Nat.pow_add]
  have e1:s + (-(s:Int) - -((max s t:Nat):Int)).toNat = max s t:=by omega
  have e2:t + (-(t:Int) - -((max s t:Nat):Int)).toNat = max s t:=by omega
  rw [e1,e2]
  have e3:((a * 2 ^ max s t:Nat):Int) + ((b * 2 ^ max s t:Nat):Int) = (((a + b) * 2 ^ max s t:Nat):Int):=by rw [Nat.add_mul,Int.natCast_add]
  rw [e3]
  have e4:(if (((a + b) * 2 ^ max s t:Nat):Int) = 0 then (false && false) else decide ((((a + b) * 2 ^ max s t:Nat):Int) < 0)) = false:=by
   split
   ·rfl
   ·exact decide_eq_false (by omega)
  rw [e4,Int.natAbs_natCast]
  rfl
 refine ⟨⟨_⟩,by unfold fadd; rw [d64,key]; rfl,flIs_near _ _ h⟩
theorem cmp_of {a b:Int}:(compare a b = .lt ↔ a < b)∧(compare a b = .eq ↔ a = b)∧(compare a b = .gt ↔ b < a):=by
 simp only [compare,compareOfLessAndEq]
 split
 ·simp; omega
 ·split
  ·simp; omega
  ·simp; omega
section
variable {x y:Fl} {a b:Nat}
theorem feq_is (hx:FlIs x.b a) (hy:FlIs y.b b):feq x y = decide (a = b):=by
 unfold feq; rw [d64,order_is hx hy,Bool.eq_iff_iff]; simp [cmp_of.2.1]; omega
theorem fge_is (hx:FlIs x.b a) (hy:FlIs y.b b):fge x y = decide (b≤a):=by
 unfold fge; rw [d64,order_is hx hy,Bool.eq_iff_iff]; simp [cmp_of.2.1,cmp_of.2.2]; omega
theorem fle_is (hx:FlIs x.b a) (hy:FlIs y.b b):fle x y = decide (a≤b):=by
 unfold fle; rw [d64,order_is hx hy,Bool.eq_iff_iff]; simp [cmp_of.2.1,cmp_of.1]; omega
end
theorem cut_near (c d:Nat) (hd:d≤c.log2 + 2) (h1:2 ^ 52≤c / 2 ^ d) (h2:c / 2 ^ d < 2 ^ 53):∃ k,Ieee.Toward.even.cut false c d = k∧2 ^ 52≤k∧k≤2 ^ 53:=by
 refine ⟨_,rfl,?_⟩
 unfold Ieee.Toward.cut
 rw [Nat.min_eq_left hd]
 simp only [Nat.shiftLeft_eq,Nat.one_mul]
 generalize (decide (2 ^ d < 2 * (c % 2 ^ d)) || (2 ^ d == 2 * (c % 2 ^ d) && c / 2 ^ d % 2 == 1)) = bb
 have:bb.toNat≤1:=Bool.toNat_le bb
 generalize 2 ^ 52 = q at *
 omega
theorem min_inf {L k:Nat} (hL:L < 64) (hk:k≤2 ^ 53):min ((1022 + L) * 2 ^ 52 + k) (2047 * 2 ^ 52) = (1022 + L) * 2 ^ 52 + k:=by omega
theorem read_big {L k:Nat} (hL1:53≤L) (hL:L < 64) (hk1:2 ^ 52≤k) (hk2:k≤2 ^ 53):∃ m p:Nat,(1022 + L) * 2 ^ 52 + k < 2 ^ 63∧D64.read ((1022 + L) * 2 ^ 52 + k) = .number false m (p:Int)∧2 ^ 52≤m:=by
 unfold Ieee.Format.read
 rw [lp64,bn64,inf64,sw64]
 have hlt:(1022 + L) * 2 ^ 52 + k < 2 ^ 63:=by omega
 have hw:((1022 + L) * 2 ^ 52 + k) / 2 ^ 63 = 0:=Nat.div_eq_of_lt hlt
 have hr:((1022 + L) * 2 ^ 52 + k) % 2 ^ 63 = (1022 + L) * 2 ^ 52 + k:=Nat.mod_eq_of_lt hlt
 simp only [hw,hr]
 rw [if_neg (by omega),if_pos (by omega)]
 have hd:∃ q,((1022 + L) * 2 ^ 52 + k) / 2 ^ 52 = q∧1075≤q:=⟨_,rfl,by omega⟩
 obtain ⟨q,hq,hq1⟩:=hd
 rw [hq]
 generalize ((1022 + L) * 2 ^ 52 + k) % 2 ^ 52 = r
 refine ⟨2 ^ 52 + r,q - 1 - 1074,hlt,?_,Nat.le_add_right _ _⟩
 have e:(-1074:Int) + ((q - 1:Nat):Int) = ((q - 1 - 1074:Nat):Int):=by omega
 rw [e]
 have e0:((0:Nat) % 2 == 1) = false:=by decide
 rw [e0]
theorem near_big (c:Nat) (h0:2 ^ 53≤c) (h1:c < 2 ^ 64):∃ m p:Nat,D64.nearest false c 0 < 2 ^ 63∧D64.read (D64.nearest false c 0) = .number false m (p:Int)∧2 ^ 52≤m:=by
 have hc:c ≠ 0:=by omega
 have hL1:53≤c.log2:=(Nat.le_log2 hc).2 h0
 have hL2:c.log2 < 64:=(Nat.log2_lt hc).2 h1
 have l1:=Nat.log2_self_le hc
 have l2:=Nat.lt_log2_self (n:=c)
 obtain ⟨k,hk1,hk2,hk⟩:∃ k,2 ^ 52≤k∧k≤2 ^ 53∧D64.nearest false c 0 = (1022 + c.log2) * 2 ^ 52 + k:=by
  unfold Ieee.Format.nearest
  rw [if_neg hc,lp64,bn64,inf64]
  have hlast:max ((0:Int) + (c.log2:Int) - (D64.fractionBits:Int)) (-1074) = (c.log2:Int) - 52:=by
   rw [show (D64.fractionBits:Int) = 52 from rfl]; omega
  simp only [hlast]
  have e1:((0:Int) - ((c.log2:Int) - 52)).toNat = 0:=by omega
  have e2:(((c.log2:Int) - 52) - 0).toNat = c.log2 - 52:=by omega
  have e3:((c.log2:Int) - 52 - -1074).toNat = 1022 + c.log2:=by omega
  rw [e1,e2,e3,Nat.shiftLeft_zero]
  have hlo:2 ^ 52≤c / 2 ^ (c.log2 - 52)∧c / 2 ^ (c.log2 - 52) < 2 ^ 53:=by
   constructor
   ·rw [Nat.le_div_iff_mul_le (Nat.two_pow_pos _),← Nat.pow_add,show 52 + (c.log2 - 52) = c.log2 by omega]; exact l1
   ·rw [Nat.div_lt_iff_lt_mul (Nat.two_pow_pos _),← Nat.pow_add,show 53 + (c.log2 - 52) = c.log2 + 1 by omega]; exact l2
  obtain ⟨k,hk,hk1,hk2⟩:=cut_near c (c.log2 - 52) (by omega) hlo.1 hlo.2
  refine ⟨k,hk1,hk2,?_⟩
  rw [hk]
  have:min ((1022 + c.log2) * 2 ^ 52 + k) (2047 * 2 ^ 52) = (1022 + c.log2) * 2 ^ 52 + k:=min_inf hL2 hk2
  rw [this]
  simp only [Ieee.Format.word,Bool.false_eq_true,if_false]
 rw [hk]
 exact read_big hL1 hL2 hk1 hk2
theorem read_neg {r m:Nat} {p:Int} (h:r < 2 ^ 63) (hr:D64.read r = .number false m p):D64.read (2 ^ 63 + r) = .number true m p:=by
 unfold Ieee.Format.read at hr ⊢
 rw [lp64,bn64,inf64,sw64] at hr ⊢
 have h1:r / 2 ^ 63 = 0:=Nat.div_eq_of_lt h
 have h2:r % 2 ^ 63 = r:=Nat.mod_eq_of_lt h
 have h3:(2 ^ 63 + r) / 2 ^ 63 = 1:=by omega
 have h4:(2 ^ 63 + r) % 2 ^ 63 = r:=by omega
 simp only [h1,h2] at hr
 simp only [h3,h4]
 split at hr
 ·rename_i hc
  rw [if_pos hc]
  injection hr with _ a b
  rw [a,b]; rfl
 ·rename_i hc
  rw [if_neg hc]
  split at hr
  ·rename_i hc2
   rw [if_pos hc2]
   injection hr with _ a b
   rw [a,b]; rfl
  ·split at hr <;> cases hr
theorem near_pos (c:Nat) (h0:0 < c) (h1:c < 2 ^ 64):∃ (m:Nat) (p:Int),D64.nearest false c 0 < 2 ^ 63∧D64.read (D64.nearest false c 0) = .number false m p∧0 < m:=by
 by_cases h:c < 2 ^ 53
 ·have:=near_scaled c 0 h0 h
  simp only [Nat.pow_zero,Nat.mul_one] at this
  have hz:(-((0:Nat):Int)) = 0:=rfl
  rw [hz] at this
  have hL:=log2_le c h0 h
  have hlt:c * 2 ^ (52 - c.log2) < 2 ^ 53:=by
   have l2:=Nat.lt_log2_self (n:=c)
   calc c * 2 ^ (52 - c.log2) < 2 ^ (c.log2 + 1) * 2 ^ (52 - c.log2):=(Nat.mul_lt_mul_right (Nat.two_pow_pos _)).2 l2
    _ = 2 ^ 53:=by rw [← Nat.pow_add]; congr 1; omega
  rw [this]
  exact ⟨_,_,by omega,read_scaled c h0 h,Nat.mul_pos h0 (Nat.two_pow_pos _)⟩
 ·obtain ⟨m,p,a,b,c⟩:=near_big c (by omega) h1
  exact ⟨m,p,a,b,by omega⟩
theorem near_neg (c:Nat) (h0:0 < c):D64.nearest true c 0 = 2 ^ 63 + D64.nearest false c 0:=by
 unfold Ieee.Format.nearest
 rw [if_neg (by omega),if_neg (by omega)]
 have hcut:∀ a b,Ieee.Toward.even.cut true a b = Ieee.Toward.even.cut false a b:=fun a b=>rfl
 simp only [Ieee.Format.word,if_true,Bool.false_eq_true,if_false,sw64,hcut]
theorem whole_flt (n:Int) (hn:-9223372036854775808≤n∧n≤9223372036854775807) (lo:Nat) (hlo:lo≤1024):
  (fge (fnear n) (fnear (lo:Int)) && fle (fnear n) (fnear ((1024:Nat):Int))) = decide ((lo:Int)≤n∧n≤1024):=by
 have hL:=qez lo (by omega)
 have hH:=qez 1024 (by omega)
 rcases Int.lt_or_le n 0 with hneg | hpos
 ·have e0:decide ((lo:Int)≤n∧n≤1024) = false:=decide_eq_false (by omega)
  rw [e0]
  obtain ⟨m,p,a,b,hm⟩:=near_pos n.natAbs (by omega) (by omega)
  have hw:(fnear n).b = 2 ^ 63 + D64.nearest false n.natAbs 0:=by
   show D64.nearest (decide (n < 0)) n.natAbs 0 = _
   rw [decide_eq_true hneg]; exact near_neg _ (by omega)
  have hr:=read_neg a b
  obtain ⟨t,ht⟩:=hL
  have ho:D64.order (fnear n).b (fnear (lo:Int)).b = some .lt:=by
   unfold Ieee.Format.order
   rw [hw,hr,ht]
   simp only [Ieee.Datum.order,qfq]
   congr 1
   rw [cmp_of.1]
   have h1:Ieee.signed true m (p - min p (-(t:Int))).toNat = -((m * 2 ^ (p - min p (-(t:Int))).toNat:Nat):Int):=by simp [Ieee.signed,Nat.shiftLeft_eq]
   rw [h1]
   have h2:0 < m * 2 ^ (p - min p (-(t:Int))).toNat:=Nat.mul_pos hm (Nat.two_pow_pos _)
   omega
  have:fge (fnear n) (fnear (lo:Int)) = false:=by unfold fge; rw [d64,ho]; rfl
  rw [this]; rfl
 ·obtain ⟨c,rfl⟩:=Int.eq_ofNat_of_zero_le hpos
  by_cases hc:c < 2 ^ 53
  ·have hC:=qez c hc
   rw [fge_is hC hL,fle_is hC hH,Bool.eq_iff_iff]
   simp; omega
  ·have e0:decide ((lo:Int)≤(c:Int)∧(c:Int)≤1024) = false:=decide_eq_false (by omega)
   rw [e0]
   obtain ⟨m,p,a,b,hm⟩:=near_big c (by omega) (by omega)
   obtain ⟨t,ht⟩:=hH
   have hw:(fnear (c:Int)).b = D64.nearest false c 0:=by
    show D64.nearest (decide ((c:Int) < 0)) ((c:Int)).natAbs 0 = _
    rw [decide_eq_false (by omega)]; rfl
   have ho:D64.order (fnear (c:Int)).b (fnear ((1024:Nat):Int)).b = some .gt:=by
    unfold Ieee.Format.order
    rw [hw,b,ht]
    simp only [Ieee.Datum.order,qfq]
    congr 1
    rw [cmp_of.2.2]
    have e1:((p:Int) - min (p:Int) (-(t:Int))).toNat = t + p:=by omega
    have e2:(-(t:Int) - min (p:Int) (-(t:Int))).toNat = 0:=by omega
    rw [e1,e2,Nat.pow_zero,Nat.mul_one,Nat.pow_add]
    have h3:0 < 2 ^ t:=Nat.two_pow_pos t
    have h4:0 < 2 ^ p:=Nat.two_pow_pos p
    have h5:1024 * 2 ^ t < m * (2 ^ t * 2 ^ p):=by
     calc 1024 * 2 ^ t < m * 2 ^ t:=(Nat.mul_lt_mul_right h3).2 (by omega)
      _ = m * (2 ^ t * 1):=by rw [Nat.mul_one]
      _≤m * (2 ^ t * 2 ^ p):=Nat.mul_le_mul_left _ (Nat.mul_le_mul_left _ h4)
    omega
   have:fle (fnear (c:Int)) (fnear ((1024:Nat):Int)) = false:=by unfold fle; rw [d64,ho]; rfl
   rw [this]; simp
end Go.Proofs.YtmpmildpioebhaaGreatDoor

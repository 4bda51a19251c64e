/-
  The statement WorldSeats (law 23): a seat whose power goes off is gone, and comes back with nothing lost. Part 23 of 27. No condition stands ahead of the statement. Parts of this text were printed by a program of ours.
-/
import Derived.Test.YtmpmildpioebhaaGreatDoorX17
import Derived.Test.YtmpmildpioebhaaGreatDoorX19
import Derived.Test.YtmpmildpioebhaaGreatDoorX20
import Derived.Test.YtmpmildpioebhaaGreatDoorX21
import Derived.Test.YtmpmildpioebhaaGreatDoorX22
import Derived.Laws.BytesString
set_option linter.all false
set_option maxRecDepth 100000
set_option maxHeartbeats 4000000
noncomputable section
namespace Go.Vm
open Go Go.Proofs.YtmpmildpioebhaaGreatDoor
noncomputable def hkPub:Hook:=hkT (pubT1 ++ pubT2 ++ pubT3 ++ pubT4)
theorem hkPub_ok:HookOk PR 51 hkPub:=hkT_ok fun e he=>by
 simp only [List.mem_append] at he
 rcases he with ((he | he) | he) | he
 ·exact pubT1_ok e he
 ·exact pubT2_ok e he
 ·exact pubT3_ok e he
 ·exact pubT4_ok e he
noncomputable def hooksT (f:Nat):Option Hook:=bif Nat.beq f 51 then some hkPub else bif Nat.beq f 232 then some hkLeader else bif Nat.beq f 88 then some hkRound else bif Nat.beq f 140 then some hkHeight else bif Nat.beq f 138 then some hkGood else bif Nat.beq f 139 then some hkAt else bif Nat.beq f 282 then some hkChunks else bif Nat.beq f 47 then some hkSorted else bif Nat.beq f 76 then some hkSha else none
noncomputable def pureT (f:Nat):Bool:=bif Nat.beq f 294 then true else bif Nat.beq f 233 then true else false
noncomputable def G0:Cfg:=⟨TB,hooksT,pureT⟩
theorem qe8 {f n:Nat} {k hk:Hook} {r:Option Hook} (h:(bif Nat.beq f n then some k else r) = some hk) (h1:HookOk PR n k) (h2:r = some hk→HookOk PR f hk):HookOk PR f hk:=by
 cases c:Nat.beq f n with
 | true=>rw [c] at h; injection h with h; subst h; have:=ya c; subst this; exact h1
 | false=>rw [c] at h; exact h2 h
theorem G0_ok (n:Nat):CallOk PR (rn G0 n):=rn_sound ym TB_ok (fun f hk h=>qe8 h hkPub_ok fun h=>qe8 h hkLeader_ok fun h=>qe8 h hkRound_ok fun h=>qe8 h hkHeight_ok fun h=>qe8 h hkGood_ok fun h=>qe8 h hkAt_ok fun h=>qe8 h hkChunks_ok fun h=>qe8 h hkSorted_ok fun h=>qe8 h hkSha_ok fun h=>by cases h) n
end Go.Vm
namespace Go.Vm
open Go Go.Sh Go.Proofs.YtmpmildpioebhaaGreatDoor
open Go.Sh.Ty (reg)
def lv (v:AV):Ans→Prop
 | .ok x _=>x = v
 | .er _=>False
 | .br a b=>lv v a∧lv v b
def XW (h0:H) (n0:Nat) (v:AV):Cx:=⟨fun b=>b < n0,h0,fun _=>none,none,lv v⟩
theorem XW_ok {h0:H} {n0:Nat} {v:AV} (h1:0 < n0) (h2:AtH h0 ⟨0,0,none⟩ shaTab):CxOk (XW h0 n0 v) where
 gd:=⟨fun n h=>h⟩
 mg:=fun h=>absurd rfl h
 br:=fun a b h=>h
 gl:=⟨h1,h2⟩
noncomputable def keep (e:E):AV:=.t [(gE 30).f e,(gE 31).f e,(gE 32).f e,(gE 1).f e]
theorem rv_i {θ:Th} (n:Nat) (hn:n < 2 ^ 62):RV θ (.i n) (reg ((n:Nat):Int)):=.inl (.inl (.inl ⟨by omega,by
 show Value.int .i64 (n:Int) = .int .i64 (IntKind.i64.wrap n)
 congr 1
 simp only [IntKind.wrap_i64]; omega⟩))
end Go.Vm

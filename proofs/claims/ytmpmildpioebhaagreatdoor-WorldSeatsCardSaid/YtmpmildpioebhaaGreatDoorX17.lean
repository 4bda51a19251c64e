/-
  The statement WorldSeats (law 23): a seat whose power goes off is gone, and comes back with nothing lost. Part 17 of 27. No condition stands ahead of the statement. Parts of this text were printed by a program of ours.
-/
import Derived.Test.YtmpmildpioebhaaGreatDoorX16
import Derived.Laws.BytesString
import Derived.Shelf.SlIterI.Sorted
import Derived.Sort.MapsRangeIn
import Derived.Shelf.SortM.Plain
import Derived.Shelf.SortM.SortNone
import Derived.BigRegionIn
import Derived.LoopIn
import Derived.LoopNIn
import Derived.OwnWalkIn
import Derived.RangeFuncBox
import Derived.RangeFuncFrom
import Derived.RangeFuncLeaves
import Derived.Shelf.Abstract
import Derived.TacticsInMore
set_option linter.all false
set_option maxRecDepth 100000
set_option maxHeartbeats 4000000
noncomputable section
namespace Go.Proofs.YtmpmildpioebhaaGreatDoor
open Go Go.Sh Go.Vm
open Go.Sh.Ty (reg)
noncomputable def fbN (c:Nat):Nat:=bif Nat.beq c 0 then 0 else Nat.add (Nat.mul (Nat.add 1022 (Nat.log2 c)) 4503599627370496) (Nat.mul c (Nat.pow 2 (Nat.sub 52 (Nat.log2 c))))
noncomputable def fdN (r:Nat):Nat:=Nat.div (Nat.sub r (Nat.mul (Nat.sub (Nat.div r 4503599627370496) 1) 4503599627370496)) (Nat.pow 2 (Nat.sub 52 (Nat.sub (Nat.div r 4503599627370496) 1023)))
noncomputable def plK (re im:Nat) (k:Nat→Nat→Ans):Ans:=frN (fdN re) fun a=>frN (fdN im) fun b=>
 bz (an (an (Nat.beq (fbN a) re) (Nat.beq (fbN b) im)) (an (an (Nat.ble 1 a) (Nat.ble a 1024)) (Nat.ble b 1024))) (k a b) (.er 212)
noncomputable def hkAt:Hook:=fun vs h q=>match vs with
 | [.i a,.i b]=>bz (an (Nat.ble a 9007199254740991) (Nat.ble b 9007199254740991)) (frN (fbN a) fun x=>frN (fbN b) fun y=>q (.rk x y) h) (.er 211)
 | _=>.er 211
noncomputable def hkGood:Hook:=fun vs h q=>match vs with | [.rk re im]=>plK re im fun a b=>q (.b true) h | _=>.er 213
noncomputable def hkHeight:Hook:=fun vs h q=>match vs with | [.rk re im]=>plK re im fun a b=>q (.i a) h | _=>.er 214
noncomputable def hkRound:Hook:=fun vs h q=>match vs with | [.rk re im]=>plK re im fun a b=>q (.i b) h | _=>.er 215
noncomputable def hkLeader:Hook:=fun vs h q=>match vs with
 | [.i n,.rk re im]=>plK re im fun a b=>bz (an (Nat.ble 1 n) (Nat.ble n 9223372036854775807)) (frN (Nat.mod (Nat.add a b) n) fun x=>q (.i x) h) (.er 216)
 | _=>.er 216
theorem fbN_ok (c:Nat) (h:c < 2 ^ 53):(fnear (c:Int)).b = fbN c:=by
 show D64.nearest (decide ((c:Int) < 0)) ((c:Int)).natAbs 0 = _
 rw [decide_eq_false (by omega),Int.natAbs_natCast]
 unfold fbN
 cases hc:Nat.beq c 0 with
 | true=>have:=ya hc; subst this; rfl
 | false=>
  have h0:=qcl hc
  have:=near_scaled c 0 (by omega) h
  rw [Nat.pow_zero,Nat.mul_one] at this
  exact this
theorem cxI_val {a b re im:Nat} (ha:fbN a = re) (hb:fbN b = im) (h1:a≤1024) (h2:b≤1024):(reg (cxI (a:Int) (b:Int)):Value) = .complex .f64 re im:=by
 show Value.complex .f64 (fnear (a:Int)).b (fnear (b:Int)).b = _
 rw [fbN_ok a (by omega),fbN_ok b (by omega),ha,hb]
section
variable {X:Go.Vm.Cx} {θ:Th} {hp:Hp} {h:H}
theorem plK_ok (hX:CxOk X) {re im:Nat} {k:Nat→Nat→Ans} (g:X.G (plK re im k)):∃ a b:Nat,(reg (cxI (a:Int) (b:Int)):Value) = .complex .f64 re im∧Plc a b∧X.G (k a b):=by
 unfold plK at g
 rw [frN_eq,frN_eq] at g
 obtain ⟨c,g⟩:=qak hX.gd g
 obtain ⟨c1,c2⟩:=qaf c
 obtain ⟨c3,c4⟩:=qaf c1
 obtain ⟨c5,c6⟩:=qaf c2
 obtain ⟨c7,c8⟩:=qaf c5
 have c6:=yh c6; have c7:=yh c7; have c8:=yh c8
 refine ⟨_,_,cxI_val (ya c3) (ya c4) c8 c6,?_,g⟩
 unfold Plc; omega
theorem val_hook {f:Nat} (hf:FnOk Prog f) {v:AV} {vals:List Value} {q:K1} (S:SR X θ hp h) {V:Value} (hv:RV θ v V) (hc:CallsH Prog f vals.toArray h fun w h'=>w = V∧h' = h) (g:X.G (q v hp)):FnOk Prog f∧CallsH Prog f vals.toArray h (Res X θ hp q):=
 ⟨hf,hc.mono fun w h' ⟨e,e'⟩=>⟨θ,hp,v,by rw [e']; exact S,Go.Vm.Ext.refl _ _,Nat.le_refl _,by rw [e]; exact hv,g⟩⟩
theorem rvs1 {a:AV} {vals:List Value} (h:RVs θ [a] vals):∃ V,vals = [V]∧RV θ a V:=by
 obtain ⟨V,rest,e,hV,hr⟩:=h
 have:rest = []:=hr
 subst this
 exact ⟨V,e,RV1.toRV hV⟩
theorem rvs2 {a b:AV} {vals:List Value} (h:RVs θ [a,b] vals):∃ V W,vals = [V,W]∧RV θ a V∧RV θ b W:=by
 obtain ⟨V,rest,e,hV,hr⟩:=h
 obtain ⟨W,e2,hW⟩:=rvs1 hr
 subst e2
 exact ⟨V,W,e,RV1.toRV hV,hW⟩
theorem rv_int {n:Nat} (h:n≤9223372036854775807):RV θ (.i n) (reg ((n:Int))):=.inl (.inl (.inl ⟨by omega,by rw [qa4 h]; rfl⟩))
end
theorem fn139:FnOk Prog 139:=⟨_,Tryz.func139,by kernel_rfl,by kernel_rfl⟩
theorem fn140:FnOk Prog 140:=⟨_,Tryz.func140,by kernel_rfl,by kernel_rfl⟩
theorem fn88:FnOk Prog 88:=⟨_,Tryz.func88,by kernel_rfl,by kernel_rfl⟩
theorem fn232:FnOk Prog 232:=⟨_,Tryz.func232,by kernel_rfl,by kernel_rfl⟩
theorem hkAt_ok:HookOk Prog 139 hkAt:=by
 intro X hX θ hp h args vals q S hr g
 unfold hkAt at g
 split at g
 ·rename_i a b
  obtain ⟨V,W,e,hV,hW⟩:=rvs2 hr
  obtain ⟨c,g⟩:=qak hX.gd g
  obtain ⟨c1,c2⟩:=qaf c
  have c1:=yh c1; have c2:=yh c2
  rw [frN_eq,frN_eq] at g
  have e1:V = reg ((a:Int)):=by have:=(hV.ra (v:=.i a) trivial).2; rw [this,qa4 (by omega)]; rfl
  have e2:W = reg ((b:Int)):=by have:=(hW.ra (v:=.i b) trivial).2; rw [this,qa4 (by omega)]; rfl
  subst e; subst e1; subst e2
  refine val_hook fn139 S (V:=reg (cxI (a:Int) (b:Int))) (.inl (.inl (.inl ?_))) ?_ g
  ·show Value.complex .f64 (fnear (a:Int)).b (fnear (b:Int)).b = .complex .f64 (fbN a) (fbN b)
   rw [fbN_ok a (by omega),fbN_ok b (by omega)]
  ·refine (At_spec (k:=fun r h'=>r = cxI (a:Int) (b:Int)∧h' = h) (a:Int) (b:Int) (h:=h) ⟨rfl,rfl⟩).mono ?_
   rintro v h' ⟨r,rfl,rfl,rfl⟩; exact ⟨rfl,rfl⟩
 ·exact (hX.gd.er _ g).elim
theorem hkGood_ok:HookOk Prog 138 hkGood:=by
 intro X hX θ hp h args vals q S hr g
 unfold hkGood at g
 split at g
 ·obtain ⟨V,e,hV⟩:=rvs1 hr
  obtain ⟨a,b,e1,hpl,g⟩:=plK_ok hX g
  have e2:V = reg (cxI (a:Int) (b:Int)):=by rw [e1]; exact hV.ra (v:=.rk _ _) trivial
  subst e; subst e2
  refine val_hook fn_138 S (v:=.b true) (V:=.bool true) (.inl (.inl (.inl (show RA θ (.b true) (.bool true) from rfl)))) ?_ g
  refine (RkGoodP hpl (k:=fun r h'=>r = true∧h' = h) (h:=h) ⟨rfl,rfl⟩).mono ?_
  rintro v h' ⟨r,rfl,rfl,rfl⟩; exact ⟨rfl,rfl⟩
 ·exact (hX.gd.er _ g).elim
theorem hkHeight_ok:HookOk Prog 140 hkHeight:=by
 intro X hX θ hp h args vals q S hr g
 unfold hkHeight at g
 split at g
 ·obtain ⟨V,e,hV⟩:=rvs1 hr
  obtain ⟨a,b,e1,hpl,g⟩:=plK_ok hX g
  have e2:V = reg (cxI (a:Int) (b:Int)):=by rw [e1]; exact hV.ra (v:=.rk _ _) trivial
  subst e; subst e2
  refine val_hook fn140 S (V:=reg ((a:Int))) (rv_int (by unfold Plc at hpl; omega)) ?_ g
  refine (Height_spec hpl (k:=fun r h'=>r = (a:Int)∧h' = h) (h:=h) ⟨rfl,rfl⟩).mono ?_
  rintro v h' ⟨r,rfl,rfl,rfl⟩; exact ⟨rfl,rfl⟩
 ·exact (hX.gd.er _ g).elim
theorem hkRound_ok:HookOk Prog 88 hkRound:=by
 intro X hX θ hp h args vals q S hr g
 unfold hkRound at g
 split at g
 ·obtain ⟨V,e,hV⟩:=rvs1 hr
  obtain ⟨a,b,e1,hpl,g⟩:=plK_ok hX g
  have e2:V = reg (cxI (a:Int) (b:Int)):=by rw [e1]; exact hV.ra (v:=.rk _ _) trivial
  subst e; subst e2
  refine val_hook fn88 S (V:=reg ((b:Int))) (rv_int (by unfold Plc at hpl; omega)) ?_ g
  refine (Round_spec hpl (k:=fun r h'=>r = (b:Int)∧h' = h) (h:=h) ⟨rfl,rfl⟩).mono ?_
  rintro v h' ⟨r,rfl,rfl,rfl⟩; exact ⟨rfl,rfl⟩
 ·exact (hX.gd.er _ g).elim
theorem hkLeader_ok:HookOk Prog 232 hkLeader:=by
 intro X hX θ hp h args vals q S hr g
 unfold hkLeader at g
 split at g
 ·rename_i n re im
  obtain ⟨W,V,e,hW,hV⟩:=rvs2 hr
  obtain ⟨a,b,e1,hpl,g⟩:=plK_ok hX g
  obtain ⟨c,g⟩:=qak hX.gd g
  obtain ⟨c1,c2⟩:=qaf c
  have c1:=yh c1; have c2:=yh c2
  rw [frN_eq] at g
  have e2:V = reg (cxI (a:Int) (b:Int)):=by rw [e1]; exact hV.ra (v:=.rk _ _) trivial
  have e3:W = reg ((n:Int)):=by have:=(hW.ra (v:=.i n) trivial).2; rw [this,qa4 (by omega)]; rfl
  subst e; subst e2; subst e3
  have hm:(a + b) % n < n:=Nat.mod_lt _ (by omega)
  refine val_hook fn232 S (v:=.i ((a + b) % n)) (V:=reg ((((a + b) % n:Nat):Int))) (rv_int (by omega)) ?_ g
  refine (Leader_spec hpl (n:=(n:Int)) (by omega) (k:=fun r h'=>r = ((a:Int) + b) % n∧h' = h) (h:=h) ⟨rfl,rfl⟩).mono ?_
  rintro v h' ⟨r,rfl,rfl,rfl⟩
  exact ⟨by rw [Int.natCast_emod,Int.natCast_add],rfl⟩
 ·exact (hX.gd.er _ g).elim
end Go.Proofs.YtmpmildpioebhaaGreatDoor
namespace Go.Proofs.YtmpmildpioebhaaGreatDoor
open Go Go.Sh Go.RowKit Go.Maps Go.Sort Go.Shelf
open Go.Sh.Ty (reg)
def mpE {κ ν:Type} [Ty κ] [Ty ν] (r:Nat) (l:List (κ×ν)):En:=⟨[r],fun h=>∃ es clk,h[r]? = some (.map es clk)∧MapO es clk l⟩
def tlen (h:H) (p:Addr):Nat:=match h[p.block]? with
 | some (.mapIter (some r) _ seen _)=>match h[r]? with
  | some (.map es _)=>(es.toList.filter fun e=>!seen.contains e.born).length
  | _=>0
 | _=>0
theorem zip_filter_len {α β:Type} (f:α→Bool):∀ (a:List α) (b:List β),a.length = b.length→((a.zip b).filter fun q=>f q.1).length = (a.filter f).length
 | [],[],_=>rfl
 | x :: a,y :: b,h=>by
  simp only [List.length_cons,Nat.add_right_cancel_iff] at h
  have ih:=zip_filter_len f a b h
  simp only [List.zip_cons_cons,List.filter_cons]
  split <;> simp [ih]
 | [],_ :: _,h=>by simp at h
 | _ :: _,[],h=>by simp at h
theorem Rng_tlen {κ ν:Type} [Ty κ] [Ty ν] {h:H} {p:Addr} {m:Mp} {todo:List (κ×ν)} (R:Rng h p m todo):tlen h p = todo.length:=by
 obtain ⟨_,hc⟩:=R
 rcases hc with ⟨a,b,s0,s1,s2,c⟩ | ⟨r,es,clk,l,seen,a,b,c,d,e⟩
 ·unfold YtmpmildpioebhaaGreatDoor.tlen; rw [c,b]; rfl
 ·unfold YtmpmildpioebhaaGreatDoor.tlen; rw [b]; simp only []; rw [c,e]
  simp only [List.length_map]
  exact (zip_filter_len (fun e:MapEntry=>!seen.contains e.born) es.toList l (by have:=congrArg List.length d.kv; simpa using this)).symm
section
variable {F:Fence} {n:Nat} {P:Program} (w:World) {ops:Array Oper} {rest:List Oper} {o:Oper} {a:Act} {Q:Exit→Act→World→Prop} {ν:Type} [Ty ν]
theorem wpListIn_rng (hg:o.guard = none) (m:Operand) (t:TypeId) (hop:o.op = Op.range t m) (k e:TypeId) (ht:P.underlying t = some (.map k e)) (b:Nat) (es:Array MapEntry) (clk:Nat)
  (hm:a.eval m = .map (some b)) (hb:w.heap[b]? = some (.map es clk))
  (hK:wpListIn F n P ops Q rest (a.put o.dst (.pointer (some ⟨w.heap.size,0,none⟩))) (w.alloc (.mapIter (some b) clk #[] clk))):
  wpListIn F n P ops Q (o :: rest) a w:=by
 refine wpListIn_plain hg fun K' hK'=>?_
 unfold Oper.wpIn
 refine ⟨?_,?_⟩
 ·simp [Oper.about,hop]
 ·rw [Oper.semAt_plain F _ _ (by rw [hop]; intro c hc'; cases hc')]
  have hrun:(Instr.range t (.map (some b))).run P w = .ok (.pointer (some ⟨w.heap.size,0,none⟩)) (w.alloc (.mapIter (some b) clk #[] clk)):=by
   simp only [Instr.range,Sem.run_bind,run_underlying ht,Result.andThen,qbb hb]
   rfl
  simp [execOp,hop,hm,hrun,Result.andThen]
  exact hK' _ _ hK
theorem qed (hg:o.guard = none) (it:Operand) (hop:o.op = Op.next it false) (r:Nat) (m:Mp) (todo:List (Int×ν))
  (hit:a.eval it = .pointer (some ⟨r,0,none⟩)) (h:Rng w.heap ⟨r,0,none⟩ m todo)
  (hDone:todo = []→wpListIn F n P ops Q rest (a.put o.dst (.tuple #[.bool false])) w)
  (hMore:∀ (x:Int) (c:ν) (w':World) (rest':List (Int×ν)),todo.Perm ((x,c) :: rest')→Rng w'.heap ⟨r,0,none⟩ m rest'→w.grownBy w' (some r)→w'.heap.size = w.heap.size→(∃ o:Obj,w.heap[r]? = some o∧o.isWalk = true) →
   (Instr.entry (.pointer (some ⟨r,0,none⟩))).run P w' = .ok (.tuple #[.int .i64 x,reg c]) w'→wpListIn F n P ops Q rest (a.put o.dst (.tuple #[.bool true,.int .i64 x,reg c])) w'):
  wpListIn F n P ops Q (o :: rest) a w:=by
 refine wpListIn_plain hg fun K' hK'=>?_
 unfold Oper.wpIn
 refine ⟨by simp [Oper.about,hop],?_⟩
 rw [Oper.semAt_plain F _ _ (by rw [hop]; intro c hc'; cases hc')]
 obtain ⟨⟨b,hbb⟩,hcase⟩:=h
 obtain rfl:r = b:=by cases hbb; rfl
 rcases hcase with ⟨hr,h0,s0,s1,s2,hb⟩ | ⟨b,es,clk,l,seen,hr,hi,hb,H,htodo⟩
 ·simp [execOp,hop,hit,Instr.next,run_getItH hb,Result.andThen]
  exact hK' _ _ (hDone h0)
 ·have hl:es.toList.length = l.length:=by have:=congrArg List.length H.kv; simpa using this
  have hne:r ≠ b:=fun e=>by subst e; simp only at hi; rw [hi] at hb; cases hb
  rcases run_next_at (P:=P) w o.type r b clk clk seen es clk hi hb H.born (Nat.le_refl _) with ⟨hz,hrun⟩ | ⟨e,he,w1,hw1,hrun⟩
  ·simp [execOp,hop,hit,hrun,Result.andThen]
   refine hK' _ _ (hDone ?_)
   have hz':∀ e ∈ es.toList,seen.contains e.born = true:=by
    have:leftOf es seen = #[]:=Array.eq_empty_of_size_eq_zero hz
    unfold leftOf at this
    rw [Array.filter_eq_empty_iff] at this
    intro e he
    simpa using this e (by simpa using he)
   rw [htodo]
   simp only [List.map_eq_nil_iff,List.filter_eq_nil_iff]
   intro q hq
   have:=hz' q.1 (List.of_mem_zip hq).1
   rw [this]; decide
  ·have hel:e ∈ es.toList∧seen.contains e.born = false:=by
    unfold leftOf at he
    simp at he
    exact ⟨by simpa using he.1,by simpa using he.2⟩
   obtain ⟨j,hj'⟩:=List.mem_iff_getElem?.1 hel.1
   have hjl:j < l.length:=by
    rw [List.getElem?_eq_some_iff] at hj'; obtain ⟨h9,_⟩:=hj'; omega
   have hkv:=congrArg (fun l=>l[j]?) H.kv
   simp only [List.getElem?_map,hj',Option.map_some,List.getElem?_eq_getElem hjl,Option.some.injEq,Prod.mk.injEq] at hkv
   have hw1h:w1.heap = w.heap:=by rcases hw1 with rfl | rfl <;> rfl
   have hk1:e.key = .int .i64 l[j].1:=hkv.1
   have hv1:e.val = reg l[j].2:=hkv.2
   simp [execOp,hop,hit,hrun,Result.andThen,hk1,hv1]
   have hit2:(Go.ChangeMaps.setBlock w1 r (.mapIter (some b) clk (seen.push e.born) clk)).heap[r]? = some (.mapIter (some b) clk (seen.push e.born) clk):=by
    simp only [Go.ChangeMaps.setBlock,hw1h]; exact AtLast hi
   have hb2:(Go.ChangeMaps.setBlock w1 r (.mapIter (some b) clk (seen.push e.born) clk)).heap[b]? = some (.map es clk):=by
    simp only [Go.ChangeMaps.setBlock,hw1h]; rw [Array.getElem?_setIfInBounds_ne hne]; exact hb
   refine hK' _ _ (hMore l[j].1 l[j].2 _ (((es.toList.zip l).filter fun q=>!(seen.push e.born).contains q.1.born).map (·.2)) ?_ ⟨⟨r,rfl⟩,.inr ⟨b,es,clk,l,seen.push e.born,hr,hit2,hb2,H,rfl⟩⟩ ?_ ?_ ⟨_,hi,rfl⟩ ?_)
   ·rw [htodo]
    exact todo_perm es.toList l seen hl H.nodup hj' (List.getElem?_eq_getElem hjl) hel.2
   ·refine ⟨?_,?_,?_,?_,?_⟩
    ·rcases hw1 with rfl | rfl <;> rfl
    ·rcases hw1 with rfl | rfl <;> rfl
    ·rcases hw1 with rfl | rfl <;> rfl
    ·simp [Go.ChangeMaps.setBlock,hw1h]
    ·intro k _ hk
     simp only [Go.ChangeMaps.setBlock,hw1h]
     exact Array.getElem?_setIfInBounds_ne (fun e=>hk (by rw [e]))
   ·simp [Go.ChangeMaps.setBlock,hw1h]
   ·have:=run_entry_at (P:=P) _ r b clk seen es clk e hit2 hb2 hel.1 H.nodup
    rw [this,hk1,hv1]
end
theorem Rng_walks {ν:Type} [Ty ν] {W W':World} {r:Nat} {m:Mp} {todo:List (Int×ν)} (R:Rng W.heap ⟨r,0,none⟩ m todo) (hk:KeepsWalks W W'):Rng W'.heap ⟨r,0,none⟩ m todo:=by
 obtain ⟨hp,hc⟩:=R
 refine ⟨hp,?_⟩
 rcases hc with ⟨a,b,s0,s1,s2,c⟩ | ⟨r,es,clk,l,seen,a,b,c,d,e⟩
 ·exact .inl ⟨a,b,s0,s1,s2,hk.same _ _ c rfl⟩
 ·exact .inr ⟨r,es,clk,l,seen,a,hk.same _ _ b rfl,hk.same _ _ c rfl,d,e⟩
set_option maxHeartbeats 1000000 in
theorem keys_gives71 {ν:Type} [Ty ν] (n Bm off b:Nat) (l:List (Int×ν)) (W0:World) (hn:1≤n) (hbox:W0.cell? ⟨Bm,off,none⟩ = some (.map (some b))) (hB:Bm < W0.heap.size) (hm:(mpE b l).A W0.heap):
  SeqGives Fence.wide n Tryz.prog 71 #[.pointer (some ⟨Bm,off,none⟩)] encZ (fun ss=>ss.Perm (l.map (·.1))) l.length W0:=by
 intro y J W hW hJ hY h0
 have hbx:W.cell? ⟨Bm,off,none⟩ = some (.map (some b)):=by
  rw [World.cell?_of_block (hW.block Bm hB)]; exact hbox
 obtain ⟨es,clk,hes,HO⟩:=hm
 have hbl:b < W0.heap.size:=(Array.getElem?_eq_some_iff.1 hes).1
 have hb1:W.heap[b]? = some (.map es clk):=(hW.block b hbl).trans hes
 have u118:Tryz.prog.underlying 91 = some (.map 3 73):=Tryz.underlying91
 refine callsIn_of_wp Tryz.func71 rfl trivial ?_ rfl
 simp only [Tryz.ntmps71,List.size_toArray,List.length_cons,List.length_nil,Nat.reduceAdd,Nat.reduceSub,Array.replicate_succ,Array.replicate_zero,List.push_toArray,List.append_toArray,List.nil_append,List.cons_append]
 have hrg0:Rng (W.alloc (.mapIter (some b) clk #[] clk)).heap ⟨W.heap.size,0,none⟩ ⟨some b⟩ l:=by
  refine ⟨⟨_,rfl⟩,.inr ⟨b,es,clk,l,#[],rfl,by show (W.heap.push _)[W.heap.size]? = _; simp,?_,HO,?_⟩⟩
  ·exact (Below.heap_alloc W _ b (Array.getElem?_eq_some_iff.1 hb1).1).trans hb1
  ·have hl:es.toList.length = l.length:=by have:=congrArg List.length HO.kv; simpa using this
   rw [List.filter_eq_self.2 (by simp)]
   exact (List.map_snd_zip (by omega)).symm
 have hg0:W.grownBy (W.alloc (.mapIter (some b) clk #[] clk)) none:=⟨rfl,rfl,rfl,by simp,fun k hk _=>Below.heap_alloc W _ k hk⟩
 have hJ0:=hJ [] W _ none h0 hg0 (fun r e=>by cases e)
 gi_wp2_with (first
  | (gi_at_range; refine wpListIn_rng _ rfl _ 91 rfl 3 73 u118 b es clk rfl hb1 ?_)
  | gi_in)
 go_frame
 gi_loopw [3] (fun _ wr=>∃ (pre:List Int) (todo:List (Int×ν)),Rng wr.heap ⟨W.heap.size,0,none⟩ ⟨some b⟩ todo∧(pre ++ todo.map (·.1)).Perm (l.map (·.1))∧J pre wr)
  (fun _ wr=>tlen wr.heap ⟨W.heap.size,0,none⟩)
 case atStart=>
  exact ⟨[],l,hrg0,by simp,hJ0⟩
 case round=>
  obtain ⟨pre,todo,hrg,hp,hJs⟩:=hrel
  gi_wp2_with (first
   | (gi_at_next; refine qed _ rfl _ rfl W.heap.size ⟨some b⟩ todo rfl hrg ?_ ?_)
   | gi_in)
  ·intro h00
   gi_wp2
   go_end0
   subst h00
   exact ⟨⟨_,rfl⟩,pre,by simpa using hp,hJs⟩
  ·intro x c w2 rest' hpm hrg2 hg2 hs2 o9 hw1 hw2 hen
   have hJ2:J pre w2:=hJ pre wr w2 (some W.heap.size) hJs hg2 (fun r e=>by cases e; exact ⟨Nat.le_refl _,o9,hw1,hw2⟩)
   have hlen:pre.length < l.length:=by
    have h1:=hp.length_eq
    have h2:=hpm.length_eq
    simp at h1 h2
    omega
   obtain ⟨fn,tmps,assign,body,hy,hR⟩:=hY pre x w2 hJ2 hlen
   clear hs2
   gi_wp2
   refine hR.mono ?_
   rintro e W3 ⟨rfl,hJ3,hk3⟩
   gi_wp2
   have hrg3:=Rng_walks hrg2 hk3
   have hpm2:((pre ++ [x]) ++ rest'.map (·.1)).Perm (l.map (·.1)):=by
    refine List.Perm.trans ?_ hp
    have:=hpm.map (·.1)
    simp only [List.append_assoc,List.singleton_append]
    exact List.Perm.append_left _ (by simpa using this.symm)
   go_roundw
   case rel=>exact ⟨pre ++ [x],rest',hrg3,hpm2,hJ3⟩
   case measure=>rw [Rng_tlen hrg3,Rng_tlen hrg]; have:=hpm.length_eq; simp at this; omega
set_option maxHeartbeats 1000000 in
theorem keys_gives108 {ν:Type} [Ty ν] (n Bm off b:Nat) (l:List (Int×ν)) (W0:World) (hn:1≤n) (hbox:W0.cell? ⟨Bm,off,none⟩ = some (.map (some b))) (hB:Bm < W0.heap.size) (hm:(mpE b l).A W0.heap):
  SeqGives Fence.wide n Tryz.prog 108 #[.pointer (some ⟨Bm,off,none⟩)] encZ (fun ss=>ss.Perm (l.map (·.1))) l.length W0:=by
 intro y J W hW hJ hY h0
 have hbx:W.cell? ⟨Bm,off,none⟩ = some (.map (some b)):=by
  rw [World.cell?_of_block (hW.block Bm hB)]; exact hbox
 obtain ⟨es,clk,hes,HO⟩:=hm
 have hbl:b < W0.heap.size:=(Array.getElem?_eq_some_iff.1 hes).1
 have hb1:W.heap[b]? = some (.map es clk):=(hW.block b hbl).trans hes
 have u118:Tryz.prog.underlying 90 = some (.map 3 95):=Tryz.underlying90
 refine callsIn_of_wp Tryz.func108 rfl trivial ?_ rfl
 simp only [Tryz.ntmps108,List.size_toArray,List.length_cons,List.length_nil,Nat.reduceAdd,Nat.reduceSub,Array.replicate_succ,Array.replicate_zero,List.push_toArray,List.append_toArray,List.nil_append,List.cons_append]
 have hrg0:Rng (W.alloc (.mapIter (some b) clk #[] clk)).heap ⟨W.heap.size,0,none⟩ ⟨some b⟩ l:=by
  refine ⟨⟨_,rfl⟩,.inr ⟨b,es,clk,l,#[],rfl,by show (W.heap.push _)[W.heap.size]? = _; simp,?_,HO,?_⟩⟩
  ·exact (Below.heap_alloc W _ b (Array.getElem?_eq_some_iff.1 hb1).1).trans hb1
  ·have hl:es.toList.length = l.length:=by have:=congrArg List.length HO.kv; simpa using this
   rw [List.filter_eq_self.2 (by simp)]
   exact (List.map_snd_zip (by omega)).symm
 have hg0:W.grownBy (W.alloc (.mapIter (some b) clk #[] clk)) none:=⟨rfl,rfl,rfl,by simp,fun k hk _=>Below.heap_alloc W _ k hk⟩
 have hJ0:=hJ [] W _ none h0 hg0 (fun r e=>by cases e)
 gi_wp2_with (first
  | (gi_at_range; refine wpListIn_rng _ rfl _ 90 rfl 3 95 u118 b es clk rfl hb1 ?_)
  | gi_in)
 go_frame
 gi_loopw [3] (fun _ wr=>∃ (pre:List Int) (todo:List (Int×ν)),Rng wr.heap ⟨W.heap.size,0,none⟩ ⟨some b⟩ todo∧(pre ++ todo.map (·.1)).Perm (l.map (·.1))∧J pre wr)
  (fun _ wr=>tlen wr.heap ⟨W.heap.size,0,none⟩)
 case atStart=>
  exact ⟨[],l,hrg0,by simp,hJ0⟩
 case round=>
  obtain ⟨pre,todo,hrg,hp,hJs⟩:=hrel
  gi_wp2_with (first
   | (gi_at_next; refine qed _ rfl _ rfl W.heap.size ⟨some b⟩ todo rfl hrg ?_ ?_)
   | gi_in)
  ·intro h00
   gi_wp2
   go_end0
   subst h00
   exact ⟨⟨_,rfl⟩,pre,by simpa using hp,hJs⟩
  ·intro x c w2 rest' hpm hrg2 hg2 hs2 o9 hw1 hw2 hen
   have hJ2:J pre w2:=hJ pre wr w2 (some W.heap.size) hJs hg2 (fun r e=>by cases e; exact ⟨Nat.le_refl _,o9,hw1,hw2⟩)
   have hlen:pre.length < l.length:=by
    have h1:=hp.length_eq
    have h2:=hpm.length_eq
    simp at h1 h2
    omega
   obtain ⟨fn,tmps,assign,body,hy,hR⟩:=hY pre x w2 hJ2 hlen
   clear hs2
   gi_wp2
   refine hR.mono ?_
   rintro e W3 ⟨rfl,hJ3,hk3⟩
   gi_wp2
   have hrg3:=Rng_walks hrg2 hk3
   have hpm2:((pre ++ [x]) ++ rest'.map (·.1)).Perm (l.map (·.1)):=by
    refine List.Perm.trans ?_ hp
    have:=hpm.map (·.1)
    simp only [List.append_assoc,List.singleton_append]
    exact List.Perm.append_left _ (by simpa using this.symm)
   go_roundw
   case rel=>exact ⟨pre ++ [x],rest',hrg3,hpm2,hJ3⟩
   case measure=>rw [Rng_tlen hrg3,Rng_tlen hrg]; have:=hpm.length_eq; simp at this; omega
def sortedA_ren:Go.Shelf.Ren:=⟨fun | 6=>47 | 8=>69 | 9=>70 | 11=>109 | 13=>111 | 12=>110 | 23=>196 | 24=>197 | 14=>187 | 15=>188 | 16=>189 | 17=>190 | 18=>191 | 19=>192 | 20=>193 | 21=>194 | 22=>195 | 25=>273 | 26=>274 | 27=>275 | 28=>276 | 29=>277 | 30=>278 | 31=>311 | n=>n,fun | 26=>3 | 28=>125 | 24=>48 | 0=>0 | 3=>3 | 37=>241 | 48=>249 | 50=>243 | 4=>4 | 40=>342 | 39=>341 | 45=>225 | 5=>5 | 9=>9 | 51=>421 | 55=>425 | 57=>463 | 58=>464 | 33=>184 | n=>n,fun | n=>n⟩
theorem sortedA:Go.Proofs.SlLaysZI.n6 Tryz.prog sortedA_ren:={
 mixed:=by kernel_rfl,
 f6:=⟨Tryz.f47.name,by decide,Tryz.func47.trans (congrArg some (by kernel_rfl))⟩,
 f8:=⟨Tryz.f69.name,by decide,Tryz.func69.trans (congrArg some (by kernel_rfl))⟩,
 f11:=⟨Tryz.f109.name,by decide,Tryz.func109.trans (congrArg some (by kernel_rfl))⟩,
 t0:=Tryz.underlying0,
 a0:=Tryz.isAgg0,
 z0:=Tryz.sizeOf0,
 v0:=Tryz.zeroValue0,
 t24:=Tryz.underlying48,
 a24:=Tryz.isAgg48,
 z24:=Tryz.sizeOf48,
 v24:=Tryz.zeroValue48,
 t26:=Tryz.underlying3,
 a26:=Tryz.isAgg3,
 z26:=Tryz.sizeOf3,
 v26:=Tryz.zeroValue3,
 t28:=Tryz.underlying125,
 a28:=Tryz.isAgg125,
 z28:=Tryz.sizeOf125,
 v28:=Tryz.zeroValue125,
 i26:=by kernel_rfl }
def sortA_ren:Go.Shelf.Ren:=⟨fun | 5=>70 | 8=>111 | 7=>110 | 19=>196 | 20=>197 | 10=>187 | 11=>188 | 12=>189 | 13=>190 | 14=>191 | 15=>192 | 16=>193 | 17=>194 | 18=>195 | 30=>273 | 31=>274 | 32=>275 | 33=>276 | 34=>277 | 35=>278 | 40=>311 | n=>n,fun | 23=>48 | 25=>3 | 3=>3 | 32=>241 | 22=>48 | 0=>0 | 44=>249 | 46=>243 | 4=>4 | 36=>342 | 35=>341 | 41=>225 | 5=>5 | 9=>9 | 53=>421 | 57=>425 | 63=>463 | 64=>464 | n=>n,fun | n=>n⟩
theorem sortA:Go.Proofs.SlLaysM.n5 Tryz.prog sortA_ren:={
 mixed:=by kernel_rfl,
 f5:=⟨Tryz.f70.name,by decide,Tryz.func70.trans (congrArg some (by kernel_rfl))⟩,
 f7:=⟨Tryz.f110.name,by decide,Tryz.func110.trans (congrArg some (by kernel_rfl))⟩,
 f8:=Tryz.func111.trans (congrArg some (by kernel_rfl)),
 f10:=⟨Tryz.f187.name,by decide,Tryz.func187.trans (congrArg some (by kernel_rfl))⟩,
 f11:=⟨Tryz.f188.name,by decide,Tryz.func188.trans (congrArg some (by kernel_rfl))⟩,
 f12:=⟨Tryz.f189.name,by decide,Tryz.func189.trans (congrArg some (by kernel_rfl))⟩,
 f13:=⟨Tryz.f190.name,by decide,Tryz.func190.trans (congrArg some (by kernel_rfl))⟩,
 f14:=⟨Tryz.f191.name,by decide,Tryz.func191.trans (congrArg some (by kernel_rfl))⟩,
 f15:=⟨Tryz.f192.name,by decide,Tryz.func192.trans (congrArg some (by kernel_rfl))⟩,
 f16:=⟨Tryz.f193.name,by decide,Tryz.func193.trans (congrArg some (by kernel_rfl))⟩,
 f17:=⟨Tryz.f194.name,by decide,Tryz.func194.trans (congrArg some (by kernel_rfl))⟩,
 f18:=⟨Tryz.f195.name,by decide,Tryz.func195.trans (congrArg some (by kernel_rfl))⟩,
 f19:=Tryz.func196.trans (congrArg some (by kernel_rfl)),
 f20:=Tryz.func197.trans (congrArg some (by kernel_rfl)),
 f30:=⟨Tryz.f273.name,by decide,Tryz.func273.trans (congrArg some (by kernel_rfl))⟩,
 f31:=Tryz.func274.trans (congrArg some (by kernel_rfl)),
 f32:=Tryz.func275.trans (congrArg some (by kernel_rfl)),
 f33:=⟨Tryz.f276.name,by decide,Tryz.func276.trans (congrArg some (by kernel_rfl))⟩,
 f34:=⟨Tryz.f277.name,by decide,Tryz.func277.trans (congrArg some (by kernel_rfl))⟩,
 f35:=⟨Tryz.f278.name,by decide,Tryz.func278.trans (congrArg some (by kernel_rfl))⟩,
 f40:=⟨Tryz.f311.name,by decide,Tryz.func311.trans (congrArg some (by kernel_rfl))⟩,
 t0:=Tryz.underlying0,
 a0:=Tryz.isAgg0,
 z0:=Tryz.sizeOf0,
 v0:=Tryz.zeroValue0,
 t3:=Tryz.underlying3,
 a3:=Tryz.isAgg3,
 z3:=Tryz.sizeOf3,
 v3:=Tryz.zeroValue3,
 t4:=Tryz.underlying4,
 a4:=Tryz.isAgg4,
 z4:=Tryz.sizeOf4,
 v4:=Tryz.zeroValue4,
 t5:=Tryz.underlying5,
 a5:=Tryz.isAgg5,
 z5:=Tryz.sizeOf5,
 v5:=Tryz.zeroValue5,
 t9:=Tryz.underlying9,
 a9:=Tryz.isAgg9,
 z9:=Tryz.sizeOf9,
 v9:=Tryz.zeroValue9,
 t22:=Tryz.underlying48,
 a22:=Tryz.isAgg48,
 z22:=Tryz.sizeOf48,
 v22:=Tryz.zeroValue48,
 t23:=Tryz.underlying48,
 a23:=Tryz.isAgg48,
 z23:=Tryz.sizeOf48,
 v23:=Tryz.zeroValue48,
 t25:=Tryz.underlying3,
 a25:=Tryz.isAgg3,
 z25:=Tryz.sizeOf3,
 v25:=Tryz.zeroValue3,
 t32:=Tryz.underlying241,
 a32:=Tryz.isAgg241,
 z32:=Tryz.sizeOf241,
 v32:=Tryz.zeroValue241,
 t35:=Tryz.underlying341,
 a35:=Tryz.isAgg341,
 z35:=Tryz.sizeOf341,
 v35:=Tryz.zeroValue341,
 t36:=Tryz.underlying342,
 a36:=Tryz.isAgg342,
 z36:=Tryz.sizeOf342,
 v36:=Tryz.zeroValue342,
 t41:=Tryz.underlying225,
 a41:=Tryz.isAgg225,
 z41:=Tryz.sizeOf225,
 v41:=Tryz.zeroValue225,
 t44:=Tryz.underlying249,
 a44:=Tryz.isAgg249,
 z44:=Tryz.sizeOf249,
 v44:=Tryz.zeroValue249,
 t46:=Tryz.underlying243,
 a46:=Tryz.isAgg243,
 z46:=Tryz.sizeOf243,
 v46:=Tryz.zeroValue243,
 t53:=Tryz.underlying421,
 a53:=Tryz.isAgg421,
 z53:=Tryz.sizeOf421,
 v53:=Tryz.zeroValue421,
 t57:=Tryz.underlying425,
 a57:=Tryz.isAgg425,
 z57:=Tryz.sizeOf425,
 v57:=Tryz.zeroValue425,
 t63:=Tryz.underlying463,
 a63:=Tryz.isAgg463,
 z63:=Tryz.sizeOf463,
 v63:=Tryz.zeroValue463,
 t64:=Tryz.underlying464,
 a64:=Tryz.isAgg464,
 z64:=Tryz.sizeOf464,
 v64:=Tryz.zeroValue464 }
theorem sortsA (m : Nat) : AnyZI.SortsIn Tryz.prog sortedA_ren Fence.wide m :=
  ⟨fun blk off cap ss W hH hblk hsz => callsIn_wide.2 (AnyM.slices_Sort_int sortA blk off cap ss W hH hblk hsz),
   fun p cap W => callsIn_wide.2 (AnyM.slices_Sort_int_none sortA p cap W)⟩
section
variable {F:Fence} {n:Nat} {P:Program} (w:World) {ops:Array Oper} {rest:List Oper} {o:Oper} {a:Act} {Q:Exit→Act→World→Prop} {ν:Type} [Ty ν]
theorem qf1 (hg:o.guard = none) (m:Operand) (t:TypeId) (hop:o.op = Op.range t m) (k e:TypeId) (ht:P.underlying t = some (.map k e))
  (hm:a.eval m = .map none)
  (hK:wpListIn F n P ops Q rest (a.put o.dst (.pointer (some ⟨w.heap.size,0,none⟩))) (w.alloc (.mapIter none 0 #[] 0))):
  wpListIn F n P ops Q (o :: rest) a w:=by
 refine wpListIn_plain hg fun K' hK'=>?_
 unfold Oper.wpIn
 refine ⟨?_,?_⟩
 ·simp [Oper.about,hop]
 ·rw [Oper.semAt_plain F _ _ (by rw [hop]; intro c hc'; cases hc')]
  have hrun:(Instr.range t (.map none)).run P w = .ok (.pointer (some ⟨w.heap.size,0,none⟩)) (w.alloc (.mapIter none 0 #[] 0)):=by
   simp only [Instr.range,Sem.run_bind,run_underlying ht,Result.andThen]
   rfl
  simp [execOp,hop,hm,hrun,Result.andThen]
  exact hK' _ _ hK
end
set_option maxHeartbeats 1000000 in
theorem keys_givesN71 (n Bm off:Nat) (W0:World) (hn:1≤n) (hbox:W0.cell? ⟨Bm,off,none⟩ = some (.map none)) (hB:Bm < W0.heap.size):
  SeqGives Fence.wide n Tryz.prog 71 #[.pointer (some ⟨Bm,off,none⟩)] encZ (fun ss=>ss.Perm ([]:List Int)) 0 W0:=by
 intro y J W hW hJ hY h0
 have hbx:W.cell? ⟨Bm,off,none⟩ = some (.map none):=by
  rw [World.cell?_of_block (hW.block Bm hB)]; exact hbox
 have u118:Tryz.prog.underlying 91 = some (.map 3 73):=Tryz.underlying91
 refine callsIn_of_wp Tryz.func71 rfl trivial ?_ rfl
 simp only [Tryz.ntmps71,List.size_toArray,List.length_cons,List.length_nil,Nat.reduceAdd,Nat.reduceSub,Array.replicate_succ,Array.replicate_zero,List.push_toArray,List.append_toArray,List.nil_append,List.cons_append]
 have hrg0:Rng (W.alloc (.mapIter none 0 #[] 0)).heap ⟨W.heap.size,0,none⟩ ⟨none⟩ ([]:List (Int×Int)):=
  ⟨⟨_,rfl⟩,.inl ⟨rfl,rfl,0,#[],0,by show (W.heap.push _)[W.heap.size]? = _; simp⟩⟩
 have hg0:W.grownBy (W.alloc (.mapIter none 0 #[] 0)) none:=⟨rfl,rfl,rfl,by simp,fun k hk _=>Below.heap_alloc W _ k hk⟩
 have hJ0:=hJ [] W _ none h0 hg0 (fun r e=>by cases e)
 gi_wp2_with (first
  | (gi_at_range; refine qf1 _ rfl _ 91 rfl 3 73 u118 rfl ?_)
  | gi_in)
 go_frame
 gi_loopw [3] (fun _ wr=>Rng wr.heap ⟨W.heap.size,0,none⟩ ⟨none⟩ ([]:List (Int×Int))∧J [] wr) (fun _ _=>0)
 case atStart=>
  exact ⟨hrg0,hJ0⟩
 case round=>
  obtain ⟨hrg,hJs⟩:=hrel
  gi_wp2_with (first
   | (gi_at_next; refine qed _ rfl _ rfl W.heap.size ⟨none⟩ [] rfl hrg ?_ ?_)
   | gi_in)
  go_end0
  exact ⟨⟨_,rfl⟩,[],List.Perm.refl _,hJs⟩
set_option maxHeartbeats 1000000 in
theorem keys_givesN108 (n Bm off:Nat) (W0:World) (hn:1≤n) (hbox:W0.cell? ⟨Bm,off,none⟩ = some (.map none)) (hB:Bm < W0.heap.size):
  SeqGives Fence.wide n Tryz.prog 108 #[.pointer (some ⟨Bm,off,none⟩)] encZ (fun ss=>ss.Perm ([]:List Int)) 0 W0:=by
 intro y J W hW hJ hY h0
 have hbx:W.cell? ⟨Bm,off,none⟩ = some (.map none):=by
  rw [World.cell?_of_block (hW.block Bm hB)]; exact hbox
 have u118:Tryz.prog.underlying 90 = some (.map 3 95):=Tryz.underlying90
 refine callsIn_of_wp Tryz.func108 rfl trivial ?_ rfl
 simp only [Tryz.ntmps108,List.size_toArray,List.length_cons,List.length_nil,Nat.reduceAdd,Nat.reduceSub,Array.replicate_succ,Array.replicate_zero,List.push_toArray,List.append_toArray,List.nil_append,List.cons_append]
 have hrg0:Rng (W.alloc (.mapIter none 0 #[] 0)).heap ⟨W.heap.size,0,none⟩ ⟨none⟩ ([]:List (Int×Int)):=
  ⟨⟨_,rfl⟩,.inl ⟨rfl,rfl,0,#[],0,by show (W.heap.push _)[W.heap.size]? = _; simp⟩⟩
 have hg0:W.grownBy (W.alloc (.mapIter none 0 #[] 0)) none:=⟨rfl,rfl,rfl,by simp,fun k hk _=>Below.heap_alloc W _ k hk⟩
 have hJ0:=hJ [] W _ none h0 hg0 (fun r e=>by cases e)
 gi_wp2_with (first
  | (gi_at_range; refine qf1 _ rfl _ 90 rfl 3 95 u118 rfl ?_)
  | gi_in)
 go_frame
 gi_loopw [3] (fun _ wr=>Rng wr.heap ⟨W.heap.size,0,none⟩ ⟨none⟩ ([]:List (Int×Int))∧J [] wr) (fun _ _=>0)
 case atStart=>
  exact ⟨hrg0,hJ0⟩
 case round=>
  obtain ⟨hrg,hJs⟩:=hrel
  gi_wp2_with (first
   | (gi_at_next; refine qed _ rfl _ rfl W.heap.size ⟨none⟩ [] rfl hrg ?_ ?_)
   | gi_in)
  go_end0
  exact ⟨⟨_,rfl⟩,[],List.Perm.refl _,hJs⟩
set_option maxHeartbeats 1000000 in
theorem keys_givesN329 (n Bm off:Nat) (W0:World) (hn:1≤n) (hbox:W0.cell? ⟨Bm,off,none⟩ = some (.map none)) (hB:Bm < W0.heap.size):
  SeqGives Fence.wide n Tryz.prog 329 #[.pointer (some ⟨Bm,off,none⟩)] encZ (fun ss=>ss.Perm ([]:List Int)) 0 W0:=by
 intro y J W hW hJ hY h0
 have hbx:W.cell? ⟨Bm,off,none⟩ = some (.map none):=by
  rw [World.cell?_of_block (hW.block Bm hB)]; exact hbox
 have u118:Tryz.prog.underlying 475 = some (.map 3 3):=Tryz.underlying475
 refine callsIn_of_wp Tryz.func329 rfl trivial ?_ rfl
 simp only [Tryz.ntmps329,List.size_toArray,List.length_cons,List.length_nil,Nat.reduceAdd,Nat.reduceSub,Array.replicate_succ,Array.replicate_zero,List.push_toArray,List.append_toArray,List.nil_append,List.cons_append]
 have hrg0:Rng (W.alloc (.mapIter none 0 #[] 0)).heap ⟨W.heap.size,0,none⟩ ⟨none⟩ ([]:List (Int×Int)):=
  ⟨⟨_,rfl⟩,.inl ⟨rfl,rfl,0,#[],0,by show (W.heap.push _)[W.heap.size]? = _; simp⟩⟩
 have hg0:W.grownBy (W.alloc (.mapIter none 0 #[] 0)) none:=⟨rfl,rfl,rfl,by simp,fun k hk _=>Below.heap_alloc W _ k hk⟩
 have hJ0:=hJ [] W _ none h0 hg0 (fun r e=>by cases e)
 gi_wp2_with (first
  | (gi_at_range; refine qf1 _ rfl _ 475 rfl 3 3 u118 rfl ?_)
  | gi_in)
 go_frame
 gi_loopw [4] (fun _ wr=>Rng wr.heap ⟨W.heap.size,0,none⟩ ⟨none⟩ ([]:List (Int×Int))∧J [] wr) (fun _ _=>0)
 case atStart=>
  exact ⟨hrg0,hJ0⟩
 case round=>
  obtain ⟨hrg,hJs⟩:=hrel
  gi_wp2_with (first
   | (gi_at_next; refine qed _ rfl _ rfl W.heap.size ⟨none⟩ [] rfl hrg ?_ ?_)
   | gi_in)
  go_end0
  exact ⟨⟨_,rfl⟩,[],List.Perm.refl _,hJs⟩
set_option maxHeartbeats 1000000 in
theorem keys_gives329 (n Bm off b:Nat) (l:List (Int×Int)) (W0:World) (hn:1≤n) (hbox:W0.cell? ⟨Bm,off,none⟩ = some (.map (some b))) (hB:Bm < W0.heap.size) (hm:(mpE b l).A W0.heap):
  SeqGives Fence.wide n Tryz.prog 329 #[.pointer (some ⟨Bm,off,none⟩)] encZ (fun ss=>ss.Perm (l.map (·.2))) l.length W0:=by
 intro y J W hW hJ hY h0
 have hbx:W.cell? ⟨Bm,off,none⟩ = some (.map (some b)):=by
  rw [World.cell?_of_block (hW.block Bm hB)]; exact hbox
 obtain ⟨es,clk,hes,HO⟩:=hm
 have hbl:b < W0.heap.size:=(Array.getElem?_eq_some_iff.1 hes).1
 have hb1:W.heap[b]? = some (.map es clk):=(hW.block b hbl).trans hes
 have u118:Tryz.prog.underlying 475 = some (.map 3 3):=Tryz.underlying475
 refine callsIn_of_wp Tryz.func329 rfl trivial ?_ rfl
 simp only [Tryz.ntmps329,List.size_toArray,List.length_cons,List.length_nil,Nat.reduceAdd,Nat.reduceSub,Array.replicate_succ,Array.replicate_zero,List.push_toArray,List.append_toArray,List.nil_append,List.cons_append]
 have hrg0:Rng (W.alloc (.mapIter (some b) clk #[] clk)).heap ⟨W.heap.size,0,none⟩ ⟨some b⟩ l:=by
  refine ⟨⟨_,rfl⟩,.inr ⟨b,es,clk,l,#[],rfl,by show (W.heap.push _)[W.heap.size]? = _; simp,?_,HO,?_⟩⟩
  ·exact (Below.heap_alloc W _ b (Array.getElem?_eq_some_iff.1 hb1).1).trans hb1
  ·have hl:es.toList.length = l.length:=by have:=congrArg List.length HO.kv; simpa using this
   rw [List.filter_eq_self.2 (by simp)]
   exact (List.map_snd_zip (by omega)).symm
 have hg0:W.grownBy (W.alloc (.mapIter (some b) clk #[] clk)) none:=⟨rfl,rfl,rfl,by simp,fun k hk _=>Below.heap_alloc W _ k hk⟩
 have hJ0:=hJ [] W _ none h0 hg0 (fun r e=>by cases e)
 gi_wp2_with (first
  | (gi_at_range; refine wpListIn_rng _ rfl _ 475 rfl 3 3 u118 b es clk rfl hb1 ?_)
  | gi_in)
 go_frame
 gi_loopw [4] (fun _ wr=>∃ (pre:List Int) (todo:List (Int×Int)),Rng wr.heap ⟨W.heap.size,0,none⟩ ⟨some b⟩ todo∧(pre ++ todo.map (·.2)).Perm (l.map (·.2))∧J pre wr)
  (fun _ wr=>tlen wr.heap ⟨W.heap.size,0,none⟩)
 case atStart=>
  exact ⟨[],l,hrg0,by simp,hJ0⟩
 case round=>
  obtain ⟨pre,todo,hrg,hp,hJs⟩:=hrel
  gi_wp2_with (first
   | (gi_at_next; refine qed _ rfl _ rfl W.heap.size ⟨some b⟩ todo rfl hrg ?_ ?_)
   | gi_in)
  ·intro h00
   gi_wp2
   go_end0
   subst h00
   exact ⟨⟨_,rfl⟩,pre,by simpa using hp,hJs⟩
  ·intro x c w2 rest' hpm hrg2 hg2 hs2 o9 hw1 hw2 hen
   have hJ2:J pre w2:=hJ pre wr w2 (some W.heap.size) hJs hg2 (fun r e=>by cases e; exact ⟨Nat.le_refl _,o9,hw1,hw2⟩)
   have hlen:pre.length < l.length:=by
    have h1:=hp.length_eq
    have h2:=hpm.length_eq
    simp at h1 h2
    omega
   obtain ⟨fn,tmps,assign,body,hy,hR⟩:=hY pre c w2 hJ2 hlen
   clear hs2
   have ec:reg c = Value.int .i64 c:=rfl
   rw [ec] at hen ⊢
   gi_wp2
   refine hR.mono ?_
   rintro e W3 ⟨rfl,hJ3,hk3⟩
   gi_wp2
   have hrg3:=Rng_walks hrg2 hk3
   have hpm2:((pre ++ [c]) ++ rest'.map (·.2)).Perm (l.map (·.2)):=by
    refine List.Perm.trans ?_ hp
    have:=hpm.map (·.2)
    simp only [List.append_assoc,List.singleton_append]
    exact List.Perm.append_left _ (by simpa using this.symm)
   go_roundw
   case rel=>exact ⟨pre ++ [c],rest',hrg3,hpm2,hJ3⟩
   case measure=>rw [Rng_tlen hrg3,Rng_tlen hrg]; have:=hpm.length_eq; simp at this; omega
end Go.Proofs.YtmpmildpioebhaaGreatDoor
namespace Go.Proofs.YtmpmildpioebhaaGreatDoor
open Go Go.Sh Go.Vm Go.RowKit
open Go.Sh.Ty (reg)
structure RawV where
 v:Value
instance:Ty RawV:=⟨fun x=>x.v⟩
noncomputable def insN (a:Nat):List Nat→List Nat:=fun l=>List.rec (motive:=fun _=>List Nat) [a] (fun b r ih=>bif Nat.ble a b then a :: b :: r else b :: ih) l
noncomputable def srtN:List Nat→List Nat:=fun l=>List.rec (motive:=fun _=>List Nat) [] (fun a _ ih=>insN a ih) l
noncomputable def ofN:List Nat→CL AV:=fun l=>List.rec (motive:=fun _=>CL AV) .nil (fun a _ ih=>.cons 1 (.i a) ih) l
noncomputable def kysN (l:List KV) (k:List Nat→Ans):Ans:=List.rec (motive:=fun _=>(List Nat→Ans)→Ans) (fun k=>k []) (fun e _ ih k=>match e.k with | .i n=>bz (Nat.ble n 4611686018427387904) (ih fun l=>k (n :: l)) (.er 231) | _=>.er 231) l k
noncomputable def vlsN (l:List KV) (k:List Nat→Ans):Ans:=List.rec (motive:=fun _=>(List Nat→Ans)→Ans) (fun k=>k []) (fun e _ ih k=>match e.k,e.v with | .i a,.i n=>bz (an (Nat.ble a 4611686018427387904) (Nat.ble n 4611686018427387904)) (ih fun l=>k (n :: l)) (.er 235) | _,_=>.er 236) l k
noncomputable def srtE (h:Hp) (q:K1) (ns:List Nat):Ans:=bz (Nat.ble ns.length 1048576) (bz (Nat.beq ns.length 0) (q .sn h) (newS (ofN (srtN ns)) ns.length 1 h q)) (.er 232)
noncomputable def sortK (vf:Bool) (mr:Rid) (h:Hp) (q:K1):Ans:=match getH h mr with
 | .m kk _ es=>bz (kEq kk .int) (bz vf (vlsN es (srtE h q)) (kysN es (srtE h q))) (.er 232)
 | _=>.er 232
noncomputable def hkSorted:Hook:=fun vs h q=>match vs with
 | [.f fid [] [.p r o]]=>bz (Bool.or (Nat.beq fid 329) (Bool.or (Nat.beq fid 71) (Nat.beq fid 108))) (match getH h r with | .c _ cs=>(match ld1 cs o with | .m mr=>sortK (Nat.beq fid 329) mr h q | .mn=>q .sn h | _=>.er 233) | _=>.er 237) (.er 238)
 | _=>.er 234
theorem insN_perm (a:Nat):∀ l,(insN a l).Perm (a :: l)
 | []=>List.Perm.refl _
 | b :: r=>by
  show (bif Nat.ble a b then a :: b :: r else b :: insN a r).Perm _
  cases Nat.ble a b with
  | true=>exact List.Perm.refl _
  | false=>exact ((insN_perm a r).cons b).trans (List.Perm.swap a b r)
theorem insN_sorted (a:Nat):∀ l,l.Pairwise (·≤·)→(insN a l).Pairwise (·≤·)
 | [],_=>by show [a].Pairwise _; simp
 | b :: r,h=>by
  show (bif Nat.ble a b then a :: b :: r else b :: insN a r).Pairwise _
  cases c:Nat.ble a b with
  | true=>
   have:=yh c
   rw [cond_true,List.pairwise_cons]
   refine ⟨fun x hx=>?_,h⟩
   rw [List.pairwise_cons] at h
   rcases List.mem_cons.1 hx with rfl | hx
   ·exact this
   ·exact Nat.le_trans this (h.1 x hx)
  | false=>
   have hba:b≤a:=by
    rcases Nat.lt_or_ge b a with h' | h'
    ·omega
    ·have:=Nat.ble_eq_true_of_le h'; rw [c] at this; cases this
   rw [List.pairwise_cons] at h
   rw [cond_false,List.pairwise_cons]
   refine ⟨fun x hx=>?_,insN_sorted a r h.2⟩
   rcases List.mem_cons.1 ((insN_perm a r).subset hx) with rfl | hx
   ·exact hba
   ·exact h.1 x hx
theorem srtN_ok:∀ l,(srtN l).Perm l∧(srtN l).Pairwise (·≤·)
 | []=>⟨List.Perm.refl _,List.Pairwise.nil⟩
 | a :: l=>by
  obtain ⟨h1,h2⟩:=srtN_ok l
  exact ⟨(insN_perm a (srtN l)).trans (h1.cons a),insN_sorted a _ h2⟩
theorem srtN_merge {ns:List Nat} {ss:List Int} (h:ss.Perm (ns.map fun (n:Nat)=>(n:Int))):(ss.mergeSort fun x y=>decide (x≤y)) = (srtN ns).map fun (n:Nat)=>(n:Int):=by
 obtain ⟨h1,h2⟩:=srtN_ok ns
 have tr:∀ a b c:Int,decide (a≤b) = true→decide (b≤c) = true→decide (a≤c) = true:=by
  intro a b c; simp only [decide_eq_true_eq]; omega
 have tot:∀ a b:Int,(decide (a≤b) || decide (b≤a)) = true:=by
  intro a b; simp only [Bool.or_eq_true,decide_eq_true_eq]; omega
 have g1:=List.pairwise_mergeSort tr tot ss
 refine List.Perm.eq_of_pairwise (le:=fun x y=>decide (x≤y) = true) ?_ g1 ?_ (((List.mergeSort_perm ss _).trans h).trans (h1.map _).symm)
 ·intro x y _ _ hx hy
  simp only [decide_eq_true_eq] at hx hy
  omega
 ·rw [List.pairwise_map]
  exact h2.imp fun h=>by simp only [decide_eq_true_eq]; omega
section
variable {X:Go.Vm.Cx} {θ:Th} {hp:Hp} {h:H}
theorem ofN_rc:∀ {l:List Nat},(∀ n ∈ l,n≤4611686018427387904)→RC θ (ofN l) (l.map fun (n:Nat)=>Value.int .i64 ((n:Int)))
 | [],_=>rfl
 | a :: l,hl=>by
  refine ⟨[_],_,rfl,RW.of (.inl ⟨by have:=hl a (by simp); omega,?_⟩) (by intro n e; cases e),ofN_rc fun n hn=>hl n (by simp [hn])⟩
  rw [qa4 (by have:=hl a (by simp); omega)]
theorem kys_ok (hX:CxOk X) {kk:KK}:∀ {es:List KV} {ms:List MapEntry} {k:List Nat→Ans},KVs θ kk es ms→X.G (kysN es k) →
  ∃ (ns:List Nat) (l:List (Int×RawV)),l.map (·.1) = ns.map (fun (n:Nat)=>(n:Int))∧ms.map (fun e=>(e.key,e.val)) = l.map (fun p=>(reg p.1,reg p.2))∧(∀ n ∈ ns,n≤4611686018427387904)∧X.G (k ns)
 | [],_,k,h,g=>⟨[],[],rfl,by rw [show _ = [] from h]; rfl,by simp,g⟩
 | e :: es,_,k,⟨m,r,hm,h1,h2⟩,g=>by
  subst hm
  have g:X.G (match e.k with | .i n=>bz (Nat.ble n 4611686018427387904) (kysN es fun l=>k (n :: l)) (.er 231) | _=>.er 231):=g
  split at g
  ·rename_i n he
   obtain ⟨c,g⟩:=qak hX.gd g
   have c:=yh c
   obtain ⟨ns,l,a1,a2,a3,g⟩:=kys_ok hX h2 g
   have hk:=h1.2.1
   rw [he] at hk
   have hk:=((RV1.toRV hk).ra (v:=.i n) trivial).2
   rw [qa4 (by omega)] at hk
   refine ⟨n :: ns,((n:Int),⟨m.val⟩) :: l,by simp [a1],?_,fun x hx=>?_,g⟩
   ·rw [List.map_cons,List.map_cons,a2,hk]; rfl
   ·rcases List.mem_cons.1 hx with rfl | hx
    ·exact c
    ·exact a3 x hx
  ·exact (hX.gd.er _ g).elim
theorem vls_ok (hX:CxOk X) {kk:KK}:∀ {es:List KV} {ms:List MapEntry} {k:List Nat→Ans},KVs θ kk es ms→X.G (vlsN es k) →
  ∃ (ns:List Nat) (l:List (Int×Int)),l.map (·.2) = ns.map (fun (n:Nat)=>(n:Int))∧ms.map (fun e=>(e.key,e.val)) = l.map (fun p=>(reg p.1,reg p.2))∧(∀ n ∈ ns,n≤4611686018427387904)∧X.G (k ns)
 | [],_,k,h,g=>⟨[],[],rfl,by rw [show _ = [] from h]; rfl,by simp,g⟩
 | e :: es,_,k,⟨m,r,hm,h1,h2⟩,g=>by
  subst hm
  have g:X.G (match e.k,e.v with | .i a,.i n=>bz (an (Nat.ble a 4611686018427387904) (Nat.ble n 4611686018427387904)) (vlsN es fun l=>k (n :: l)) (.er 235) | _,_=>.er 236):=g
  split at g
  ·rename_i a n he hv
   obtain ⟨c,g⟩:=qak hX.gd g
   obtain ⟨c0,c⟩:=qaf c
   have c0:=yh c0
   have c:=yh c
   obtain ⟨ns,l,a1,a2,a3,g⟩:=vls_ok hX h2 g
   have hk:=h1.2.1
   rw [he] at hk
   have hk:=((RV1.toRV hk).ra (v:=.i a) trivial).2
   have hw:=h1.2.2.1
   rw [hv] at hw
   have hw:=((RV1.toRV hw).ra (v:=.i n) trivial).2
   rw [qa4 (by omega)] at hk hw
   refine ⟨n :: ns,((a:Int),(n:Int)) :: l,by simp [a1],?_,fun x hx=>?_,g⟩
   ·rw [List.map_cons,List.map_cons,a2,hk,hw]; rfl
   ·rcases List.mem_cons.1 hx with rfl | hx
    ·exact c
    ·exact a3 x hx
  ·exact (hX.gd.er _ g).elim
theorem newS_own (S:SR X θ hp h) (hX:CxOk X) {h':H} {l:CL AV} {n:Nat} {vs:List Value} {q:K1} (hl:RC θ l vs) (hn:vs.length = n) {g:Nat} {cap:Nat} {cur:Array Value} {ty:TypeId} (hg:h.size≤g) (hgs:h'[g]? = some (.cells cur ty (0,0))) (hc:n≤cap) (hcs:cur.size = cap) (ht:cur.toList.take n = vs)
  (hb:∀ b,b < h.size→b < h'.size∧h'[b]? = h[b]?) (gg:X.G (newS l n 1 hp q)):Res X θ hp q (.slice (some ⟨g,0,none⟩) n cap) h':=by
 unfold newS at gg
 obtain ⟨_,gg⟩:=qak hX.gd gg
 have gg:=frC_ok hX.gd gg
 rw [frN_eq,frN_eq] at gg
 have gg:X.G (hnew hp (.c (n * 1) l) fun r h=>q (.sl r 0 n 1) h):=gg
 rw [Nat.mul_one] at gg
 obtain ⟨nx',hnx,gg⟩:=hnew_ok S hX gg
 have hgl:g < h'.size:=by rw [Array.getElem?_eq_some_iff] at hgs; exact hgs.1
 refine ⟨thUp θ hp.nx (g,0,cap),_,_,S.add (x:=(g,0,cap)) (row:=.c n l) hnx ?_ hgl (fun b hbl _=>(hb b hbl).2) (fun r y hr _ e=>?_) (fun hU=>?_) ?_,S.ext_new _,by show tor hp.nx≤tor nx'; omega,?_,gg⟩
 ·rcases Nat.eq_zero_or_pos h.size with h0 | h0
  ·omega
  ·have:=(hb (h.size - 1) (by omega)).1; omega
 ·have:=S.blk r y hr
  have e:y.1 = g:=e
  omega
 ·have:=(S.keepU g hU).1; omega
 ·exact ⟨cur,ty,(0,0),vs,hgs,by show 0 + cap = cur.size; omega,hc,.inl rfl,RC.mono (qe0 S.nx_none _) hl,hn,by rw [List.drop_zero]; exact ht⟩
 ·exact rv_sl (o:=0) (qb1 _ _ _) (by decide) (by omega) hc
end
theorem srt_tail {X:Go.Vm.Cx} {θ:Th} {hp:Hp} {w w':World} (S:SR X θ hp w.heap) (hX:CxOk X) {ns:List Nat} {ss:List Int} {v:Value} {q:K1} (hperm:ss.Perm (ns.map fun (n:Nat)=>(n:Int))) (k3:∀ n ∈ ns,n≤4611686018427387904)
  (hrow:w'.ownsRow w.heap.size 3 1 v ss.length ((ss.mergeSort (fun x y=>decide (x≤y))).map encZ)) (hnil:v = .slice none 0 0 ↔ ss = []) (hb:Below w.heap.size w w')
  (g:X.G (bz (Nat.beq ns.length 0) (q .sn hp) (newS (ofN (srtN ns)) ns.length 1 hp q) )):Res X θ hp q v w'.heap:=by
 have hbb:∀ b,b < w.heap.size→b < w'.heap.size∧w'.heap[b]? = w.heap[b]?:=fun b hb'=>⟨Nat.lt_of_lt_of_le hb' hb.size,hb.block b hb'⟩
 have hsl:ss.length = ns.length:=by have:=hperm.length_eq; simpa using this
 cases c4:Nat.beq ns.length 0 with
 | true=>
  rw [c4] at g
  have h0:ns.length = 0:=ya c4
  have hss:ss = []:=List.eq_nil_of_length_eq_zero (by omega)
  have:=hnil.2 hss
  subst this
  exact ⟨θ,hp,.sn,S.grow hbb,Go.Vm.Ext.refl _ _,Nat.le_refl _,.inl (.inl (.inl rfl)),g⟩
 | false=>
  rw [c4] at g
  have h0:=qcl c4
  have g:X.G (newS (ofN (srtN ns)) ns.length 1 hp q):=g
  rcases hrow.2 with ⟨_,hz⟩ | ⟨gb,cap,cur,rfl,hbase,hgb,q1,q2,q3,q4⟩
  ·omega
  ·have hsrt:∀ n ∈ srtN ns,n≤4611686018427387904:=fun n hn=>k3 n ((srtN_ok ns).1.subset hn)
   have hvals:(ss.mergeSort fun x y=>decide (x≤y)).map encZ = (srtN ns).map fun (n:Nat)=>Value.int .i64 ((n:Int)):=by
    rw [srtN_merge hperm,List.map_map]; rfl
   have hlen2:((srtN ns).map fun (n:Nat)=>Value.int .i64 ((n:Int))).length = ns.length:=by rw [List.length_map,(srtN_ok ns).1.length_eq]
   rw [hsl] at q1 q4 ⊢
   rw [hvals,Nat.mul_one] at q4
   exact newS_own S hX (ofN_rc hsrt) hlen2 hbase hgb q1 (by omega) q4 hbb g
theorem fn47:FnOk Prog 47:=⟨_,Tryz.func47,by kernel_rfl,by kernel_rfl⟩
theorem ent70:∀ args w,(callFunc 70 args).run Tryz.prog w = .ok (.enter 70 args) w:=enters_of Tryz.func70 (by kernel_rfl) rfl
theorem ent71:∀ args w,(callFunc 71 args).run Tryz.prog w = .ok (.enter 71 args) w:=enters_of Tryz.func71 (by kernel_rfl) rfl
theorem ent108:∀ args w,(callFunc 108 args).run Tryz.prog w = .ok (.enter 108 args) w:=enters_of Tryz.func108 (by kernel_rfl) rfl
theorem sorted_calls {fid:Nat} (hfid:fid = 71∨fid = 108) {w:World} {Bm off b:Nat} {l:List (Int×RawV)} (hbox:w.cell? ⟨Bm,off,none⟩ = some (.map (some b))) (hB:Bm < w.heap.size) (hm:(mpE b l).A w.heap) (hl:l.length≤1048576):
  Calls Tryz.prog 47 #[.func (.func fid) #[] #[.pointer (some ⟨Bm,off,none⟩)]] w fun e w'=>∃ (v:Value) (ss:List Int),e = .returned v∧ss.Perm (l.map (·.1)) ∧
   w'.ownsRow w.heap.size 3 1 v ss.length ((ss.mergeSort (fun x y=>decide (x≤y))).map encZ)∧(v = .slice none 0 0 ↔ ss = [])∧Below w.heap.size w w':=by
 have hlen:l.length≤maxLen:=by simp only [maxLen]; omega
 rcases hfid with rfl | rfl
 ·have hseq:=keys_gives71 2 Bm off b l w (by omega) hbox hB hm
  exact callsIn_wide.1 (AnyZI.sorted_in sortedA Fence.wide 5 trivial trivial trivial trivial rfl (by omega) (sortsA _) ent70 71 #[.pointer (some ⟨Bm,off,none⟩)] trivial ent71 _ _ hlen (by omega) _ hseq)
 ·have hseq:=keys_gives108 2 Bm off b l w (by omega) hbox hB hm
  exact callsIn_wide.1 (AnyZI.sorted_in sortedA Fence.wide 5 trivial trivial trivial trivial rfl (by omega) (sortsA _) ent70 108 #[.pointer (some ⟨Bm,off,none⟩)] trivial ent108 _ _ hlen (by omega) _ hseq)
theorem ent329:∀ args w,(callFunc 329 args).run Tryz.prog w = .ok (.enter 329 args) w:=enters_of Tryz.func329 (by kernel_rfl) rfl
theorem sorted_callsV {w:World} {Bm off b:Nat} {l:List (Int×Int)} (hbox:w.cell? ⟨Bm,off,none⟩ = some (.map (some b))) (hB:Bm < w.heap.size) (hm:(mpE b l).A w.heap) (hl:l.length≤1048576):
  Calls Tryz.prog 47 #[.func (.func 329) #[] #[.pointer (some ⟨Bm,off,none⟩)]] w fun e w'=>∃ (v:Value) (ss:List Int),e = .returned v∧ss.Perm (l.map (·.2)) ∧
   w'.ownsRow w.heap.size 3 1 v ss.length ((ss.mergeSort (fun x y=>decide (x≤y))).map encZ)∧(v = .slice none 0 0 ↔ ss = [])∧Below w.heap.size w w':=by
 have hlen:l.length≤maxLen:=by simp only [maxLen]; omega
 have hseq:=keys_gives329 2 Bm off b l w (by omega) hbox hB hm
 exact callsIn_wide.1 (AnyZI.sorted_in sortedA Fence.wide 5 trivial trivial trivial trivial rfl (by omega) (sortsA _) ent70 329 #[.pointer (some ⟨Bm,off,none⟩)] trivial ent329 _ _ hlen (by omega) _ hseq)
theorem sorted_callsN {fid:Nat} (hfid:fid = 329∨fid = 71∨fid = 108) {w:World} {Bm off:Nat} (hbox:w.cell? ⟨Bm,off,none⟩ = some (.map none)) (hB:Bm < w.heap.size):
  Calls Tryz.prog 47 #[.func (.func fid) #[] #[.pointer (some ⟨Bm,off,none⟩)]] w fun e w'=>e = .returned (.slice none 0 0)∧Below w.heap.size w w':=by
 have key:∀ v (ss:List Int),ss.Perm ([]:List Int)→(v = .slice none 0 0 ↔ ss = [])→v = Value.slice none 0 0:=fun v ss h1 h2=>h2.2 (List.Perm.eq_nil h1)
 rcases hfid with rfl | rfl | rfl
 ·have hseq:=keys_givesN329 2 Bm off w (by omega) hbox hB
  refine (callsIn_wide.1 (AnyZI.sorted_in sortedA Fence.wide 5 trivial trivial trivial trivial rfl (by omega) (sortsA _) ent70 329 #[.pointer (some ⟨Bm,off,none⟩)] trivial ent329 _ 0 (by decide) (by decide) _ hseq)).mono ?_
  rintro e w' ⟨v,ss,rfl,hp,_,hn,hb⟩
  exact ⟨by rw [key v ss hp hn],hb⟩
 ·have hseq:=keys_givesN71 2 Bm off w (by omega) hbox hB
  refine (callsIn_wide.1 (AnyZI.sorted_in sortedA Fence.wide 5 trivial trivial trivial trivial rfl (by omega) (sortsA _) ent70 71 #[.pointer (some ⟨Bm,off,none⟩)] trivial ent71 _ 0 (by decide) (by decide) _ hseq)).mono ?_
  rintro e w' ⟨v,ss,rfl,hp,_,hn,hb⟩
  exact ⟨by rw [key v ss hp hn],hb⟩
 ·have hseq:=keys_givesN108 2 Bm off w (by omega) hbox hB
  refine (callsIn_wide.1 (AnyZI.sorted_in sortedA Fence.wide 5 trivial trivial trivial trivial rfl (by omega) (sortsA _) ent70 108 #[.pointer (some ⟨Bm,off,none⟩)] trivial ent108 _ 0 (by decide) (by decide) _ hseq)).mono ?_
  rintro e w' ⟨v,ss,rfl,hp,_,hn,hb⟩
  exact ⟨by rw [key v ss hp hn],hb⟩
theorem hkSorted_ok:HookOk Prog 47 hkSorted:=by
 intro X hX θ hp h args vals q S hr g
 refine ⟨fn47,?_⟩
 unfold hkSorted at g
 split at g
 ·rename_i fid r o
  obtain ⟨V,e,hV⟩:=rvs1 hr
  subst e
  have hF:RF θ (.f fid [] [.p r o]) V:=hV.atm trivial
  rcases hF with hF | ⟨f,fs,cs,xs,ys,e,e2,h1,h2⟩
  ·exact absurd hF id
  injection e with e1 e3 e4
  subst e1; subst e3; subst e4
  have hxs:xs = []:=h1
  subst hxs
  obtain ⟨V1,r1,e5,h3,h4⟩:=h2
  have:r1 = []:=h4
  subst this
  obtain ⟨b,o0,t,hr1,e6⟩:=h3
  subst e5; subst e6; subst e2
  obtain ⟨c,g⟩:=qak hX.gd g
  have hfid:fid = 329∨fid = 71∨fid = 108:=by
   rcases (Bool.or_eq_true _ _).mp c with c | c
   ·exact .inl (ya c)
   rcases (Bool.or_eq_true _ _).mp c with c | c
   ·exact .inr (.inl (ya c))
   ·exact .inr (.inr (ya c))
  cases hg:getH hp r <;> simp only [hg] at g <;> first | exact (hX.gd.er _ g).elim | skip
  rename_i L cs
  obtain ⟨vs,hat,hcs,hvl⟩:=qee S hr1 hg
  cases hld:ld1 cs o <;> simp only [hld] at g <;> first | exact (hX.gd.er _ g).elim | skip
  rotate_left
  ·obtain ⟨V,h5,h6⟩:=ld1_ok hcs (o:=o) (by rw [hld]; intro e; cases e)
   rw [hld] at h6
   have h6:V = .map none:=h6.ra (v:=.mn) trivial
   subst h6
   intro w hw
   subst hw
   have hbl:b < w.heap.size:=S.blk _ _ hr1
   have hbox:w.cell? ⟨b,o0 + o,none⟩ = some (.map none):=by
    obtain ⟨_,arr,T,fr,q1,q2⟩:=hat
    have:=q2 o _ h5
    have q1:w.heap[b]? = some (.cells arr T fr):=q1
    have this:arr[o0 + o]? = some (.map none):=this
    simp [World.cell?,q1,this]
   refine (sorted_callsN hfid hbox hbl).mono ?_
   rintro e w' ⟨rfl,hb⟩
   refine ⟨_,rfl,hb.tape,hb.os,hb.output,?_⟩
   exact ⟨θ,hp,.sn,S.grow fun b hb'=>⟨Nat.lt_of_lt_of_le hb' hb.size,hb.block b hb'⟩,Go.Vm.Ext.refl _ _,Nat.le_refl _,.inl (.inl (.inl rfl)),g⟩
  rename_i mr
  have hcell:∃ V,vs[o]? = some V∧RV θ (.m mr) V:=by
   obtain ⟨V,h5,h6⟩:=ld1_ok hcs (o:=o) (by rw [hld]; intro e; cases e)
   exact ⟨V,h5,by rw [hld] at h6; exact .inl (.inl h6)⟩
  obtain ⟨V2,hv2,hm⟩:=hcell
  obtain ⟨b2,o2,t2,hr2,e7⟩:=hm.ra (v:=.m mr) trivial
  subst e7
  have hrow:=S.rows mr _ hr2
  unfold sortK at g
  cases hg2:getH hp mr <;> simp only [hg2] at g <;> first | exact (hX.gd.er _ g).elim | skip
  rename_i kk clk es
  rw [hg2] at hrow
  obtain ⟨ms,m1,m2,m3,m4⟩:=hrow
  obtain ⟨c2,g⟩:=qak hX.gd g
  have hbox:∀ w:World,w.heap = h→w.cell? ⟨b,o0 + o,none⟩ = some (.map (some b2)):=by
   intro w hw
   obtain ⟨_,arr,T,fr,q1,q2⟩:=hat
   have:=q2 o _ hv2
   have q1:w.heap[b]? = some (.cells arr T fr):=by rw [hw]; exact q1
   have this:arr[o0 + o]? = some (.map (some b2)):=this
   simp [World.cell?,q1,this]
  cases cv:Nat.beq fid 329 with
  | true=>
   rw [cv] at g
   obtain ⟨ns,l,k1,k2,k3,g⟩:=vls_ok hX m2 g
   obtain ⟨c3,g⟩:=qak hX.gd g
   have c3:=yh c3
   have hll:l.length = ns.length:=by have:=congrArg List.length k1; simpa using this
   intro w hw
   subst hw
   rw [ya cv]
   refine (sorted_callsV (hbox w rfl) (S.blk _ _ hr1) (l:=l) ⟨ms,clk,m1,⟨k2,m4,m3⟩⟩ (by omega)).mono ?_
   rintro e w' ⟨v,ss,rfl,hperm,hrow,hnil,hb⟩
   refine ⟨v,rfl,hb.tape,hb.os,hb.output,?_⟩
   rw [k1] at hperm
   exact srt_tail S hX hperm k3 hrow hnil hb g
  | false=>
   rw [cv] at g
   have hfid:fid = 71∨fid = 108:=by
    rcases hfid with rfl | h
    ·cases cv
    ·exact h
   obtain ⟨ns,l,k1,k2,k3,g⟩:=kys_ok hX m2 g
   obtain ⟨c3,g⟩:=qak hX.gd g
   have c3:=yh c3
   have hll:l.length = ns.length:=by have:=congrArg List.length k1; simpa using this
   intro w hw
   subst hw
   refine (sorted_calls hfid (hbox w rfl) (S.blk _ _ hr1) (l:=l) ⟨ms,clk,m1,⟨k2,m4,m3⟩⟩ (by omega)).mono ?_
   rintro e w' ⟨v,ss,rfl,hperm,hrow,hnil,hb⟩
   refine ⟨v,rfl,hb.tape,hb.os,hb.output,?_⟩
   rw [k1] at hperm
   exact srt_tail S hX hperm k3 hrow hnil hb g
 ·exact (hX.gd.er _ g).elim
end Go.Proofs.YtmpmildpioebhaaGreatDoor
namespace Go.Proofs.YtmpmildpioebhaaGreatDoor
open Go Go.RowKit Go.Shelf
open Go.Sh.Ty (reg)
attribute [local go_sem] Oper.semAt_some
def chV (blk off len c k:Nat):Value:=.slice (some ⟨blk,off + k * c,none⟩) (min c (len - k * c)) (min c (len - k * c))
set_option maxRecDepth 100000 in
set_option maxHeartbeats 4000000 in
theorem chunk_in (n l B1 o1 B2 o2 n0 blk off len cap c:Nat) (hn:1≤n) (hc0:0 < c) (hc1:c≤1073741824) (hl:len≤1073741824) (hcap:len≤cap) (hB1:B1 < n0) (hB2:B2 < n0) (J Jx:List Nat→World→Prop) (hJd:∀ pre W,J pre W→J pre W.drew)
  (hY:∀ pre x W,J pre W→pre.length < len→YieldAt Fence.wide (n - 1) Tryz.prog l #[chV blk off len c x] W fun e W'=>
   (e = .returned (.bool true)∧J (pre ++ [x]) W'∧Below n0 W W')∨(e = .returned (.bool false)∧Jx (pre ++ [x]) W'))
  (W:World) (h1:W.cell? ⟨B1,o1,none⟩ = some (.slice (some ⟨blk,off,none⟩) len cap)) (h2:W.cell? ⟨B2,o2,none⟩ = some (.int .i64 (c:Int))) (h0:J [] W):
  CallsIn Fence.wide n Tryz.prog 313 #[.func (.yield l) #[] #[],.pointer (some ⟨B1,o1,none⟩),.pointer (some ⟨B2,o2,none⟩)] W fun e W'=>(∃ v,e = .returned v) ∧
   ((∃ ys,ys = List.range ((len + (c - 1)) / c)∧J ys W')∨(∃ pre,True∧Jx pre W')):=by
 refine callsIn_of_wp Tryz.func313 rfl trivial ?_ rfl
 simp only [Tryz.ntmps313,List.size_toArray,List.length_cons,List.length_nil,Nat.reduceAdd,Nat.reduceSub,Array.replicate_succ,Array.replicate_zero,List.push_toArray,List.append_toArray,List.nil_append,List.cons_append]
 gi_wp2
 gi_loopw [4,5] (fun i _ wr=>∃ k:Nat,(k = 0∨∃ q,k * c = q + c∧q < len)∧i = .int .i64 ((k * c:Nat):Int)∧J (List.range k) wr∧Below n0 W wr)
  (fun i _ _=>len - (intOf i).toNat)
 case atStart=>exact ⟨0,.inl rfl,by simp,h0,Below.refl _ _⟩
 case round=>
  obtain ⟨k,hkc,rfl,hJs,hnx⟩:=hrel
  have hkk:k≤k * c:=Nat.le_mul_of_pos_right k hc0
  have c1:wr.cell? ⟨B1,o1,none⟩ = some (.slice (some ⟨blk,off,none⟩) len cap):=(hnx.cell (p:=⟨B1,o1,none⟩) hB1).trans h1
  have c2:wr.cell? ⟨B2,o2,none⟩ = some (.int .i64 (c:Int)):=(hnx.cell (p:=⟨B2,o2,none⟩) hB2).trans h2
  by_cases hlt:k * c < len
  ·gi_wp2
   gi_region
   have hJd2:=hJd _ _ hJs
   have hnx2:Below n0 W wr.drew:=hnx.trans ⟨rfl,rfl,rfl,Nat.le_refl _,fun _ _=>rfl⟩
   have d1:wr.drew.cell? ⟨B1,o1,none⟩ = some (.slice (some ⟨blk,off,none⟩) len cap):=c1
   have d2:wr.drew.cell? ⟨B2,o2,none⟩ = some (.int .i64 (c:Int)):=c2
   obtain ⟨fn,tmps,assign,body,hy,hR⟩:=hY _ k wr.drew hJd2 (by rw [List.length_range]; omega)
   have hm:(min (c:Int) ((len - k * c:Nat):Int)) = ((min c (len - k * c):Nat):Int):=by omega
   simp only [hm]
   have hm1:min c (len - k * c)≤len - k * c:=Nat.min_le_right _ _
   have hm2:0 < min c (len - k * c):=by omega
   unfold chV at hy
   clear hJs hJd2 hnx c1 c2
   generalize wr.drew = wd at *
   revert hy hm1 hm2
   generalize min c (len - k * c) = m
   intro hy hm1 hm2
   have hb1:((k * c:Nat):Int) + (m:Int) = ((k * c + m:Nat):Int):=by omega
   have hb2:k * c + m≤cap:=by omega
   gi_wp2
   refine hR.mono ?_
   rintro e W3 (⟨rfl,hJ3,hk3⟩ | ⟨rfl,hJx3⟩)
   ·have f1:W3.cell? ⟨B1,o1,none⟩ = some (.slice (some ⟨blk,off,none⟩) len cap):=(hk3.cell (p:=⟨B1,o1,none⟩) hB1).trans d1
    have f2:W3.cell? ⟨B2,o2,none⟩ = some (.int .i64 (c:Int)):=(hk3.cell (p:=⟨B2,o2,none⟩) hB2).trans d2
    gi_wp2
    go_roundw
    case rel=>exact ⟨k + 1,.inr ⟨k * c,Nat.succ_mul k c,hlt⟩,by simp [Nat.succ_mul],by rw [List.range_succ]; exact hJ3,hnx2.trans hk3⟩
    case measure=>simp [intOf]; omega
   ·gi_wp2
    refine bodyPost_ret (results_none rfl _ _ _) rfl ?_
    exact ⟨⟨_,rfl⟩,.inr ⟨_,trivial,hJx3⟩⟩
  ·gi_wp2
   go_end0
   refine ⟨⟨_,rfl⟩,.inl ⟨_,rfl,?_⟩⟩
   have:(len + (c - 1)) / c = k:=by
    rcases hkc with rfl | ⟨q,h3,h4⟩
    ·simp only [Nat.zero_mul] at hlt
     exact Nat.div_eq_of_lt (by omega)
    ·refine Nat.div_eq_of_lt_le ?_ ?_
     ·omega
     ·rw [Nat.succ_mul]; omega
   rw [this]; exact hJs
end Go.Proofs.YtmpmildpioebhaaGreatDoor
namespace Go.Proofs.YtmpmildpioebhaaGreatDoor
open Go Go.RowKit Go.Shelf Go.Maps
open Go.Sh.Ty (reg)
attribute [local go_sem] Oper.semAt_some
theorem info173:(Tryz.prog.info? 173).map (fun i=>(i.zero,i.size,i.bytes)) = some (some (.slice none 0 0),1,24):=by kernel_rfl
theorem ent313:∀ args w,(callFunc 313 args).run Tryz.prog w = .ok (.enter 313 args) w:=enters_of Tryz.func313 (by kernel_rfl) rfl
theorem box_cell {W:World} {b:Nat} {v:Value} {t:TypeId} (h:W.heap[b]? = some (.cells #[v] t (0,0))):W.cell? ⟨b,0,none⟩ = some v∧W.frozen? ⟨b,0,none⟩ = false:=by
 constructor
 ·simp [World.cell?,h]
 ·simp [World.frozen?,h]
set_option maxRecDepth 100000 in
set_option maxHeartbeats 4000000 in
theorem append_in (n : Nat) (hn : 3 ≤ n) (lb : Array Value) (ad : Nat → Addr) (mm : Nat → Nat) (S Sp : List Nat → Prop) (N : Nat) (hN : N ≤ 1073741824) (w : World)
    (hseq : ∀ w', Below w.heap.size w w' → SeqStopsK Fence.wide (n - 1) Tryz.prog 313 lb (fun x => #[Value.slice (some (ad x)) (mm x) (mm x)]) (Below w.heap.size) S Sp N w') :
    CallsIn Fence.wide n Tryz.prog 312 #[.slice none 0 0, .func (.func 313) #[] lb] w fun e w' => ∃ (v : Value) (ss : List Nat), e = .returned v ∧ S ss ∧ w'.ownsRow w.heap.size 173 1 v ss.length (ss.map fun x => .slice (some (ad x)) (mm x) (mm x)) ∧ (v = .slice none 0 0 ↔ ss = []) ∧ Below w.heap.size w w' := by
  have h1 : 1 ≤ n := by omega
  obtain ⟨i0, hi, hz0, hz1, hz2⟩ := info_parts info173
  refine callsIn_of_wp_marks Tryz.func312 rfl trivial ?_ rfl
  simp only [Tryz.ntmps312, List.size_toArray, List.length_cons, List.length_nil, Nat.reduceAdd, Nat.reduceSub, Array.replicate_succ, Array.replicate_zero, List.push_toArray, List.append_toArray, List.nil_append, List.cons_append]
  gi_wp2
  have hb0 : Below w.heap.size w (w.alloc (.cells #[.slice none 0 0] 220)) := (Below.refl _ w).alloc (Nat.le_refl _) _
  have hv0 : (w.alloc (.cells #[.slice none 0 0] 220)).heap[w.heap.size]? = some (.cells #[.slice none 0 0] 220 (0, 0)) := World.alloc_heap_new w _
  have nb : ∀ {A : World} {r : Nat} {v : Value} {t : TypeId} {b : Nat}, A.heap[b]? = some (.cells #[v] t (0, 0)) → (∃ o : Obj, A.heap[r]? = some o ∧ o.isCells = false) → b ≠ r := by
    rintro A r v t b hb ⟨o, ho, hc⟩ rfl
    rw [hb] at ho; cases ho; cases hc
  refine wpIn_rangeFunc_ownF rfl h1 (gf := 313) (lb := lb) rfl trivial ent313 (hseq w (Below.refl _ _)) belowK_t (belowK_b (by simp)) hb0 (fun _ => rfl)
    (fun pre W => (∃ v, W.heap[w.heap.size]? = some (.cells #[v] 220 (0, 0)) ∧ W.ownsRow w.heap.size 173 1 v pre.length (pre.map fun x => Value.slice (some (ad x)) (mm x) (mm x)) ∧ (v = .slice none 0 0 ↔ pre = [])) ∧ Below w.heap.size w W)
    (fun _ _ _ => False)
    (OwnFrom.and (fun s A B row hs hg hr => ?own) (ownFrom_below (Nat.le_refl _) (by simp)))
    (fun _ _ _ _ _ hs _ _ => hs)
    ⟨⟨_, hv0, (World.ownsRow_nil w _ _ _).alloc _, by simp⟩, hb0⟩
    (fun x => { tmps := #[.slice none 0 0, .func (.func 313) #[] lb, .pointer (some ⟨w.heap.size, 0, none⟩), undef, .slice none 0 0, .slice (some (ad x)) (mm x) (mm x), .func (.func 313) #[] lb, .slice (some (ad x)) (mm x) (mm x), undef, undef, undef, undef, undef], defers := [] }) ?assign ?body ?done ?stop
  case own =>
    obtain ⟨v, h2, h3, h4⟩ := hs
    have hne : ∀ r, row = some r → w.heap.size ≠ r := fun r e => nb h2 (hr r e).2
    have hlt : w.heap.size < A.heap.size := by rw [Array.getElem?_eq_some_iff] at h2; exact h2.1
    refine ⟨v, (hg.block _ hlt (fun e => hne _ e.symm rfl)).trans h2, h3.kept hg ?_, h4⟩
    rcases h3.2 with ⟨rfl, _⟩ | ⟨g, cap, cur, rfl, _, hgb, _⟩
    · exact .inl rfl
    · refine .inr fun e => ?_
      obtain ⟨o, ho, hc⟩ := (hr g (by rw [← e]; rfl)).2
      rw [hgb] at ho; cases ho; cases hc
  case assign =>
    intro l x W K hK
    gi_wp2
    exact hK
  case body =>
    rintro l pre x W ⟨⟨v, h2, h3, h4⟩, hB⟩ hpl
    obtain ⟨c1, c2⟩ := box_cell h2
    have hlt : w.heap.size < W.heap.size := by rw [Array.getElem?_eq_some_iff] at h2; exact h2.1
    gi_wp2_with (first
      | (gi_at_builtin; refine wpListIn_append_own _ rfl _ _ 220 rfl w.heap.size 173 i0 (.slice none 0 0) 1 24 Tryz.underlying220 hi hz0 hz1 hz2 rfl (by decide) _ _ _ rfl (h3.alloc _) ⟨W.heap.size, 0, none⟩ 1 1 [.slice (some (ad x)) (mm x) (mm x)] rfl rfl (cell_one_new _ _ _) (by simp [Value.oneCell']) (by simp only [maxLen]; omega) (by omega) (by simp; omega) ?_; intro v' w3 hown' hg3 hnil3
         have hnb : some w.heap.size ≠ v.ownBlock := by
           rcases h3.2 with ⟨rfl, _⟩ | ⟨g, cap, cur, rfl, _, hgb, _⟩
           · simp [Value.ownBlock]
           · intro e
             have : w.heap.size = g := by simpa [Value.ownBlock] using e
             subst this
             rw [h2] at hgb; cases hgb
         have h2' : w3.heap[w.heap.size]? = some (.cells #[v] 220 (0, 0)) := (hg3.block _ (by simp; omega) hnb).trans ((Below.heap_alloc _ _ _ hlt).trans h2)
         obtain ⟨c3, c4⟩ := box_cell h2'
         obtain ⟨g', cap', rfl, hg0⟩ : ∃ g' cap', v' = .slice (some ⟨g', 0, none⟩) (pre.length + 1) cap' ∧ (∃ cur', w3.heap[g']? = some (.cells cur' 173 (0, 0))) := by
           rcases hown'.2 with ⟨_, h0⟩ | ⟨g', cap', cur', e, _, h', _⟩
           · exact absurd h0 (by omega)
           · exact ⟨g', cap', e, cur', h'⟩)
      | gi_in)
    have hg3' : (W.alloc (.cells #[.slice (some (ad x)) (mm x) (mm x)] 173)).grownBy w3 v.ownBlock := hg3
    have hle : w.heap.size ≤ W.heap.size := Nat.le_of_lt hlt
    have hg4 : w3.grownBy (w3.setCell ⟨w.heap.size, 0, none⟩ (.slice (some ⟨g', 0, none⟩) (pre.length + 1) cap')) (some w.heap.size) := grownBy_setCell0_a _ _ _
    have hW3 : w.heap.size ≤ w3.heap.size := by have := hg3'.size; simp at this; omega
    have cells3 : ∀ (j : Nat) (o : Obj), v.ownBlock = some j → (W.alloc (.cells #[.slice (some (ad x)) (mm x) (mm x)] 173)).heap[j]? = some o → o.isCells = true := by
      intro j o hj ho
      rcases (h3.alloc (.cells #[.slice (some (ad x)) (mm x) (mm x)] 173)).2 with ⟨rfl, _⟩ | ⟨g, cap, cur, rfl, _, hgb, _⟩
      · simp [Value.ownBlock] at hj
      · have : g = j := by simpa [Value.ownBlock] using hj
        subst this
        rw [hgb] at ho; cases ho; rfl
    have hBe : Below w.heap.size W (w3.setCell ⟨w.heap.size, 0, none⟩ (.slice (some ⟨g', 0, none⟩) (pre.length + 1) cap')) :=
      ((((Below.refl w.heap.size W).alloc hle _).grown hg3' (by simp; omega) (fun k e => (h3.lt k e).1)).setCell (p := ⟨w.heap.size, 0, none⟩) (Nat.le_refl _) _)
    refine ⟨((KeepsOthers.alloc W _).trans (KeepsOthers.of_grownBy hg3' cells3)).trans (KeepsOthers.setCell _ _ _), hBe, ⟨_, heap_setCell_box_a _ h2', ?_, ?_⟩, hB.trans hBe⟩
    · rw [List.length_append, List.map_append]
      refine hown'.kept hg4 (.inr fun e => ?_)
      have : g' = w.heap.size := by simpa [Value.ownBlock] using e
      subst this
      obtain ⟨cur', hg0⟩ := hg0
      rw [h2'] at hg0; cases hg0
    · simp
  case done =>
    rintro D ys W hD hS ⟨⟨v, h2, h3, h4⟩, hB⟩ hK
    obtain ⟨c1, c2⟩ := box_cell h2
    gi_wp2
    refine ⟨by simp, .inl ⟨_, _, rfl, run_takeDeferred hK, ?_⟩⟩
    have hk2 : W.grownBy (W.putObj D (.deferred none)) (some D) := grownBy_putObj' _ _ _
    refine ⟨_, results_tmp rfl _ _ _, v, ys, rfl, hS, h3.kept (grownBy_putObj' _ _ _) ?_, h4, hB.trans (belowK_b (w := w) (Nat.le_refl _) W D _ _ (by simp at hD; omega) hK rfl rfl)⟩
    rcases h3.2 with ⟨rfl, _⟩ | ⟨g, cap, cur, rfl, _, hgb, _⟩
    · exact .inl rfl
    · refine .inr fun e => ?_
      have : g = D := by simpa [Value.ownBlock] using e
      subst this
      rw [hgb] at hK; cases hK
  case stop =>
    rintro D c pre W _ _ h _
    exact h.elim
section
attribute [local go_sem] Oper.semAt_some
set_option maxRecDepth 100000 in
set_option maxHeartbeats 4000000 in
theorem collect_in (n:Nat) (hn:4≤n) (lb:Array Value) (ad:Nat→Addr) (mm:Nat→Nat) (S Sp:List Nat→Prop) (N:Nat) (hN:N≤1073741824) (w:World)
  (hseq:∀ w',Below w.heap.size w w'→SeqStopsK Fence.wide (n - 1 - 1) Tryz.prog 313 lb (fun x=>#[Value.slice (some (ad x)) (mm x) (mm x)]) (Below w.heap.size) S Sp N w'):
  CallsIn Fence.wide n Tryz.prog 282 #[.func (.func 313) #[] lb] w fun e w'=>∃ (v:Value) (ss:List Nat),e = .returned v∧S ss∧w'.ownsRow w.heap.size 173 1 v ss.length (ss.map fun x=>.slice (some (ad x)) (mm x) (mm x))∧(v = .slice none 0 0 ↔ ss = [])∧Below w.heap.size w w':=by
 have h1:1≤n:=by omega
 have hf:Fence.wide.fn 312:=trivial
 refine callsIn_of_wp Tryz.func282 rfl trivial ?_ rfl
 simp only [Tryz.ntmps282,List.size_toArray,List.length_cons,List.length_nil,Nat.reduceAdd,Nat.reduceSub,Array.replicate_succ,Array.replicate_zero,List.push_toArray,List.append_toArray,List.nil_append,List.cons_append]
 gi_wp2_with (gi_at_call 312; refine (append_in (n - 1) (by omega) lb ad mm S Sp N hN _ hseq).mono ?_; rintro e w' ⟨v,ss,rfl,hS,hrow,hnil,hb⟩)
 go_ret
 exact ⟨v,ss,rfl,hS,hrow,hnil,hb⟩
end
theorem chunk_stops (n B1 o1 B2 o2 blk off len cap c:Nat) (hn:1≤n) (hc0:0 < c) (hc1:c≤1073741824) (hl:len≤1073741824) (hcap:len≤cap) (w:World) (hB1:B1 < w.heap.size) (hB2:B2 < w.heap.size)
  (h1:w.cell? ⟨B1,o1,none⟩ = some (.slice (some ⟨blk,off,none⟩) len cap)) (h2:w.cell? ⟨B2,o2,none⟩ = some (.int .i64 (c:Int))) (w':World) (hw:Below w.heap.size w w'):
  SeqStopsK Fence.wide n Tryz.prog 313 #[.pointer (some ⟨B1,o1,none⟩),.pointer (some ⟨B2,o2,none⟩)] (fun x=>#[Value.slice (some ⟨blk,off + x * c,none⟩) (min c (len - x * c)) (min c (len - x * c))]) (Below w.heap.size) (fun l=>l = List.range ((len + (c - 1)) / c)) (fun _=>True) len w':=by
 intro l J Jx W hW hJ hJx hY h0
 have hwW:Below w.heap.size w W:=hw.trans (hW.mono hw.size)
 exact chunk_in n l B1 o1 B2 o2 w.heap.size blk off len cap c hn hc0 hc1 hl hcap hB1 hB2 J Jx (fun pre W' hp=>hJ pre W' W'.drew none hp ⟨rfl,rfl,rfl,Nat.le_refl _,fun _ _ _=>rfl⟩ (fun r e=>by cases e)) hY W
  ((hwW.cell (p:=⟨B1,o1,none⟩) hB1).trans h1) ((hwW.cell (p:=⟨B2,o2,none⟩) hB2).trans h2) h0
open Go.Vm Go.Sh
noncomputable def chkC (b:Rid) (ob n c:Nat) (f:Nat):Nat→CL AV:=Nat.rec (motive:=fun _=>Nat→CL AV) (fun _=>.nil) (fun _ ih k=>.cons 1 (.sr b (Nat.add ob (Nat.mul k c)) (Nat.min c (Nat.sub n (Nat.mul k c))) (Nat.min c (Nat.sub n (Nat.mul k c))) 1) (ih (Nat.add k 1))) f
noncomputable def hkChunks : Hook := fun vs h q => match vs with
  | [.f fid [] [.p r o, .p r2 o2]] => bz (Nat.beq fid 313) (match getH h r, getH h r2 with
     | .c _ cs, .c _ cs2 => (match ld1 cs o, ld1 cs2 o2 with
        | .sl b ob n z, .i c => bz (an (Nat.beq z 1) (an (Nat.ble 1 c) (an (Nat.ble c 1073741824) (Nat.ble n 1073741824)))) (bz (Nat.beq n 0) (q .sn h) (newS (chkC b ob n c (Nat.div (Nat.add n (Nat.sub c 1)) c) 0) (Nat.div (Nat.add n (Nat.sub c 1)) c) 1 h q)) (.er 241)
        | _, _ => .er 242)
     | _, _ => .er 243) (.er 243)
  | _ => .er 244
theorem chk_rc {θ:Th} {b:Rid} {bb o0 t:Nat} (hb:θ b = some (bb,o0,t)) (ob n c:Nat):∀ (f k:Nat),RC θ (chkC b ob n c f k) ((List.range' k f).map fun x=>Value.slice (some ⟨bb,(o0 + ob) + x * c,none⟩) (min c (n - x * c)) (min c (n - x * c)))
 | 0,k=>rfl
 | f + 1,k=>by
  rw [List.range'_succ,List.map_cons]
  refine ⟨[_],_,rfl,RW.of (.inl ⟨bb,o0,t,hb,by decide,Nat.le_refl _,?_⟩) (by intro n e; cases e),chk_rc hb ob n c f (k + 1)⟩
  show Value.slice (some ⟨bb,o0 + ob + k * c,none⟩) _ _ = .slice (some ⟨bb,o0 + (ob + k * c),none⟩) _ _
  rw [Nat.add_assoc]; rfl
theorem fn282:FnOk Prog 282:=⟨_,Tryz.func282,by kernel_rfl,by kernel_rfl⟩
theorem cell_at {w:World} {b o0 o:Nat} {vs:List Value} {V:Value} (hat:AtH w.heap ⟨b,o0,none⟩ vs) (hv:vs[o]? = some V):w.cell? ⟨b,o0 + o,none⟩ = some V:=by
 obtain ⟨_,arr,T,fr,q1,q2⟩:=hat
 have:=q2 o _ hv
 have q1:w.heap[b]? = some (.cells arr T fr):=q1
 have this:arr[o0 + o]? = some V:=this
 simp [World.cell?,q1,this]
theorem hkChunks_ok:HookOk Prog 282 hkChunks:=by
 intro X hX θ hp h args vals q S hr g
 refine ⟨fn282,?_⟩
 unfold hkChunks at g
 split at g
 ·rename_i fid r o r2 o2
  obtain ⟨V,e,hV⟩:=rvs1 hr
  subst e
  have hF:RF θ (.f fid [] [.p r o,.p r2 o2]) V:=hV.atm trivial
  rcases hF with hF | ⟨f,fs,cs,xs,ys,e,e2,h1,h2⟩
  ·exact absurd hF id
  injection e with e1 e3 e4
  subst e1; subst e3; subst e4
  have hxs:xs = []:=h1
  subst hxs
  obtain ⟨V1,r1,e5,h3,V2,r3,e7,h4,h5⟩:=h2
  have:r3 = []:=h5
  subst this
  obtain ⟨b,o0,t,hr1,e6⟩:=h3
  obtain ⟨b2,o02,t2,hr2,e8⟩:=h4
  subst e7; subst e5; subst e6; subst e8; subst e2
  obtain ⟨c,g1⟩:=qak hX.gd g
  clear g
  have hfid:=ya c
  subst hfid
  have g:=g1
  clear g1
  cases hg:getH hp r <;> simp only [hg] at g <;> first | exact (hX.gd.er _ g).elim | skip
  rename_i L cs
  cases hg2:getH hp r2 <;> simp only [hg2] at g <;> first | exact (hX.gd.er _ g).elim | skip
  rename_i L2 cs2
  obtain ⟨vs,hat,hcs,hvl⟩:=qee S hr1 hg
  obtain ⟨vs2,hat2,hcs2,hvl2⟩:=qee S hr2 hg2
  cases hld:ld1 cs o <;> simp only [hld] at g <;> first | exact (hX.gd.er _ g).elim | skip
  rename_i sb ob n z
  cases hld2:ld1 cs2 o2 <;> simp only [hld2] at g <;> first | exact (hX.gd.er _ g).elim | skip
  rename_i cc
  obtain ⟨U,hU1,hU2⟩:=ld1_ok hcs (o:=o) (by rw [hld]; intro e; cases e)
  obtain ⟨U',hU3,hU4⟩:=ld1_ok hcs2 (o:=o2) (by rw [hld2]; intro e; cases e)
  rw [hld] at hU2
  rw [hld2] at hU4
  obtain ⟨sbb,so0,st,cap,hrs,hz,hst,hnc,e9⟩:=hU2.ra (v:=.sl sb ob n z) trivial
  have e10:=(hU4.ra (v:=.i cc) trivial).2
  obtain ⟨c2,g⟩:=qak hX.gd g
  obtain ⟨_,c2⟩:=qaf c2
  obtain ⟨c3,c2⟩:=qaf c2
  obtain ⟨c4,c5⟩:=qaf c2
  have c3:=yh c3; have c4:=yh c4; have c5:=yh c5
  rw [qa4 (by omega)] at e10
  subst e9; subst e10
  intro w hw
  subst hw
  have hc:=callsIn_wide.1 (collect_in 4 (Nat.le_refl _) #[.pointer (some ⟨b,o0 + o,none⟩),.pointer (some ⟨b2,o02 + o2,none⟩)] (fun x=>⟨sbb,(so0 + ob) + x * cc,none⟩) (fun x=>min cc (n - x * cc)) _ _ n c5 w
   (chunk_stops 2 b (o0 + o) b2 (o02 + o2) sbb (so0 + ob) n cap cc (by decide) c3 c4 c5 hnc w (S.blk _ _ hr1) (S.blk _ _ hr2) (cell_at hat hU1) (cell_at hat2 hU3)))
  refine hc.mono ?_
  rintro e w' ⟨v,ss,rfl,hS,hrow,hnil,hb⟩
  refine ⟨v,rfl,hb.tape,hb.os,hb.output,?_⟩
  have hbb:∀ b,b < w.heap.size→b < w'.heap.size∧w'.heap[b]? = w.heap[b]?:=fun b hb'=>⟨Nat.lt_of_lt_of_le hb' hb.size,hb.block b hb'⟩
  cases c6:Nat.beq n 0 with
  | true=>
   rw [c6] at g
   have h0:=ya c6
   have hss:ss = []:=by
    rw [hS,h0,Nat.zero_add,Nat.div_eq_of_lt (by omega)]; rfl
   have:=hnil.2 hss
   subst this
   exact ⟨θ,hp,.sn,S.grow hbb,Go.Vm.Ext.refl _ _,Nat.le_refl _,.inl (.inl (.inl rfl)),g⟩
  | false=>
   rw [c6] at g
   have h0:=qcl c6
   have hq:0 < (n + (cc - 1)) / cc:=Nat.div_pos (by omega) (by omega)
   have g:X.G (newS (chkC sb ob n cc ((n + (cc - 1)) / cc) 0) ((n + (cc - 1)) / cc) 1 hp q):=g
   have hsl:ss.length = (n + (cc - 1)) / cc:=by rw [hS,List.length_range]
   rcases hrow.2 with ⟨_,hz⟩ | ⟨gb,gcap,cur,rfl,hbase,hgb,q1,q2,q3,q4⟩
   ·omega
   ·rw [hsl] at q1 q4 ⊢
    rw [hS,List.range_eq_range',Nat.mul_one] at q4
    exact newS_own S hX (chk_rc hrs ob n cc _ 0) (by rw [List.length_map,List.length_range']) hbase hgb q1 (by omega) q4 hbb g
 ·exact (hX.gd.er _ g).elim
end Go.Proofs.YtmpmildpioebhaaGreatDoor

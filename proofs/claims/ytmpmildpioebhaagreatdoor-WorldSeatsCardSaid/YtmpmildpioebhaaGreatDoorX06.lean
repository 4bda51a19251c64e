/-
  The statement WorldSeats (law 23): a seat whose power goes off is gone, and comes back with nothing lost. Part 6 of 27. No condition stands ahead of the statement. Parts of this text were printed by a program of ours.
-/
import Derived.Test.YtmpmildpioebhaaGreatDoorX05
import Derived.Laws.StructEq
import Derived.Maps.RangeRun
import Derived.KernelRfl
import Derived.Test.YtmpmildpioebhaaGreatDoorChecked
import Derived.Laws.BytesString
import Derived.IntWalk
set_option linter.all false
set_option maxRecDepth 100000
set_option maxHeartbeats 4000000
noncomputable section
namespace Go.Sh
open Go
open Go.Sh.Ty (reg)
structure MapO {κ ν:Type} [Ty κ] [Ty ν] (es:Array MapEntry) (clk:Nat) (l:List (κ×ν)):Prop where
 kv:es.toList.map (fun e=>(e.key,e.val)) = l.map fun p=>(reg p.1,reg p.2)
 nodup:(es.toList.map (·.born)).Nodup
 born:∀ e ∈ es.toList,e.born < clk
def MapIs {κ ν:Type} [Ty κ] [Ty ν] (h:H) (m:Mp) (l:List (κ×ν)):Prop:=
 (m.r = none∧l = [])∨∃ r es clk,m.r = some r∧h[r]? = some (.map es clk)∧MapO es clk l
def mfind {κ ν:Type} [DecidableEq κ] (l:List (κ×ν)) (k:κ):Option ν:=(l.find? fun p=>decide (k = p.1)).map (·.2)
def mlook {κ ν:Type} [DecidableEq κ] (z:ν) (l:List (κ×ν)) (k:κ):T2 ν Bool:=match mfind l k with
 | some v=>⟨v,true⟩
 | none=>⟨z,false⟩
def mins {κ ν:Type} [DecidableEq κ]:List (κ×ν)→κ→ν→List (κ×ν)
 | [],k,v=>[(k,v)]
 | p :: l,k,v=>if k = p.1 then (p.1,v) :: l else p :: mins l k v
def mget {κ ν α:Type} [Ty κ] [Ty ν] [DecidableEq κ] (m:Mp) (g:List (κ×ν)→α) (k:α→H→Prop):H→Prop:=fun h=>∃ y:α,(∃ l:List (κ×ν),MapIs h m l∧g l = y)∧k y h
def mput {κ ν:Type} [Ty κ] [Ty ν] [DecidableEq κ] (m:Mp) (key:κ) (v:ν) (k:H→Prop):H→Prop:=fun h=>
 ∃ (r:Nat) (es:Array MapEntry) (clk:Nat) (l:List (κ×ν)),m.r = some r∧h[r]? = some (.map es clk)∧MapO es clk l∧∀ es' clk',MapO es' clk' (mins l key v)→k (h.setIfInBounds r (.map es' clk'))
def mkmap (k:Mp→H→Prop):H→Prop:=fun h=>∀ m:Mp,m = ⟨some h.size⟩→k m (h.push (.map #[] 0))
structure KeyT (P:Program) (K:TypeId) (κ:Type) [Ty κ] [DecidableEq κ]:Prop where
 eq:∀ (a b:κ) (w:World),(Op.equal K (reg a) (reg b)).run P w = .ok (decide (a = b)) w
 ok:∀ (e:Bool) (a:κ) (w:World),(Instr.checkKey e 10000 K (reg a)).run P w = .ok () w
 same:∀ a:κ,Instr.sameBits 10000 (reg a) (reg a) = true
 now:∃ d,P.underlying K = some d∧((∀ a b:κ,Instr.sameNow d (reg a) (reg b) = some (decide (a = b)))∨(∀ a b:κ,Instr.sameNow d (reg a) (reg b) = none))
def fidx {κ:Type} [DecidableEq κ] (k:κ):List κ→Nat→Option Nat
 | [],_=>none
 | x :: l,i=>if k = x then some i else fidx k l (i + 1)
section
variable {P:Program} {K:TypeId} {κ ν:Type} [Ty κ] [Ty ν] [DecidableEq κ]
theorem findAsking_run (hk:KeyT P K κ) (k:κ) (w:World):∀ (es:List MapEntry) (l:List (κ×ν)) (i:Nat),es.map (fun e=>(e.key,e.val)) = l.map (fun p=>(reg p.1,reg p.2)) →
  (Instr.findAsking K (reg k) es i).run P w = .ok ((fidx k (l.map (·.1)) i).map fun j=>(j,((es[j - i]?).map (·.val)).getD undef)) w
 | [],l,i,h=>by
  have:l = []:=by simpa using h.symm
  subst this; simp [Instr.findAsking,fidx]
 | e :: es,[],i,h=>by simp at h
 | e :: es,p :: l,i,h=>by
  simp only [List.map_cons,List.cons.injEq,Prod.mk.injEq] at h
  obtain ⟨⟨h1,h2⟩,h3⟩:=h
  have ih:=findAsking_run hk k w es l (i + 1) h3
  simp only [Instr.findAsking,Sem.run_bind,h1,hk.eq,Result.andThen_ok,List.map_cons,fidx]
  by_cases hc:k = p.1
  ·simp [hc]
  ·simp only [hc,decide_false,Bool.false_eq_true,if_false]
   rw [ih]
   congr 1
   cases hf:fidx k (l.map (·.1)) (i + 1) with
   | none=>rfl
   | some j=>
    have hj:i + 1≤j:=by
     clear ih h3
     have:∀ (l:List κ) (i j:Nat),fidx k l i = some j→i≤j:=by
      intro l
      induction l with
      | nil=>intro i j h; cases h
      | cons x l ih=>
       intro i j h
       unfold fidx at h
       split at h
       ·have:=Option.some.inj h; omega
       ·have:=ih _ _ h; omega
     exact this _ _ _ hf
    simp only [Option.map_some,Option.some.injEq,Prod.mk.injEq,true_and]
    rw [show j - i = (j - (i + 1)) + 1 by omega,List.getElem?_cons_succ]
theorem findNow_all (d:TypeDesc) (hn:∀ a b:κ,Instr.sameNow d (reg a) (reg b) = some (decide (a = b))) (k:κ):∀ (es:List MapEntry) (l:List (κ×ν)) (i:Nat),es.map (fun e=>(e.key,e.val)) = l.map (fun p=>(reg p.1,reg p.2)) →
  Instr.findNow d (reg k) es i = some ((fidx k (l.map (·.1)) i).map fun j=>(j,((es[j - i]?).map (·.val)).getD undef))
 | [],l,i,h=>by
  have:l = []:=by simpa using h.symm
  subst this; simp [Instr.findNow,fidx]
 | e :: es,[],i,h=>by simp at h
 | e :: es,p :: l,i,h=>by
  simp only [List.map_cons,List.cons.injEq,Prod.mk.injEq] at h
  obtain ⟨⟨h1,h2⟩,h3⟩:=h
  have ih:=findNow_all d hn k es l (i + 1) h3
  simp only [Instr.findNow,h1,hn,List.map_cons,fidx]
  by_cases hc:k = p.1
  ·simp [hc]
  ·simp only [hc,decide_false,if_false]
   rw [ih]
   congr 1
   cases hf:fidx k (l.map (·.1)) (i + 1) with
   | none=>rfl
   | some j=>
    have hj:i + 1≤j:=by
     have:∀ (l:List κ) (i j:Nat),fidx k l i = some j→i≤j:=by
      intro l
      induction l with
      | nil=>intro i j h; cases h
      | cons x l ih=>
       intro i j h
       unfold fidx at h
       split at h
       ·have:=Option.some.inj h; omega
       ·have:=ih _ _ h; omega
     exact this _ _ _ hf
    simp only [Option.map_some,Option.some.injEq,Prod.mk.injEq,true_and]
    rw [show j - i = (j - (i + 1)) + 1 by omega,List.getElem?_cons_succ]
theorem findNow_none (d:TypeDesc) (hn:∀ a b:κ,Instr.sameNow d (reg a) (reg b) = none) (k:κ) (es:List MapEntry) (l:List (κ×ν)) (h:es.map (fun e=>(e.key,e.val)) = l.map (fun p=>(reg p.1,reg p.2))):
  Instr.findNow d (reg k) es 0 = none∨l = []:=by
 cases es with
 | nil=>right; simpa using h.symm
 | cons e es=>
  cases l with
  | nil=>simp at h
  | cons p l=>
   left
   simp only [List.map_cons,List.cons.injEq,Prod.mk.injEq] at h
   simp only [Instr.findNow,h.1.1,hn]
theorem qfv (hk:KeyT P K κ) (k:κ) (w:World) {es:List MapEntry} {l:List (κ×ν)} (h:es.map (fun e=>(e.key,e.val)) = l.map (fun p=>(reg p.1,reg p.2))):
  (Instr.findKey K (reg k) es).run P w = .ok ((fidx k (l.map (·.1)) 0).map fun j=>(j,((es[j]?).map (·.val)).getD undef)) w:=by
 obtain ⟨d,hd,hn⟩:=hk.now
 unfold Instr.findKey
 rw [Sem.run_bind,run_underlying hd,Result.andThen_ok]
 rcases hn with hn | hn
 ·rw [findNow_all d hn k es l 0 h]
  simp
 ·rcases findNow_none d hn k es l h with h0 | h0
  ·rw [h0]
   have:=findAsking_run hk k w es l 0 h
   simpa using this
  ·subst h0
   have:es = []:=by simpa using h
   subst this
   simp [Instr.findNow,fidx]
theorem fidx_find (k:κ):∀ (l:List (κ×ν)) (i:Nat),match fidx k (l.map (·.1)) i with
  | none=>mfind l k = none
  | some j=>i≤j∧∃ p,l[j - i]? = some p∧k = p.1∧mfind l k = some p.2
 | [],i=>by simp [fidx,mfind]
 | p :: l,i=>by
  simp only [List.map_cons,fidx]
  by_cases hc:k = p.1
  ·simp [hc,mfind]
  ·simp only [hc,if_false]
   have ih:=fidx_find k l (i + 1)
   have hm:mfind (p :: l) k = mfind l k:=by simp [mfind,hc]
   cases hf:fidx k (l.map (·.1)) (i + 1) with
   | none=>rw [hf] at ih; simp only at ih ⊢; rw [hm,ih]
   | some j=>
    rw [hf] at ih
    obtain ⟨h1,q,h2,h3,h4⟩:=ih
    refine ⟨by omega,q,?_,h3,by rw [hm]; exact h4⟩
    rw [show j - i = (j - (i + 1)) + 1 by omega,List.getElem?_cons_succ]; exact h2
theorem MapO.look (hk:KeyT P K κ) {es:Array MapEntry} {clk:Nat} {l:List (κ×ν)} (H:MapO es clk l) (k:κ) (w:World):
  ∃ r,(Instr.findKey K (reg k) es.toList).run P w = .ok r w∧((r = none∧mfind l k = none)∨∃ j v,r = some (j,reg v)∧mfind l k = some v∧∃ e,es[j]? = some e∧e.key = reg k∧(l[j]?).map (·.1) = some k):=by
 refine ⟨_,qfv hk k w H.kv,?_⟩
 have:=fidx_find k l 0
 cases hf:fidx k (l.map (·.1)) 0 with
 | none=>rw [hf] at this; exact .inl ⟨rfl,this⟩
 | some j=>
  rw [hf] at this
  obtain ⟨_,p,h2,h3,h4⟩:=this
  simp only [Nat.sub_zero] at h2
  have hj:=congrArg (fun l=>l[j]?) H.kv
  simp only [List.getElem?_map,h2,Option.map_some] at hj
  rw [Option.map_eq_some_iff] at hj
  obtain ⟨e,he,h5⟩:=hj
  obtain ⟨h6,h7⟩:=Prod.mk.inj h5
  refine .inr ⟨j,p.2,?_,h4,e,by simpa using he,by rw [h6,h3],by rw [h2,h3]; rfl⟩
  simp only [Option.map_some]
  rw [he]
  simp [h7]
end
end Go.Sh
namespace Go.Sh
open Go
open Go.Sh.Ty (reg)
open Go.ChangeMaps (setBlock)
theorem qbb {P:Program} {w:World} {r:Nat} {es:Array MapEntry} {clk:Nat} (h:w.heap[r]? = some (.map es clk)):(getObj r).run P w = .ok (.map es clk) w:=by simp [getObj,Sem.run,h]
theorem run_getItH {P:Program} {w:World} {r:Nat} {a:Option Nat} {b:Nat} {c:Array Nat} {d:Nat} (h:w.heap[r]? = some (.mapIter a b c d)):(getObj r).run P w = .ok (.mapIter a b c d) w:=by simp [getObj,Sem.run,h]
theorem qcq {P:Program} {w:World} {r:Nat} {es:Array MapEntry} {clk:Nat} (o':Obj) (h:w.heap[r]? = some (.map es clk)):(setObj r o').run P w = .ok () { w with heap:=w.heap.setIfInBounds r o' }:=by simp [setObj,Sem.run,h]
def ZeroV (P:Program) (E:TypeId) (v:Value):Prop:=∃ i,P.info? E = some i∧i.zero = some v
theorem ZeroV.of {P:Program} {t:Nat} {v:Value} (h:(P.info? t).bind (·.zero) = some v):ZeroV P t v:=by
 rw [Option.bind_eq_some_iff] at h
 obtain ⟨i,hi,hz⟩:=h
 exact ⟨i,hi,hz⟩
section
variable {P:Program} {T K E:TypeId} {κ ν:Type} [Ty κ] [Ty ν] [DecidableEq κ]
theorem run_lookupH (hT:P.underlying T = some (.map K E)) (hk:KeyT P K κ) {z:ν} (hz:ZeroV P E (reg z)) {m:Mp} {l:List (κ×ν)} (key:κ) (b:Bool) {w:World} (hm:MapIs w.heap m l):
  (Instr.lookup T (reg m) (reg key) b).run P w = .ok (if b then reg (mlook z l key) else reg (mlook z l key).a) w:=by
 obtain ⟨i,hi,hzv⟩:=hz
 have hreg:reg m = .map m.r:=rfl
 rcases hm with ⟨hr,rfl⟩ | ⟨r,es,clk,hr,hb,H⟩
 ·have hf:=qfv (ν:=ν) hk key w (es:=[]) (l:=[]) rfl
  simp only [List.map_nil,fidx,Option.map_none] at hf
  simp [Instr.lookup,run_underlying hT,hreg,hr,hk.ok,hf,zeroValue,typeInfo,hi,hzv,mlook,mfind]
  cases b <;> rfl
 ·obtain ⟨q,hq,hcase⟩:=H.look hk key w
  have hg:=qbb (P:=P) hb
  rcases hcase with ⟨rfl,hn⟩ | ⟨j,v,rfl,hn,_⟩
  ·simp [Instr.lookup,run_underlying hT,hreg,hr,hg,hk.ok,hq,zeroValue,typeInfo,hi,hzv,mlook,hn]
   cases b <;> rfl
  ·simp [Instr.lookup,run_underlying hT,hreg,hr,hg,hk.ok,hq,mlook,hn]
   cases b <;> rfl
theorem run_keyStays (hk:KeyT P K κ) (key:κ) (w:World):(Instr.keyThatStays (reg key) (reg key)).run P w = .ok (reg key) w:=by
 simp [Instr.keyThatStays,hk.same]
theorem mins_fidx (k:κ) (v:ν):∀ (l:List (κ×ν)) (i:Nat),match fidx k (l.map (·.1)) i with
  | none=>mins l k v = l ++ [(k,v)]
  | some j=>i≤j∧mins l k v = l.modify (j - i) (fun p=>(p.1,v))∧∃ p,l[j - i]? = some p∧k = p.1
 | [],i=>by simp [fidx,mins]
 | p :: l,i=>by
  simp only [List.map_cons,fidx]
  by_cases hc:k = p.1
  ·simp [hc,mins]
  ·simp only [hc,if_false]
   have ih:=mins_fidx k v l (i + 1)
   cases hf:fidx k (l.map (·.1)) (i + 1) with
   | none=>rw [hf] at ih; simp only at ih ⊢; simp [mins,hc,ih]
   | some j=>
    rw [hf] at ih
    obtain ⟨h1,h2,q,h3,h4⟩:=ih
    have e:j - i = (j - (i + 1)) + 1:=by omega
    refine ⟨by omega,?_,q,?_,h4⟩
    ·rw [e]; simp [mins,hc,h2]
    ·rw [e,List.getElem?_cons_succ]; exact h3
theorem MapO.push {es:Array MapEntry} {clk:Nat} {l:List (κ×ν)} (H:MapO es clk l) (key:κ) (v:ν):MapO (es.push { key:=reg key,val:=reg v,born:=clk }) (clk + 1) (l ++ [(key,v)]):=by
 refine ⟨by simp [H.kv],?_,?_⟩
 ·have h1:=H.nodup
  have h2:=H.born
  simp only [Array.toList_push,List.map_append,List.map_cons,List.map_nil]
  rw [List.nodup_append]
  refine ⟨h1,by simp,fun a ha b hb=>?_⟩
  simp only [List.mem_map] at ha
  obtain ⟨e,he,rfl⟩:=ha
  simp only [List.mem_singleton] at hb
  have:=h2 e he
  omega
 ·intro e he
  simp only [Array.toList_push,List.mem_append,List.mem_singleton] at he
  rcases he with he | rfl
  ·have:=H.born e he; omega
  ·simp
theorem map_modify {α β:Type} (f:α→β) (g:α→α) (g':β→β) (L:List α) (L':List β) (i:Nat) (h:L.map f = L') (hg:∀ a,L[i]? = some a→f (g a) = g' (f a)):(L.modify i g).map f = L'.modify i g':=by
 subst h
 apply List.ext_getElem?
 intro j
 simp only [List.getElem?_map,List.getElem?_modify]
 by_cases hij:i = j
 ·subst hij
  cases hl:L[i]? with
  | none=>simp
  | some a=>simp [hg a hl]
 ·simp [hij]
theorem MapO.setAt {es:Array MapEntry} {clk:Nat} {l:List (κ×ν)} (H:MapO es clk l) {j:Nat} {p:κ×ν} (hj:l[j]? = some p) (key:κ) (v:ν) (hp:key = p.1):MapO (es.modify j fun e=>{ e with key:=reg key,val:=reg v }) clk (l.modify j fun p=>(p.1,v)):=by
 have hes:(es.modify j fun e=>{ e with key:=reg key,val:=reg v }).toList = es.toList.modify j fun e=>{ e with key:=reg key,val:=reg v }:=by simp
 refine ⟨?_,?_,?_⟩
 ·rw [hes,map_modify _ _ (fun q=>(q.1,reg v)) _ _ j H.kv]
  ·symm
   refine map_modify _ _ _ _ _ j rfl (fun a ha=>?_)
   rfl
  ·intro a ha
   have:=congrArg (fun l=>l[j]?) H.kv
   simp only [List.getElem?_map,ha,hj,Option.map_some,Option.some.injEq,Prod.mk.injEq] at this
   simp only [Prod.mk.injEq,and_true]
   rw [this.1,hp]
 ·rw [hes]
  have:(es.toList.modify j fun e=>{ e with key:=reg key,val:=reg v }).map (·.born) = es.toList.map (·.born):=by
   apply List.ext_getElem?
   intro i
   simp only [List.getElem?_map,List.getElem?_modify]
   by_cases hij:j = i
   ·subst hij; cases es.toList[j]? <;> simp
   ·simp [hij]
  rw [this]
  exact H.nodup
 ·intro e he
  rw [hes] at he
  obtain ⟨i,hi⟩:=List.mem_iff_getElem?.1 he
  rw [List.getElem?_modify] at hi
  by_cases hij:j = i
  ·subst hij
   cases hl:es.toList[j]? with
   | none=>rw [hl] at hi; simp at hi
   | some a=>
    rw [hl] at hi
    simp at hi
    subst hi
    exact H.born a (List.mem_iff_getElem?.2 ⟨_,hl⟩)
  ·simp [hij] at hi
   exact H.born e (List.mem_iff_getElem?.2 ⟨i,by simpa using hi⟩)
theorem run_findAt (hk:KeyT P K κ) {es:Array MapEntry} {clk:Nat} {l:List (κ×ν)} (H:MapO es clk l) (key:κ) (v:ν):
  ((∀ w,(Instr.findKey K (reg key) es.toList).run P w = .ok none w)∧mins l key v = l ++ [(key,v)]∧mfind l key = none) ∨
  ∃ j u e p,(∀ w,(Instr.findKey K (reg key) es.toList).run P w = .ok (some (j,u)) w)∧es[j]? = some e∧e.key = reg key∧u = e.val∧u = reg p.2∧mfind l key = some p.2∧l[j]? = some p∧key = p.1∧mins l key v = l.modify j (fun p=>(p.1,v)):=by
 have h1:=fun w=>qfv hk key w H.kv
 have h2:=mins_fidx key v l 0
 have h3:=fidx_find key l 0
 cases hf:fidx key (l.map (·.1)) 0 with
 | none=>rw [hf] at h1 h2 h3; exact .inl ⟨h1,h2,h3⟩
 | some j=>
  rw [hf] at h1 h2 h3
  obtain ⟨_,h4,p,h5,h6⟩:=h2
  obtain ⟨_,p',h5',_,h7⟩:=h3
  rw [h5] at h5'
  obtain rfl:=Option.some.inj h5'
  simp only [Nat.sub_zero] at h4 h5
  have hj:=congrArg (fun l=>l[j]?) H.kv
  simp only [List.getElem?_map,h5,Option.map_some] at hj
  rw [Option.map_eq_some_iff] at hj
  obtain ⟨e,he,h8⟩:=hj
  obtain ⟨h9,h10⟩:=Prod.mk.inj h8
  refine .inr ⟨j,e.val,e,p,?_,by simpa using he,by rw [h9,h6],rfl,h10,h7,h5,h6,h4⟩
  intro w
  rw [h1]
  show Result.ok (some (j,((es.toList[j]?).map (·.val)).getD undef)) w = _
  rw [he]
  rfl
end
def Rng {κ ν:Type} [Ty κ] [Ty ν] (h:H) (p:Addr) (m:Mp) (todo:List (κ×ν)):Prop:=
 (∃ b,p = ⟨b,0,none⟩)∧((m.r = none∧todo = []∧∃ s0 s1 s2,h[p.block]? = some (.mapIter none s0 s1 s2))∨∃ (r:Nat) (es:Array MapEntry) (clk:Nat) (l:List (κ×ν)) (seen:Array Nat),
  m.r = some r∧h[p.block]? = some (.mapIter (some r) clk seen clk)∧h[r]? = some (.map es clk)∧MapO es clk l∧todo = ((es.toList.zip l).filter fun q=>!seen.contains q.1.born).map (·.2))
def EntIs {κ ν:Type} [Ty κ] [Ty ν] (h:H) (p:Addr) (m:Mp) (q:T2 κ ν):Prop:=
 (∃ b,p = ⟨b,0,none⟩)∧∃ (r:Nat) (es:Array MapEntry) (clk:Nat) (seen:Array Nat) (since:Nat) (e:MapEntry),m.r = some r∧h[p.block]? = some (.mapIter (some r) since (seen.push e.born) clk)∧h[r]? = some (.map es clk)∧e ∈ es.toList∧(es.toList.map (·.born)).Nodup∧e.key = reg q.a∧e.val = reg q.b
structure Nx (κ ν:Type) where
 o:Option (T2 κ ν)
instance {κ ν:Type} [Ty κ] [Ty ν]:Ty (Nx κ ν):=⟨fun n=>match n.o with
 | none=>.tuple #[.bool false]
 | some q=>.tuple #[.bool true,reg q.a,reg q.b]⟩
def rng {κ ν:Type} [Ty κ] [Ty ν] (m:Mp) (_:List (κ×ν)) (k:Addr→H→Prop):H→Prop:=fun h=>∃ l:List (κ×ν),MapIs h m l∧∀ p o,p = ⟨h.size,0,none⟩→Rng (h.push o) p m l→k p (h.push o)
def nxt {κ ν:Type} [Ty κ] [Ty ν] (p:Addr) (k:Nx κ ν→H→Prop):H→Prop:=fun h=>∃ (m:Mp) (todo:List (κ×ν)),Rng h p m todo∧(todo = []→k ⟨none⟩ h) ∧
 ∀ q rest o,todo.Perm (q :: rest)→Rng (h.setIfInBounds p.block o) p m rest→EntIs (h.setIfInBounds p.block o) p m (⟨q.1,q.2⟩:T2 κ ν)→k ⟨some ⟨q.1,q.2⟩⟩ (h.setIfInBounds p.block o)
def ent {κ ν:Type} [Ty κ] [Ty ν] (p:Addr) (k:T2 κ ν→H→Prop):H→Prop:=fun h=>∃ q:T2 κ ν,(∃ m,EntIs h p m q)∧k q h
theorem AtLast {h:H} {r:Nat} {o:Obj} {o':Obj} (hb:h[r]? = some o):(h.setIfInBounds r o')[r]? = some o':=by
 rw [Array.getElem?_eq_some_iff] at hb
 obtain ⟨hlt,_⟩:=hb
 simp [hlt]
theorem todo_perm {κ ν:Type}:∀ (es:List MapEntry) (l:List (κ×ν)) (seen:Array Nat),es.length = l.length→(es.map (·.born)).Nodup→∀ {j:Nat} {e:MapEntry} {q:κ×ν},es[j]? = some e→l[j]? = some q→seen.contains e.born = false →
  (((es.zip l).filter fun q=>!seen.contains q.1.born).map (·.2)).Perm (q :: (((es.zip l).filter fun q=>!(seen.push e.born).contains q.1.born).map (·.2)))
 | [],l,seen,hl,hn,j,e,q,he,hq,hs=>by simp at he
 | a :: es,[],seen,hl,hn,j,e,q,he,hq,hs=>by simp at hl
 | a :: es,b :: l,seen,hl,hn,j,e,q,he,hq,hs=>by
  simp only [List.length_cons,Nat.add_right_cancel_iff] at hl
  simp only [List.map_cons,List.nodup_cons] at hn
  have key:∀ (es:List MapEntry) (l:List (κ×ν)),e.born ∉ es.map (·.born)→(es.zip l).filter (fun q=>!(seen.push e.born).contains q.1.born) = (es.zip l).filter (fun q=>!seen.contains q.1.born):=by
   intro es l hne
   apply List.filter_congr
   intro x hx
   have hx1:=(List.of_mem_zip hx).1
   have:x.1.born ≠ e.born:=fun e'=>hne (List.mem_map.2 ⟨x.1,hx1,e'⟩)
   rw [Bool.eq_iff_iff]
   simp [this]
  cases j with
  | zero=>
   simp only [List.getElem?_cons_zero,Option.some.injEq] at he hq
   subst he; subst hq
   have:=key es l hn.1
   simp only [List.zip_cons_cons,List.filter_cons,hs,Bool.not_false,if_true,List.map_cons]
   rw [if_neg (by simp),this]
  | succ j=>
   simp only [List.getElem?_cons_succ] at he hq
   have ih:=todo_perm es l seen hl hn.2 he hq hs
   have hab:a.born ≠ e.born:=fun e'=>hn.1 (List.mem_map.2 ⟨e,List.mem_of_getElem? he,e'.symm⟩)
   simp only [List.zip_cons_cons,List.filter_cons]
   by_cases hsa:seen.contains a.born = true
   ·rw [if_neg (by simp only [hsa]; decide),if_neg (by simp at hsa ⊢; intro hx; exact absurd hsa hx)]
    exact ih
   ·have hsa':seen.contains a.born = false:=by simpa using hsa
    have h1:(!(seen.push e.born).contains a.born) = true:=by
     simp at hsa' ⊢; exact ⟨hsa',hab⟩
    rw [if_pos (by simp only [hsa']; rfl),if_pos h1]
    simp only [List.map_cons]
    exact (List.Perm.cons b ih).trans (List.Perm.swap _ _ _) |>.trans (by exact List.Perm.refl _)
section
variable {C:Ctx} {ρ:Env} {h:H} {ty:TypeId} {Q:Exit→Act→World→Prop} {J:Env→H→Prop} {dst:Option Tmp} {T K E:TypeId} {κ ν:Type} [Ty κ] [Ty ν] [DecidableEq κ]
theorem qdl {x i:Operand} {m:Mp} {key:κ} {z:ν} {l:List (κ×ν)} {y:ν} (hT:C.P.underlying T = some (.map K E)) (hk:KeyT C.P K κ) (hz:ZeroV C.P E (reg z)) (hx:ev ρ x = reg m) (hi:ev ρ i = reg key) (hm:MapIs h m l) (hg:(mlook z l key).a = y):
  OpVal C (.lookup T x i false) ty ρ h (reg y):=by
 intro w hw pos after g d; subst hw; subst hg; simp [execOp,hx,hi,run_lookupH hT hk hz key false hm]
theorem qba {k:Mp→H→Prop} (hd:okd C.n dst = true) (hh:mkmap k h) (hj:∀ (h':H) (r:Mp),k r h'→J (upo ρ dst (reg r)) h'):OpE C Q (.makeMap T none) ty dst J ρ h:=by
 refine OpE.of hd (v:=.map (some h.size)) (h.push (.map #[] 0)) (fun w hw pos after g=>⟨{ w with heap:=h.push (.map #[] 0) },?_,rfl,rfl,rfl,rfl⟩) (hj _ ⟨some h.size⟩ (hh _ rfl))
 subst hw
 simp [execOp,Instr.makeMap]
theorem e_mput {m:Mp} {key:κ} {v:ν} {k:H→Prop} {mo ko vo:Operand} (hT:C.P.underlying T = some (.map K E)) (hk:KeyT C.P K κ) (hm:ev ρ mo = reg m) (hko:ev ρ ko = reg key) (hvo:ev ρ vo = reg v)
  (hh:mput m key v k h) (hj:∀ h':H,k h'→J ρ h'):OpE C Q (.mapUpdate T mo ko vo) ty none J ρ h:=by
 obtain ⟨r,es,clk,l,hr,hb,H,hkk⟩:=hh
 have hm':ev ρ mo = .map (some r):=by rw [hm,← hr]; rfl
 rcases run_findAt hk H key v with ⟨hf,hmi,_⟩ | ⟨j,u,e,p,hf,he,hke,_,_,_,hlj,hp,hmi⟩
 ·refine OpE.ofSkip (h.setIfInBounds r (.map (es.push { key:=reg key,val:=reg v,born:=clk }) (clk + 1))) rfl (fun w hw pos after g=>⟨{ w with heap:=h.setIfInBounds r (.map (es.push { key:=reg key,val:=reg v,born:=clk }) (clk + 1)) },?_,rfl,rfl,rfl,rfl⟩) (hj _ (hkk _ _ (by rw [hmi]; exact H.push key v)))
  have hb':w.heap[r]? = some (.map es clk):=by rw [hw]; exact hb
  simp [execOp,hm',hko,hvo,Instr.mapUpdate,run_underlying hT,qbb hb',hk.ok,hf,qcq _ hb',hw]
 ·refine OpE.ofSkip (h.setIfInBounds r (.map (es.modify j fun e=>{ e with key:=reg key,val:=reg v }) clk)) rfl (fun w hw pos after g=>⟨{ w with heap:=h.setIfInBounds r (.map (es.modify j fun e=>{ e with key:=reg key,val:=reg v }) clk) },?_,rfl,rfl,rfl,rfl⟩) (hj _ (hkk _ _ (by rw [hmi]; exact H.setAt hlj key v hp)))
  have hb':w.heap[r]? = some (.map es clk):=by rw [hw]; exact hb
  simp [execOp,hm',hko,hvo,Instr.mapUpdate,run_underlying hT,qbb hb',hk.ok,hf,he,hke,run_keyStays hk,qcq _ hb',hw]
theorem e_rng {m:Mp} {k:Addr→H→Prop} {mo:Operand} (l0:List (κ×ν)) (hT:C.P.underlying T = some (.map K E)) (hm:ev ρ mo = reg m) (hd:okd C.n dst = true)
  (hh:rng m l0 k h) (hj:∀ (h':H) (p:Addr),k p h'→J (upo ρ dst (.pointer (some p))) h'):OpE C Q (.range T mo) ty dst J ρ h:=by
 obtain ⟨l,hm0,hkk⟩:=hh
 have hm':ev ρ mo = .map m.r:=hm
 rcases hm0 with ⟨hr,rfl⟩ | ⟨r,es,clk,hr,hb,H⟩
 ·refine OpE.of hd (v:=.pointer (some ⟨h.size,0,none⟩)) (h.push (.mapIter none 0 #[] 0)) (fun w hw pos after g=>⟨{ w with heap:=h.push (.mapIter none 0 #[] 0) },?_,rfl,rfl,rfl,rfl⟩) (hj _ _ (hkk _ _ rfl ⟨⟨_,rfl⟩,.inl ⟨hr,rfl,0,#[],0,by simp⟩⟩))
  subst hw
  simp [execOp,hm',hr,Instr.range,run_underlying hT]
 ·have hlt:r < h.size:=by rw [Array.getElem?_eq_some_iff] at hb; exact hb.1
  refine OpE.of hd (v:=.pointer (some ⟨h.size,0,none⟩)) (h.push (.mapIter (some r) clk #[] clk)) (fun w hw pos after g=>⟨{ w with heap:=h.push (.mapIter (some r) clk #[] clk) },?_,rfl,rfl,rfl,rfl⟩) (hj _ _ (hkk _ _ rfl ⟨⟨_,rfl⟩,.inr ⟨r,es,clk,l,#[],hr,by simp,by rw [Array.getElem?_push_lt hlt]; simpa using (Array.getElem?_eq_some_iff.1 hb).2,H,?_⟩⟩))
  ·subst hw
   simp [execOp,hm',hr,Instr.range,run_underlying hT,qbb hb]
  ·have hl:es.toList.length = l.length:=by have:=congrArg List.length H.kv; simpa using this
   rw [List.filter_eq_self.2 (by simp)]
   exact (List.map_snd_zip (by omega)).symm
theorem e_nxt {p:Addr} {k:Nx κ ν→H→Prop} {io:Operand} (hi:ev ρ io = .pointer (some p)) (hd:okd C.n dst = true)
  (hh:nxt p k h) (hj:∀ (h':H) (r:Nx κ ν),k r h'→J (upo ρ dst (reg r)) h'):OpE C Q (.next io false) ty dst J ρ h:=by
 obtain ⟨m,todo,⟨⟨b,rfl⟩,hcase⟩,hnil,hcons⟩:=hh
 rcases hcase with ⟨hr,h0,s0,s1,s2,hb⟩ | ⟨r,es,clk,l,seen,hr,hit,hb,H,htodo⟩
 ·refine OpE.of hd (v:=reg (⟨none⟩:Nx κ ν)) h (fun w hw pos after g=>⟨w,?_,hw,rfl,rfl,rfl⟩) (hj _ _ (hnil h0))
  subst hw
  simp [execOp,hi,Instr.next,run_getItH hb,reg]
 ·refine OpE.ofAny hd (fun w hw pos after g=>?_)
  have hit':w.heap[b]? = some (.mapIter (some r) clk seen clk):=by rw [hw]; exact hit
  have hb':w.heap[r]? = some (.map es clk):=by rw [hw]; exact hb
  have hl:es.toList.length = l.length:=by have:=congrArg List.length H.kv; simpa using this
  have hne:b ≠ r:=fun e=>by subst e; simp only at hit; rw [hit] at hb; cases hb
  rcases run_next_at (P:=C.P) w ty b r clk clk seen es clk hit' hb' H.born (Nat.le_refl _) with ⟨hz,hrun⟩ | ⟨e,he,w1,hw1,hrun⟩
  ·refine ⟨reg (⟨none⟩:Nx κ ν),h,w,by simp [execOp,hi,hrun,reg],hw,rfl,rfl,rfl,hj _ _ (hnil ?_)⟩
   have hz':∀ e ∈ es.toList,seen.contains e.born = true:=by
    have:leftOf es seen = #[]:=Array.eq_empty_of_size_eq_zero hz
    unfold leftOf at this
    rw [Array.filter_eq_empty_iff] at this
    intro e he
    simpa using this e (by simpa using he)
   rw [htodo]
   simp only [List.map_eq_nil_iff,List.filter_eq_nil_iff]
   intro q hq
   have:=hz' q.1 (List.of_mem_zip hq).1
   rw [this]; decide
  ·have hel:e ∈ es.toList∧seen.contains e.born = false:=by
    unfold leftOf at he
    simp at he
    exact ⟨by simpa using he.1,by simpa using he.2⟩
   obtain ⟨j,hj'⟩:=List.mem_iff_getElem?.1 hel.1
   have hjl:j < l.length:=by
    rw [List.getElem?_eq_some_iff] at hj'; obtain ⟨h9,_⟩:=hj'; omega
   have hkv:=congrArg (fun l=>l[j]?) H.kv
   simp only [List.getElem?_map,hj',Option.map_some,List.getElem?_eq_getElem hjl,Option.some.injEq,Prod.mk.injEq] at hkv
   have hw1h:w1.heap = h:=by rcases hw1 with rfl | rfl <;> exact hw
   refine ⟨reg (⟨some ⟨l[j].1,l[j].2⟩⟩:Nx κ ν),h.setIfInBounds b (.mapIter (some r) clk (seen.push e.born) clk),setBlock w1 b (.mapIter (some r) clk (seen.push e.born) clk),?_,?_,?_,?_,?_,?_⟩
   ·simp [execOp,hi,hrun,reg,hkv.1,hkv.2]
   ·simp [setBlock,hw1h]
   ·rcases hw1 with rfl | rfl <;> rfl
   ·rcases hw1 with rfl | rfl <;> rfl
   ·rcases hw1 with rfl | rfl <;> rfl
   ·have hit2:(h.setIfInBounds b (.mapIter (some r) clk (seen.push e.born) clk))[b]? = some (.mapIter (some r) clk (seen.push e.born) clk):=AtLast hit
    have hb2:(h.setIfInBounds b (.mapIter (some r) clk (seen.push e.born) clk))[r]? = some (.map es clk):=by rw [Array.getElem?_setIfInBounds_ne hne]; exact hb
    refine hj _ _ (hcons l[j] _ _ ?_ ⟨⟨b,rfl⟩,.inr ⟨r,es,clk,l,seen.push e.born,hr,hit2,hb2,H,rfl⟩⟩ ⟨⟨b,rfl⟩,r,es,clk,seen,clk,e,hr,hit2,hb2,hel.1,H.nodup,hkv.1,hkv.2⟩)
    rw [htodo]
    exact todo_perm es.toList l seen hl H.nodup hj' (List.getElem?_eq_getElem hjl) hel.2
theorem v_ent {p:Addr} {q:T2 κ ν} {io:Operand} (hi:ev ρ io = .pointer (some p)) (he:∃ m,EntIs h p m q):OpVal C (.entry io) ty ρ h (reg q):=by
 obtain ⟨m,⟨b,rfl⟩,r,es,clk,seen,since,e,_,hit,hb,hel,hn,hk,hv⟩:=he
 intro w hw pos after g d
 subst hw
 have:=run_entry_at (P:=C.P) w b r since seen es clk e hit hb hel hn
 simp [execOp,hi,this,reg,hk,hv]
theorem v_extnx {x : Operand} {n : Nx κ ν} (hx : ev ρ x = reg n) : OpVal C (.extract x 0) ty ρ h (reg n.o.isSome) := by
  intro w hw pos after g d
  obtain ⟨o⟩ := n
  cases o with
  | none => have hx' : ev ρ x = .tuple #[.bool false] := hx
            simp [execOp, hx', Instr.extract, reg]
  | some q => have hx' : ev ρ x = .tuple #[.bool true, reg q.a, reg q.b] := hx
              simp [execOp, hx', Instr.extract, reg]
end
section
variable {C:Ctx} {ρ:Env} {h:H} {ty:TypeId} {Q:Exit→Act→World→Prop} {J:Env→H→Prop} {dst:Option Tmp}
theorem equal_sl_nil {P:Program} {T e:TypeId} (hT:P.underlying T = some (.slice e)) (s:Sl) (w:World):(Op.equal T (reg s) (reg Sl.nil)).run P w = .ok s.a.isNone w:=by
 have hs:reg s = .slice s.a s.len s.cap:=rfl
 have hn:reg Sl.nil = .slice none 0 0:=rfl
 rw [hs,hn]
 unfold Op.equal Op.maxDepth Op.equalIn
 cases s.a <;> simp [run_underlying hT]
theorem v_eq_slnil {x y:Operand} {s:Sl} {T e T':TypeId} (hT:C.P.underlying T = some (.slice e)) (hx:ev ρ x = reg s) (hy:ev ρ y = reg Sl.nil):OpVal C (.binOp .eql T x y T') ty ρ h (reg s.a.isNone):=by
 intro w hw pos after g d
 have e1:binOp .eql T (reg s) (reg Sl.nil) = (do pure (.bool (← Op.equal T (reg s) (reg Sl.nil)))):=rfl
 have e2:eqGuard .eql T x y (reg s) (reg Sl.nil) = pure ():=rfl
 have h3:=equal_sl_nil hT s w
 simp only [execOp,hx,hy,e1,e2]
 simp [h3]
 simp [reg]
theorem flatten_get {α:Type} (sz:Nat):∀ (L:List (List α)) (i:Nat) (l:List α),(∀ x ∈ L,x.length = sz)→L[i]? = some l→(L.flatten.drop (i * sz)).take sz = l
 | [],i,l,_,h=>by simp at h
 | x :: L,0,l,hl,h=>by
  simp only [List.getElem?_cons_zero,Option.some.injEq] at h
  subst h
  have:=hl x (by simp)
  simp only [List.flatten_cons,Nat.zero_mul,List.drop_zero,← this]
  simp
 | x :: L,i + 1,l,hl,h=>by
  simp only [List.getElem?_cons_succ] at h
  have hx:=hl x (by simp)
  rw [List.flatten_cons,Nat.succ_mul,Nat.add_comm,← hx,← List.drop_drop,List.drop_left' rfl,hx]
  exact flatten_get sz L i l (fun y hy=>hl y (by simp [hy])) h
theorem arrA_get {n sz:Nat} {α:Type} [Ty α] (hs:∀ y:α,(enc y).length = sz) (i:Fin n) (x:ArrA n α):((enc x).drop (i.val * sz)).take sz = enc (x.f i):=by
 have e:enc x = (List.ofFn fun i=>enc (x.f i)).flatten:=rfl
 rw [e]
 refine flatten_get sz _ _ _ ?_ (by simp)
 intro y hy
 simp only [List.mem_ofFn] at hy
 obtain ⟨j,rfl⟩:=hy
 exact hs _
end
section
variable {P:Program}
theorem KeyT.int {K:TypeId} (hK:P.underlying K = some (.int .i64)):KeyT P K Int where
 eq a b w:=by
  have:(Op.equal K (.int .i64 a) (.int .i64 b)).run P w = .ok (a == b) w:=run_equalIn_int w 9999 K .i64 .i64 a b hK
  rw [show decide (a = b) = (a == b) by simp [BEq.beq]]
  exact this
 ok e a w:=by
  show (Instr.checkKey e (9999 + 1) K (.int .i64 a)).run P w = _
  unfold Instr.checkKey
  simp [run_underlying hK]
 same a:=by simp [reg,Instr.sameBits]
 now:=⟨_,hK,.inl fun a b=>by simp [reg,Instr.sameNow]; rfl⟩
theorem sb_list (n:Nat):∀ l:List Value,(∀ x ∈ l,Instr.sameBits n x x = true)→((l.zip l).all fun (x,y)=>Instr.sameBits n x y) = true
 | [],_=>rfl
 | x :: l,h=>by
  simp only [List.zip_cons_cons,List.all_cons,Bool.and_eq_true]
  exact ⟨h x (by simp),sb_list n l fun y hy=>h y (by simp [hy])⟩
theorem sb_agg (n:Nat) (l:List Value) (h:∀ x ∈ l,Instr.sameBits n x x = true):Instr.sameBits (n + 1) (.agg l.toArray) (.agg l.toArray) = true:=by
 simp only [Instr.sameBits,beq_self_eq_true,Bool.true_and]
 exact sb_list n l h
theorem sb_int (n:Nat) (k:IntKind) (a:Int):Instr.sameBits n (.int k a) (.int k a) = true:=by
 cases n <;> simp [Instr.sameBits]
theorem KeyT.bytes {K:TypeId} {n:Nat} (hK:BytesT P K n):KeyT P K (Arr n UInt8) where
 eq a b w:=equal_arr8 hK a b w
 ok e a w:=by
  obtain ⟨⟨t,h1,h2,h3⟩,_⟩:=hK
  have hne:NotAgg P t:=⟨_,h2,trivial⟩
  show (Instr.checkKey e (9999 + 1) K (reg a)).run P w = _
  have hr:reg a = .agg (List.ofFn fun i=>reg (a i)).toArray:=rfl
  rw [hr]
  unfold Instr.checkKey
  simp only [Sem.run_bind,run_underlying h1,Result.andThen_ok]
  have body:∀ i,i < n→∀ w',((do Instr.checkKey e 9999 t (← part t (List.ofFn fun i=>reg (a i)).toArray (i * (← sizeOf t)))):Sem Unit).run P w' = .ok () w':=by
   intro i hi w'
   simp only [Sem.run_bind,run_sizeOf h3,Result.andThen_ok,Nat.mul_one,part,qe3 hne]
   simp [hi]
   show (Instr.checkKey e (9998 + 1) t (reg (a ⟨i,hi⟩))).run P w' = _
   unfold Instr.checkKey
   simp [run_underlying h2,reg]
  have loop:∀ (m k:Nat) (w':World),k + m = n→(forIn (m:=Sem) (List.range' k m) PUnit.unit fun i _=>do Instr.checkKey e 9999 t (← part t (List.ofFn fun i=>reg (a i)).toArray (i * (← sizeOf t))); pure (ForInStep.yield PUnit.unit)).run P w' = .ok PUnit.unit w':=by
   intro m
   induction m with
   | zero=>intro k w' _; simp
   | succ m ih=>
    intro k w' hk
    have hb:=body k (by omega) w'
    simp only [Sem.run_bind] at hb
    simp only [List.range'_succ,List.forIn_cons,Sem.run_bind]
    simp only [run_sizeOf h3,Result.andThen_ok] at hb ⊢
    generalize (part t (List.ofFn fun i=>reg (a i)).toArray (k * 1)).run P w' = r at hb ⊢
    cases r with
    | ok v w2=>
     simp only [Result.andThen_ok] at hb ⊢
     rw [hb]
     simp only [Result.andThen_ok,Sem.run_pure]
     exact ih (k + 1) w' (by omega)
    | halt x w2=>simp [Result.andThen] at hb
  have:=loop n 0 w (by omega)
  simp only [Std.Legacy.Range.forIn_eq_forIn_range',Std.Legacy.Range.size]
  simp only [Nat.sub_zero,Nat.add_sub_cancel,Nat.div_one,Sem.run_bind]
  rw [this]
  rfl
 same a:=sb_agg 9999 _ (by intro x hx; simp only [List.mem_ofFn] at hx; obtain ⟨i,rfl⟩:=hx; exact sb_int _ _ _)
 now:=by
  obtain ⟨⟨t,h1,_⟩,_⟩:=hK
  exact ⟨_,h1,.inr fun a b=>by simp [reg,Instr.sameNow]⟩
end
theorem qfc {a b:List Value} (ha:a.all (·.oneCell') = true) (hb:b.all (·.oneCell') = true):(a ++ b).all (·.oneCell') = true:=by
 rw [List.all_append,ha,hb]; rfl
theorem one_i (x:Int):(enc x).all (·.oneCell') = true:=rfl
theorem one_b (x:Bool):(enc x).all (·.oneCell') = true:=rfl
theorem one_u8 (x:UInt8):(enc x).all (·.oneCell') = true:=rfl
theorem qd1 (x:Sl):(enc x).all (·.oneCell') = true:=rfl
theorem one_pt (x:Option Addr):(enc x).all (·.oneCell') = true:=rfl
theorem one_mp (x:Mp):(enc x).all (·.oneCell') = true:=rfl
theorem qb5 {n:Nat} {α:Type} [Ty α] (h1:∀ x:α,(reg x).oneCell' = true) (x:Arr n α):(enc x).all (·.oneCell') = true:=by
 have e:enc x = List.ofFn fun i=>reg (x i):=rfl
 rw [e,List.all_eq_true]
 intro v hv
 simp only [List.mem_ofFn] at hv
 obtain ⟨i,rfl⟩:=hv
 exact h1 _
theorem qdc {α:Type} (sz:Nat):∀ L:List (List α),(∀ x ∈ L,x.length = sz)→L.flatten.length = L.length * sz
 | [],_=>by simp
 | x :: L,h=>by
  rw [List.flatten_cons,List.length_append,h x (by simp),qdc sz L fun y hy=>h y (by simp [hy]),List.length_cons,Nat.succ_mul,Nat.add_comm]
theorem qf {place:Nat→Option (Nat×Nat)} {cells cells' nv out:List Value} {i off size m:Nat} {v:Value} {rest:List (Nat×Value)} (hp:place i = some (off,size)) (hv:v.cells.toList = nv) (hn:nv.length = size) (hc:cells.length = m) (hb:Nat.ble (off + size) m = true)
  (hs:cells.take off ++ nv ++ cells.drop (off + nv.length) = cells') (hr:fillL place cells' rest = some out):fillL place cells ((i,v) :: rest) = some out:=by
 unfold fillL
 rw [hp]
 simp only
 have e1:v.cells.size = size:=by rw [← hn,← hv]; simp
 rw [e1,hc,hb,hv]
 simp only [Nat.beq_refl,Bool.and_self,if_true]
 rw [hn] at hs
 rw [hs]
 exact hr
section
variable {C:Ctx} {ρ:Env} {h:H} {ty:TypeId} {Q:Exit→Act→World→Prop} {J:Env→H→Prop} {dst:Option Tmp}
theorem qb7 {T:TypeId} {x y:Operand} {v:Value} {p:Addr} {cs cs' nv:List Value} {m c:Nat} (off:Nat) (hx:ev ρ x = .pointer (some (p.add off))) (hy:ev ρ y = v) (hv:v.cells = nv.toArray) (hT:SizeOf C.P T m)
  (h1:nv.all (·.oneCell') = true) (hat:AtH h p cs) (hw:WAt h p cs.length) (hc:cs.length = c) (hm:nv.length = m) (hl:Nat.ble (off + m) c = true) (hcs:cs.take off ++ nv ++ cs.drop (off + nv.length) = cs') (hj:J ρ (putC h p cs')):
  OpE C Q (.store T x y) ty none J ρ h:=by
 subst hm; subst hc
 exact e_store off hx hy hv hT h1 hat hw hl hcs hj
end
end Go.Sh
namespace Go.Proofs.YtmpmildpioebhaaGreatDoor
open Go Go.Sh
open Go.Sh.Ty (reg)
abbrev Prog:Program:=Tryz.prog
theorem ym:Prog.follows .mixedOrders = true:=by kernel_rfl
structure qo where
 Root:Arr 32 UInt8
 Height:Int
def qo.zero:qo:={ Root:=(fun _=>0),Height:=0 }
instance:Ty qo:=⟨fun x=>.agg (enc x.Root ++ (enc x.Height)).toArray⟩
theorem enc_api_Key (x:qo):enc x = enc x.Root ++ (enc x.Height):=rfl
theorem qcp (x:qo):(enc x).all (·.oneCell') = true:=qfc (qb5 (n:=32) (fun _=>rfl) _) ((one_i _))
theorem yn (x:qo):(enc x).length = 33:=by
 rw [enc_api_Key]; simp only [List.length_append,qr,qp]
structure qd7 where
 Epoch:Int
 Height:Int
 Prev:Arr 32 UInt8
 State:Arr 32 UInt8
 Next:Arr 32 UInt8
 Requests:Sl
def qd7.zero:qd7:={ Epoch:=0,Height:=0,Prev:=(fun _=>0),State:=(fun _=>0),Next:=(fun _=>0),Requests:=Sl.nil }
instance:Ty qd7:=⟨fun x=>.agg (enc x.Epoch ++ (enc x.Height ++ (enc x.Prev ++ (enc x.State ++ (enc x.Next ++ (enc x.Requests)))))).toArray⟩
theorem enc_api_Block (x:qd7):enc x = enc x.Epoch ++ (enc x.Height ++ (enc x.Prev ++ (enc x.State ++ (enc x.Next ++ (enc x.Requests))))):=rfl
theorem len_api_Block (x:qd7):(enc x).length = 99:=by
 rw [enc_api_Block]; simp only [List.length_append,qr,qp,yj]
structure api_Once where
 Open:Sl
 Shut:Sl
instance:Ty api_Once:=⟨fun x=>.agg (enc x.Open ++ (enc x.Shut)).toArray⟩
structure api_Sig where
 Leaf:Int
 Once:api_Once
 Path:Sl
instance:Ty api_Sig:=⟨fun x=>.agg (enc x.Leaf ++ (enc x.Once ++ (enc x.Path))).toArray⟩
structure api_Plan where
 Epoch:Int
 Height:Int
 Round:Int
 Valid:Int
 Block:qd7
 From:Int
 Sig:api_Sig
instance:Ty api_Plan:=⟨fun x=>.agg (enc x.Epoch ++ (enc x.Height ++ (enc x.Round ++ (enc x.Valid ++ (enc x.Block ++ (enc x.From ++ (enc x.Sig))))))).toArray⟩
structure yx where
 b:Sl
def yx.zero:yx:={ b:=Sl.nil }
instance:Ty yx:=⟨fun x=>.agg (enc x.b).toArray⟩
theorem enc_code_Writer (x:yx):enc x = enc x.b:=rfl
theorem qfr (x:yx):(enc x).length = 1:=by
 rw [enc_code_Writer]; simp only [List.length_append,yj]
structure qa where
 Epoch:Int
 Members:Sl
def qa.zero:qa:={ Epoch:=0,Members:=Sl.nil }
instance:Ty qa:=⟨fun x=>.agg (enc x.Epoch ++ (enc x.Members)).toArray⟩
theorem enc_api_Config (x:qa):enc x = enc x.Epoch ++ (enc x.Members):=rfl
theorem one_api_Config (x:qa):(enc x).all (·.oneCell') = true:=qfc (one_i _) ((qd1 _))
theorem qh (x:qa):(enc x).length = 2:=by
 rw [enc_api_Config]; simp only [List.length_append,qp,yj]
theorem qco:IsAgg Prog 31 32:=IsAgg.of (by kernel_rfl) (by kernel_rfl)
theorem ag_350:IsAgg Prog 350 64:=IsAgg.of (by kernel_rfl) (by kernel_rfl)
theorem ar_250:ArrT Prog 250 8 249 1:=⟨by kernel_rfl,SizeOf.of (by kernel_rfl)⟩
theorem ar_251:ArrT Prog 251 8 249 1:=⟨by kernel_rfl,SizeOf.of (by kernel_rfl)⟩
theorem ar_252:ArrT Prog 252 64 5 1:=⟨by kernel_rfl,SizeOf.of (by kernel_rfl)⟩
theorem ar_31:ArrT Prog 31 32 5 1:=⟨by kernel_rfl,SizeOf.of (by kernel_rfl)⟩
theorem ar_350:ArrT Prog 350 64 249 1:=⟨by kernel_rfl,SizeOf.of (by kernel_rfl)⟩
theorem by_5:(Prog.info? 5).map (·.bytes) = some 1:=by kernel_rfl
theorem fl_246_0:FldAt Prog 246 0 0:=FldAt.of 0 (by kernel_rfl)
theorem fl_33_0:FldAt Prog 33 0 0:=FldAt.of 31 (by kernel_rfl)
theorem fl_33_1:FldAt Prog 33 1 32:=FldAt.of 0 (by kernel_rfl)
theorem fn_112:FnOk Prog 112:=⟨_,Tryz.func112,by kernel_rfl,by kernel_rfl⟩
theorem fn_113:FnOk Prog 113:=⟨_,Tryz.func113,by kernel_rfl,by kernel_rfl⟩
theorem fn_114:FnOk Prog 114:=⟨_,Tryz.func114,by kernel_rfl,by kernel_rfl⟩
theorem fn_116:FnOk Prog 116:=⟨_,Tryz.func116,by kernel_rfl,by kernel_rfl⟩
theorem fn_138:FnOk Prog 138:=⟨_,Tryz.func138,by kernel_rfl,by kernel_rfl⟩
theorem fn_198:FnOk Prog 198:=⟨_,Tryz.func198,by kernel_rfl,by kernel_rfl⟩
theorem fn_199:FnOk Prog 199:=⟨_,Tryz.func199,by kernel_rfl,by kernel_rfl⟩
theorem fn_231:FnOk Prog 231:=⟨_,Tryz.func231,by kernel_rfl,by kernel_rfl⟩
theorem get_173_all (x:Sl):(enc x)[0]? = some (reg x):=qav (qa0 (yj x))
theorem get_246_b (x:yx):(enc x)[0]? = some (reg x.b):=qav (qa0 (yj _))
theorem get_3_all (x:Int):(enc x)[0]? = some (reg x):=qav (qa0 (qp x))
theorem qdt (x:Arr 32 UInt8):((enc x).drop 0).take 32 = enc x:=qa0 (qr (n:=32) x)
theorem get_350_all (x:Arr 64 UInt32):((enc x).drop 0).take 64 = enc x:=qa0 (qr (n:=64) x)
theorem get_5_all (x:UInt8):(enc x)[0]? = some (reg x):=qav (qa0 (qb6 x))
theorem na_173:NotAgg Prog 173:=NotAgg.of (by kernel_rfl)
theorem qdh:NotAgg Prog 249:=NotAgg.of (by kernel_rfl)
theorem na_3:NotAgg Prog 3:=NotAgg.of (by kernel_rfl)
theorem na_4:NotAgg Prog 4:=NotAgg.of (by kernel_rfl)
theorem na_5:NotAgg Prog 5:=NotAgg.of (by kernel_rfl)
theorem pl_246:PlacesT Prog 246 [(0,1)]:=PlacesT.of (by kernel_rfl)
theorem pl_33:PlacesT Prog 33 [(0,32),(32,1)]:=PlacesT.of (by kernel_rfl)
theorem pt_244:PtT Prog 244:=⟨246,by kernel_rfl⟩
theorem set_246_b (x:yx) (v:Sl):(enc x).take 0 ++ enc v ++ (enc x).drop (0 + (enc v).length) = enc ({ x with b:=v }:yx):=qa6 (((yj _)).trans ((yj _)).symm)
theorem set_251_all (x:Arr 8 UInt32) (v:Arr 8 UInt32):(enc x).take 0 ++ enc v ++ (enc x).drop (0 + (enc v).length) = enc v:=qa6 (((qr (n:=8) _)).trans ((qr (n:=8) _)).symm)
theorem qcw (x:Arr 32 UInt8) (v:Arr 32 UInt8):(enc x).take 0 ++ enc v ++ (enc x).drop (0 + (enc v).length) = enc v:=qa6 (((qr (n:=32) _)).trans ((qr (n:=32) _)).symm)
theorem set_33_Height (x:qo) (v:Int):(enc x).take 32 ++ enc v ++ (enc x).drop (32 + (enc v).length) = enc ({ x with Height:=v }:qo):=qc (qr (n:=32) _) (qa6 (((qp _)).trans ((qp _)).symm))
theorem qct:SlT Prog 133 31 32:=⟨by kernel_rfl,SizeOf.of (by kernel_rfl)⟩
theorem qbc:SlT Prog 173 5 1:=⟨by kernel_rfl,SizeOf.of (by kernel_rfl)⟩
theorem sl_220:SlT Prog 220 173 1:=⟨by kernel_rfl,SizeOf.of (by kernel_rfl)⟩
theorem sl_48:SlT Prog 48 3 1:=⟨by kernel_rfl,SizeOf.of (by kernel_rfl)⟩
theorem sz_173:SizeOf Prog 173 1:=SizeOf.of (by kernel_rfl)
theorem sz_249:SizeOf Prog 249 1:=SizeOf.of (by kernel_rfl)
theorem sz_251:SizeOf Prog 251 8:=SizeOf.of (by kernel_rfl)
theorem sz_3:SizeOf Prog 3 1:=SizeOf.of (by kernel_rfl)
theorem sz_31:SizeOf Prog 31 32:=SizeOf.of (by kernel_rfl)
theorem sz_4:SizeOf Prog 4 1:=SizeOf.of (by kernel_rfl)
theorem sz_5:SizeOf Prog 5 1:=SizeOf.of (by kernel_rfl)
theorem un_241:Prog.underlying 241 = some (.int .u64):=by kernel_rfl
theorem un_243:Prog.underlying 243 = some (.int .u64):=by kernel_rfl
theorem un_249:Prog.underlying 249 = some (.int .u32):=by kernel_rfl
theorem un_284:Prog.underlying 284 = some (.float .f64):=by kernel_rfl
theorem un_3:Prog.underlying 3 = some (.int .i64):=by kernel_rfl
theorem un_5:Prog.underlying 5 = some (.int .u8):=by kernel_rfl
theorem zo_246:ZeroOf Prog 246 (enc (yx.zero:yx)):=ZeroOf.of (by kernel_rfl)
theorem zo_250:ZeroOf Prog 250 (enc ((fun _=>0):Arr 8 UInt32)):=ZeroOf.of (by kernel_rfl)
theorem zo_251:ZeroOf Prog 251 (enc ((fun _=>0):Arr 8 UInt32)):=ZeroOf.of (by kernel_rfl)
theorem zo_252:ZeroOf Prog 252 (enc ((fun _=>0):Arr 64 UInt8)):=ZeroOf.of (by kernel_rfl)
theorem zo_3:ZeroOf Prog 3 (enc (0:Int)):=ZeroOf.of (by kernel_rfl)
theorem qdd:ZeroOf Prog 31 (enc ((fun _=>0):Arr 32 UInt8)):=ZeroOf.of (by kernel_rfl)
theorem zo_33:ZeroOf Prog 33 (enc (qo.zero:qo)):=ZeroOf.of (by kernel_rfl)
theorem zo_350:ZeroOf Prog 350 (enc ((fun _=>0):Arr 64 UInt32)):=ZeroOf.of (by kernel_rfl)
theorem zo_5:ZeroOf Prog 5 (enc (0:UInt8)):=ZeroOf.of (by kernel_rfl)
theorem fn_11:FnOk Prog 11:=⟨_,Tryz.func11,by kernel_rfl,by kernel_rfl⟩
theorem fn_12:FnOk Prog 12:=⟨_,Tryz.func12,by kernel_rfl,by kernel_rfl⟩
theorem fn_5:FnOk Prog 5:=⟨_,Tryz.func5,by kernel_rfl,by kernel_rfl⟩
theorem sz_27:SizeOf Prog 27 2:=SizeOf.of (by kernel_rfl)
theorem zo_27:ZeroOf Prog 27 (enc (qa.zero:qa)):=ZeroOf.of (by kernel_rfl)
instance:DecidableEq qo:=fun a b=>decidable_of_iff (a.Root = b.Root∧a.Height = b.Height) (by cases a; cases b; simp)
structure qen where
 Key:ByteArray
 Val:ByteArray
def qen.zero:qen:={ Key:=.empty,Val:=.empty }
instance:Ty qen:=⟨fun x=>.agg (enc x.Key ++ (enc x.Val)).toArray⟩
structure qb where
 Pairs:Sl
 Replies:Sl
 Config:qa
def qb.zero:qb:={ Pairs:=Sl.nil,Replies:=Sl.nil,Config:=qa.zero }
instance:Ty qb:=⟨fun x=>.agg (enc x.Pairs ++ (enc x.Replies ++ (enc x.Config))).toArray⟩
theorem enc_api_State (x:qb):enc x = enc x.Pairs ++ (enc x.Replies ++ (enc x.Config)):=rfl
theorem qb4 (x:qb):(enc x).all (·.oneCell') = true:=qfc (qd1 _) (qfc (qd1 _) ((one_api_Config _)))
theorem qt (x:qb):(enc x).length = 4:=by
 rw [enc_api_State]; simp only [List.length_append,qh,yj]
structure yt where
 Height:Int
 Tip:Arr 32 UInt8
 State:qb
def yt.zero:yt:={ Height:=0,Tip:=(fun _=>0),State:=qb.zero }
instance:Ty yt:=⟨fun x=>.agg (enc x.Height ++ (enc x.Tip ++ (enc x.State))).toArray⟩
theorem enc_api_Snap (x:yt):enc x = enc x.Height ++ (enc x.Tip ++ (enc x.State)):=rfl
theorem one_api_Snap (x:yt):(enc x).all (·.oneCell') = true:=qfc (one_i _) (qfc (qb5 (n:=32) (fun _=>rfl) _) ((qb4 _)))
theorem qbu (x:yt):(enc x).length = 37:=by
 rw [enc_api_Snap]; simp only [List.length_append,qr,qt,qp]
structure yw where
 Seed:Arr 32 UInt8
 Height:Int
def yw.zero:yw:={ Seed:=(fun _=>0),Height:=0 }
instance:Ty yw:=⟨fun x=>.agg (enc x.Seed ++ (enc x.Height)).toArray⟩
theorem enc_api_Seed (x:yw):enc x = enc x.Seed ++ (enc x.Height):=rfl
theorem one_api_Seed (x:yw):(enc x).all (·.oneCell') = true:=qfc (qb5 (n:=32) (fun _=>rfl) _) ((one_i _))
theorem qbk (x:yw):(enc x).length = 33:=by
 rw [enc_api_Seed]; simp only [List.length_append,qr,qp]
structure yu where
 Id:Int
 Seeds:Sl
def yu.zero:yu:={ Id:=0,Seeds:=Sl.nil }
instance:Ty yu:=⟨fun x=>.agg (enc x.Id ++ (enc x.Seeds)).toArray⟩
theorem enc_api_Seat (x:yu):enc x = enc x.Id ++ (enc x.Seeds):=rfl
theorem one_api_Seat (x:yu):(enc x).all (·.oneCell') = true:=qfc (one_i _) ((qd1 _))
theorem qaa (x:yu):(enc x).length = 2:=by
 rw [enc_api_Seat]; simp only [List.length_append,qp,yj]
structure qj where
 Id:Int
 Key:qo
def qj.zero:qj:={ Id:=0,Key:=qo.zero }
instance:Ty qj:=⟨fun x=>.agg (enc x.Id ++ (enc x.Key)).toArray⟩
theorem enc_api_Member (x:qj):enc x = enc x.Id ++ (enc x.Key):=rfl
theorem qfb (x:qj):(enc x).all (·.oneCell') = true:=qfc (one_i _) ((qcp _))
theorem yk (x:qj):(enc x).length = 34:=by
 rw [enc_api_Member]; simp only [List.length_append,yn,qp]
structure qg where
 core:Pt
 d:Pt
 log:Pt
 me:Int
 base:Int
 first:qa
 ring:Pt
 state:qb
 before:qb
 height:Int
 tip:Arr 32 UInt8
 last:Sl
 links:Sl
 proved:Sl
 waits:Sl
 blocks:Mp
 plans:Mp
 gone:Sl
 said:Sl
 ticks:Int
 down:Bool
 out:Sl
def qg.zero:qg:={ core:=none,d:=none,log:=none,me:=0,base:=0,first:=qa.zero,ring:=none,state:=qb.zero,before:=qb.zero,height:=0,tip:=(fun _=>0),last:=Sl.nil,links:=Sl.nil,proved:=Sl.nil,waits:=Sl.nil,blocks:=⟨none⟩,plans:=⟨none⟩,gone:=Sl.nil,said:=Sl.nil,ticks:=0,down:=false,out:=Sl.nil }
instance:Ty qg:=⟨fun x=>.agg (enc x.core ++ (enc x.d ++ (enc x.log ++ (enc x.me ++ (enc x.base ++ (enc x.first ++ (enc x.ring ++ (enc x.state ++ (enc x.before ++ (enc x.height ++ (enc x.tip ++ (enc x.last ++ (enc x.links ++ (enc x.proved ++ (enc x.waits ++ (enc x.blocks ++ (enc x.plans ++ (enc x.gone ++ (enc x.said ++ (enc x.ticks ++ (enc x.down ++ (enc x.out)))))))))))))))))))))).toArray⟩
theorem enc_replica_Replica (x:qg):enc x = enc x.core ++ (enc x.d ++ (enc x.log ++ (enc x.me ++ (enc x.base ++ (enc x.first ++ (enc x.ring ++ (enc x.state ++ (enc x.before ++ (enc x.height ++ (enc x.tip ++ (enc x.last ++ (enc x.links ++ (enc x.proved ++ (enc x.waits ++ (enc x.blocks ++ (enc x.plans ++ (enc x.gone ++ (enc x.said ++ (enc x.ticks ++ (enc x.down ++ (enc x.out))))))))))))))))))))):=rfl
theorem yl (x:qg):(enc x).length = 60:=by
 rw [enc_replica_Replica]; simp only [List.length_append,qr,qh,qt,len_b,qp,yq,qx,yj]
structure qae where
 seed:Arr 32 UInt8
 height:Int
 leaves:Sl
def qae.zero:qae:={ seed:=(fun _=>0),height:=0,leaves:=Sl.nil }
instance:Ty qae:=⟨fun x=>.agg (enc x.seed ++ (enc x.height ++ (enc x.leaves))).toArray⟩
theorem enc_keys_Tree (x:qae):enc x = enc x.seed ++ (enc x.height ++ (enc x.leaves)):=rfl
theorem qfj (x:qae):(enc x).length = 34:=by
 rw [enc_keys_Tree]; simp only [List.length_append,qr,qp,yj]
structure qam where
 files:Mp
 down:Bool
 acts:Int
 fuse:Int
 keep:Int
def qam.zero:qam:={ files:=⟨none⟩,down:=false,acts:=0,fuse:=0,keep:=0 }
instance:Ty qam:=⟨fun x=>.agg (enc x.files ++ (enc x.down ++ (enc x.acts ++ (enc x.fuse ++ (enc x.keep))))).toArray⟩
theorem enc_disk_Disk (x:qam):enc x = enc x.files ++ (enc x.down ++ (enc x.acts ++ (enc x.fuse ++ (enc x.keep)))):=rfl
theorem qdm (x:qam):(enc x).length = 5:=by
 rw [enc_disk_Disk]; simp only [List.length_append,len_b,qp,yq]
structure qbi where
 safe:Sl
 waits:Sl
instance:Ty qbi:=⟨fun x=>.agg (enc x.safe ++ (enc x.waits)).toArray⟩
theorem enc_disk_file (x:qbi):enc x = enc x.safe ++ (enc x.waits):=rfl
theorem len_disk_file (x:qbi):(enc x).length = 2:=by
 rw [enc_disk_file]; simp only [List.length_append,yj]
structure qa9 where
 list:Mp
def qa9.zero:qa9:={ list:=⟨none⟩ }
instance:Ty qa9:=⟨fun x=>.agg (enc x.list).toArray⟩
theorem enc_ring_Ring (x:qa9):enc x = enc x.list:=rfl
theorem len_ring_Ring (x:qa9):(enc x).length = 1:=by
 rw [enc_ring_Ring]; simp only [List.length_append,yq]
structure yi where
 first:qa
 base:Int
 seats:Mp
 clients:Mp
 net:Sl
 seq:Int
def yi.zero:yi:={ first:=qa.zero,base:=0,seats:=⟨none⟩,clients:=⟨none⟩,net:=Sl.nil,seq:=0 }
instance:Ty yi:=⟨fun x=>.agg (enc x.first ++ (enc x.base ++ (enc x.seats ++ (enc x.clients ++ (enc x.net ++ (enc x.seq)))))).toArray⟩
theorem enc_world_World (x:yi):enc x = enc x.first ++ (enc x.base ++ (enc x.seats ++ (enc x.clients ++ (enc x.net ++ (enc x.seq))))):=rfl
theorem qd3 (x:yi):(enc x).length = 7:=by
 rw [enc_world_World]; simp only [List.length_append,qh,qp,yq,yj]
structure qac where
 Seat:yu
 d:Pt
 rep:Pt
def qac.zero:qac:={ Seat:=yu.zero,d:=none,rep:=none }
instance:Ty qac:=⟨fun x=>.agg (enc x.Seat ++ (enc x.d ++ (enc x.rep))).toArray⟩
theorem enc_world_seat (x:qac):enc x = enc x.Seat ++ (enc x.d ++ (enc x.rep)):=rfl
theorem qc7 (x:qac):(enc x).length = 4:=by
 rw [enc_world_seat]; simp only [List.length_append,qaa,qx]
structure qi where
 round:Int
 block:qd7
def qi.zero:qi:={ round:=0,block:=qd7.zero }
instance:Ty qi:=⟨fun x=>.agg (enc x.round ++ (enc x.block)).toArray⟩
theorem enc_round_mark (x:qi):enc x = enc x.round ++ (enc x.block):=rfl
theorem yc (x:qi):(enc x).length = 100:=by
 rw [enc_round_mark]; simp only [List.length_append,len_api_Block,qp]
structure qs where
 config:qa
 me:Int
 base:Int
 at_:Cx
 step:Int
 ticks:Int
 locked:qi
 valid:qi
 plans:Mp
 blocks:Mp
 box:Pt
 fresh:Bool
 decided:Bool
 out:Sl
def qs.zero:qs:={ config:=qa.zero,me:=0,base:=0,at_:=⟨0,0⟩,step:=0,ticks:=0,locked:=qi.zero,valid:=qi.zero,plans:=⟨none⟩,blocks:=⟨none⟩,box:=none,fresh:=false,decided:=false,out:=Sl.nil }
instance:Ty qs:=⟨fun x=>.agg (enc x.config ++ (enc x.me ++ (enc x.base ++ (enc x.at_ ++ (enc x.step ++ (enc x.ticks ++ (enc x.locked ++ (enc x.valid ++ (enc x.plans ++ (enc x.blocks ++ (enc x.box ++ (enc x.fresh ++ (enc x.decided ++ (enc x.out)))))))))))))).toArray⟩
theorem enc_round_Core (x:qs):enc x = enc x.config ++ (enc x.me ++ (enc x.base ++ (enc x.at_ ++ (enc x.step ++ (enc x.ticks ++ (enc x.locked ++ (enc x.valid ++ (enc x.plans ++ (enc x.blocks ++ (enc x.box ++ (enc x.fresh ++ (enc x.decided ++ (enc x.out))))))))))))):=rfl
theorem qe (x:qs):(enc x).length = 213:=by
 rw [enc_round_Core]; simp only [List.length_append,qh,len_b,qcj,qp,yq,qx,yc,yj]
structure qbm where
 tree:Pt
 next:Int
 open_:Mp
def qbm.zero:qbm:={ tree:=none,next:=0,open_:=⟨none⟩ }
instance:Ty qbm:=⟨fun x=>.agg (enc x.tree ++ (enc x.next ++ (enc x.open_))).toArray⟩
theorem enc_ring_entry (x:qbm):enc x = enc x.tree ++ (enc x.next ++ (enc x.open_)):=rfl
theorem qfs (x:qbm):(enc x).length = 3:=by
 rw [enc_ring_entry]; simp only [List.length_append,qp,yq,qx]
structure qck where
 d:Pt
 name:ByteArray
def qck.zero:qck:={ d:=none,name:=.empty }
instance:Ty qck:=⟨fun x=>.agg (enc x.d ++ (enc x.name)).toArray⟩
theorem enc_wal_Log (x:qck):enc x = enc x.d ++ (enc x.name):=rfl
theorem qfw (x:qck):(enc x).length = 2:=by
 rw [enc_wal_Log]; simp only [List.length_append,qx,len_s]
structure qdk where
 votes:Mp
def qdk.zero:qdk:={ votes:=⟨none⟩ }
instance:Ty qdk:=⟨fun x=>.agg (enc x.votes).toArray⟩
theorem enc_vote_Box (x:qdk):enc x = enc x.votes:=rfl
theorem len_vote_Box (x:qdk):(enc x).length = 1:=by
 rw [enc_vote_Box]; simp only [List.length_append,yq]
theorem ag_217:IsAgg Prog 217 37:=IsAgg.of (by kernel_rfl) (by kernel_rfl)
theorem ag_27:IsAgg Prog 27 2:=IsAgg.of (by kernel_rfl) (by kernel_rfl)
theorem ag_33:IsAgg Prog 33 33:=IsAgg.of (by kernel_rfl) (by kernel_rfl)
theorem ag_53:IsAgg Prog 53 33:=IsAgg.of (by kernel_rfl) (by kernel_rfl)
theorem ag_56:IsAgg Prog 56 2:=IsAgg.of (by kernel_rfl) (by kernel_rfl)
theorem ag_65:IsAgg Prog 65 4:=IsAgg.of (by kernel_rfl) (by kernel_rfl)
theorem ag_82:IsAgg Prog 82 34:=IsAgg.of (by kernel_rfl) (by kernel_rfl)
theorem by_117:(Prog.info? 117).map (·.bytes) = some 32:=by kernel_rfl
theorem by_31:(Prog.info? 31).map (·.bytes) = some 32:=by kernel_rfl
theorem by_53:(Prog.info? 53).map (·.bytes) = some 40:=by kernel_rfl
theorem by_56:(Prog.info? 56).map (·.bytes) = some 32:=by kernel_rfl
theorem by_82:(Prog.info? 82).map (·.bytes) = some 48:=by kernel_rfl
theorem fl_109_0:FldAt Prog 109 0 0:=FldAt.of 0 (by kernel_rfl)
theorem fl_109_10:FldAt Prog 109 10 17:=FldAt.of 31 (by kernel_rfl)
theorem fl_109_15:FldAt Prog 109 15 53:=FldAt.of 0 (by kernel_rfl)
theorem fl_109_16:FldAt Prog 109 16 54:=FldAt.of 0 (by kernel_rfl)
theorem fl_109_18:FldAt Prog 109 18 56:=FldAt.of 0 (by kernel_rfl)
theorem fl_109_2:FldAt Prog 109 2 2:=FldAt.of 0 (by kernel_rfl)
theorem fl_109_21:FldAt Prog 109 21 59:=FldAt.of 0 (by kernel_rfl)
theorem fl_109_3:FldAt Prog 109 3 3:=FldAt.of 0 (by kernel_rfl)
theorem fl_109_4:FldAt Prog 109 4 4:=FldAt.of 0 (by kernel_rfl)
theorem fl_109_5:FldAt Prog 109 5 5:=FldAt.of 1 (by kernel_rfl)
theorem fl_109_6:FldAt Prog 109 6 7:=FldAt.of 0 (by kernel_rfl)
theorem fl_109_7:FldAt Prog 109 7 8:=FldAt.of 3 (by kernel_rfl)
theorem fl_109_9:FldAt Prog 109 9 16:=FldAt.of 0 (by kernel_rfl)
theorem fl_135_1:FldAt Prog 135 1 32:=FldAt.of 0 (by kernel_rfl)
theorem fl_135_2:FldAt Prog 135 2 33:=FldAt.of 0 (by kernel_rfl)
theorem fl_169_0:FldAt Prog 169 0 0:=FldAt.of 0 (by kernel_rfl)
theorem fl_169_1:FldAt Prog 169 1 1:=FldAt.of 0 (by kernel_rfl)
theorem fl_169_3:FldAt Prog 169 3 3:=FldAt.of 0 (by kernel_rfl)
theorem fl_175_0:FldAt Prog 175 0 0:=FldAt.of 0 (by kernel_rfl)
theorem fl_175_1:FldAt Prog 175 1 1:=FldAt.of 0 (by kernel_rfl)
theorem fl_217_0:FldAt Prog 217 0 0:=FldAt.of 0 (by kernel_rfl)
theorem fl_217_1:FldAt Prog 217 1 1:=FldAt.of 31 (by kernel_rfl)
theorem fl_217_2:FldAt Prog 217 2 33:=FldAt.of 3 (by kernel_rfl)
theorem qfd:FldAt Prog 27 0 0:=FldAt.of 0 (by kernel_rfl)
theorem qbw:FldAt Prog 27 1 1:=FldAt.of 0 (by kernel_rfl)
theorem fl_288_0:FldAt Prog 288 0 0:=FldAt.of 0 (by kernel_rfl)
theorem fl_53_0:FldAt Prog 53 0 0:=FldAt.of 31 (by kernel_rfl)
theorem fl_53_1:FldAt Prog 53 1 32:=FldAt.of 0 (by kernel_rfl)
theorem fl_56_0:FldAt Prog 56 0 0:=FldAt.of 0 (by kernel_rfl)
theorem fl_56_1:FldAt Prog 56 1 1:=FldAt.of 0 (by kernel_rfl)
theorem fl_65_0:FldAt Prog 65 0 0:=FldAt.of 0 (by kernel_rfl)
theorem fl_65_1:FldAt Prog 65 1 1:=FldAt.of 0 (by kernel_rfl)
theorem fl_65_2:FldAt Prog 65 2 2:=FldAt.of 1 (by kernel_rfl)
theorem qe6:FldAt Prog 82 0 0:=FldAt.of 0 (by kernel_rfl)
theorem fl_82_1:FldAt Prog 82 1 1:=FldAt.of 32 (by kernel_rfl)
theorem fl_93_0:FldAt Prog 93 0 0:=FldAt.of 1 (by kernel_rfl)
theorem fl_93_1:FldAt Prog 93 1 2:=FldAt.of 0 (by kernel_rfl)
theorem qeu:FldAt Prog 93 2 3:=FldAt.of 0 (by kernel_rfl)
theorem fl_97_0:FldAt Prog 97 0 0:=FldAt.of 1 (by kernel_rfl)
theorem fl_97_1:FldAt Prog 97 1 2:=FldAt.of 0 (by kernel_rfl)
theorem fl_97_2:FldAt Prog 97 2 3:=FldAt.of 0 (by kernel_rfl)
theorem fn_115:FnOk Prog 115:=⟨_,Tryz.func115,by kernel_rfl,by kernel_rfl⟩
theorem fn_121:FnOk Prog 121:=⟨_,Tryz.func121,by kernel_rfl,by kernel_rfl⟩
theorem fn_13:FnOk Prog 13:=⟨_,Tryz.func13,by kernel_rfl,by kernel_rfl⟩
theorem fn_133:FnOk Prog 133:=⟨_,Tryz.func133,by kernel_rfl,by kernel_rfl⟩
theorem fn_139:FnOk Prog 139:=⟨_,Tryz.func139,by kernel_rfl,by kernel_rfl⟩
theorem fn_14:FnOk Prog 14:=⟨_,Tryz.func14,by kernel_rfl,by kernel_rfl⟩
theorem fn_143:FnOk Prog 143:=⟨_,Tryz.func143,by kernel_rfl,by kernel_rfl⟩
theorem fn_144:FnOk Prog 144:=⟨_,Tryz.func144,by kernel_rfl,by kernel_rfl⟩
theorem fn_145:FnOk Prog 145:=⟨_,Tryz.func145,by kernel_rfl,by kernel_rfl⟩
theorem fn_146:FnOk Prog 146:=⟨_,Tryz.func146,by kernel_rfl,by kernel_rfl⟩
theorem fn_147:FnOk Prog 147:=⟨_,Tryz.func147,by kernel_rfl,by kernel_rfl⟩
theorem fn_15:FnOk Prog 15:=⟨_,Tryz.func15,by kernel_rfl,by kernel_rfl⟩
theorem fn_16:FnOk Prog 16:=⟨_,Tryz.func16,by kernel_rfl,by kernel_rfl⟩
theorem fn_17:FnOk Prog 17:=⟨_,Tryz.func17,by kernel_rfl,by kernel_rfl⟩
theorem fn_18:FnOk Prog 18:=⟨_,Tryz.func18,by kernel_rfl,by kernel_rfl⟩
theorem fn_19:FnOk Prog 19:=⟨_,Tryz.func19,by kernel_rfl,by kernel_rfl⟩
theorem fn_20:FnOk Prog 20:=⟨_,Tryz.func20,by kernel_rfl,by kernel_rfl⟩
theorem fn_212:FnOk Prog 212:=⟨_,Tryz.func212,by kernel_rfl,by kernel_rfl⟩
theorem fn_226:FnOk Prog 226:=⟨_,Tryz.func226,by kernel_rfl,by kernel_rfl⟩
theorem fn_25:FnOk Prog 25:=⟨_,Tryz.func25,by kernel_rfl,by kernel_rfl⟩
theorem fn_26:FnOk Prog 26:=⟨_,Tryz.func26,by kernel_rfl,by kernel_rfl⟩
theorem fn_288:FnOk Prog 288:=⟨_,Tryz.func288,by kernel_rfl,by kernel_rfl⟩
theorem fn_34:FnOk Prog 34:=⟨_,Tryz.func34,by kernel_rfl,by kernel_rfl⟩
theorem fn_35:FnOk Prog 35:=⟨_,Tryz.func35,by kernel_rfl,by kernel_rfl⟩
theorem fn_36:FnOk Prog 36:=⟨_,Tryz.func36,by kernel_rfl,by kernel_rfl⟩
theorem fn_37:FnOk Prog 37:=⟨_,Tryz.func37,by kernel_rfl,by kernel_rfl⟩
theorem fn_38:FnOk Prog 38:=⟨_,Tryz.func38,by kernel_rfl,by kernel_rfl⟩
theorem fn_39:FnOk Prog 39:=⟨_,Tryz.func39,by kernel_rfl,by kernel_rfl⟩
theorem fn_40:FnOk Prog 40:=⟨_,Tryz.func40,by kernel_rfl,by kernel_rfl⟩
theorem fn_41:FnOk Prog 41:=⟨_,Tryz.func41,by kernel_rfl,by kernel_rfl⟩
theorem fn_42:FnOk Prog 42:=⟨_,Tryz.func42,by kernel_rfl,by kernel_rfl⟩
theorem fn_44:FnOk Prog 44:=⟨_,Tryz.func44,by kernel_rfl,by kernel_rfl⟩
theorem fn_50:FnOk Prog 50:=⟨_,Tryz.func50,by kernel_rfl,by kernel_rfl⟩
theorem fn_51:FnOk Prog 51:=⟨_,Tryz.func51,by kernel_rfl,by kernel_rfl⟩
theorem fn_52:FnOk Prog 52:=⟨_,Tryz.func52,by kernel_rfl,by kernel_rfl⟩
theorem fn_61:FnOk Prog 61:=⟨_,Tryz.func61,by kernel_rfl,by kernel_rfl⟩
theorem fn_62:FnOk Prog 62:=⟨_,Tryz.func62,by kernel_rfl,by kernel_rfl⟩
theorem fn_72:FnOk Prog 72:=⟨_,Tryz.func72,by kernel_rfl,by kernel_rfl⟩
theorem fn_76:FnOk Prog 76:=⟨_,Tryz.func76,by kernel_rfl,by kernel_rfl⟩
theorem fn_77:FnOk Prog 77:=⟨_,Tryz.func77,by kernel_rfl,by kernel_rfl⟩
theorem fn_91:FnOk Prog 91:=⟨_,Tryz.func91,by kernel_rfl,by kernel_rfl⟩
theorem fn_92:FnOk Prog 92:=⟨_,Tryz.func92,by kernel_rfl,by kernel_rfl⟩
theorem fn_93:FnOk Prog 93:=⟨_,Tryz.func93,by kernel_rfl,by kernel_rfl⟩
theorem fn_94:FnOk Prog 94:=⟨_,Tryz.func94,by kernel_rfl,by kernel_rfl⟩
theorem fn_95:FnOk Prog 95:=⟨_,Tryz.func95,by kernel_rfl,by kernel_rfl⟩
theorem fn_96:FnOk Prog 96:=⟨_,Tryz.func96,by kernel_rfl,by kernel_rfl⟩
theorem fn_97:FnOk Prog 97:=⟨_,Tryz.func97,by kernel_rfl,by kernel_rfl⟩
theorem fn_98:FnOk Prog 98:=⟨_,Tryz.func98,by kernel_rfl,by kernel_rfl⟩
theorem get_109_base (x:qg):(enc x)[4]? = some (reg x.base):=qav (yd (qx _) (yd (qx _) (yd (qx _) (yd (qp _) (qaw (qp _))))))
theorem get_109_height (x:qg):(enc x)[16]? = some (reg x.height):=qav (yd (qx _) (yd (qx _) (yd (qx _) (yd (qp _) (yd (qp _) (yd (qh _) (yd (qx _) (yd (qt _) (yd (qt _) (qaw (qp _)))))))))))
theorem get_109_me (x:qg):(enc x)[3]? = some (reg x.me):=qav (yd (qx _) (yd (qx _) (yd (qx _) (qaw (qp _)))))
theorem get_109_ring (x:qg):(enc x)[7]? = some (reg x.ring):=qav (yd (qx _) (yd (qx _) (yd (qx _) (yd (qp _) (yd (qp _) (yd (qh _) (qaw (qx _))))))))
theorem get_109_state_Config (x:qg):((enc x).drop 10).take 2 = enc x.state.Config:=get_sub (n:=4) (M:=enc x.state) (yd (qx _) (yd (qx _) (yd (qx _) (yd (qp _) (yd (qp _) (yd (qh _) (yd (qx _) (qaw (qt _))))))))) (yd (yj _) (yd (yj _) (qa0 (qh _)))) rfl
theorem get_109_state (x:qg):((enc x).drop 8).take 4 = enc x.state:=yd (qx _) (yd (qx _) (yd (qx _) (yd (qp _) (yd (qp _) (yd (qh _) (yd (qx _) (qaw (qt _))))))))
theorem get_135_height (x:qae):(enc x)[32]? = some (reg x.height):=qav (yd (qr (n:=32) _) (qaw (qp _)))
theorem get_135_leaves (x:qae):(enc x)[33]? = some (reg x.leaves):=qav (yd (qr (n:=32) _) (yd (qp _) (qa0 (yj _))))
theorem get_169_down (x:qam):(enc x)[1]? = some (reg x.down):=qav (yd (yq _) (qaw (len_b _)))
theorem qfx (x:qam):(enc x)[0]? = some (reg x.files):=qav (qaw (yq _))
theorem get_175_safe (x:qbi):(enc x)[0]? = some (reg x.safe):=qav (qaw (yj _))
theorem qfy (x:qbi):(enc x)[1]? = some (reg x.waits):=qav (yd (yj _) (qa0 (yj _)))
theorem get_217_Height (x:yt):(enc x)[0]? = some (reg x.Height):=qav (qaw (qp _))
theorem get_217_State (x:yt):((enc x).drop 33).take 4 = enc x.State:=yd (qp _) (yd (qr (n:=32) _) (qa0 (qt _)))
theorem get_217_Tip (x:yt):((enc x).drop 1).take 32 = enc x.Tip:=yd (qp _) (qaw (qr (n:=32) _))
theorem qcu (x:qa):(enc x)[0]? = some (reg x.Epoch):=qav (qaw (qp _))
theorem qao (x:qa):(enc x)[1]? = some (reg x.Members):=qav (yd (qp _) (qa0 (yj _)))
theorem qcg (x:qa):((enc x).drop 0).take 2 = enc x:=qa0 (qh x)
theorem get_288_list (x:qa9):(enc x)[0]? = some (reg x.list):=qav (qa0 (yq _))
theorem get_33_all (x:qo):((enc x).drop 0).take 33 = enc x:=qa0 (yn x)
theorem get_53_Height (x:yw):(enc x)[32]? = some (reg x.Height):=qav (yd (qr (n:=32) _) (qa0 (qp _)))
theorem get_53_Seed (x:yw):((enc x).drop 0).take 32 = enc x.Seed:=qaw (qr (n:=32) _)
theorem get_53_all (x:yw):((enc x).drop 0).take 33 = enc x:=qa0 (qbk x)
theorem get_56_Id (x:yu):(enc x)[0]? = some (reg x.Id):=qav (qaw (qp _))
theorem get_56_Seeds (x:yu):(enc x)[1]? = some (reg x.Seeds):=qav (yd (qp _) (qa0 (yj _)))
theorem get_56_all (x:yu):((enc x).drop 0).take 2 = enc x:=qa0 (qaa x)
theorem qfz (x:qb):((enc x).drop 2).take 2 = enc x.Config:=yd (yj _) (yd (yj _) (qa0 (qh _)))
theorem qfo (x:qb):(enc x)[0]? = some (reg x.Pairs):=qav (qaw (yj _))
theorem qe7 (x:qb):(enc x)[1]? = some (reg x.Replies):=qav (yd (yj _) (qaw (yj _)))
theorem get_65_all (x:qb):((enc x).drop 0).take 4 = enc x:=qa0 (qt x)
theorem qd8 (x:qj):(enc x)[0]? = some (reg x.Id):=qav (qaw (qp _))
theorem qdq (x:qj):(enc x)[33]? = some (reg x.Key.Height):=qav (get_sub (n:=33) (M:=enc x.Key) (yd (qp _) (qa0 (yn _))) (yd (qr (n:=32) _) (qa0 (qp _))) rfl)
theorem get_82_Key_Root (x:qj):((enc x).drop 1).take 32 = enc x.Key.Root:=get_sub (n:=33) (M:=enc x.Key) (yd (qp _) (qa0 (yn _))) (qaw (qr (n:=32) _)) rfl
theorem qeo (x:qj):((enc x).drop 0).take 34 = enc x:=qa0 (yk x)
theorem get_93_base (x:yi):(enc x)[2]? = some (reg x.base):=qav (yd (qh _) (qaw (qp _)))
theorem get_93_first (x:yi):((enc x).drop 0).take 2 = enc x.first:=qaw (qh _)
theorem qcc (x:yi):(enc x)[3]? = some (reg x.seats):=qav (yd (qh _) (yd (qp _) (qaw (yq _))))
theorem get_97_Seat_Id (x:qac):(enc x)[0]? = some (reg x.Seat.Id):=qav (get_sub (n:=2) (M:=enc x.Seat) (qaw (qaa _)) (qaw (qp _)) rfl)
theorem get_97_Seat_Seeds (x:qac):(enc x)[1]? = some (reg x.Seat.Seeds):=qav (get_sub (n:=2) (M:=enc x.Seat) (qaw (qaa _)) (yd (qp _) (qa0 (yj _))) rfl)
theorem get_97_d (x:qac):(enc x)[2]? = some (reg x.d):=qav (yd (qaa _) (qaw (qx _)))
theorem get_97_rep (x:qac):(enc x)[3]? = some (reg x.rep):=qav (yd (qaa _) (yd (qx _) (qa0 (qx _))))
theorem mt_167:Prog.underlying 167 = some (.map 9 172):=by kernel_rfl
theorem mt_286:Prog.underlying 286 = some (.map 33 289):=by kernel_rfl
theorem mt_90:Prog.underlying 90 = some (.map 3 95):=by kernel_rfl
theorem na_101:NotAgg Prog 101:=NotAgg.of (by kernel_rfl)
theorem na_133:NotAgg Prog 133:=NotAgg.of (by kernel_rfl)
theorem na_167:NotAgg Prog 167:=NotAgg.of (by kernel_rfl)
theorem qdr:NotAgg Prog 25:=NotAgg.of (by kernel_rfl)
theorem na_286:NotAgg Prog 286:=NotAgg.of (by kernel_rfl)
theorem na_44:NotAgg Prog 44:=NotAgg.of (by kernel_rfl)
theorem na_54:NotAgg Prog 54:=NotAgg.of (by kernel_rfl)
theorem na_59:NotAgg Prog 59:=NotAgg.of (by kernel_rfl)
theorem na_62:NotAgg Prog 62:=NotAgg.of (by kernel_rfl)
theorem na_63:NotAgg Prog 63:=NotAgg.of (by kernel_rfl)
theorem na_90:NotAgg Prog 90:=NotAgg.of (by kernel_rfl)
theorem pl_109:PlacesT Prog 109 [(0,1),(1,1),(2,1),(3,1),(4,1),(5,2),(7,1),(8,4),(12,4),(16,1),(17,32),(49,1),(50,1),(51,1),(52,1),(53,1),(54,1),(55,1),(56,1),(57,1),(58,1),(59,1)]:=PlacesT.of (by kernel_rfl)
theorem pl_135:PlacesT Prog 135 [(0,32),(32,1),(33,1)]:=PlacesT.of (by kernel_rfl)
theorem pl_169:PlacesT Prog 169 [(0,1),(1,1),(2,1),(3,1),(4,1)]:=PlacesT.of (by kernel_rfl)
theorem pl_202:PlacesT Prog 202 [(0,1),(1,99)]:=PlacesT.of (by kernel_rfl)
theorem pl_205:PlacesT Prog 205 [(0,2),(2,1),(3,1),(4,1),(5,1),(6,1),(7,100),(107,100),(207,1),(208,1),(209,1),(210,1),(211,1),(212,1)]:=PlacesT.of (by kernel_rfl)
theorem pl_217:PlacesT Prog 217 [(0,1),(1,32),(33,4)]:=PlacesT.of (by kernel_rfl)
theorem pl_27:PlacesT Prog 27 [(0,1),(1,1)]:=PlacesT.of (by kernel_rfl)
theorem pl_288:PlacesT Prog 288 [(0,1)]:=PlacesT.of (by kernel_rfl)
theorem pl_292:PlacesT Prog 292 [(0,1),(1,1),(2,1)]:=PlacesT.of (by kernel_rfl)
theorem pl_296:PlacesT Prog 296 [(0,1),(1,1)]:=PlacesT.of (by kernel_rfl)
theorem pl_378:PlacesT Prog 378 [(0,1)]:=PlacesT.of (by kernel_rfl)
theorem pl_53:PlacesT Prog 53 [(0,32),(32,1)]:=PlacesT.of (by kernel_rfl)
theorem pl_56:PlacesT Prog 56 [(0,1),(1,1)]:=PlacesT.of (by kernel_rfl)
theorem pl_65:PlacesT Prog 65 [(0,1),(1,1),(2,2)]:=PlacesT.of (by kernel_rfl)
theorem pl_93:PlacesT Prog 93 [(0,2),(2,1),(3,1),(4,1),(5,1),(6,1)]:=PlacesT.of (by kernel_rfl)
theorem pl_97:PlacesT Prog 97 [(0,2),(2,1),(3,1)]:=PlacesT.of (by kernel_rfl)
theorem pt_101:PtT Prog 101:=⟨288,by kernel_rfl⟩
theorem pt_172:PtT Prog 172:=⟨175,by kernel_rfl⟩
theorem pt_24:PtT Prog 24:=⟨93,by kernel_rfl⟩
theorem pt_289:PtT Prog 289:=⟨292,by kernel_rfl⟩
theorem pt_44:PtT Prog 44:=⟨109,by kernel_rfl⟩
theorem pt_59:PtT Prog 59:=⟨169,by kernel_rfl⟩
theorem pt_77:PtT Prog 77:=⟨135,by kernel_rfl⟩
theorem pt_95:PtT Prog 95:=⟨97,by kernel_rfl⟩
theorem set_109_base (x:qg) (v:Int):(enc x).take 4 ++ enc v ++ (enc x).drop (4 + (enc v).length) = enc ({ x with base:=v }:qg):=qc (qx _) (qc (qx _) (qc (qx _) (qc (qp _) (yz (((qp _)).trans ((qp _)).symm)))))
theorem set_109_blocks (x:qg) (v:Mp):(enc x).take 53 ++ enc v ++ (enc x).drop (53 + (enc v).length) = enc ({ x with blocks:=v }:qg):=qc (qx _) (qc (qx _) (qc (qx _) (qc (qp _) (qc (qp _) (qc (qh _) (qc (qx _) (qc (qt _) (qc (qt _) (qc (qp _) (qc (qr (n:=32) _) (qc (yj _) (qc (yj _) (qc (yj _) (qc (yj _) (yz (((yq _)).trans ((yq _)).symm))))))))))))))))
theorem set_109_core (x:qg) (v:Pt):(enc x).take 0 ++ enc v ++ (enc x).drop (0 + (enc v).length) = enc ({ x with core:=v }:qg):=yz (((qx _)).trans ((qx _)).symm)
theorem set_109_d (x:qg) (v:Pt):(enc x).take 1 ++ enc v ++ (enc x).drop (1 + (enc v).length) = enc ({ x with d:=v }:qg):=qc (qx _) (yz (((qx _)).trans ((qx _)).symm))
theorem set_109_first_Members (x:qg) (v:Sl):(enc x).take 6 ++ enc v ++ (enc x).drop (6 + (enc v).length) = enc ({ x with first.Members:=v }:qg):=set_nest (n:=2) (M:=enc x.first) (M':=enc ({ x.first with Members:=v }:qa)) (yd (qx _) (yd (qx _) (yd (qx _) (yd (qp _) (yd (qp _) (qaw (qh _))))))) (qc (qp _) (qa6 (((yj _)).trans ((yj _)).symm))) (qc (qx _) (qc (qx _) (qc (qx _) (qc (qp _) (qc (qp _) (yz (((qh _)).trans ((qh _)).symm))))))) (qh _) rfl
theorem set_109_first (x:qg) (v:qa):(enc x).take 5 ++ enc v ++ (enc x).drop (5 + (enc v).length) = enc ({ x with first:=v }:qg):=qc (qx _) (qc (qx _) (qc (qx _) (qc (qp _) (qc (qp _) (yz (((qh _)).trans ((qh _)).symm))))))
theorem set_109_height (x:qg) (v:Int):(enc x).take 16 ++ enc v ++ (enc x).drop (16 + (enc v).length) = enc ({ x with height:=v }:qg):=qc (qx _) (qc (qx _) (qc (qx _) (qc (qp _) (qc (qp _) (qc (qh _) (qc (qx _) (qc (qt _) (qc (qt _) (yz (((qp _)).trans ((qp _)).symm))))))))))
theorem set_109_log (x:qg) (v:Pt):(enc x).take 2 ++ enc v ++ (enc x).drop (2 + (enc v).length) = enc ({ x with log:=v }:qg):=qc (qx _) (qc (qx _) (yz (((qx _)).trans ((qx _)).symm)))
theorem set_109_me (x:qg) (v:Int):(enc x).take 3 ++ enc v ++ (enc x).drop (3 + (enc v).length) = enc ({ x with me:=v }:qg):=qc (qx _) (qc (qx _) (qc (qx _) (yz (((qp _)).trans ((qp _)).symm))))
theorem set_109_out (x:qg) (v:Sl):(enc x).take 59 ++ enc v ++ (enc x).drop (59 + (enc v).length) = enc ({ x with out:=v }:qg):=qc (qx _) (qc (qx _) (qc (qx _) (qc (qp _) (qc (qp _) (qc (qh _) (qc (qx _) (qc (qt _) (qc (qt _) (qc (qp _) (qc (qr (n:=32) _) (qc (yj _) (qc (yj _) (qc (yj _) (qc (yj _) (qc (yq _) (qc (yq _) (qc (yj _) (qc (yj _) (qc (qp _) (qc (len_b _) (qa6 (((yj _)).trans ((yj _)).symm))))))))))))))))))))))
theorem set_109_plans (x:qg) (v:Mp):(enc x).take 54 ++ enc v ++ (enc x).drop (54 + (enc v).length) = enc ({ x with plans:=v }:qg):=qc (qx _) (qc (qx _) (qc (qx _) (qc (qp _) (qc (qp _) (qc (qh _) (qc (qx _) (qc (qt _) (qc (qt _) (qc (qp _) (qc (qr (n:=32) _) (qc (yj _) (qc (yj _) (qc (yj _) (qc (yj _) (qc (yq _) (yz (((yq _)).trans ((yq _)).symm)))))))))))))))))
theorem set_109_ring (x:qg) (v:Pt):(enc x).take 7 ++ enc v ++ (enc x).drop (7 + (enc v).length) = enc ({ x with ring:=v }:qg):=qc (qx _) (qc (qx _) (qc (qx _) (qc (qp _) (qc (qp _) (qc (qh _) (yz (((qx _)).trans ((qx _)).symm)))))))
theorem set_109_said (x:qg) (v:Sl):(enc x).take 56 ++ enc v ++ (enc x).drop (56 + (enc v).length) = enc ({ x with said:=v }:qg):=qc (qx _) (qc (qx _) (qc (qx _) (qc (qp _) (qc (qp _) (qc (qh _) (qc (qx _) (qc (qt _) (qc (qt _) (qc (qp _) (qc (qr (n:=32) _) (qc (yj _) (qc (yj _) (qc (yj _) (qc (yj _) (qc (yq _) (qc (yq _) (qc (yj _) (yz (((yj _)).trans ((yj _)).symm)))))))))))))))))))
theorem set_109_state (x:qg) (v:qb):(enc x).take 8 ++ enc v ++ (enc x).drop (8 + (enc v).length) = enc ({ x with state:=v }:qg):=qc (qx _) (qc (qx _) (qc (qx _) (qc (qp _) (qc (qp _) (qc (qh _) (qc (qx _) (yz (((qt _)).trans ((qt _)).symm))))))))
theorem set_109_tip (x:qg) (v:Arr 32 UInt8):(enc x).take 17 ++ enc v ++ (enc x).drop (17 + (enc v).length) = enc ({ x with tip:=v }:qg):=qc (qx _) (qc (qx _) (qc (qx _) (qc (qp _) (qc (qp _) (qc (qh _) (qc (qx _) (qc (qt _) (qc (qt _) (qc (qp _) (yz (((qr (n:=32) _)).trans ((qr (n:=32) _)).symm)))))))))))
theorem set_135_height (x:qae) (v:Int):(enc x).take 32 ++ enc v ++ (enc x).drop (32 + (enc v).length) = enc ({ x with height:=v }:qae):=qc (qr (n:=32) _) (yz (((qp _)).trans ((qp _)).symm))
theorem set_135_leaves (x:qae) (v:Sl):(enc x).take 33 ++ enc v ++ (enc x).drop (33 + (enc v).length) = enc ({ x with leaves:=v }:qae):=qc (qr (n:=32) _) (qc (qp _) (qa6 (((yj _)).trans ((yj _)).symm)))
theorem set_135_seed (x:qae) (v:Arr 32 UInt8):(enc x).take 0 ++ enc v ++ (enc x).drop (0 + (enc v).length) = enc ({ x with seed:=v }:qae):=yz (((qr (n:=32) _)).trans ((qr (n:=32) _)).symm)
theorem set_169_down (x:qam) (v:Bool):(enc x).take 1 ++ enc v ++ (enc x).drop (1 + (enc v).length) = enc ({ x with down:=v }:qam):=qc (yq _) (yz (((len_b _)).trans ((len_b _)).symm))
theorem set_169_files (x:qam) (v:Mp):(enc x).take 0 ++ enc v ++ (enc x).drop (0 + (enc v).length) = enc ({ x with files:=v }:qam):=yz (((yq _)).trans ((yq _)).symm)
theorem set_169_fuse (x:qam) (v:Int):(enc x).take 3 ++ enc v ++ (enc x).drop (3 + (enc v).length) = enc ({ x with fuse:=v }:qam):=qc (yq _) (qc (len_b _) (qc (qp _) (yz (((qp _)).trans ((qp _)).symm))))
theorem set_175_safe (x:qbi) (v:Sl):(enc x).take 0 ++ enc v ++ (enc x).drop (0 + (enc v).length) = enc ({ x with safe:=v }:qbi):=yz (((yj _)).trans ((yj _)).symm)
theorem set_175_waits (x:qbi) (v:Sl):(enc x).take 1 ++ enc v ++ (enc x).drop (1 + (enc v).length) = enc ({ x with waits:=v }:qbi):=qc (yj _) (qa6 (((yj _)).trans ((yj _)).symm))
theorem set_202_round (x:qi) (v:Int):(enc x).take 0 ++ enc v ++ (enc x).drop (0 + (enc v).length) = enc ({ x with round:=v }:qi):=yz (((qp _)).trans ((qp _)).symm)
theorem qcf (x:qs) (v:Cx):(enc x).take 4 ++ enc v ++ (enc x).drop (4 + (enc v).length) = enc ({ x with at_:=v }:qs):=qc (qh _) (qc (qp _) (qc (qp _) (yz (((qcj _)).trans ((qcj _)).symm))))
theorem qbv (x:qs) (v:Int):(enc x).take 3 ++ enc v ++ (enc x).drop (3 + (enc v).length) = enc ({ x with base:=v }:qs):=qc (qh _) (qc (qp _) (yz (((qp _)).trans ((qp _)).symm)))
theorem qbe (x:qs) (v:Mp):(enc x).take 208 ++ enc v ++ (enc x).drop (208 + (enc v).length) = enc ({ x with blocks:=v }:qs):=qc (qh _) (qc (qp _) (qc (qp _) (qc (qcj _) (qc (qp _) (qc (qp _) (qc (yc _) (qc (yc _) (qc (yq _) (yz (((yq _)).trans ((yq _)).symm))))))))))
theorem qb3 (x:qs) (v:Pt):(enc x).take 209 ++ enc v ++ (enc x).drop (209 + (enc v).length) = enc ({ x with box:=v }:qs):=qc (qh _) (qc (qp _) (qc (qp _) (qc (qcj _) (qc (qp _) (qc (qp _) (qc (yc _) (qc (yc _) (qc (yq _) (qc (yq _) (yz (((qx _)).trans ((qx _)).symm)))))))))))
theorem qbf (x:qs) (v:qa):(enc x).take 0 ++ enc v ++ (enc x).drop (0 + (enc v).length) = enc ({ x with config:=v }:qs):=yz (((qh _)).trans ((qh _)).symm)
theorem qbg (x:qs) (v:qi):(enc x).take 7 ++ enc v ++ (enc x).drop (7 + (enc v).length) = enc ({ x with locked:=v }:qs):=qc (qh _) (qc (qp _) (qc (qp _) (qc (qcj _) (qc (qp _) (qc (qp _) (yz (((yc _)).trans ((yc _)).symm)))))))
theorem qch (x:qs) (v:Int):(enc x).take 2 ++ enc v ++ (enc x).drop (2 + (enc v).length) = enc ({ x with me:=v }:qs):=qc (qh _) (yz (((qp _)).trans ((qp _)).symm))
theorem qbn (x:qs) (v:Mp):(enc x).take 207 ++ enc v ++ (enc x).drop (207 + (enc v).length) = enc ({ x with plans:=v }:qs):=qc (qh _) (qc (qp _) (qc (qp _) (qc (qcj _) (qc (qp _) (qc (qp _) (qc (yc _) (qc (yc _) (yz (((yq _)).trans ((yq _)).symm)))))))))
theorem qbo (x:qs) (v:qi):(enc x).take 107 ++ enc v ++ (enc x).drop (107 + (enc v).length) = enc ({ x with valid:=v }:qs):=qc (qh _) (qc (qp _) (qc (qp _) (qc (qcj _) (qc (qp _) (qc (qp _) (qc (yc _) (yz (((yc _)).trans ((yc _)).symm))))))))
theorem set_217_all (x:yt) (v:yt):(enc x).take 0 ++ enc v ++ (enc x).drop (0 + (enc v).length) = enc v:=qa6 (((qbu _)).trans ((qbu _)).symm)
theorem set_27_Epoch (x:qa) (v:Int):(enc x).take 0 ++ enc v ++ (enc x).drop (0 + (enc v).length) = enc ({ x with Epoch:=v }:qa):=yz (((qp _)).trans ((qp _)).symm)
theorem qft (x:qa) (v:Sl):(enc x).take 1 ++ enc v ++ (enc x).drop (1 + (enc v).length) = enc ({ x with Members:=v }:qa):=qc (qp _) (qa6 (((yj _)).trans ((yj _)).symm))
theorem set_288_list (x:qa9) (v:Mp):(enc x).take 0 ++ enc v ++ (enc x).drop (0 + (enc v).length) = enc ({ x with list:=v }:qa9):=qa6 (((yq _)).trans ((yq _)).symm)
theorem set_292_next (x:qbm) (v:Int):(enc x).take 1 ++ enc v ++ (enc x).drop (1 + (enc v).length) = enc ({ x with next:=v }:qbm):=qc (qx _) (yz (((qp _)).trans ((qp _)).symm))
theorem set_292_open (x:qbm) (v:Mp):(enc x).take 2 ++ enc v ++ (enc x).drop (2 + (enc v).length) = enc ({ x with open_:=v }:qbm):=qc (qx _) (qc (qp _) (qa6 (((yq _)).trans ((yq _)).symm)))
theorem set_292_tree (x:qbm) (v:Pt):(enc x).take 0 ++ enc v ++ (enc x).drop (0 + (enc v).length) = enc ({ x with tree:=v }:qbm):=yz (((qx _)).trans ((qx _)).symm)
theorem set_296_d (x:qck) (v:Pt):(enc x).take 0 ++ enc v ++ (enc x).drop (0 + (enc v).length) = enc ({ x with d:=v }:qck):=yz (((qx _)).trans ((qx _)).symm)
theorem set_296_name (x:qck) (v:ByteArray):(enc x).take 1 ++ enc v ++ (enc x).drop (1 + (enc v).length) = enc ({ x with name:=v }:qck):=qc (qx _) (qa6 (((len_s _)).trans ((len_s _)).symm))
theorem set_33_Root (x:qo) (v:Arr 32 UInt8):(enc x).take 0 ++ enc v ++ (enc x).drop (0 + (enc v).length) = enc ({ x with Root:=v }:qo):=yz (((qr (n:=32) _)).trans ((qr (n:=32) _)).symm)
theorem qdu (x:qo) (v:qo):(enc x).take 0 ++ enc v ++ (enc x).drop (0 + (enc v).length) = enc v:=qa6 (((yn _)).trans ((yn _)).symm)
theorem set_378_votes (x:qdk) (v:Mp):(enc x).take 0 ++ enc v ++ (enc x).drop (0 + (enc v).length) = enc ({ x with votes:=v }:qdk):=qa6 (((yq _)).trans ((yq _)).symm)
theorem set_53_Height (x:yw) (v:Int):(enc x).take 32 ++ enc v ++ (enc x).drop (32 + (enc v).length) = enc ({ x with Height:=v }:yw):=qc (qr (n:=32) _) (qa6 (((qp _)).trans ((qp _)).symm))
theorem set_53_Seed (x:yw) (v:Arr 32 UInt8):(enc x).take 0 ++ enc v ++ (enc x).drop (0 + (enc v).length) = enc ({ x with Seed:=v }:yw):=yz (((qr (n:=32) _)).trans ((qr (n:=32) _)).symm)
theorem set_53_all (x:yw) (v:yw):(enc x).take 0 ++ enc v ++ (enc x).drop (0 + (enc v).length) = enc v:=qa6 (((qbk _)).trans ((qbk _)).symm)
theorem set_56_Id (x:yu) (v:Int):(enc x).take 0 ++ enc v ++ (enc x).drop (0 + (enc v).length) = enc ({ x with Id:=v }:yu):=yz (((qp _)).trans ((qp _)).symm)
theorem set_56_Seeds (x:yu) (v:Sl):(enc x).take 1 ++ enc v ++ (enc x).drop (1 + (enc v).length) = enc ({ x with Seeds:=v }:yu):=qc (qp _) (qa6 (((yj _)).trans ((yj _)).symm))
theorem set_56_all (x:yu) (v:yu):(enc x).take 0 ++ enc v ++ (enc x).drop (0 + (enc v).length) = enc v:=qa6 (((qaa _)).trans ((qaa _)).symm)
theorem set_65_Config (x:qb) (v:qa):(enc x).take 2 ++ enc v ++ (enc x).drop (2 + (enc v).length) = enc ({ x with Config:=v }:qb):=qc (yj _) (qc (yj _) (qa6 (((qh _)).trans ((qh _)).symm)))
theorem set_65_Pairs (x:qb) (v:Sl):(enc x).take 0 ++ enc v ++ (enc x).drop (0 + (enc v).length) = enc ({ x with Pairs:=v }:qb):=yz (((yj _)).trans ((yj _)).symm)
theorem qd5 (x:qb) (v:qb):(enc x).take 0 ++ enc v ++ (enc x).drop (0 + (enc v).length) = enc v:=qa6 (((qt _)).trans ((qt _)).symm)
theorem set_82_all (x:qj) (v:qj):(enc x).take 0 ++ enc v ++ (enc x).drop (0 + (enc v).length) = enc v:=qa6 (((yk _)).trans ((yk _)).symm)
theorem set_93_base (x:yi) (v:Int):(enc x).take 2 ++ enc v ++ (enc x).drop (2 + (enc v).length) = enc ({ x with base:=v }:yi):=qc (qh _) (yz (((qp _)).trans ((qp _)).symm))
theorem set_93_clients (x:yi) (v:Mp):(enc x).take 4 ++ enc v ++ (enc x).drop (4 + (enc v).length) = enc ({ x with clients:=v }:yi):=qc (qh _) (qc (qp _) (qc (yq _) (yz (((yq _)).trans ((yq _)).symm))))
theorem set_93_first (x:yi) (v:qa):(enc x).take 0 ++ enc v ++ (enc x).drop (0 + (enc v).length) = enc ({ x with first:=v }:yi):=yz (((qh _)).trans ((qh _)).symm)
theorem set_93_seats (x:yi) (v:Mp):(enc x).take 3 ++ enc v ++ (enc x).drop (3 + (enc v).length) = enc ({ x with seats:=v }:yi):=qc (qh _) (qc (qp _) (yz (((yq _)).trans ((yq _)).symm)))
theorem set_97_Seat (x:qac) (v:yu):(enc x).take 0 ++ enc v ++ (enc x).drop (0 + (enc v).length) = enc ({ x with Seat:=v }:qac):=yz (((qaa _)).trans ((qaa _)).symm)
theorem set_97_d (x:qac) (v:Pt):(enc x).take 2 ++ enc v ++ (enc x).drop (2 + (enc v).length) = enc ({ x with d:=v }:qac):=qc (qaa _) (yz (((qx _)).trans ((qx _)).symm))
theorem set_97_rep (x:qac) (v:Pt):(enc x).take 3 ++ enc v ++ (enc x).drop (3 + (enc v).length) = enc ({ x with rep:=v }:qac):=qc (qaa _) (qc (qx _) (qa6 (((qx _)).trans ((qx _)).symm)))
theorem qde:SlT Prog 25 82 34:=⟨by kernel_rfl,SizeOf.of (by kernel_rfl)⟩
theorem sl_278:SlT Prog 278 271 389:=⟨by kernel_rfl,SizeOf.of (by kernel_rfl)⟩
theorem sl_49:SlT Prog 49 56 2:=⟨by kernel_rfl,SizeOf.of (by kernel_rfl)⟩
theorem sl_54:SlT Prog 54 53 33:=⟨by kernel_rfl,SizeOf.of (by kernel_rfl)⟩
theorem sl_62:SlT Prog 62 117 2:=⟨by kernel_rfl,SizeOf.of (by kernel_rfl)⟩
theorem sl_63:SlT Prog 63 71 4:=⟨by kernel_rfl,SizeOf.of (by kernel_rfl)⟩
theorem sz_100:SizeOf Prog 100 1:=SizeOf.of (by kernel_rfl)
theorem sz_105:SizeOf Prog 105 1:=SizeOf.of (by kernel_rfl)
theorem sz_106:SizeOf Prog 106 1:=SizeOf.of (by kernel_rfl)
theorem sz_133:SizeOf Prog 133 1:=SizeOf.of (by kernel_rfl)
theorem sz_217:SizeOf Prog 217 37:=SizeOf.of (by kernel_rfl)
theorem sz_25:SizeOf Prog 25 1:=SizeOf.of (by kernel_rfl)
theorem sz_33:SizeOf Prog 33 33:=SizeOf.of (by kernel_rfl)
theorem sz_44:SizeOf Prog 44 1:=SizeOf.of (by kernel_rfl)
theorem sz_53:SizeOf Prog 53 33:=SizeOf.of (by kernel_rfl)
theorem sz_54:SizeOf Prog 54 1:=SizeOf.of (by kernel_rfl)
theorem sz_56:SizeOf Prog 56 2:=SizeOf.of (by kernel_rfl)
theorem sz_62:SizeOf Prog 62 1:=SizeOf.of (by kernel_rfl)
theorem sz_65:SizeOf Prog 65 4:=SizeOf.of (by kernel_rfl)
theorem sz_69:SizeOf Prog 69 1:=SizeOf.of (by kernel_rfl)
theorem sz_82:SizeOf Prog 82 34:=SizeOf.of (by kernel_rfl)
theorem sz_83:SizeOf Prog 83 1:=SizeOf.of (by kernel_rfl)
theorem sz_99:SizeOf Prog 99 1:=SizeOf.of (by kernel_rfl)
theorem zo_109:ZeroOf Prog 109 (enc (qg.zero:qg)):=ZeroOf.of (by kernel_rfl)
theorem zo_117:ZeroOf Prog 117 (enc (qen.zero:qen)):=ZeroOf.of (by kernel_rfl)
theorem zo_135:ZeroOf Prog 135 (enc (qae.zero:qae)):=ZeroOf.of (by kernel_rfl)
theorem zo_169:ZeroOf Prog 169 (enc (qam.zero:qam)):=ZeroOf.of (by kernel_rfl)
theorem zo_173:ZeroOf Prog 173 (enc (Sl.nil:Sl)):=ZeroOf.of (by kernel_rfl)
theorem zo_202:ZeroOf Prog 202 (enc (qi.zero:qi)):=ZeroOf.of (by kernel_rfl)
theorem zo_205:ZeroOf Prog 205 (enc (qs.zero:qs)):=ZeroOf.of (by kernel_rfl)
theorem zo_217:ZeroOf Prog 217 (enc (yt.zero:yt)):=ZeroOf.of (by kernel_rfl)
theorem zo_288:ZeroOf Prog 288 (enc (qa9.zero:qa9)):=ZeroOf.of (by kernel_rfl)
theorem zo_292:ZeroOf Prog 292 (enc (qbm.zero:qbm)):=ZeroOf.of (by kernel_rfl)
theorem zo_296:ZeroOf Prog 296 (enc (qck.zero:qck)):=ZeroOf.of (by kernel_rfl)
theorem zo_378:ZeroOf Prog 378 (enc (qdk.zero:qdk)):=ZeroOf.of (by kernel_rfl)
theorem zo_53:ZeroOf Prog 53 (enc (yw.zero:yw)):=ZeroOf.of (by kernel_rfl)
theorem zo_56:ZeroOf Prog 56 (enc (yu.zero:yu)):=ZeroOf.of (by kernel_rfl)
theorem zo_65:ZeroOf Prog 65 (enc (qb.zero:qb)):=ZeroOf.of (by kernel_rfl)
theorem zo_82:ZeroOf Prog 82 (enc (qj.zero:qj)):=ZeroOf.of (by kernel_rfl)
theorem zo_93:ZeroOf Prog 93 (enc (yi.zero:yi)):=ZeroOf.of (by kernel_rfl)
theorem zo_97:ZeroOf Prog 97 (enc (qac.zero:qac)):=ZeroOf.of (by kernel_rfl)
theorem zv_172:ZeroV Prog 172 (reg (none:Pt)):=ZeroV.of (by kernel_rfl)
theorem zv_289:ZeroV Prog 289 (reg (none:Pt)):=ZeroV.of (by kernel_rfl)
theorem zv_95:ZeroV Prog 95 (reg (none:Pt)):=ZeroV.of (by kernel_rfl)
instance:DecidableEq qj:=fun a b=>decidable_of_iff (a.Id = b.Id∧a.Key = b.Key) (by cases a; cases b; simp)
end Go.Proofs.YtmpmildpioebhaaGreatDoor
namespace Go.Sh
open Go
open Go.Sh.Ty (reg)
def trip (f : Field) : Bool × TypeId × Nat := (f.name != "_", f.type, f.offset)
def eqT (d:Nat) (xs ys:Array Value):List (Bool×TypeId×Nat)→Sem Bool
 | []=>pure true
 | (b,t,o) :: fs=>if b = true then do
   let a ← part t xs o
   let c ← part t ys o
   let r ← Op.equalIn d t a c
   if (!r) = true then pure false else eqT d xs ys fs
  else eqT d xs ys fs
theorem qd2 (d : Nat) (xs ys : Array Value) : ∀ fs : List Field, Op.eqFields d xs ys fs = eqT d xs ys (fs.map trip)
  | [] => rfl
  | f :: fs => by
    simp only [Op.eqFields, List.map_cons, trip, eqT, qd2 d xs ys fs]
    by_cases hn : f.name = "_"
    · simp [hn]
    · simp [hn]
def ckT (e:Bool) (n:Nat) (cs:Array Value):List (Bool×TypeId×Nat)→Sem Unit
 | []=>pure ()
 | (b,t,o) :: fs=>do
  if b = true then
   let a ← part t cs o
   Instr.checkKey e n t a
  ckT e n cs fs
theorem ck_trip {P : Program} (e : Bool) (n : Nat) (t : TypeId) (cs : Array Value) (ht : P.underlying t = some (.struct (P.fieldsOf t))) (w : World) :
    (Instr.checkKey e (n + 1) t (.agg cs)).run P w = (ckT e n cs ((P.fieldsOf t).toList.map trip)).run P w := by
  unfold Instr.checkKey
  simp only [Sem.run_bind, run_underlying ht, Result.andThen_ok]
  rw [← Array.forIn_toList]
  generalize (P.fieldsOf t).toList = fs
  induction fs generalizing w with
  | nil => simp [ckT]
  | cons f fs ih =>
    simp only [List.forIn_cons, List.map_cons, trip, ckT, Sem.run_bind]
    by_cases hn : f.name = "_"
    · simp only [hn, ne_eq, not_true_eq_false, if_false, Sem.run_pure, Result.andThen_ok, Sem.run_bind]
      have := ih w
      simpa using this
    · simp only [ne_eq, hn, not_false_eq_true, if_true, Sem.run_bind]
      simp only [show (f.name != "_") = true by simpa using hn, if_true, Sem.run_bind]
      cases h1 : (part f.type cs f.offset).run P w with
      | ok a w1 =>
        simp only [Result.andThen_ok]
        cases h2 : (Instr.checkKey e n f.type a).run P w1 with
        | ok u w2 =>
          simp only [Result.andThen_ok, Sem.run_pure]
          have := ih w2
          simpa using this
        | halt x w2 => simp [Result.andThen]
      | halt x w1 => simp [Result.andThen]
theorem qcx {P:Program} {t:TypeId} (ht:NotAgg P t) {cs:Array Value} {o:Nat} {v:Value} (hv:cs[o]? = some v) (w:World):(part t cs o).run P w = .ok v w:=by
 simp [part,qe3 ht,hv]
theorem qc8 {P:Program} {t:TypeId} {n:Nat} (ht:IsAgg P t n) (cs:Array Value) (o:Nat) (w:World):(part t cs o).run P w = .ok (.agg (cs.extract o (o + n))) w:=by
 simp [part,qf0 ht,run_sizeOf ht.size]
theorem eqIn_int {P:Program} {t:TypeId} (h:P.underlying t = some (.int .i64)) (d:Nat) (a b:Int) (w:World):(Op.equalIn (d + 1) t (.int .i64 a) (.int .i64 b)).run P w = .ok (decide (a = b)) w:=by
 rw [run_equalIn_int w d t .i64 .i64 a b h]
 congr 1
theorem ck_int {P:Program} {t:TypeId} (h:P.underlying t = some (.int .i64)) (d:Nat) (e:Bool) (a:Int) (w:World):(Instr.checkKey e (d + 1) t (.int .i64 a)).run P w = .ok () w:=by
 unfold Instr.checkKey
 simp [run_underlying h]
section
variable {P:Program}
theorem ck_bytes {K:TypeId} {n:Nat} (hK:BytesT P K n) (d:Nat) (e:Bool) (a:Arr n UInt8) (w:World):(Instr.checkKey e (d + 2) K (reg a)).run P w = .ok () w:=by
  obtain ⟨⟨t,h1,h2,h3⟩,_⟩:=hK
  have hne:NotAgg P t:=⟨_,h2,trivial⟩
  show (Instr.checkKey e (d + 1 + 1) K (reg a)).run P w = _
  have hr:reg a = .agg (List.ofFn fun i=>reg (a i)).toArray:=rfl
  rw [hr]
  unfold Instr.checkKey
  simp only [Sem.run_bind,run_underlying h1,Result.andThen_ok]
  have body:∀ i,i < n→∀ w',((do Instr.checkKey e (d + 1) t (← part t (List.ofFn fun i=>reg (a i)).toArray (i * (← sizeOf t)))):Sem Unit).run P w' = .ok () w':=by
   intro i hi w'
   simp only [Sem.run_bind,run_sizeOf h3,Result.andThen_ok,Nat.mul_one,part,qe3 hne]
   simp [hi]
   show (Instr.checkKey e (d + 1) t (reg (a ⟨i,hi⟩))).run P w' = _
   unfold Instr.checkKey
   simp [run_underlying h2,reg]
  have loop:∀ (m k:Nat) (w':World),k + m = n→(forIn (m:=Sem) (List.range' k m) PUnit.unit fun i _=>do Instr.checkKey e (d + 1) t (← part t (List.ofFn fun i=>reg (a i)).toArray (i * (← sizeOf t))); pure (ForInStep.yield PUnit.unit)).run P w' = .ok PUnit.unit w':=by
   intro m
   induction m with
   | zero=>intro k w' _; simp
   | succ m ih=>
    intro k w' hk
    have hb:=body k (by omega) w'
    simp only [Sem.run_bind] at hb
    simp only [List.range'_succ,List.forIn_cons,Sem.run_bind]
    simp only [run_sizeOf h3,Result.andThen_ok] at hb ⊢
    generalize (part t (List.ofFn fun i=>reg (a i)).toArray (k * 1)).run P w' = r at hb ⊢
    cases r with
    | ok v w2=>
     simp only [Result.andThen_ok] at hb ⊢
     rw [hb]
     simp only [Result.andThen_ok,Sem.run_pure]
     exact ih (k + 1) w' (by omega)
    | halt x w2=>simp [Result.andThen] at hb
  have:=loop n 0 w (by omega)
  simp only [Std.Legacy.Range.forIn_eq_forIn_range',Std.Legacy.Range.size]
  simp only [Nat.sub_zero,Nat.add_sub_cancel,Nat.div_one,Sem.run_bind]
  rw [this]
  rfl
theorem equalIn_arr8 {n:Nat} {T:TypeId} (hT:BytesT P T n) (d:Nat) (a b:Arr n UInt8) (w:World):(Op.equalIn (d + 1 + 1) T (reg a) (reg b)).run P w = .ok (decide (a = b)) w:=by
 obtain ⟨⟨e,h1,h2,h3⟩,hg⟩:=hT
 rw [reg_arr8,reg_arr8]
 have:=Go.run_equalIn_bytes (P:=P) w d T e n h1 h2 (run_sizeOf h3) (List.ofFn a) (List.ofFn b) (by simp) (by simp)
 have e2:(List.ofFn a == List.ofFn b) = decide (a = b):=by
  rw [Bool.eq_iff_iff]; simp only [beq_iff_eq,decide_eq_true_eq]
  exact ⟨fun e=>by funext i; have:=congrArg (fun l=>l[i.1]?) e; simpa using this,fun e=>by rw [e]⟩
 rw [← e2]
 exact this
end
section
variable {C:Ctx} {ρ:Env} {h:H} {ty:TypeId}
theorem v_sub64 {x y:Operand} {a b:UInt64} {T T':TypeId} (hx:ev ρ x = reg a) (hy:ev ρ y = reg b):OpVal C (.binOp .sub T x y T') ty ρ h (reg (a - b)):=by
 intro w hw pos after g d
 simp only [reg] at hx hy
 have e:IntKind.u64.wrap ((a.toNat:Int) - b.toNat) = ((a - b).toNat:Int):=by
  rw [wrap_toU64,UInt64.toNat_sub]
  have h1:=a.toNat_lt
  have h2:=b.toNat_lt
  simp only [toU64,UInt64.toNat_ofNat']
  omega
 simp [execOp,hx,hy,eqGuard,binOp,Op.intArith,reg,e]
end
class NP (C:Ctx) (Q:Exit→Act→World→Prop):Prop where
 np:NoPanic C Q
instance {P:Program} {w0:World} {n:Nat} {fn:Func} {R:Value→H→Prop}:NP ⟨P,w0,n⟩ (bodyPost P fn (RetOk w0 R)):=⟨.body⟩
instance {C:Ctx} {Q:Exit→Act→World→Prop} {K:Act→World→Prop} [hq:NP C Q]:NP C (Exit.then K Q):=⟨.then_ hq.np⟩
instance {C:Ctx} {Q:Exit→Act→World→Prop} {id:Nat} [hq:NP C Q]:NP C (Exit.inBlock id Q):=⟨.block hq.np⟩
theorem cb {a b:Bool} (h:a = b):Value.bool a = Value.bool b:=congrArg Value.bool h
section
variable {C:Ctx} {ops:Array Oper} {Q:Exit→Act→World→Prop} {J:Env→H→Prop} {ρ:Env} {h:H} {os:List Oper} {o:Op} {ty:TypeId} {dst:Option Tmp} {pos:String} {after:Array Edge} {R:List Nat} {T:Nat→H→Prop} {fuel:Nat} {listed:Array Bool} {v:Value}
theorem AW.P (i:Nat) (hi:ops[i]? = some ⟨dst,o,ty,pos,after,none⟩) (hy:∀ {h'},OpVal C o ty ρ h' v) (hh:AW C ops Q R T fuel (listed.setIfInBounds i true) (upo ρ dst v) h) [hQ:NP C Q] (hk:takeOk ops R listed C.n i dst = true:=by kernel_rfl):
  AW C ops Q R T (fuel + 1) listed ρ h:=.p i hi hk hQ.np (fun _=>hy) hh
theorem AW.K (i:Nat) (S:H→Prop) (hi:ops[i]? = some ⟨dst,o,ty,pos,after,none⟩) (hs:S h) (hy:∀ h',S h'→OpVal C o ty ρ h' v) (hh:AW C ops Q R (fun j h'=>T j h'∧(reachB ops ops.size i j = true∨S h')) fuel (listed.setIfInBounds i true) (upo ρ dst v) h) [hQ:NP C Q] (hk:takeOk ops R listed C.n i dst = true:=by kernel_rfl):
  AW C ops Q R T (fuel + 1) listed ρ h:=.r i S hi hk hQ.np hs hy hh
theorem AW.N (i:Nat) {g:Nat×Bool} (t:Nat) (hi:ops[i]? = some ⟨dst,o,ty,pos,after,some g⟩) (hg:ρ t = .bool (!g.2)) (hh:AW C ops Q R T fuel (listed.setIfInBounds i true) (upo ρ dst undef) h) [hQ:NP C Q]
  (ht:(ops[g.1]?).bind (·.dst) = some t:=by rfl) (htn:Nat.blt t C.n = true:=by rfl) (hk:takeOk ops R listed C.n i dst = true:=by kernel_rfl):AW C ops Q R T (fuel + 1) listed ρ h:=.no' i t hi ht hg htn hk hQ.np hh
theorem AW.Y (i:Nat) {g:Nat×Bool} (t:Nat) (hi:ops[i]? = some ⟨dst,o,ty,pos,after,some g⟩) (hg:ρ t = .bool g.2) (hy:∀ {h'},OpVal C o ty ρ h' v) (hh:AW C ops Q R T fuel (listed.setIfInBounds i true) (upo ρ dst v) h) [hQ:NP C Q]
  (ht:(ops[g.1]?).bind (·.dst) = some t:=by rfl) (htn:Nat.blt t C.n = true:=by rfl) (hk:takeOk ops R listed C.n i dst = true:=by kernel_rfl):AW C ops Q R T (fuel + 1) listed ρ h:=.yp i t hi ht hg htn hk hQ.np (fun _=>hy) hh
theorem AW.YK (i:Nat) {g:Nat×Bool} (t:Nat) (S:H→Prop) (hi:ops[i]? = some ⟨dst,o,ty,pos,after,some g⟩) (hg:ρ t = .bool g.2) (hs:S h) (hy:∀ h',S h'→OpVal C o ty ρ h' v)
  (hh:AW C ops Q R (fun j h'=>T j h'∧(reachB ops ops.size i j = true∨S h')) fuel (listed.setIfInBounds i true) (upo ρ dst v) h) [hQ:NP C Q]
  (ht:(ops[g.1]?).bind (·.dst) = some t:=by rfl) (htn:Nat.blt t C.n = true:=by rfl) (hk:takeOk ops R listed C.n i dst = true:=by kernel_rfl):AW C ops Q R T (fuel + 1) listed ρ h:=.yr i t S hi ht hg htn hk hQ.np hs hy hh
theorem RLK.V (hv:OpVal C o ty ρ h v) (hj:RLK C ops Q J os (upo ρ dst v) h) (hd:okd C.n dst = true:=by rfl):RLK C ops Q J (⟨dst,o,ty,pos,after,none⟩ :: os) ρ h:=.val hv hd hj
theorem RLK.M {x:Operand} (v:Value) (hj:RLK C ops Q J os (upo ρ dst v) h) (hv:ev ρ x = v:=by rfl) (hd:okd C.n dst = true:=by rfl):RLK C ops Q J (⟨dst,.move x,ty,pos,after,none⟩ :: os) ρ h:=.val (qu hv) hd hj
theorem RLK.A {x:Operand} (v:Value) (hj:RLK C ops Q J os (upo ρ dst v) h) (hv:ev ρ x = v:=by rfl) (hd:okd C.n dst = true:=by rfl):RLK C ops Q J (⟨dst,.assign x,ty,pos,after,none⟩ :: os) ρ h:=.val (qad hv) hd hj
section
variable {σ α:Type} [Ty σ] [Ty α] {p:Addr} {g:σ→α} {k:α→H→Prop} {x:Operand} {U:TypeId} {n:Nat}
theorem RLK.L (off:Nat) (na:NotAgg C.P U) (hf:∀ s:σ,(enc s)[off]? = some (reg (g s))) (hh:ld p g k h) (hx:ev ρ x = .pointer (some (p.add off))) (hj:∀ y,k y h→RLK C ops Q J os (upo ρ dst (reg y)) h) (hd:okd C.n dst = true:=by rfl):
  RLK C ops Q J (⟨dst,.load U x,ty,pos,after,none⟩ :: os) ρ h:=by
 obtain ⟨y,⟨s,hs,hg⟩,hh⟩:=hh
 exact .val (qc2 off na hx hs hg hf) hd (hj y hh)
theorem RLK.LA (off:Nat) (ag:IsAgg C.P U n) (hf:∀ s:σ,((enc s).drop off).take n = enc (g s)) (hl:∀ y:α,(enc y).length = n) (hh:ld p g k h) (hx:ev ρ x = .pointer (some (p.add off))) (hj:∀ y,k y h→RLK C ops Q J os (upo ρ dst (reg y)) h) (hr:∀ y:α,reg y = .agg (enc y).toArray:=by exact fun _=>rfl) (hd:okd C.n dst = true:=by rfl):
  RLK C ops Q J (⟨dst,.load U x,ty,pos,after,none⟩ :: os) ρ h:=by
 obtain ⟨y,⟨s,hs,hg⟩,hh⟩:=hh
 exact .val (v_ldA off ag hx hs hg hf hl hr) hd (hj y hh)
theorem AW.KL (i off:Nat) (na:NotAgg C.P U) (hf:∀ s:σ,(enc s)[off]? = some (reg (g s))) (hi:ops[i]? = some ⟨dst,.load U x,ty,pos,after,none⟩) (hh:ld p g k h) (hx:ev ρ x = .pointer (some (p.add off)))
  (hj:∀ y,k y h→AW C ops Q R (fun j h'=>T j h'∧(reachB ops ops.size i j = true∨∃ s:σ,AtH h' p (enc s)∧g s = y)) fuel (listed.setIfInBounds i true) (upo ρ dst (reg y)) h) [hQ:NP C Q] (hk:takeOk ops R listed C.n i dst = true:=by kernel_rfl):AW C ops Q R T (fuel + 1) listed ρ h:=by
 obtain ⟨y,hs,hh⟩:=hh
 exact .r i (fun h'=>∃ s:σ,AtH h' p (enc s)∧g s = y) hi hk hQ.np hs (fun h' hS=>hS.elim fun _ hS=>qc2 off na hx hS.1 hS.2 hf) (hj y hh)
theorem AW.KA (i off:Nat) (ag:IsAgg C.P U n) (hf:∀ s:σ,((enc s).drop off).take n = enc (g s)) (hl:∀ y:α,(enc y).length = n) (hi:ops[i]? = some ⟨dst,.load U x,ty,pos,after,none⟩) (hh:ld p g k h) (hx:ev ρ x = .pointer (some (p.add off)))
  (hj:∀ y,k y h→AW C ops Q R (fun j h'=>T j h'∧(reachB ops ops.size i j = true∨∃ s:σ,AtH h' p (enc s)∧g s = y)) fuel (listed.setIfInBounds i true) (upo ρ dst (reg y)) h) [hQ:NP C Q] (hr:∀ y:α,reg y = .agg (enc y).toArray:=by exact fun _=>rfl) (hk:takeOk ops R listed C.n i dst = true:=by kernel_rfl):AW C ops Q R T (fuel + 1) listed ρ h:=by
 obtain ⟨y,hs,hh⟩:=hh
 exact .r i (fun h'=>∃ s:σ,AtH h' p (enc s)∧g s = y) hi hk hQ.np hs (fun h' hS=>hS.elim fun _ hS=>v_ldA off ag hx hS.1 hS.2 hf hl hr) (hj y hh)
theorem AW.YL (i:Nat) {gd:Nat×Bool} (t off:Nat) (na:NotAgg C.P U) (hf:∀ s:σ,(enc s)[off]? = some (reg (g s))) (hi:ops[i]? = some ⟨dst,.load U x,ty,pos,after,some gd⟩) (hg:ρ t = .bool gd.2) (hh:ld p g k h) (hx:ev ρ x = .pointer (some (p.add off)))
  (hj:∀ y,k y h→AW C ops Q R (fun j h'=>T j h'∧(reachB ops ops.size i j = true∨∃ s:σ,AtH h' p (enc s)∧g s = y)) fuel (listed.setIfInBounds i true) (upo ρ dst (reg y)) h) [hQ:NP C Q] (ht:(ops[gd.1]?).bind (·.dst) = some t:=by rfl) (htn:Nat.blt t C.n = true:=by rfl) (hk:takeOk ops R listed C.n i dst = true:=by kernel_rfl):AW C ops Q R T (fuel + 1) listed ρ h:=by
 obtain ⟨y,hs,hh⟩:=hh
 exact .yr i t (fun h'=>∃ s:σ,AtH h' p (enc s)∧g s = y) hi ht hg htn hk hQ.np hs (fun h' hS=>hS.elim fun _ hS=>qc2 off na hx hS.1 hS.2 hf) (hj y hh)
theorem RLK.S {u:σ→σ} {k:H→Prop} {y:Operand} {c m:Nat} (w:α) (off:Nat) (hT:SizeOf C.P U m) (h1:(enc w).all (·.oneCell') = true) (hc:∀ s:σ,(enc s).length = c) (hm:(enc w).length = m) (hu:∀ s:σ,(enc s).take off ++ enc w ++ (enc s).drop (off + (enc w).length) = enc (u s)) (hh:st p u k h)
  (hx:ev ρ x = .pointer (some (p.add off))) (hy:ev ρ y = reg w) (hj:∀ s:σ,k (putC h p (enc (u s)))→RLK C ops Q J os ρ (putC h p (enc (u s)))) (hl:Nat.ble (off + m) c = true:=by rfl):
  RLK C ops Q J (⟨none,.store U x y,ty,pos,after,none⟩ :: os) ρ h:=by
 obtain ⟨s,hs,hw,hh⟩:=hh
 exact .e (qb7 (p:=p) (nv:=enc w) off hx hy (by simp [enc]) hT h1 hs hw (hc s) hm hl (hu s) (hj s hh))
end
theorem RLK.nx {y:Code} (hh:CW C y Q ρ h):RLK C ops (Exit.then (y.wp C.P Q) Q) (QN C (Exit.then (y.wp C.P Q) Q) .normal) [] ρ h:=.nil (QN.then_ hh)
theorem CW.sr {id:Nat} {y:Code} (hh:RLK C ops (Exit.then (y.wp C.P Q) Q) (QN C (Exit.then (y.wp C.P Q) Q) .normal) ops.toList ρ h):CW C (.seq (.region id ops false) y) Q ρ h:=.seq (.region hh)
end
end Go.Sh
namespace Go.Vm
open Go Go.Sh
open Go.Sh.Ty (reg)
def gN' {α:Type} (d:D16) (n:N α):α:=(gN d).f n
def uN {α:Type} (d:D16) (n:N α) (x:α):N α:=D16.rec (motive:=fun _=>N α)
 { n with a0:=x } { n with a1:=x } { n with a2:=x } { n with a3:=x } { n with a4:=x } { n with a5:=x } { n with a6:=x } { n with a7:=x }
 { n with a8:=x } { n with a9:=x } { n with a10:=x } { n with a11:=x } { n with a12:=x } { n with a13:=x } { n with a14:=x } { n with a15:=x } d
theorem pN_eq {α:Type} (d:D16) (n:N α) (x:α) (k:N α→Ans):(pN d).f n x k = k (uN d n x):=by cases d <;> rfl
theorem mN_eq {α:Type} (d:D16) (n:N α) (g:α→(α→Ans)→Ans) (k:N α→Ans):(mN d).f n g k = g (gN' d n) (fun x=>k (uN d n x)):=by cases d <;> rfl
theorem qew {α:Type} (d:D16) (n:N α) (x:α):gN' d (uN d n x) = x:=by cases d <;> rfl
theorem gu_ne {α:Type} {d d':D16} (h:d ≠ d') (n:N α) (x:α):gN' d (uN d' n x) = gN' d n:=by
 cases d <;> cases d' <;> first | rfl | exact absurd rfl h
theorem ofD_lt (d:D16):ofD d < 16:=by cases d <;> decide
theorem toD_ofD (d:D16):toD (ofD d) = d:=by cases d <;> rfl
theorem ofD_toD {n:Nat} (h:n < 16):ofD (toD n) = n:=by
 have:∀ m:Fin 16,ofD (toD m.val) = m.val:=by decide
 exact this ⟨n,h⟩
theorem ofD_inj {d d':D16} (h:ofD d = ofD d'):d = d':=by rw [← toD_ofD d,h,toD_ofD]
def eGet (e:E) (t:Nat):AV:=(gE t).f e
def eSet (e:E) (t:Nat) (v:AV):E:=uN (hi t) e (uN (lo t) (gN' (hi t) e) v)
theorem sE_eq (t:Nat) (e:E) (v:AV) (k:E→Ans):(sE t).f e v k = k (eSet e t v):=by
 show (mN (hi t)).f e (fun n q=>(pN (lo t)).f n v q) k = _
 rw [mN_eq,pN_eq]; rfl
theorem hilo {t t':Nat} (h:t < 256) (h':t' < 256) (e1:hi t = hi t') (e2:lo t = lo t'):t = t':=by
 have a1:=congrArg ofD e1
 have a2:=congrArg ofD e2
 unfold hi at a1
 unfold lo at a2
 have m1:∀ n:Nat,n.mod 16 < 16:=fun n=>Nat.mod_lt _ (by decide)
 rw [ofD_toD (m1 _),ofD_toD (m1 _)] at a1 a2
 have b1:t / 16 % 16 = t' / 16 % 16:=a1
 have b2:t % 16 = t' % 16:=a2
 omega
theorem eGet_same (e:E) (t:Nat) (v:AV):eGet (eSet e t v) t = v:=by
 show gN' (lo t) (gN' (hi t) (eSet e t v)) = v
 unfold eSet
 rw [qew,qew]
theorem eGet_ne {e:E} {t t':Nat} (h:t < 256) (h':t' < 256) (hn:t' ≠ t) (v:AV):eGet (eSet e t v) t' = eGet e t':=by
 show gN' (lo t') (gN' (hi t') (eSet e t v)) = gN' (lo t') (gN' (hi t') e)
 unfold eSet
 by_cases c:hi t' = hi t
 ·rw [c,qew]
  by_cases c2:lo t' = lo t
  ·exact absurd (hilo h' h c c2) hn
  ·rw [gu_ne c2]
 ·rw [gu_ne c]
def uR (R:R4) (r:Rid) (x:Row):R4:=uN r.a R (uN r.b (gN' r.a R) (uN r.c (gN' r.b (gN' r.a R)) (uN r.d (gN' r.c (gN' r.b (gN' r.a R))) x)))
theorem getR_eq (R:R4) (r:Rid):getR R r = gN' r.d (gN' r.c (gN' r.b (gN' r.a R))):=rfl
theorem putR_eq (R:R4) (r:Rid) (x:Row) (k:R4→Ans):putR R r x k = k (uR R r x):=by
 show (mN r.a).f R (fun R q=>(mN r.b).f R (fun R q=>(mN r.c).f R (fun R q=>(pN r.d).f R x q) q) q) k = _
 rw [mN_eq,mN_eq,mN_eq,pN_eq]; rfl
theorem getR_same (R:R4) (r:Rid) (x:Row):getR (uR R r x) r = x:=by
 rw [getR_eq]; unfold uR; rw [qew,qew,qew,qew]
theorem getR_ne {r r':Rid} (hn:r' ≠ r) (R:R4) (x:Row):getR (uR R r x) r' = getR R r':=by
 rw [getR_eq,getR_eq]; unfold uR
 by_cases c1:r'.a = r.a
 ·rw [c1,qew]
  by_cases c2:r'.b = r.b
  ·rw [c2,qew]
   by_cases c3:r'.c = r.c
   ·rw [c3,qew]
    by_cases c4:r'.d = r.d
    ·exact absurd (by cases r; cases r'; simp_all) hn
    ·rw [gu_ne c4]
   ·rw [gu_ne c3]
  ·rw [gu_ne c2]
 ·rw [gu_ne c1]
theorem tor_eq (r:Rid):tor r = ((ofD r.a * 16 + ofD r.b) * 16 + ofD r.c) * 16 + ofD r.d:=rfl
theorem tor_inj {r r':Rid} (h:tor r = tor r'):r = r':=by
 rw [tor_eq,tor_eq] at h
 have:=ofD_lt r.a; have:=ofD_lt r.b; have:=ofD_lt r.c; have:=ofD_lt r.d
 have:=ofD_lt r'.a; have:=ofD_lt r'.b; have:=ofD_lt r'.c; have:=ofD_lt r'.d
 have h1:ofD r.d = ofD r'.d:=by omega
 have h2:ofD r.c = ofD r'.c:=by omega
 have h3:ofD r.b = ofD r'.b:=by omega
 have h4:ofD r.a = ofD r'.a:=by omega
 cases r; cases r'
 simp only at h1 h2 h3 h4
 rw [ofD_inj h1,ofD_inj h2,ofD_inj h3,ofD_inj h4]
theorem sD_cases (G:Ans→Prop) {d:D16} {k c:D16→Ans} (h:G (sD d k c)):(∃ d',ofD d' = ofD d + 1∧G (k d'))∨(ofD d = 15∧G (c .d0)):=by
 cases d <;> first | exact .inl ⟨_,rfl,h⟩ | exact .inr ⟨rfl,h⟩
structure Gd (G:Ans→Prop):Prop where
 er:∀ n,¬ G (.er n)
theorem sucR_ok {G:Ans→Prop} (hG:Gd G) {r:Rid} {k:Rid→Ans} (h:G (sucR r k)):∃ r',tor r' = tor r + 1∧G (k r'):=by
 cases r with
 | mk a b c d=>
 have h':G (sD d (fun d=>k ⟨a,b,c,d⟩) (fun d=>sD c (fun c=>k ⟨a,b,c,d⟩) (fun c=>sD b (fun b=>k ⟨a,b,c,d⟩) (fun b=>sD a (fun a=>k ⟨a,b,c,d⟩) (fun _=>.er 3))))):=h
 rcases sD_cases G h' with ⟨d',e,g⟩ | ⟨e,h1⟩
 ·exact ⟨_,by rw [tor_eq,tor_eq]; simp only []; omega,g⟩
 ·rcases sD_cases G h1 with ⟨c',e2,g⟩ | ⟨e2,h2⟩
  ·exact ⟨_,by rw [tor_eq,tor_eq]; simp only [show ofD .d0 = 0 from rfl]; omega,g⟩
  ·rcases sD_cases G h2 with ⟨c',e3,g⟩ | ⟨e3,h3⟩
   ·exact ⟨_,by rw [tor_eq,tor_eq]; simp only [show ofD .d0 = 0 from rfl]; omega,g⟩
   ·rcases sD_cases G h3 with ⟨c',e4,g⟩ | ⟨e4,h4⟩
    ·exact ⟨_,by rw [tor_eq,tor_eq]; simp only [show ofD .d0 = 0 from rfl]; omega,g⟩
    ·exact absurd h4 (hG.er _)
theorem frN_eq (n:Nat) (k:Nat→Ans):frN n k = k n:=rfl
theorem frB_eq (x:Bool) (k:Bool→Ans):frB x k = k x:=by cases x <;> rfl
theorem frA_eq {v:AV} (h:v ≠ .er) (k:AV→Ans):frA v k = k v:=by
 cases v <;> first | exact absurd rfl h | rfl | exact frB_eq _ _
theorem frH_eq {v:AV} (h:v ≠ .er) (k:AV→Ans):frH v k = k v:=by
 cases v <;> first | exact absurd rfl h | rfl
theorem bv_t (a b:AV):bv true a b = a:=rfl
theorem bv_f (a b:AV):bv false a b = b:=rfl
theorem an_eq (a b:Bool):an a b = (a && b):=by cases a <;> rfl
section
variable {G:Ans→Prop} (hG:Gd G)
include hG
theorem frA_ok {v:AV} {k:AV→Ans} (h:G (frA v k)):v ≠ .er∧G (k v):=by
 by_cases c:v = .er
 ·subst c; exact absurd h (hG.er _)
 ·rw [frA_eq c] at h; exact ⟨c,h⟩
theorem qdn {v:AV} {k:AV→Ans} (h:G (frH v k)):v ≠ .er∧G (k v):=by
 by_cases c:v = .er
 ·subst c; exact absurd h (hG.er _)
 ·rw [frH_eq c] at h; exact ⟨c,h⟩
theorem frC_ok:∀ {l:CL AV} {k:CL AV→Ans},G (frC l k)→G (k l):=by
 intro l
 induction l with
 | nil=>intro k h; exact h
 | cons w v tl ih=>
  intro k h
  have h':G (frN w fun w=>frA v fun v=>frC tl fun l=>k (.cons w v l)):=h
  rw [frN_eq] at h'
  obtain ⟨_,h2⟩:=frA_ok hG h'
  exact ih h2
theorem frV_ok {v:AV} {k:AV→Ans} (h:G (frV v k)):v ≠ .er∧G (k v):=by
 cases v with
 | a cs=>exact ⟨by simp,frC_ok hG (k:=fun cs=>k (.a cs)) h⟩
 | _=>exact frA_ok hG h
theorem qak {c:Bool} {n:Nat} {a:Ans} (h:G (bz c a (.er n))):c = true∧G a:=by
 cases c with
 | true=>exact ⟨rfl,h⟩
 | false=>exact absurd h (hG.er _)
end
theorem qa8 {c:Bool} {a:AV} (h:bv c a .er ≠ .er):c = true∧a ≠ .er:=by
 cases c with
 | true=>exact ⟨rfl,h⟩
 | false=>exact absurd rfl h
theorem bv_er {c:Bool} {a:AV} (h:bv c .er a ≠ .er):c = false∧a ≠ .er:=by
 cases c with
 | true=>exact absurd rfl h
 | false=>exact ⟨rfl,h⟩
theorem qaf {a b:Bool} (h:an a b = true):a = true∧b = true:=by rw [an_eq] at h; simpa using h
theorem yh {a b:Nat} (h:Nat.ble a b = true):a≤b:=Nat.le_of_ble_eq_true h
theorem ya {a b:Nat} (h:Nat.beq a b = true):a = b:=Nat.eq_of_beq_eq_true h
theorem qcl {a b:Nat} (h:Nat.beq a b = false):a ≠ b:=fun e=>by subst e; simp at h
def byL:Nat→Nat→List Nat
 | 0,_=>[]
 | n + 1,x=>(x / 256 ^ n % 256) :: byL n x
theorem qej (n x:Nat):(byL n x).length = n:=by induction n with
 | zero=>rfl
 | succ n ih=>simp [byL,ih]
theorem byL_lt {n x b:Nat} (h:b ∈ byL n x):b < 256:=by
 induction n with
 | zero=>simp [byL] at h
 | succ n ih=>
  simp only [byL,List.mem_cons] at h
  rcases h with rfl | h
  ·exact Nat.mod_lt _ (by decide)
  ·exact ih h
theorem byL_add (m z:Nat) (hz:z < 256 ^ m):∀ (n x:Nat),byL (n + m) (x * 256 ^ m + z) = byL n x ++ byL m z:=by
 intro n
 induction n with
 | zero=>
  intro x
  simp only [byL,Nat.zero_add,List.nil_append]
  have:∀ k y,k≤m→byL k (y * 256 ^ m + z) = byL k z:=by
   intro k
   induction k with
   | zero=>intro y _; rfl
   | succ k ih=>
    intro y hk
    simp only [byL]
    rw [ih y (by omega)]
    congr 1
    have e:256 ^ m = 256 ^ k * (256 * 256 ^ (m - k - 1)):=by
     rw [← Nat.mul_assoc,← Nat.pow_succ,← Nat.pow_add]; congr 1; omega
    have e2:y * 256 ^ m + z = z + 256 ^ k * (256 * (256 ^ (m - k - 1) * y)):=by
     rw [e]; rw [Nat.add_comm]; congr 1; rw [Nat.mul_comm y,Nat.mul_assoc,Nat.mul_assoc]
    rw [e2,Nat.add_mul_div_left _ _ (Nat.pow_pos (by decide)),Nat.add_mul_mod_self_left]
  exact this m x (Nat.le_refl _)
 | succ n ih=>
  intro x
  rw [show n + 1 + m = (n + m) + 1 by omega]
  simp only [byL,List.cons_append]
  rw [ih x]
  congr 1
  rw [Nat.add_comm n m,Nat.pow_add,← Nat.div_div_eq_div_mul,Nat.add_comm (x * 256 ^ m),Nat.add_mul_div_right _ _ (Nat.pow_pos (by decide)),Nat.div_eq_of_lt hz,Nat.zero_add]
theorem qe4 {n k:Nat} (hk:k≤n) (x:Nat):byL n x = byL k (x / 256 ^ (n - k)) ++ byL (n - k) (x % 256 ^ (n - k)):=by
 have:=byL_add (n - k) (x % 256 ^ (n - k)) (Nat.mod_lt _ (Nat.pow_pos (by decide))) k (x / 256 ^ (n - k))
 rw [show k + (n - k) = n by omega,Nat.mul_comm,Nat.div_add_mod] at this
 exact this
theorem byL_get:∀ {n o:Nat} (x:Nat),o < n→(byL n x)[o]? = some (x / 256 ^ (n - 1 - o) % 256)
 | 0,_,_,h=>by omega
 | n + 1,0,x,_=>by simp [byL]
 | n + 1,o + 1,x,h=>by
  simp only [byL,List.getElem?_cons_succ]
  rw [byL_get x (by omega)]
  congr 4
  omega
theorem sh8 (x k:Nat):Nat.shiftRight x (p8 k) = x / 256 ^ k:=by
 show x >>> (8 * k) = _
 rw [Nat.shiftRight_eq_div_pow,Nat.pow_mul]
theorem sl8 (x k:Nat):Nat.shiftLeft x (p8 k) = x * 256 ^ k:=by
 show x <<< (8 * k) = _
 rw [Nat.shiftLeft_eq,Nat.pow_mul]
theorem land255 (x:Nat):Nat.land x 255 = x % 256:=by
 have:=Nat.and_two_pow_sub_one_eq_mod x 8
 exact this
theorem byt_eq (n x o:Nat):byt n x o = x / 256 ^ (n - 1 - o) % 256:=by
 unfold byt
 rw [land255,sh8]; rfl
theorem sub8_eq {n x o z:Nat} (hx:x < 256 ^ n) (ho:o < n) (hz:z < 256):sub8 n x o z < 256 ^ n∧byL n (sub8 n x o z) = (byL n x).set o z:=by
 obtain ⟨k,rfl⟩:∃ k,n = o + (k + 1):=⟨n - o - 1,by omega⟩
 have hs:o + (k + 1) - 1 - o = k:=by omega
 have pk:0 < 256 ^ k:=Nat.pow_pos (by decide)
 generalize hlo:x % 256 ^ k = lo
 generalize hb:x / 256 ^ k % 256 = b
 generalize hh:x / 256 ^ k / 256 = h
 have hlo':lo < 256 ^ k:=by rw [← hlo]; exact Nat.mod_lt _ pk
 have hb':b < 256:=by rw [← hb]; exact Nat.mod_lt _ (by decide)
 have ex:x = h * 256 ^ (k + 1) + (b * 256 ^ k + lo):=by
  have e1:=Nat.div_add_mod x (256 ^ k)
  have e2:=Nat.div_add_mod (x / 256 ^ k) 256
  rw [hlo] at e1
  rw [hh,hb] at e2
  rw [← e1,← e2,Nat.mul_add,Nat.pow_succ]
  have:256 ^ k * (256 * h) = h * (256 ^ k * 256):=by rw [← Nat.mul_assoc,Nat.mul_comm]
  rw [this,Nat.mul_comm (256 ^ k) b,Nat.add_assoc]
 have es:sub8 (o + (k + 1)) x o z = h * 256 ^ (k + 1) + (z * 256 ^ k + lo):=by
  show x - Nat.shiftLeft (byt (o + (k + 1)) x o) (p8 (o + (k + 1) - 1 - o)) + Nat.shiftLeft z (p8 (o + (k + 1) - 1 - o)) = _
  rw [sl8,sl8,byt_eq,hs,hb,ex]
  omega
 have hlt:∀ c,c < 256→c * 256 ^ k + lo < 256 ^ (k + 1):=by
  intro c hc
  have:c * 256 ^ k + 256 ^ k≤256 * 256 ^ k:=by
   have:=Nat.mul_le_mul_right (256 ^ k) (show c + 1≤256 by omega)
   rw [Nat.add_mul,Nat.one_mul] at this; exact this
  rw [Nat.pow_succ,Nat.mul_comm (256 ^ k) 256]; omega
 have hlen:h < 256 ^ o:=by
  have:h * 256 ^ (k + 1) < 256 ^ o * 256 ^ (k + 1):=by rw [← Nat.pow_add]; omega
  exact Nat.lt_of_mul_lt_mul_right this
 have one:∀ c,c < 256→byL (o + (k + 1)) (h * 256 ^ (k + 1) + (c * 256 ^ k + lo)) = byL o h ++ (c :: byL k lo):=by
  intro c hc
  rw [byL_add _ _ (hlt c hc)]
  congr 1
  have:=byL_add k lo hlo' 1 c
  rw [Nat.add_comm 1 k] at this
  rw [this]
  simp [byL,Nat.mod_eq_of_lt hc]
 refine ⟨?_,?_⟩
 ·rw [Nat.pow_add,es]
  have:=hlt z hz
  have h2:(h + 1) * 256 ^ (k + 1)≤256 ^ o * 256 ^ (k + 1):=Nat.mul_le_mul_right _ (by omega)
  rw [Nat.add_mul,Nat.one_mul] at h2
  omega
 ·rw [es,one z hz,ex,one b hb',List.set_append_right _ _ (by rw [qej]; omega),qej,Nat.sub_self,List.set_cons_zero]
def bV (b:Nat):Value:=.int .u8 (b:Int)
def byV (n x:Nat):List Value:=(byL n x).map bV
theorem qc6 (n x:Nat):(byV n x).length = n:=by simp [byV,qej]
def byS (n x:Nat):ByteArray:=⟨((byL n x).map UInt8.ofNat).toArray⟩
theorem qea (n x:Nat):(byS n x).size = n:=by simp [byS,ByteArray.size,qej]
theorem byL_inj:∀ {n x y:Nat},x < 256 ^ n→y < 256 ^ n→byL n x = byL n y→x = y:=by
 intro n
 induction n with
 | zero=>intro x y hx hy _; simp at hx hy; omega
 | succ n ih=>
  intro x y hx hy h
  have h1:=qe4 (n:=n + 1) (k:=1) (by omega) x
  have h2:=qe4 (n:=n + 1) (k:=1) (by omega) y
  simp only [Nat.add_sub_cancel] at h1 h2
  rw [h1,h2] at h
  have h3:=List.append_inj h (by rw [qej,qej])
  have p:0 < 256 ^ n:=Nat.pow_pos (by decide)
  have h4:=ih (Nat.mod_lt _ p) (Nat.mod_lt _ p) h3.2
  have h5:x / 256 ^ n = y / 256 ^ n:=by
   have e:=h3.1
   simp only [byL,Nat.pow_zero,Nat.div_one,List.cons.injEq,and_true] at e
   have a1:x / 256 ^ n < 256:=Nat.div_lt_of_lt_mul (by rw [Nat.pow_succ] at hx; exact hx)
   have a2:y / 256 ^ n < 256:=Nat.div_lt_of_lt_mul (by rw [Nat.pow_succ] at hy; exact hy)
   rwa [Nat.mod_eq_of_lt a1,Nat.mod_eq_of_lt a2] at e
  rw [← Nat.div_add_mod x (256 ^ n),← Nat.div_add_mod y (256 ^ n),h4,h5]
abbrev Th:=Rid→Option (Nat×Nat×Nat)
def Uk:Nat→Value→Prop
 | 0,V=>∃ s:ByteArray,s.size≤1048576∧V = .string s
 | 1,V=>∃ n:Int,IntKind.i64.wrap n = n∧V = .int .i64 n
 | 2,V=>∃ b,V = .bool b
 | 3,V=>∃ n:Nat,n < 256∧V = .int .u8 n
 | _,_=>False
theorem Uk.one {k:Nat} {V:Value} (h:Uk k V):V.oneCell' = true∧V.cells = #[V]:=by
 match k,h with
 | 0,⟨_,_,e⟩=>subst e; exact ⟨rfl,rfl⟩
 | 1,⟨_,_,e⟩=>subst e; exact ⟨rfl,rfl⟩
 | 2,⟨_,e⟩=>subst e; exact ⟨rfl,rfl⟩
 | 3,⟨_,_,e⟩=>subst e; exact ⟨rfl,rfl⟩
def RA (θ:Th):AV→Value→Prop
 | .b x,V=>V = .bool x
 | .i n,V=>n < 2 ^ 64∧V = .int .i64 (IntKind.i64.wrap n)
 | .w n,V=>n < 2 ^ 64∧V = .int .u64 n
 | .y n,V=>n < 2 ^ 8∧V = .int .u8 n
 | .h n,V=>n < 2 ^ 32∧V = .int .u32 n
 | .s n x,V=>x < 256 ^ n∧V = .string (byS n x)
 | .p r o,V=>∃ b o0 t,θ r = some (b,o0,t)∧V = .pointer (some ⟨b,o0 + o,none⟩)
 | .pn,V=>V = .pointer none
 | .sl r o n z,V=>∃ b o0 t c,θ r = some (b,o0,t)∧0 < z∧o + c * z = t∧n≤c∧V = .slice (some ⟨b,o0 + o,none⟩) n c
 | .sr r o n c z,V=>∃ b o0 t,θ r = some (b,o0,t)∧0 < z∧n≤c∧V = .slice (some ⟨b,o0 + o,none⟩) n c
 | .se r o z,V=>∃ b o0 t c,θ r = some (b,o0,t)∧0 < z∧o + c * z = t∧((c = 0∧∃ a:Addr,a.spot = none∧V = .slice (some a) 0 0)∨(0 < c∧V = .slice (some ⟨b,o0 + o,none⟩) 0 c))
 | .sz,V=>∃ a:Addr,a.spot = none∧V = .slice (some a) 0 0
 | .sn,V=>V = .slice none 0 0
 | .m r,V=>∃ b o0 t,θ r = some (b,o0,t)∧V = .map (some b)
 | .mn,V=>V = .map none
 | .fn,V=>V = .nilFunc
 | .rk re im,V=>V = .complex .f64 re im
 | .ifn,V=>V = .nilIface
 | .o k,V=>Uk k V
 | _,_=>False
def RAs (θ:Th):List AV→List Value→Prop
 | [],vs=>vs = []
 | a :: l,vs=>∃ V r,vs = V :: r∧RA θ a V∧RAs θ l r
def RF (θ:Th) (v:AV) (V:Value):Prop:=
 RA θ v V∨∃ f fs cs xs ys,v = .f f fs cs∧V = .func (.func f) (Array.mk xs) (Array.mk ys)∧RAs θ fs xs∧RAs θ cs ys
def RW (θ:Th) (w:Nat) (v:AV) (vs:List Value):Prop:=
 (∃ x,v = .bs w x∧0 < w∧x < 256 ^ w∧vs = byV w x)∨(w = 1∧(∀ n,v ≠ .y n)∧∃ V,vs = [V]∧RF θ v V)
def RC (θ:Th):CL AV→List Value→Prop
 | .nil,vs=>vs = []
 | .cons w v tl,vs=>∃ v1 v2,vs = v1 ++ v2∧RW θ w v v1∧RC θ tl v2
def RV1 (θ:Th) (v:AV) (V:Value):Prop:=RF θ v V∨(∃ cs vs,v = .a cs∧V = .agg (Array.mk vs)∧RC θ cs vs)∨(v = .u∧V = undef)
def RVs (θ:Th):List AV→List Value→Prop
 | [],vs=>vs = []
 | a :: l,vs=>∃ V r,vs = V :: r∧RV1 θ a V∧RVs θ l r
def RV (θ:Th) (v:AV) (V:Value):Prop:=RV1 θ v V∨∃ l vs,v = .t l∧V = .tuple (Array.mk vs)∧RVs θ l vs
def Ext (θ θ':Th) (n:Nat):Prop:=(∀ r x,θ r = some x→θ' r = some x)∧∀ r,tor r < n→θ r = none→θ' r = none
theorem Ext.refl (θ:Th) (n:Nat):Ext θ θ n:=⟨fun _ _ h=>h,fun _ _ h=>h⟩
theorem Ext.trans {θ θ' θ'':Th} {n m:Nat} (h:Ext θ θ' n) (h':Ext θ' θ'' m) (hn:n≤m):Ext θ θ'' n:=
 ⟨fun r x e=>h'.1 r x (h.1 r x e),fun r hr e=>h'.2 r (by omega) (h.2 r hr e)⟩
section
variable {θ θ':Th} (he:∀ r x,θ r = some x→θ' r = some x)
include he
theorem RA.mono:∀ {v:AV} {V:Value},RA θ v V→RA θ' v V:=by
 intro v V h
 cases v <;> first
  | exact h
  | (obtain ⟨b,o0,t,h1,h2⟩:=h; exact ⟨b,o0,t,he _ _ h1,h2⟩)
  | (obtain ⟨b,o0,t,c,h1,h2⟩:=h; exact ⟨b,o0,t,c,he _ _ h1,h2⟩)
theorem RAs.mono:∀ {l:List AV} {vs:List Value},RAs θ l vs→RAs θ' l vs
 | [],_,h=>h
 | _ :: _,_,⟨V,r,e,h1,h2⟩=>⟨V,r,e,RA.mono he h1,RAs.mono h2⟩
theorem RF.mono {v:AV} {V:Value} (h:RF θ v V):RF θ' v V:=by
 rcases h with h | ⟨f,fs,cs,xs,ys,e,e2,h1,h2⟩
 ·exact .inl (RA.mono he h)
 ·exact .inr ⟨f,fs,cs,xs,ys,e,e2,RAs.mono he h1,RAs.mono he h2⟩
theorem RW.mono {w:Nat} {v:AV} {vs:List Value} (h:RW θ w v vs):RW θ' w v vs:=by
 rcases h with h | ⟨e,h0,V,h1,h2⟩
 ·exact .inl h
 ·exact .inr ⟨e,h0,V,h1,RF.mono he h2⟩
theorem RC.mono:∀ {l:CL AV} {vs:List Value},RC θ l vs→RC θ' l vs:=by
 intro l
 induction l with
 | nil=>intro vs h; exact h
 | cons w v tl ih=>rintro vs ⟨v1,v2,e,h1,h2⟩; exact ⟨v1,v2,e,RW.mono he h1,ih h2⟩
theorem RV1.mono {v:AV} {V:Value} (h:RV1 θ v V):RV1 θ' v V:=by
 rcases h with h | ⟨cs,vs,e,e2,h1⟩ | h
 ·exact .inl (RF.mono he h)
 ·exact .inr (.inl ⟨cs,vs,e,e2,RC.mono he h1⟩)
 ·exact .inr (.inr h)
theorem RVs.mono:∀ {l:List AV} {vs:List Value},RVs θ l vs→RVs θ' l vs
 | [],_,h=>h
 | _ :: _,_,⟨V,r,e,h1,h2⟩=>⟨V,r,e,RV1.mono he h1,RVs.mono h2⟩
theorem RV.mono {v:AV} {V:Value} (h:RV θ v V):RV θ' v V:=by
 rcases h with h | ⟨l,vs,e,e2,h1⟩
 ·exact .inl (RV1.mono he h)
 ·exact .inr ⟨l,vs,e,e2,RVs.mono he h1⟩
end
section
variable {θ θ':Th} (he:∀ r x,θ r = some x→θ' r = some x)
include he
theorem RA.back {v:AV} {V V':Value} (h:RA θ v V) (h':RA θ' v V'):RA θ v V':=by
 cases v <;> first
  | exact h'
  | (obtain ⟨b,o0,t,h1,h2⟩:=h; obtain ⟨b',o0',t',h1',h2'⟩:=h'; have:=he _ _ h1; rw [this] at h1'; obtain ⟨rfl,rfl,rfl⟩:=Option.some.inj h1' |> (fun e=>by injection e with e1 e2; injection e2 with e2 e3; exact ⟨e1,e2,e3⟩:_→b = b'∧o0 = o0'∧t = t'); exact ⟨_,_,_,h1,h2'⟩)
  | (obtain ⟨b,o0,t,c,h1,h2⟩:=h; obtain ⟨b',o0',t',c',h1',h2'⟩:=h'; have:=he _ _ h1; rw [this] at h1'; obtain ⟨rfl,rfl,rfl⟩:=Option.some.inj h1' |> (fun e=>by injection e with e1 e2; injection e2 with e2 e3; exact ⟨e1,e2,e3⟩:_→b = b'∧o0 = o0'∧t = t'); exact ⟨_,_,_,_,h1,h2'⟩)
theorem RAs.back:∀ {l:List AV} {vs vs':List Value},RAs θ l vs→RAs θ' l vs'→RAs θ l vs'
 | [],_,_,_,h'=>h'
 | _ :: _,_,_,⟨V,r,e,h1,h2⟩,⟨V',r',e',h1',h2'⟩=>⟨V',r',e',RA.back he h1 h1',RAs.back h2 h2'⟩
theorem RF.back {v:AV} {V V':Value} (h:RF θ v V) (h':RF θ' v V'):RF θ v V':=by
 rcases h' with h' | ⟨f',fs',cs',xs',ys',e',e2',h1',h2'⟩
 ·rcases h with h | ⟨f,fs,cs,xs,ys,e,e2,h1,h2⟩
  ·exact .inl (RA.back he h h')
  ·subst e; exact absurd h' id
 ·rcases h with h | ⟨f,fs,cs,xs,ys,e,e2,h1,h2⟩
  ·subst e'; exact absurd h id
  ·rw [e'] at e; injection e with e1 e2 e3; subst e2; subst e3
   exact .inr ⟨f',_,_,xs',ys',e',e2',RAs.back he h1 h1',RAs.back he h2 h2'⟩
theorem RW.back {w:Nat} {v:AV} {vs vs':List Value} (h:RW θ w v vs) (h':RW θ' w v vs'):RW θ w v vs':=by
 rcases h' with h' | ⟨e',h0',V',h1',h2'⟩
 ·exact .inl h'
 ·rcases h with ⟨x,e,_⟩ | ⟨e,h0,V,h1,h2⟩
  ·subst e; rcases h2' with h2' | ⟨_,_,_,_,_,e,_⟩
   ·exact absurd h2' id
   ·cases e
  ·exact .inr ⟨e',h0',V',h1',RF.back he h2 h2'⟩
theorem RC.back:∀ {l:CL AV} {vs vs':List Value},RC θ l vs→RC θ' l vs'→RC θ l vs':=by
 intro l
 induction l with
 | nil=>intro vs vs' _ h; exact h
 | cons w v tl ih=>rintro vs vs' ⟨v1,v2,e,h1,h2⟩ ⟨v1',v2',e',h1',h2'⟩; exact ⟨v1',v2',e',RW.back he h1 h1',ih h2 h2'⟩
theorem RV1.back {v:AV} {V V':Value} (h:RV1 θ v V) (h':RV1 θ' v V'):RV1 θ v V':=by
 rcases h' with h' | ⟨cs',vs',e',e2',h1'⟩ | h'
 ·rcases h with h | ⟨cs,vs,e,e2,h1⟩ | ⟨e,e2⟩
  ·exact .inl (RF.back he h h')
  ·subst e; rcases h' with h' | ⟨_,_,_,_,_,e,_⟩
   ·exact absurd h' id
   ·cases e
  ·subst e; rcases h' with h' | ⟨_,_,_,_,_,e,_⟩
   ·exact absurd h' id
   ·cases e
 ·rcases h with h | ⟨cs,vs,e,e2,h1⟩ | ⟨e,e2⟩
  ·subst e'; rcases h with h | ⟨_,_,_,_,_,e,_⟩
   ·exact absurd h id
   ·cases e
  ·rw [e'] at e; injection e with e; subst e
   exact .inr (.inl ⟨_,vs',e',e2',RC.back he h1 h1'⟩)
  ·subst e; cases e'
 ·exact .inr (.inr h')
end
theorem RA.one {θ:Th} {v:AV} {V:Value} (h:RA θ v V):V.oneCell' = true:=by
 cases v <;> first
  | exact (Uk.one h).1
  | exact absurd h id
  | (subst h; rfl)
  | (obtain ⟨_,rfl⟩:=h; rfl)
  | (obtain ⟨b,o0,t,h1,rfl⟩:=h; rfl)
  | (obtain ⟨b,o0,t,c,h1,h2,h3,h4,rfl⟩:=h; rfl)
  | (obtain ⟨b,o0,t,h1,h2,h3,rfl⟩:=h; rfl)
  | (obtain ⟨b,o0,t,c,h1,h2,h3,⟨_,_,_,rfl⟩ | ⟨_,rfl⟩⟩:=h <;> rfl)
theorem RF.one {θ:Th} {v:AV} {V:Value} (h:RF θ v V):V.oneCell' = true:=by
 rcases h with h | ⟨f,fs,cs,xs,ys,e,rfl,_⟩
 ·exact RA.one h
 ·rfl
theorem RA.cells {θ:Th} {v:AV} {V:Value} (h:RA θ v V):V.cells = #[V]:=by
 cases v <;> first
  | exact (Uk.one h).2
  | exact absurd h id
  | (subst h; rfl)
  | (obtain ⟨_,rfl⟩:=h; rfl)
  | (obtain ⟨b,o0,t,h1,rfl⟩:=h; rfl)
  | (obtain ⟨b,o0,t,c,h1,h2,h3,h4,rfl⟩:=h; rfl)
  | (obtain ⟨b,o0,t,h1,h2,h3,rfl⟩:=h; rfl)
  | (obtain ⟨b,o0,t,c,h1,h2,h3,⟨_,_,_,rfl⟩ | ⟨_,rfl⟩⟩:=h <;> rfl)
theorem RF.cells {θ:Th} {v:AV} {V:Value} (h:RF θ v V):V.cells = #[V]:=by
 rcases h with h | ⟨f,fs,cs,xs,ys,e,rfl,_⟩
 ·exact RA.cells h
 ·rfl
theorem RF.noA {θ:Th} {cs:CL AV} {V:Value} (h:RF θ (.a cs) V):False:=by
 rcases h with h | ⟨_,_,_,_,_,e,_⟩
 ·exact h
 ·cases e
theorem RF.noB {θ:Th} {n x:Nat} {V:Value} (h:RF θ (.bs n x) V):False:=by
 rcases h with h | ⟨_,_,_,_,_,e,_⟩
 ·exact h
 ·cases e
theorem RF.noT {θ:Th} {l:List AV} {V:Value} (h:RF θ (.t l) V):False:=by
 rcases h with h | ⟨_,_,_,_,_,e,_⟩
 ·exact h
 ·cases e
theorem RF.noU {θ:Th} {V:Value} (h:RF θ .u V):False:=by
 rcases h with h | ⟨_,_,_,_,_,e,_⟩
 ·exact h
 ·cases e
def Atm (v:AV):Prop:=match v with | .a _ | .t _ | .u=>False | _=>True
theorem RV.atm {θ:Th} {v:AV} {V:Value} (h:RV θ v V) (ha:Atm v):RF θ v V:=by
 rcases h with (h | ⟨_,_,e,_⟩ | ⟨e,_⟩) | ⟨_,_,e,_⟩
 ·exact h
 ·subst e; exact absurd ha id
 ·subst e; exact absurd ha id
 ·subst e; exact absurd ha id
def Atm' (v:AV):Prop:=match v with | .f _ _ _=>False | _=>Atm v
theorem RV.ra {θ:Th} {v:AV} {V:Value} (h:RV θ v V) (ha:Atm' v):RA θ v V:=by
 have h0:Atm v:=by cases v <;> first | exact ha | trivial
 rcases h.atm h0 with h | ⟨_,_,_,_,_,e,_⟩
 ·exact h
 ·subst e; exact absurd ha id
theorem RF.ra {θ:Th} {v:AV} {V:Value} (h:RF θ v V) (ha:Atm' v):RA θ v V:=RV.ra (.inl (.inl h)) ha
theorem RV.agg {θ:Th} {cs:CL AV} {V:Value} (h:RV θ (.a cs) V):∃ vs,V = .agg (Array.mk vs)∧RC θ cs vs:=by
 rcases h with (h | ⟨_,vs,e,e2,h⟩ | ⟨e,_⟩) | ⟨_,_,e,_⟩
 ·exact h.noA.elim
 ·injection e with e; subst e; exact ⟨vs,e2,h⟩
 ·cases e
 ·cases e
theorem RV.tup {θ:Th} {l:List AV} {V:Value} (h:RV θ (.t l) V):∃ vs,V = .tuple (Array.mk vs)∧RVs θ l vs:=by
 rcases h with (h | ⟨_,vs,e,_⟩ | ⟨e,_⟩) | ⟨_,vs,e,e2,h⟩
 ·exact h.noT.elim
 ·cases e
 ·cases e
 ·injection e with e; subst e; exact ⟨vs,e2,h⟩
section
variable {θ:Th}
theorem RW.len {w:Nat} {v:AV} {vs:List Value} (h:RW θ w v vs):vs.length = w∧0 < w:=by
 rcases h with ⟨x,_,h0,_,rfl⟩ | ⟨rfl,_,V,rfl,_⟩
 ·exact ⟨qc6 _ _,h0⟩
 ·exact ⟨rfl,by decide⟩
theorem RW.one {w:Nat} {v:AV} {vs:List Value} (h:RW θ w v vs):vs.all (·.oneCell') = true:=by
 rcases h with ⟨x,_,h0,_,rfl⟩ | ⟨rfl,_,V,rfl,h⟩
 ·rw [List.all_eq_true]; intro v hv; simp only [byV,List.mem_map] at hv; obtain ⟨b,_,rfl⟩:=hv; rfl
 ·simp [h.one]
theorem RC.len:∀ {l:CL AV} {vs:List Value},RC θ l vs→clen l = vs.length:=by
 intro l
 induction l with
 | nil=>intro vs h; have:vs = []:=h; subst this; rfl
 | cons w v tl ih=>
  rintro vs ⟨v1,v2,rfl,h1,h2⟩
  show w + clen tl = _
  rw [ih h2,List.length_append,h1.len.1]
theorem RC.one:∀ {l:CL AV} {vs:List Value},RC θ l vs→vs.all (·.oneCell') = true:=by
 intro l
 induction l with
 | nil=>intro vs h; have:vs = []:=h; subst this; rfl
 | cons w v tl ih=>
  rintro vs ⟨v1,v2,rfl,h1,h2⟩
  rw [List.all_append,h1.one,ih h2]; rfl
theorem RW.bs {w x:Nat} (h0:0 < w) (hx:x < 256 ^ w):RW θ w (.bs w x) (byV w x):=.inl ⟨x,rfl,h0,hx,rfl⟩
theorem RW.of {v:AV} {V:Value} (h:RF θ v V) (hy:∀ n,v ≠ .y n):RW θ 1 v [V]:=.inr ⟨rfl,hy,V,rfl,h⟩
theorem RW.big {w:Nat} {v:AV} {vs:List Value} (h:RW θ w v vs) (hw:1 < w):∃ x,v = .bs w x∧x < 256 ^ w∧vs = byV w x:=by
 rcases h with ⟨x,e,_,h2,h3⟩ | ⟨rfl,_⟩
 ·exact ⟨x,e,h2,h3⟩
 ·omega
theorem byV_split {n k:Nat} (hk:k≤n) (x:Nat):byV n x = byV k (x / 256 ^ (n - k)) ++ byV (n - k) (x % 256 ^ (n - k)):=by
 unfold byV; rw [qe4 hk x,List.map_append]
theorem pow256 (n:Nat):0 < 256 ^ n:=Nat.pow_pos (by decide)
theorem spL_ok {w k:Nat} {v:AV} {vs:List Value} (h:RW θ w v vs) (h0:0 < k) (hk:k < w):RC θ (spL v k) (vs.take k):=by
 obtain ⟨x,rfl,hx,rfl⟩:=h.big (by omega)
 show RC θ (.cons k (.bs k (Nat.shiftRight x (p8 (w - k)))) .nil) _
 rw [sh8,byV_split (Nat.le_of_lt hk) x,List.take_left' (qc6 _ _)]
 refine ⟨_,[],(List.append_nil _).symm,RW.bs h0 ?_,rfl⟩
 refine Nat.div_lt_of_lt_mul ?_
 rw [← Nat.pow_add]; rwa [show w - k + k = w by omega]
theorem ctk_ok:∀ {l:CL AV} {vs:List Value},RC θ l vs→∀ k,k≤vs.length→RC θ (ctk l k) (vs.take k):=by
 intro l
 induction l with
 | nil=>intro vs h k hk; have:vs = []:=h; subst this; simp at hk; subst hk; rfl
 | cons w v tl ih=>
  rintro vs ⟨v1,v2,rfl,h1,h2⟩ k hk
  show RC θ (bc (Nat.beq k 0) .nil (bc (Nat.ble w k) (.cons w v (ctk tl (k - w))) (spL v k))) _
  have hl:=h1.len
  rw [List.length_append] at hk
  cases c:Nat.beq k 0 with
  | true=>have:=ya c; subst this; rfl
  | false=>
   have k0:=qcl c
   cases c2:Nat.ble w k with
   | true=>
    have hw:=yh c2
    refine ⟨v1,v2.take (k - w),?_,h1,ih h2 _ (by omega)⟩
    rw [List.take_append,hl.1,List.take_of_length_le (by omega)]
   | false=>
    have hw:k < w:=by
     rcases Nat.lt_or_ge k w with h | h
     ·exact h
     ·rw [Nat.ble_eq_true_of_le h] at c2; cases c2
    rw [List.take_append_of_le_length (by omega)]
    exact spL_ok h1 (by omega) hw
theorem spR_ok {w k:Nat} {v:AV} {vs:List Value} {tl:CL AV} {v2:List Value} (h:RW θ w v vs) (h2:RC θ tl v2) (h0:0 < k) (hk:k < w):RC θ (spR v k tl) (vs.drop k ++ v2):=by
 obtain ⟨x,rfl,hx,rfl⟩:=h.big (by omega)
 show RC θ (.cons (w - k) (.bs (w - k) (x % Nat.shiftLeft 1 (p8 (w - k)))) tl) _
 rw [sl8,Nat.one_mul,byV_split (Nat.le_of_lt hk) x,List.drop_left' (qc6 _ _)]
 exact ⟨_,v2,rfl,RW.bs (by omega) (Nat.mod_lt _ (pow256 _)),h2⟩
theorem cdr_ok:∀ {l:CL AV} {vs:List Value},RC θ l vs→∀ k,k≤vs.length→RC θ (cdr l k) (vs.drop k):=by
 intro l
 induction l with
 | nil=>intro vs h k hk; have:vs = []:=h; subst this; simp; rfl
 | cons w v tl ih=>
  rintro vs ⟨v1,v2,rfl,h1,h2⟩ k hk
  show RC θ (bc (Nat.beq k 0) (.cons w v tl) (bc (Nat.ble w k) (cdr tl (k - w)) (spR v k tl))) _
  have hl:=h1.len
  rw [List.length_append] at hk
  cases c:Nat.beq k 0 with
  | true=>have:=ya c; subst this; exact ⟨v1,v2,rfl,h1,h2⟩
  | false=>
   have k0:=qcl c
   cases c2:Nat.ble w k with
   | true=>
    have hw:=yh c2
    rw [List.drop_append,List.drop_of_length_le (by omega),List.nil_append,hl.1]
    exact ih h2 _ (by omega)
   | false=>
    have hw:k < w:=by
     rcases Nat.lt_or_ge k w with h | h
     ·exact h
     ·rw [Nat.ble_eq_true_of_le h] at c2; cases c2
    rw [List.drop_append_of_le_length (by omega)]
    exact spR_ok h1 h2 (by omega) hw
theorem cc_ok {w:Nat} {v:AV} {vs:List Value} {l:CL AV} {v2:List Value} (h:RW θ w v vs) (h2:RC θ l v2):RC θ (cc w v l) (vs ++ v2):=by
 have plain:RC θ (.cons w v l) (vs ++ v2):=⟨vs,v2,rfl,h,h2⟩
 cases v <;> try exact plain
 rename_i n x
 have e:n = w∧0 < w∧x < 256 ^ w∧vs = byV w x:=by
  rcases h with ⟨y,e,a,b,c⟩ | ⟨_,_,V,_,h⟩
  ·injection e with e1 e2; subst e2; exact ⟨e1,a,b,c⟩
  ·exact h.noB.elim
 obtain ⟨rfl,w0,hx,rfl⟩:=e
 cases l with
 | nil=>exact plain
 | cons w2 c2 r=>
  cases c2 <;> try exact plain
  rename_i m z
  obtain ⟨a1,a2,rfl,g1,g2⟩:=h2
  have e:m = w2∧0 < w2∧z < 256 ^ w2∧a1 = byV w2 z:=by
   rcases g1 with ⟨y,e,a,b,c⟩ | ⟨_,_,V,_,h⟩
   ·injection e with e1 e2; subst e2; exact ⟨e1,a,b,c⟩
   ·exact h.noB.elim
  obtain ⟨rfl,_,hz,rfl⟩:=e
  show RC θ (.cons (n + m) (.bs (n + m) (Nat.shiftLeft x (p8 m) + z)) r) _
  rw [sl8,← List.append_assoc]
  have:byV (n + m) (x * 256 ^ m + z) = byV n x ++ byV m z:=by unfold byV; rw [byL_add m z hz,List.map_append]
  rw [← this]
  refine ⟨_,a2,rfl,RW.bs (by omega) ?_,g2⟩
  have h3:(x + 1) * 256 ^ m≤256 ^ n * 256 ^ m:=Nat.mul_le_mul_right _ hx
  rw [Nat.add_mul,Nat.one_mul,← Nat.pow_add] at h3
  omega
theorem qdv:∀ {l:CL AV} {vs:List Value},RC θ l vs→∀ {m:CL AV} {us:List Value},RC θ m us→RC θ (capp l m) (vs ++ us):=by
 intro l
 induction l with
 | nil=>intro vs h m us hm; have:vs = []:=h; subst this; exact hm
 | cons w v tl ih=>
  rintro vs ⟨v1,v2,rfl,h1,h2⟩ m us hm
  rw [List.append_assoc]
  exact cc_ok h1 (ih h2 hm)
theorem bV_RF {b:Nat} (h:b < 256):RF θ (.y b) (bV b):=.inl ⟨h,rfl⟩
theorem one_ok {w o:Nat} {v:AV} {vs:List Value} (h:RW θ w v vs) (ho:o < w):∃ V,vs[o]? = some V∧RF θ (one v o) V:=by
 rcases h with ⟨x,rfl,h0,hx,rfl⟩ | ⟨rfl,hy,V,rfl,h⟩
 ·refine ⟨bV (x / 256 ^ (w - 1 - o) % 256),?_,?_⟩
  ·simp only [byV,List.getElem?_map,byL_get x ho,Option.map_some]
  ·show RF θ (.y (byt w x o)) _
   rw [byt_eq]; exact bV_RF (Nat.mod_lt _ (by decide))
 ·have:o = 0:=by omega
  subst this
  refine ⟨V,rfl,?_⟩
  cases v <;> first | exact h | exact absurd h.noB id
theorem ld1_ok:∀ {l:CL AV} {vs:List Value},RC θ l vs→∀ {o:Nat},ld1 l o ≠ .er→∃ V,vs[o]? = some V∧RF θ (ld1 l o) V:=by
 intro l
 induction l with
 | nil=>intro vs h o hn; exact absurd rfl hn
 | cons w v tl ih=>
  rintro vs ⟨v1,v2,rfl,h1,h2⟩ o hn
  have hl:=h1.len
  have e:ld1 (.cons w v tl) o = bv (Nat.ble (o + 1) w) (one v o) (ld1 tl (o - w)):=rfl
  rw [e] at hn ⊢
  cases c:Nat.ble (o + 1) w with
  | true=>
   have:=yh c
   obtain ⟨V,e,h⟩:=one_ok h1 (o:=o) (by omega)
   exact ⟨V,by rw [List.getElem?_append_left (by omega)]; exact e,h⟩
  | false=>
   have hw:w≤o:=by
    rcases Nat.lt_or_ge o w with h | h
    ·rw [Nat.ble_eq_true_of_le h] at c; cases c
    ·exact h
   rw [c] at hn
   obtain ⟨V,e,h⟩:=ih h2 hn
   exact ⟨V,by rw [List.getElem?_append_right (by omega),hl.1]; exact e,h⟩
section
variable {G:Ans→Prop} (hG:Gd G)
include hG
theorem st2_ok {w o:Nat} {x v:AV} {vs:List Value} {V:Value} {tl:CL AV} {v2:List Value} {k:CL AV→Ans} (h:RW θ w x vs) (h2:RC θ tl v2) (ho:o < w) (hv:RF θ v V) (g:G (st2 x v w o tl k)):
  ∃ l,RC θ l (vs.set o V ++ v2)∧G (k l):=by
 rcases h with ⟨x,rfl,h0,hx,rfl⟩ | ⟨rfl,hy,U,rfl,h⟩
 ·cases v <;> try exact absurd g (hG.er _)
  rename_i z
  have e:z < 256∧V = bV z:=by
   rcases hv with ⟨a,b⟩ | ⟨_,_,_,_,_,e,_⟩
   ·exact ⟨a,b⟩
   ·cases e
  obtain ⟨hz,rfl⟩:=e
  obtain ⟨s1,s2⟩:=sub8_eq hx ho hz
  refine ⟨.cons w (.bs w (sub8 w x o z)) tl,⟨_,v2,rfl,?_,h2⟩,g⟩
  have e2:(byV w x).set o (bV z) = byV w (sub8 w x o z):=by unfold byV; rw [s2,List.map_set]
  rw [e2]; exact RW.bs h0 s1
 ·have:o = 0:=by omega
  subst this
  have key:(∀ n,v ≠ .y n)→RC θ (.cons 1 v tl) ([U].set 0 V ++ v2):=fun hy=>⟨[V],v2,rfl,RW.of hv hy,h2⟩
  cases x <;> first
   | exact h.noB.elim
   | (cases v <;> first
     | exact absurd g (hG.er _)
     | exact ⟨_,key (by intro n e; cases e),g⟩)
theorem st1_ok:∀ {l:CL AV} {vs:List Value},RC θ l vs→∀ {o:Nat} {v:AV} {V:Value} {k:CL AV→Ans},RF θ v V→G (st1 l o v k)→o < vs.length∧∃ l',RC θ l' (vs.set o V)∧G (k l'):=by
 intro l
 induction l with
 | nil=>intro vs h o v V k _ g; exact absurd g (hG.er _)
 | cons w x tl ih=>
  rintro vs ⟨v1,v2,rfl,h1,h2⟩ o v V k hv g
  have hl:=h1.len
  have e:st1 (.cons w x tl) o v k = bz (Nat.ble (o + 1) w) (st2 x v w o tl k) (st1 tl (o - w) v fun tl=>k (.cons w x tl)):=rfl
  rw [e] at g
  rw [List.length_append]
  cases c:Nat.ble (o + 1) w with
  | true=>
   have hw:=yh c
   rw [c] at g
   obtain ⟨l',r,g'⟩:=st2_ok hG h1 h2 (by omega) hv g
   exact ⟨by omega,l',by rw [List.set_append_left _ _ (by omega)]; exact r,g'⟩
  | false=>
   have hw:w≤o:=by
    rcases Nat.lt_or_ge o w with h | h
    ·rw [Nat.ble_eq_true_of_le h] at c; cases c
    ·exact h
   rw [c] at g
   obtain ⟨hlt,l',r,g'⟩:=ih h2 hv g
   refine ⟨by omega,.cons w x l',⟨v1,_,?_,h1,r⟩,g'⟩
   rw [List.set_append_right _ _ (by omega),hl.1]
theorem toC_ok {v:AV} {V:Value} {k:CL AV→Ans} (hv:RV θ v V) (g:G (toC v k)):∃ l vs,RC θ l vs∧V.cells = Array.mk vs∧G (k l):=by
 cases v <;> first
  | exact absurd g (hG.er _)
  | (have h:=hv.atm trivial; exact ⟨.cons 1 _ .nil,[V],⟨[V],[],rfl,RW.of h (by intro n e; cases e),rfl⟩,h.cells,g⟩)
  | (obtain ⟨vs,rfl,r⟩:=hv.agg; exact ⟨_,vs,r,rfl,g⟩)
  | skip
 rename_i n
 have h:=hv.ra (v:=.y n) trivial
 obtain ⟨hn,rfl⟩:=h
 have h256:n < 256:=hn
 exact ⟨.cons 1 (.bs 1 n) .nil,byV 1 n,⟨byV 1 n,[],by simp,RW.bs (by decide) (by simpa using h256),rfl⟩,by simp [byV,byL,bV,Value.cells,Nat.mod_eq_of_lt h256],g⟩
end
end
instance:DecidableEq Rid:=fun a b=>if h:tor a = tor b then isTrue (tor_inj h) else isFalse (fun e=>h (e ▸ rfl))
structure Cx where
 U:Nat→Prop
 h0:H
 K:Rid→Option Row
 ro:Option Nat
 G:Ans→Prop
def shaTab:List Value:=([0x428a2f98,0x71374491,0xb5c0fbcf,0xe9b5dba5,0x3956c25b,0x59f111f1,0x923f82a4,0xab1c5ed5,0xd807aa98,0x12835b01,0x243185be,0x550c7dc3,0x72be5d74,0x80deb1fe,0x9bdc06a7,0xc19bf174,0xe49b69c1,0xefbe4786,0x0fc19dc6,0x240ca1cc,0x2de92c6f,0x4a7484aa,0x5cb0a9dc,0x76f988da,0x983e5152,0xa831c66d,0xb00327c8,0xbf597fc7,0xc6e00bf3,0xd5a79147,0x06ca6351,0x14292967,0x27b70a85,0x2e1b2138,0x4d2c6dfc,0x53380d13,0x650a7354,0x766a0abb,0x81c2c92e,0x92722c85,0xa2bfe8a1,0xa81a664b,0xc24b8b70,0xc76c51a3,0xd192e819,0xd6990624,0xf40e3585,0x106aa070,0x19a4c116,0x1e376c08,0x2748774c,0x34b0bcb5,0x391c0cb3,0x4ed8aa4a,0x5b9cca4f,0x682e6ff3,0x748f82ee,0x78a5636f,0x84c87814,0x8cc70208,0x90befffa,0xa4506ceb,0xbef9a3f7,0xc67178f2]:List Nat).map fun (n:Nat)=>Value.int .u32 (n:Int)
structure CxOk (X:Cx):Prop where
 gd:Gd X.G
 mg:X.ro ≠ none→∀ a b,X.G (eqO a b)→X.G a∧X.G b
 br:∀ a b,X.G (.br a b)→X.G a∧X.G b
 gl:X.U 0∧AtH X.h0 ⟨0,0,none⟩ shaTab
def live:Row→Prop
 | .no=>False
 | _=>True
def KVr (θ:Th) (kk:KK) (e:KV) (m:MapEntry):Prop:=kOk kk e.k = true∧RV1 θ e.k m.key∧RV1 θ e.v m.val∧m.born = e.bn
def KVs (θ:Th) (kk:KK):List KV→List MapEntry→Prop
 | [],ms=>ms = []
 | e :: l,ms=>∃ m r,ms = m :: r∧KVr θ kk e m∧KVs θ kk l r
def RowOk (θ:Th) (x:Nat×Nat×Nat) (row:Row) (h:H):Prop:=
 match row with
 | .no=>True
 | .c L cs=>∃ arr T fr vs,h[x.1]? = some (.cells arr T fr)∧x.2.1 + x.2.2 = arr.size∧L≤x.2.2∧(fr.1 = fr.2∨arr.size≤fr.1)∧RC θ cs vs∧vs.length = L∧(arr.toList.drop x.2.1).take L = vs
 | .m kk clk es=>∃ ms,h[x.1]? = some (.map ms clk)∧KVs θ kk es ms.toList∧(∀ m ∈ ms.toList,m.born < clk)∧(ms.toList.map (·.born)).Nodup
 | .it m clk all todo cur=>∃ mb seen,h[x.1]? = some (.mapIter mb clk seen clk)∧x.2.1 = 0∧(todo.Nodup∧∀ b,b ∈ todo ↔ b ∈ all∧b ∉ seen.toList)∧seen.toList.getLast? = cur ∧
   (match m with | none=>mb = none | some r=>∃ b' o t,θ r = some (b',o,t)∧mb = some b')
structure SR (X:Cx) (θ:Th) (hp:Hp) (h:H):Prop where
 rows:∀ r x,θ r = some x→RowOk θ x (getH hp r) h
 dist:∀ r r' x x',θ r = some x→θ r' = some x'→live (getH hp r)→live (getH hp r')→r ≠ r'→x.1 ≠ x'.1
 fresh:∀ r x,θ r = some x→tor r < tor hp.nx
 own:∀ r x,θ r = some x→live (getH hp r)→¬ X.U x.1
 keepU:∀ b,X.U b→b < h.size∧h[b]? = X.h0[b]?
 kept:∀ r row,X.K r = some row→getH hp r = row∧tor r < tor hp.nx∧(θ r = none∨∃ n,hp.ro = some n∧tor r < n)
 ro:hp.ro = X.ro
 blk:∀ r x,θ r = some x→x.1 < h.size
theorem KVr.mono {θ θ':Th} (he:∀ r x,θ r = some x→θ' r = some x) {kk:KK} {e:KV} {m:MapEntry} (h:KVr θ kk e m):KVr θ' kk e m:=
 ⟨h.1,RV1.mono he h.2.1,RV1.mono he h.2.2.1,h.2.2.2⟩
theorem KVs.mono {θ θ':Th} (he:∀ r x,θ r = some x→θ' r = some x) {kk:KK}:∀ {l:List KV} {ms:List MapEntry},KVs θ kk l ms→KVs θ' kk l ms
 | [],_,h=>h
 | _ :: _,_,⟨m,r,e,h1,h2⟩=>⟨m,r,e,KVr.mono he h1,KVs.mono he h2⟩
theorem KVs.back {θ θ':Th} (he:∀ r x,θ r = some x→θ' r = some x) {kk:KK}:∀ {l:List KV} {ms ms':List MapEntry},KVs θ kk l ms→KVs θ' kk l ms'→KVs θ kk l ms'
 | [],_,_,_,h'=>h'
 | _ :: _,_,_,⟨m,r,e,h1,h2⟩,⟨m',r',e',h1',h2'⟩=>⟨m',r',e',⟨h1'.1,RV1.back he h1.2.1 h1'.2.1,RV1.back he h1.2.2.1 h1'.2.2.1,h1'.2.2.2⟩,KVs.back he h2 h2'⟩
theorem RowOk.mono {θ θ':Th} (he:∀ r x,θ r = some x→θ' r = some x) {x:Nat×Nat×Nat} {row:Row} {h:H} (H:RowOk θ x row h):RowOk θ' x row h:=by
 cases row with
 | no=>trivial
 | c L cs=>
  obtain ⟨arr,T,fr,vs,h1,h2,h3,h4,h5,h6⟩:=H
  exact ⟨arr,T,fr,vs,h1,h2,h3,h4,RC.mono he h5,h6⟩
 | m kk clk es=>
  obtain ⟨ms,h1,h2,h3⟩:=H
  exact ⟨ms,h1,KVs.mono he h2,h3⟩
 | it m clk all todo cur=>
  obtain ⟨mb,seen,h1,h2,h3,h4,h5⟩:=H
  refine ⟨mb,seen,h1,h2,h3,h4,?_⟩
  cases m with
  | none=>exact h5
  | some r=>obtain ⟨b',o,t,e,e2⟩:=h5; exact ⟨b',o,t,he _ _ e,e2⟩
theorem RowOk.back {θ θ':Th} (he:∀ r x,θ r = some x→θ' r = some x) {x:Nat×Nat×Nat} {row:Row} {h h':H} (H:RowOk θ x row h) (H':RowOk θ' x row h'):RowOk θ x row h':=by
 cases row with
 | no=>trivial
 | c L cs=>
  obtain ⟨arr,T,fr,vs,h1,h2,h3,h4,h5,h6⟩:=H'
  obtain ⟨_,_,_,_,_,_,_,_,g5,_⟩:=H
  exact ⟨arr,T,fr,vs,h1,h2,h3,h4,RC.back he g5 h5,h6⟩
 | m kk clk es=>
  obtain ⟨ms,h1,h2,h3⟩:=H'
  obtain ⟨_,_,g2,_⟩:=H
  exact ⟨ms,h1,KVs.back he g2 h2,h3⟩
 | it m clk all todo cur=>
  obtain ⟨mb,seen,h1,h2,h3,h4,h5⟩:=H'
  refine ⟨mb,seen,h1,h2,h3,h4,?_⟩
  cases m with
  | none=>exact h5
  | some r=>
   obtain ⟨_,_,_,_,_,_,g5⟩:=H
   obtain ⟨b1,o1,t1,e1,_⟩:=g5
   obtain ⟨b',o,t,e,e2⟩:=h5
   have:=he _ _ e1
   rw [this] at e
   cases e
   exact ⟨_,_,_,e1,e2⟩
theorem RowOk.at_ {θ:Th} {x:Nat×Nat×Nat} {row:Row} {h h':H} (H:RowOk θ x row h) (e:h'[x.1]? = h[x.1]?):RowOk θ x row h':=by
 cases row with
 | no=>trivial
 | c L cs=>unfold RowOk at *; simpa only [e] using H
 | m kk clk es=>unfold RowOk at *; simpa only [e] using H
 | it m clk all todo cur=>unfold RowOk at *; simpa only [e] using H
theorem qcz (hp:Hp) (r:Rid) (row:Row) (r':Rid):getH ⟨uR hp.rows r row,hp.nx,hp.ro⟩ r' = if r' = r then row else getH hp r':=by
 unfold getH
 by_cases e:r' = r
 ·subst e; simp only [getR_same,if_true]
 ·simp only [getR_ne e,if_neg e]
section
variable {X:Cx} {θ:Th} {hp:Hp} {h:H} (S:SR X θ hp h)
include S
theorem SR.K_none (hX:CxOk X) {r:Rid} {x:Nat×Nat×Nat} (hr:θ r = some x) {row:Row} {k:Hp→Ans} (g:X.G (hset hp r row k)):
  X.K r = none∧X.G (k ⟨uR hp.rows r row,hp.nx,hp.ro⟩):=by
 cases hp with
 | mk R nx ro=>
 cases ro with
 | none=>
  have g':X.G (putR R r row fun R=>k ⟨R,nx,none⟩):=g
  rw [putR_eq] at g'
  refine ⟨?_,g'⟩
  cases hk:X.K r with
  | none=>rfl
  | some row'=>
   rcases (S.kept r row' hk).2.2 with e | ⟨n,e,_⟩
   ·rw [hr] at e; cases e
   ·cases e
 | some n=>
  have g':X.G (bz (Nat.ble n (tor r)) (putR R r row fun R=>k ⟨R,nx,some n⟩) (.er 1)):=g
  obtain ⟨c,g''⟩:=qak hX.gd g'
  rw [putR_eq] at g''
  refine ⟨?_,g''⟩
  cases hk:X.K r with
  | none=>rfl
  | some row'=>
   rcases (S.kept r row' hk).2.2 with e | ⟨m,e,hm⟩
   ·rw [hr] at e; cases e
   ·injection e with e; subst e
    have:=yh c
    omega
theorem SR.upd {r:Rid} {x:Nat×Nat×Nat} (hr:θ r = some x) (hl:live (getH hp r)) {row:Row} (hK:X.K r = none) {h':H} (hs:h'.size = h.size)
  (hb:∀ b,b ≠ x.1→h'[b]? = h[b]?) (hrow:RowOk θ x row h'):SR X θ ⟨uR hp.rows r row,hp.nx,hp.ro⟩ h':=by
 have hlive:∀ r',live (if r' = r then row else getH hp r')→live (getH hp r'):=fun r'=>by
  by_cases e:r' = r
  ·subst e; intro _; exact hl
  ·simp only [if_neg e]; exact id
 refine ⟨fun r' x' h1=>?_,fun r1 r2 x1 x2 h1 h2 l1 l2 hn=>?_,S.fresh,fun r' x' h1 l1=>?_,fun b hU=>?_,fun r' row' h1=>?_,S.ro,fun r' x' h1=>by rw [hs]; exact S.blk r' x' h1⟩
 ·rw [qcz]
  by_cases e:r' = r
  ·subst e; rw [hr] at h1; cases h1; simp only [if_true]; exact hrow
  ·simp only [if_neg e]
   by_cases l:live (getH hp r')
   ·exact (S.rows r' x' h1).at_ (hb _ (S.dist r' r x' x h1 hr l hl e))
   ·cases hg:getH hp r' with
    | no=>trivial
    | c=>rw [hg] at l; exact absurd trivial l
    | m=>rw [hg] at l; exact absurd trivial l
    | it=>rw [hg] at l; exact absurd trivial l
 ·rw [qcz] at l1 l2
  exact S.dist r1 r2 x1 x2 h1 h2 (hlive _ l1) (hlive _ l2) hn
 ·rw [qcz] at l1
  exact S.own r' x' h1 (hlive _ l1)
 ·obtain ⟨h1,h2⟩:=S.keepU b hU
  refine ⟨by rw [hs]; exact h1,?_⟩
  rw [hb b (fun e=>S.own r x hr hl (e ▸ hU))]; exact h2
 ·obtain ⟨h2,h3⟩:=S.kept r' row' h1
  refine ⟨?_,h3⟩
  rw [qcz]
  by_cases e:r' = r
  ·subst e; rw [hK] at h1; cases h1
  ·simp only [if_neg e]; exact h2
theorem SR.heap {r:Rid} {x:Nat×Nat×Nat} (hr:θ r = some x) (hl:live (getH hp r)) {h':H} (hs:h'.size = h.size)
  (hb:∀ b,b ≠ x.1→h'[b]? = h[b]?) (hrow:RowOk θ x (getH hp r) h'):SR X θ hp h':=by
 refine ⟨fun r' x' h1=>?_,S.dist,S.fresh,S.own,fun b hU=>?_,S.kept,S.ro,fun r' x' h1=>by rw [hs]; exact S.blk r' x' h1⟩
 ·by_cases e:r' = r
  ·subst e; rw [hr] at h1; cases h1; exact hrow
  ·by_cases l:live (getH hp r')
   ·exact (S.rows r' x' h1).at_ (hb _ (S.dist r' r x' x h1 hr l hl e))
   ·cases hg:getH hp r' with
    | no=>trivial
    | c=>rw [hg] at l; exact absurd trivial l
    | m=>rw [hg] at l; exact absurd trivial l
    | it=>rw [hg] at l; exact absurd trivial l
 ·obtain ⟨h1,h2⟩:=S.keepU b hU
  refine ⟨by rw [hs]; exact h1,?_⟩
  rw [hb b (fun e=>S.own r x hr hl (e ▸ hU))]; exact h2
theorem SR.drop {r:Rid} {x:Nat×Nat×Nat} (hr:θ r = some x) (hK:X.K r = none):SR X θ ⟨uR hp.rows r .no,hp.nx,hp.ro⟩ h:=by
 have hlive:∀ r',live (if r' = r then .no else getH hp r')→live (getH hp r'):=fun r'=>by
  by_cases e:r' = r
  ·simp only [if_pos e]; intro h; exact absurd h id
  ·simp only [if_neg e]; exact id
 refine ⟨fun r' x' h1=>?_,fun r1 r2 x1 x2 h1 h2 l1 l2 hn=>?_,S.fresh,fun r' x' h1 l1=>?_,S.keepU,fun r' row' h1=>?_,S.ro,S.blk⟩
 ·rw [qcz]
  by_cases e:r' = r
  ·simp only [if_pos e]; trivial
  ·simp only [if_neg e]; exact S.rows r' x' h1
 ·rw [qcz] at l1 l2
  exact S.dist r1 r2 x1 x2 h1 h2 (hlive _ l1) (hlive _ l2) hn
 ·rw [qcz] at l1
  exact S.own r' x' h1 (hlive _ l1)
 ·obtain ⟨h2,h3⟩:=S.kept r' row' h1
  refine ⟨?_,h3⟩
  rw [qcz]
  by_cases e:r' = r
  ·subst e; rw [hK] at h1; cases h1
  ·simp only [if_neg e]; exact h2
theorem SR.nx_none:θ hp.nx = none:=by
 cases e:θ hp.nx with
 | none=>rfl
 | some x=>have:=S.fresh _ _ e; omega
theorem SR.nx_K:X.K hp.nx = none:=by
 cases e:X.K hp.nx with
 | none=>rfl
 | some x=>have:=(S.kept _ _ e).2.1; omega
end
def thUp (θ:Th) (r:Rid) (x:Nat×Nat×Nat):Th:=fun r'=>if r' = r then some x else θ r'
theorem qb1 (θ:Th) (r:Rid) (x:Nat×Nat×Nat):thUp θ r x r = some x:=by simp [thUp]
theorem thUp_ne {θ:Th} {r r':Rid} (h:r' ≠ r) (x:Nat×Nat×Nat):thUp θ r x r' = θ r':=by simp [thUp,h]
theorem qe0 {θ:Th} {r:Rid} (hn:θ r = none) (x:Nat×Nat×Nat):∀ r' y,θ r' = some y→thUp θ r x r' = some y:=fun r' y h=>by
 by_cases e:r' = r
 ·subst e; rw [hn] at h; cases h
 ·rw [thUp_ne e]; exact h
section
variable {X:Cx} {θ:Th} {hp:Hp} {h:H} (S:SR X θ hp h)
include S
theorem SR.ext_new (x:Nat×Nat×Nat):Ext θ (thUp θ hp.nx x) (tor hp.nx):=
 ⟨qe0 S.nx_none x,fun r hr e=>by rw [thUp_ne]; exact e; intro e; subst e; omega⟩
theorem SR.add {x:Nat×Nat×Nat} {row:Row} {nx':Rid} (hnx:tor nx' = tor hp.nx + 1) {h':H} (hs:h.size≤h'.size) (hx:x.1 < h'.size)
  (hb:∀ b,b < h.size→b ≠ x.1→h'[b]? = h[b]?) (hd:∀ r y,θ r = some y→live (getH hp r)→y.1 ≠ x.1) (hU:¬ X.U x.1)
  (hrow:RowOk (thUp θ hp.nx x) x row h'):SR X (thUp θ hp.nx x) ⟨uR hp.rows hp.nx row,nx',hp.ro⟩ h':=by
 have old:∀ {r y},r ≠ hp.nx→thUp θ hp.nx x r = some y→θ r = some y:=fun hn h=>by rwa [thUp_ne hn] at h
 have gs:∀ r',getH ⟨uR hp.rows hp.nx row,nx',hp.ro⟩ r' = if r' = hp.nx then row else getH hp r':=fun r'=>qcz hp hp.nx row r'
 refine ⟨fun r' x' h1=>?_,fun r1 r2 x1 x2 h1 h2 l1 l2 hn=>?_,fun r' x' h1=>?_,fun r' x' h1 l1=>?_,fun b hb'=>?_,fun r' row' h1=>?_,S.ro,fun r' x' h1=>?_⟩
 ·rw [gs]
  by_cases e:r' = hp.nx
  ·subst e; rw [qb1] at h1; cases h1; simp only [if_true]; exact hrow
  ·simp only [if_neg e]
   have h2:=old e h1
   by_cases l:live (getH hp r')
   ·exact ((S.rows r' x' h2).at_ (hb _ (S.blk _ _ h2) (hd _ _ h2 l))).mono (qe0 S.nx_none x)
   ·cases hg:getH hp r' with
    | no=>trivial
    | c=>rw [hg] at l; exact absurd trivial l
    | m=>rw [hg] at l; exact absurd trivial l
    | it=>rw [hg] at l; exact absurd trivial l
 ·rw [gs] at l1 l2
  by_cases e1:r1 = hp.nx
  ·subst e1
   rw [qb1] at h1; cases h1
   have e2:r2 ≠ hp.nx:=fun e=>hn e.symm
   simp only [if_neg e2] at l2
   exact fun e=>hd _ _ (old e2 h2) l2 e.symm
  ·simp only [if_neg e1] at l1
   by_cases e2:r2 = hp.nx
   ·subst e2
    rw [qb1] at h2; cases h2
    exact hd _ _ (old e1 h1) l1
   ·simp only [if_neg e2] at l2
    exact S.dist _ _ _ _ (old e1 h1) (old e2 h2) l1 l2 hn
 ·show tor r' < tor nx'
  by_cases e:r' = hp.nx
  ·subst e; omega
  ·have:=S.fresh _ _ (old e h1); omega
 ·rw [gs] at l1
  by_cases e:r' = hp.nx
  ·subst e; rw [qb1] at h1; cases h1; exact hU
  ·simp only [if_neg e] at l1
   exact S.own _ _ (old e h1) l1
 ·obtain ⟨h1,h2⟩:=S.keepU b hb'
  refine ⟨by omega,?_⟩
  rw [hb b h1 (fun e=>hU (e ▸ hb'))]; exact h2
 ·obtain ⟨h2,h3,h4⟩:=S.kept r' row' h1
  have e:r' ≠ hp.nx:=fun e=>by subst e; omega
  refine ⟨?_,by show tor r' < tor nx'; omega,?_⟩
  ·rw [gs,if_neg e]; exact h2
  ·rw [thUp_ne e]; exact h4
 ·by_cases e:r' = hp.nx
  ·subst e; rw [qb1] at h1; cases h1; exact hx
  ·have:=S.blk _ _ (old e h1); omega
theorem SR.no_size:(∀ r y,θ r = some y→live (getH hp r)→y.1 ≠ h.size)∧¬ X.U h.size:=by
 refine ⟨fun r y h1 _ e=>?_,fun hU=>?_⟩
 ·have:=S.blk _ _ h1; omega
 ·have:=(S.keepU _ hU).1; omega
theorem hnew_ok (hX:CxOk X) {row:Row} {k:Rid→Hp→Ans} (g:X.G (hnew hp row k)):∃ nx',tor nx' = tor hp.nx + 1∧X.G (k hp.nx ⟨uR hp.rows hp.nx row,nx',hp.ro⟩):=by
 cases hp with
 | mk R nx ro=>
 have g':X.G (putR R nx row fun R=>sucR nx fun nx'=>k nx ⟨R,nx',ro⟩):=g
 rw [putR_eq] at g'
 exact sucR_ok hX.gd g'
theorem SR.newC {T:TypeId} {L:Nat} {cs:CL AV} {vs us:List Value} (hc:RC θ cs vs) (hL:vs.length = L) {nx':Rid} (hnx:tor nx' = tor hp.nx + 1):
  SR X (thUp θ hp.nx (h.size,0,L + us.length)) ⟨uR hp.rows hp.nx (.c L cs),nx',hp.ro⟩ (newC h T (vs ++ us)):=by
 have hsz:(Go.Sh.newC h T (vs ++ us)).size = h.size + 1:=by simp [Go.Sh.newC]
 refine S.add hnx (by rw [hsz]; omega) (by rw [hsz]; show h.size < _; omega) (fun b hb hn=>?_) S.no_size.1 S.no_size.2 ?_
 ·simp only [Go.Sh.newC]; rw [Array.getElem?_push]; rw [if_neg (by omega)]
 ·refine ⟨(vs ++ us).toArray,T,(0,0),vs,?_,?_,?_,?_,RC.mono (qe0 S.nx_none _) hc,hL,?_⟩
  ·show (Go.Sh.newC h T (vs ++ us))[h.size]? = _
   simp [Go.Sh.newC]
  ·simp [hL]
  ·show L≤L + us.length; omega
  ·exact .inl rfl
  ·simp [← hL]
end
structure TbOk (P : Program) (T : Tb) : Prop where
  info : ∀ t i, T.info t = some i → P.info? t = some i
  func : ∀ f fn, T.func f = some fn → P.funcs[f]? = some fn
  name : ∀ f fn, T.func f = some fn → (fn.name == "runtime.NumGoroutine") = false
  stood : ∀ K s, kkT T K = some (.key s) → P.stoodInHeld K = false ∧ P.eqGuardType P.depth K = false
  guard : ∀ t, kk1 T t = 2 → P.eqGuardType P.depth t = false
section
variable {P:Program} {T:Tb} (hT:TbOk P T)
include hT
theorem TbOk.und {t:Nat} {d:TypeDesc} (h:T.und t = some d):P.underlying t = some d∧∃ i,T.info t = some i:=by
 unfold Tb.und at h
 cases e:T.info t with
 | none=>rw [e] at h; cases h
 | some i=>
  rw [e] at h
  have hp:=hT.info _ _ e
  refine ⟨?_,i,rfl⟩
  simp only [Program.underlying,hp]
  cases i with
  | mk desc=>
  cases desc with
  | named s u=>
   simp only at h
   cases e2:T.info u with
   | none=>rw [e2] at h; cases h
   | some j=>
    rw [e2] at h
    show (P.info? u).map (·.desc) = some d
    rw [hT.info _ _ e2]; exact h
  | _=>simpa using h
theorem TbOk.size {t n:Nat} (h:szT T t = n) (h0:0 < n):SizeOf P t n:=by
 unfold szT at h
 cases e:T.info t with
 | none=>rw [e] at h; simp only at h; omega
 | some i=>rw [e] at h; exact ⟨i,hT.info _ _ e,h⟩
theorem TbOk.size' {t:Nat} {i:TypeInfo} (h:T.info t = some i):SizeOf P t (szT T t):=by
 unfold szT; rw [h]; exact ⟨i,hT.info _ _ h,rfl⟩
theorem TbOk.agg {t:Nat} (h:aggT T t = true):IsAgg P t (szT T t):=by
 unfold aggT at h
 cases e:T.und t with
 | none=>rw [e] at h; cases h
 | some d=>
  obtain ⟨h1,i,h2⟩:=hT.und e
  rw [e] at h
  refine ⟨⟨d,h1,?_⟩,hT.size' h2⟩
  cases d <;> first | (simp at h; done) | exact .inl ⟨_,rfl⟩ | exact .inr ⟨_,_,rfl⟩
theorem TbOk.scl {t:Nat} (h:sclT T t = true):NotAgg P t:=by
 unfold sclT at h
 cases e:T.und t with
 | none=>rw [e] at h; cases h
 | some d=>
  obtain ⟨h1,i,h2⟩:=hT.und e
  rw [e] at h
  refine ⟨d,h1,?_⟩
  cases d <;> first | trivial | (simp at h; done)
end
theorem wrapi_of {n:Int} (h:IntKind.i64.wrap n = n):(n % 18446744073709551616).toNat < 2 ^ 64∧n = IntKind.i64.wrap ((n % 18446744073709551616).toNat:Int):=by
 have e:=IntKind.wrap_i64 n
 have e2:=IntKind.wrap_i64 ((n % 18446744073709551616).toNat:Int)
 omega
theorem ofInt_ok {θ:Th} {k:IntKind} {n:Int} (h:ofInt k n ≠ .er):RA θ (ofInt k n) (.int k n):=by
 unfold ofInt at h ⊢
 by_cases c:k.wrap n = n
 ·simp only [c,decide_true,cond_true] at h ⊢
  have es:=IntKind.wrap_u64 n
  have e3:=IntKind.wrap_u32 n
  have e4:=IntKind.wrap_u8 n
  cases k <;> first | exact absurd rfl h | skip
  ·exact ⟨(wrapi_of c).1,congrArg (Value.int .i64) (wrapi_of c).2⟩
  ·show _ < 2 ^ 8∧_
   have hm:md .u8 = 256:=rfl
   refine ⟨by rw [hm]; show (n % 256).toNat < 256; omega,?_⟩
   rw [hm]; congr 1; show n = (((n % 256).toNat:Nat):Int); omega
  ·show _ < 2 ^ 32∧_
   have hm:md .u32 = 4294967296:=rfl
   refine ⟨by rw [hm]; show (n % 4294967296).toNat < 4294967296; omega,?_⟩
   rw [hm]; congr 1; show n = (((n % 4294967296).toNat:Nat):Int); omega
  ·show _ < 2 ^ 64∧_
   have hm:md .u64 = 18446744073709551616:=rfl
   refine ⟨by rw [hm]; show (n % 18446744073709551616).toNat < 18446744073709551616; omega,?_⟩
   rw [hm]; congr 1; show n = (((n % 18446744073709551616).toNat:Nat):Int); omega
 ·simp only [c,decide_false,cond_false] at h
  exact absurd rfl h
theorem ofBytes_rec:∀ (l:List UInt8) (x:Nat),List.rec (motive:=fun _=>Nat→Nat) (fun x=>x) (fun b _ ih x=>ih (Nat.add (Nat.mul x 256) b.toNat)) l x = x * 256 ^ l.length + ofBytes l:=by
 intro l
 induction l with
 | nil=>intro x; show x = x * 256 ^ 0 + 0; omega
 | cons b l ih=>
  intro x
  show List.rec (motive:=fun _=>Nat→Nat) (fun x=>x) (fun b _ ih x=>ih (Nat.add (Nat.mul x 256) b.toNat)) l (x * 256 + b.toNat) = x * 256 ^ (l.length + 1) + List.rec (motive:=fun _=>Nat→Nat) (fun x=>x) (fun b _ ih x=>ih (Nat.add (Nat.mul x 256) b.toNat)) l (0 * 256 + b.toNat)
  rw [ih,ih,Nat.pow_succ,Nat.add_mul,Nat.mul_assoc,Nat.mul_comm 256,Nat.zero_mul,Nat.zero_add,Nat.add_assoc]
theorem ofBytes_cons (b:UInt8) (l:List UInt8):ofBytes (b :: l) = b.toNat * 256 ^ l.length + ofBytes l:=by
 show List.rec (motive:=fun _=>Nat→Nat) (fun x=>x) (fun b _ ih x=>ih (Nat.add (Nat.mul x 256) b.toNat)) l (0 * 256 + b.toNat) = _
 rw [ofBytes_rec,Nat.zero_mul,Nat.zero_add]
theorem ofBytes_ok:∀ l:List UInt8,ofBytes l < 256 ^ l.length∧byL l.length (ofBytes l) = l.map UInt8.toNat
 | []=>⟨by decide,rfl⟩
 | b :: l=>by
  obtain ⟨h1,h2⟩:=ofBytes_ok l
  have hb:b.toNat < 256:=b.toNat_lt
  rw [ofBytes_cons]
  constructor
  ·have:(b.toNat + 1) * 256 ^ l.length≤256 * 256 ^ l.length:=Nat.mul_le_mul_right _ hb
   rw [Nat.add_mul,Nat.one_mul] at this
   rw [List.length_cons,Nat.pow_succ,Nat.mul_comm (256 ^ l.length)]
   omega
  ·have:=byL_add l.length (ofBytes l) h1 1 b.toNat
   rw [Nat.add_comm 1] at this
   rw [List.length_cons,this,h2]
   simp [byL,Nat.mod_eq_of_lt hb]
theorem byS_ofBytes (s:ByteArray):byS s.data.toList.length (ofBytes s.data.toList) = s:=by
 unfold byS
 rw [(ofBytes_ok _).2,List.map_map]
 have:(UInt8.ofNat ∘ UInt8.toNat) = id:=by funext b; simp
 rw [this,List.map_id]
theorem ofAtom_ok {θ:Th} {v:Value} (h:ofAtom v ≠ .er):RA θ (ofAtom v) v:=by
 unfold ofAtom at h ⊢
 split at h <;> first
  | exact absurd rfl h
  | rfl
  | exact ofInt_ok h
  | exact ⟨(ofBytes_ok _).1,by rw [byS_ofBytes]⟩
theorem nEr_ok {v:AV} (h:nEr v = true):v ≠ .er:=by intro e; subst e; cases h
theorem okC_cons {w:Nat} {v:AV} {l:CL AV} (h:okC (.cons w v l) = true):v ≠ .er∧okC l = true:=by
 have h':an (nEr v) (okC l) = true:=h
 obtain ⟨h1,h2⟩:=qaf h'
 exact ⟨nEr_ok h1,h2⟩
theorem okC_cc {n:Nat} {l:CL AV} (h:okC (cc 1 (.bs 1 n) l) = true):okC l = true:=by
 cases l with
 | nil=>rfl
 | cons w v r=>
  cases v <;> first
   | exact (okC_cons h).2
   | (have:=(okC_cons h).2; exact this)
theorem ofAtom_y {v:Value} {n:Nat} (e:ofAtom v = .y n):∃ m:Nat,v = .int .u8 (Int.ofNat m):=by
 cases v with
 | int k m=>
  have e:ofInt k m = .y n:=e
  unfold ofInt at e
  by_cases c:k.wrap m = m
  ·simp only [c,decide_true,cond_true] at e
   cases k <;> first | cases e | skip
   have e4:=IntKind.wrap_u8 m
   obtain ⟨j,rfl⟩:=Int.eq_ofNat_of_zero_le (show 0≤m by omega)
   exact ⟨j,rfl⟩
  ·simp only [c,decide_false,cond_false] at e; cases e
 | _=>unfold ofAtom at e; split at e <;> first | cases e | (rename_i h; cases h)
theorem ofCells_ok {θ:Th}:∀ l:List Value,okC (ofCells l) = true→RC θ (ofCells l) l
 | [],_=>rfl
 | v :: l,h=>by
  have e:ofCells (v :: l) = ofCell v (ofCells l):=rfl
  rw [e] at h ⊢
  have gen:okC (.cons 1 (ofAtom v) (ofCells l)) = true→(∀ n,ofAtom v ≠ .y n)→RC θ (.cons 1 (ofAtom v) (ofCells l)) (v :: l):=fun h hy=>by
   obtain ⟨h1,h2⟩:=okC_cons h
   exact ⟨[v],l,rfl,RW.of (.inl (ofAtom_ok h1)) hy,ofCells_ok l h2⟩
  unfold ofCell at h ⊢
  split at h
  ·rename_i n
   cases c:Nat.ble n 255 with
   | true=>
    rw [c] at h
    simp only [cond_true] at h ⊢
    have hn:n < 256:=by have:=yh c; omega
    have:=cc_ok (θ:=θ) (w:=1) (v:=.bs 1 n) (vs:=byV 1 n) (RW.bs (by decide) (by simpa using hn)) (ofCells_ok (θ:=θ) l (okC_cc h))
    have e:byV 1 n ++ l = Value.int .u8 (Int.ofNat n) :: l:=by simp [byV,byL,bV,Nat.mod_eq_of_lt hn]
    rw [e] at this
    simpa only [c,cond_true] using this
   | false=>
    rw [c] at h
    exact absurd rfl (okC_cons h).1
  ·rename_i hne
   refine gen h (fun n e=>?_)
   obtain ⟨m,rfl⟩:=ofAtom_y e
   exact hne m rfl
theorem ofV_ok {θ:Th} {v:Value} (h:ofV v ≠ .er):RV θ (ofV v) v:=by
 unfold ofV at h ⊢
 split at h
 ·rename_i cs
  obtain ⟨c,_⟩:=qa8 h
  rw [c]
  exact .inl (.inr (.inl ⟨_,cs.toList,rfl,by cases cs; rfl,ofCells_ok _ c⟩))
 ·exact .inl (.inl (.inl (ofAtom_ok h)))
theorem zero_okC {P:Program} {T:Tb} (hT:TbOk P T) {θ:Th} {t:Nat} (h:okC (zeroC T t) = true):∃ vs,ZeroOf P t vs∧RC θ (zeroC T t) vs:=by
 unfold zeroC at h
 unfold zeroC
 cases e:T.info t with
 | none=>rw [e] at h; exact absurd rfl (okC_cons h).1
 | some i=>
  rw [e] at h
  simp only at h ⊢
  cases e2:i.zero with
  | none=>rw [e2] at h; exact absurd rfl (okC_cons h).1
  | some z=>
   rw [e2] at h
   simp only at h ⊢
   exact ⟨z.cells.toList,⟨i,z,hT.info _ _ e,e2,by simp⟩,ofCells_ok _ h⟩
theorem zero_ok {P:Program} {T:Tb} (hT:TbOk P T) {θ:Th} {t:Nat} (h:zOk T t = true):∃ vs,ZeroOf P t vs∧RC θ (zeroC T t) vs:=
 zero_okC hT (qaf h).1
theorem zero_len {θ:Th} {T:Tb} {t:Nat} (h:zOk T t = true) {vs:List Value} (hc:RC θ (zeroC T t) vs):vs.length = szT T t:=by
 rw [← RC.len hc]; exact ya (qaf h).2
theorem zeroA_ok {P:Program} {T:Tb} (hT:TbOk P T) {θ:Th} {t:Nat} (h:zeroA T t ≠ .er):∃ v,ZeroV P t v∧RV θ (zeroA T t) v:=by
 unfold zeroA at h ⊢
 cases e:T.info t with
 | none=>rw [e] at h; exact absurd rfl h
 | some i=>
  rw [e] at h
  simp only at h ⊢
  cases e2:i.zero with
  | none=>rw [e2] at h; exact absurd rfl h
  | some z=>
   rw [e2] at h
   exact ⟨z,⟨i,hT.info _ _ e,e2⟩,ofV_ok h⟩
def RE (θ:Th) (e:E) (ρ:Env):Prop:=∀ t,t < 256→eGet e t ≠ .er→RV θ (eGet e t) (ρ t)
theorem RE.mono {θ θ':Th} (he:∀ r x,θ r = some x→θ' r = some x) {e:E} {ρ:Env} (h:RE θ e ρ):RE θ' e ρ:=fun t ht hn=>RV.mono he (h t ht hn)
theorem eGet_env0 (t:Nat):eGet env0 t = .u:=by
 show gN' (lo t) (gN' (hi t) env0) = .u
 have:∀ d d':D16,gN' d (gN' d' env0) = .u:=by intro d d'; cases d <;> cases d' <;> rfl
 exact this _ _
theorem RV.undef {θ:Th}:RV θ .u undef:=.inl (.inr (.inr ⟨rfl,rfl⟩))
theorem RE.set {θ:Th} {e:E} {ρ:Env} (h:RE θ e ρ) {d:Nat} (hd:d < 256) {v:AV} {V:Value} (hv:RV θ v V):RE θ (eSet e d v) (up ρ d V):=fun t ht hn=>by
 unfold up
 by_cases c:t = d
 ·subst c
  rw [eGet_same]
  simp only [Nat.beq_refl,cond_true]; exact hv
 ·rw [eGet_ne hd ht c] at hn ⊢
  have:Nat.beq t d = false:=by rw [Bool.eq_false_iff]; exact fun h=>c (Nat.eq_of_beq_eq_true h)
  rw [this]; exact h t ht hn
theorem gT_ok {θ:Th} {e:E} {ρ:Env} (h:RE θ e ρ) {t:Nat} (hn:(gT t).f e ≠ .er):RV θ ((gT t).f e) (ρ t):=by
 unfold gT at hn ⊢
 cases c:Nat.ble t 255 with
 | true=>simp only [c,cond_true] at hn ⊢; exact h t (by have:=yh c; omega) hn
 | false=>rw [c] at hn; exact absurd rfl hn
theorem qa1 {θ:Th} {e:E} {ρ:Env} (h:RE θ e ρ) {x:Operand} (hn:(gO x).f e ≠ .er):RV θ ((gO x).f e) (ev ρ x):=by
 cases x with
 | tmp t=>exact gT_ok h hn
 | const v=>exact ofV_ok hn
 | global g=>exact absurd rfl hn
 | func f=>exact .inl (.inl (.inr ⟨f,[],[],[],[],rfl,rfl,rfl,rfl⟩))
structure Kd (k:IntKind) (M:Nat) (C:Nat→AV):Prop where
 ra:∀ (θ:Th) (n:Nat) (V:Value),RA θ (C n) V ↔ (n < M∧V = .int k (k.wrap n))
 pow:M = 2 ^ k.bits
 ww:∀ x:Int,k.wrap x % M = x % M
 wc:∀ x y:Int,x % M = y % M→k.wrap x = k.wrap y
theorem kd_i:Kd .i64 18446744073709551616 .i:=⟨fun _ _ _=>Iff.rfl,rfl,fun x=>by have:=IntKind.wrap_i64 x; omega,fun x y h=>by have:=IntKind.wrap_i64 x; have:=IntKind.wrap_i64 y; omega⟩
theorem kd_w:Kd .u64 18446744073709551616 .w:=⟨fun θ n V=>by
  have e:=IntKind.wrap_u64 (n:Int)
  constructor
  ·rintro ⟨h,rfl⟩; have h':n < 18446744073709551616:=h; exact ⟨h,by rw [e]; congr 1; omega⟩
  ·rintro ⟨h,rfl⟩; have h':n < 18446744073709551616:=h; exact ⟨h,by rw [e]; congr 1; omega⟩,rfl,fun x=>by have:=IntKind.wrap_u64 x; omega,fun x y h=>by have:=IntKind.wrap_u64 x; have:=IntKind.wrap_u64 y; omega⟩
theorem kd_y:Kd .u8 256 .y:=⟨fun θ n V=>by
  have e:=IntKind.wrap_u8 (n:Int)
  constructor
  ·rintro ⟨h,rfl⟩; have h':n < 256:=h; exact ⟨h,by rw [e]; congr 1; omega⟩
  ·rintro ⟨h,rfl⟩; have h':n < 256:=h; exact ⟨h,by rw [e]; congr 1; omega⟩,rfl,fun x=>by have:=IntKind.wrap_u8 x; omega,fun x y h=>by have:=IntKind.wrap_u8 x; have:=IntKind.wrap_u8 y; omega⟩
theorem kd_h:Kd .u32 4294967296 .h:=⟨fun θ n V=>by
  have e:=IntKind.wrap_u32 (n:Int)
  constructor
  ·rintro ⟨h,rfl⟩; have h':n < 4294967296:=h; exact ⟨h,by rw [e]; congr 1; omega⟩
  ·rintro ⟨h,rfl⟩; have h':n < 4294967296:=h; exact ⟨h,by rw [e]; congr 1; omega⟩,rfl,fun x=>by have:=IntKind.wrap_u32 x; omega,fun x y h=>by have:=IntKind.wrap_u32 x; have:=IntKind.wrap_u32 y; omega⟩
structure Ku (k:IntKind) (M:Nat):Prop where
 id:∀ n:Nat,n < M→k.wrap n = n
theorem ku_w:Ku .u64 18446744073709551616:=⟨fun n h=>by have e:=IntKind.wrap_u64 (n:Int); omega⟩
theorem ku_y:Ku .u8 256:=⟨fun n h=>by have e:=IntKind.wrap_u8 (n:Int); omega⟩
theorem ku_h:Ku .u32 4294967296:=⟨fun n h=>by have e:=IntKind.wrap_u32 (n:Int); omega⟩
theorem qa4 {n:Nat} (h:n≤9223372036854775807):IntKind.i64.wrap (n:Int) = n:=by have e:=IntKind.wrap_i64 (n:Int); omega
def IntRun (op:BinOp) (k:IntKind) (a b:Int) (V:Value):Prop:=∀ (T:TypeId) (P:Program) (w:World),(binOp op T (.int k a) (.int k b)).run P w = .ok V w
section
variable {C:Ctx} {ρ:Env} {h:H} {ty:TypeId} {θ:Th}
theorem IntRun.val {op:BinOp} {k:IntKind} {a b:Int} {V:Value} (H:IntRun op k a b V) {x y:Operand} {T T':TypeId} (hx:ev ρ x = .int k a) (hy:ev ρ y = .int k b):OpVal C (.binOp op T x y T') ty ρ h V:=by
 intro w hw pos after g d
 have:=H T C.P w
 cases op <;> simp [execOp,hx,hy,eqGuard,this]
theorem l2_ok {op:BinOp} {F:Nat→(Nat→AV)→Nat→Nat→AV} {a b:AV} {x y:Operand} {T T':TypeId} (hx:RV θ a (ev ρ x)) (hy:RV θ b (ev ρ y)) (hn:l2 F a b ≠ .er)
  (H:∀ k M Cn,Kd k M Cn→∀ n m,n < M→m < M→F M Cn n m ≠ .er→∃ V,IntRun op k (k.wrap n) (k.wrap m) V∧RV θ (F M Cn n m) V):
  ∃ V,OpVal C (.binOp op T x y T') ty ρ h V∧RV θ (l2 F a b) V:=by
 have go:∀ k M Cn,Kd k M Cn→∀ n m,RA θ (Cn n) (ev ρ x)→RA θ (Cn m) (ev ρ y)→F M Cn n m ≠ .er→∃ V,OpVal C (.binOp op T x y T') ty ρ h V∧RV θ (F M Cn n m) V:=by
  intro k M Cn K n m h1 h2 h3
  obtain ⟨n1,e1⟩:=(K.ra _ _ _).1 h1
  obtain ⟨n2,e2⟩:=(K.ra _ _ _).1 h2
  obtain ⟨V,hr,hv⟩:=H k M Cn K n m n1 n2 h3
  exact ⟨V,hr.val e1 e2,hv⟩
 cases a <;> first | exact absurd rfl hn | skip
 ·cases b <;> first | exact absurd rfl hn | exact go _ _ _ kd_i _ _ (hx.ra trivial) (hy.ra trivial) hn
 ·cases b <;> first | exact absurd rfl hn | exact go _ _ _ kd_w _ _ (hx.ra trivial) (hy.ra trivial) hn
 ·cases b <;> first | exact absurd rfl hn | exact go _ _ _ kd_y _ _ (hx.ra trivial) (hy.ra trivial) hn
 ·cases b <;> first | exact absurd rfl hn | exact go _ _ _ kd_h _ _ (hx.ra trivial) (hy.ra trivial) hn
theorem l2s_ok {op:BinOp} {S F:Nat→(Nat→AV)→Nat→Nat→AV} {a b:AV} {x y:Operand} {T T':TypeId} (hx:RV θ a (ev ρ x)) (hy:RV θ b (ev ρ y)) (hn:l2s S F a b ≠ .er)
  (H1:∀ n m,n < 18446744073709551616→m < 18446744073709551616→S 18446744073709551616 .i n m ≠ .er→∃ V,IntRun op .i64 (IntKind.i64.wrap n) (IntKind.i64.wrap m) V∧RV θ (S 18446744073709551616 .i n m) V)
  (H:∀ k M Cn,Kd k M Cn→Ku k M→∀ n m,n < M→m < M→F M Cn n m ≠ .er→∃ V,IntRun op k n m V∧RV θ (F M Cn n m) V):
  ∃ V,OpVal C (.binOp op T x y T') ty ρ h V∧RV θ (l2s S F a b) V:=by
 have go:∀ k M Cn,Kd k M Cn→Ku k M→∀ n m,RA θ (Cn n) (ev ρ x)→RA θ (Cn m) (ev ρ y)→F M Cn n m ≠ .er→∃ V,OpVal C (.binOp op T x y T') ty ρ h V∧RV θ (F M Cn n m) V:=by
  intro k M Cn K U n m h1 h2 h3
  obtain ⟨n1,e1⟩:=(K.ra _ _ _).1 h1
  obtain ⟨n2,e2⟩:=(K.ra _ _ _).1 h2
  rw [U.id n n1] at e1
  rw [U.id m n2] at e2
  obtain ⟨V,hr,hv⟩:=H k M Cn K U n m n1 n2 h3
  exact ⟨V,hr.val e1 e2,hv⟩
 cases a <;> first | exact absurd rfl hn | skip
 ·cases b <;> first | exact absurd rfl hn | skip
  rename_i n m
  obtain ⟨n1,e1⟩:=(kd_i.ra _ _ _).1 (hx.ra (v:=.i n) trivial)
  obtain ⟨n2,e2⟩:=(kd_i.ra _ _ _).1 (hy.ra (v:=.i m) trivial)
  obtain ⟨V,hr,hv⟩:=H1 n m n1 n2 hn
  exact ⟨V,hr.val e1 e2,hv⟩
 ·cases b <;> first | exact absurd rfl hn | exact go _ _ _ kd_w ku_w _ _ (hx.ra trivial) (hy.ra trivial) hn
 ·cases b <;> first | exact absurd rfl hn | exact go _ _ _ kd_y ku_y _ _ (hx.ra trivial) (hy.ra trivial) hn
 ·cases b <;> first | exact absurd rfl hn | exact go _ _ _ kd_h ku_h _ _ (hx.ra trivial) (hy.ra trivial) hn
theorem Kd.rv {k:IntKind} {M:Nat} {Cn:Nat→AV} (K:Kd k M Cn) {n:Nat} {x:Int} (hn:n < M) (hx:x % M = (n:Int) % M):RV θ (Cn n) (.int k (k.wrap x)):=
 .inl (.inl (.inl ((K.ra _ _ _).2 ⟨hn,by rw [K.wc _ _ hx]⟩)))
theorem Kd.pos {k:IntKind} {M:Nat} {Cn:Nat→AV} (K:Kd k M Cn):0 < M:=by rw [K.pow]; exact Nat.two_pow_pos _
theorem rb {b:Bool}:RV θ (.b b) (.bool b):=.inl (.inl (.inl rfl))
theorem add_run {k:IntKind} {a b:Int}:IntRun .add k a b (.int k (k.wrap (a + b))):=fun T P w=>by simp [binOp,Op.intArith]
theorem sub_run {k:IntKind} {a b:Int}:IntRun .sub k a b (.int k (k.wrap (a - b))):=fun T P w=>by simp [binOp,Op.intArith]
theorem mul_run {k:IntKind} {a b:Int}:IntRun .mul k a b (.int k (k.wrap (a * b))):=fun T P w=>by simp [binOp,Op.intArith]
theorem quo_run {k:IntKind} {a b:Int} (h:b ≠ 0):IntRun .quo k a b (.int k (k.wrap (a.tdiv b))):=fun T P w=>by simp [binOp,Op.intDiv,h]
theorem rem_run {k:IntKind} {a b:Int} (h:b ≠ 0):IntRun .rem k a b (.int k (a.tmod b)):=fun T P w=>by simp [binOp,Op.intDiv,h]
theorem and_run {k:IntKind} {a b:Int}:IntRun .and k a b (.int k (k.wrap (BitVec.ofInt k.bits a &&& BitVec.ofInt k.bits b).toNat)):=fun T P w=>by simp [binOp,Op.intBits]
theorem or_run {k:IntKind} {a b:Int}:IntRun .or k a b (.int k (k.wrap (BitVec.ofInt k.bits a ||| BitVec.ofInt k.bits b).toNat)):=fun T P w=>by simp [binOp,Op.intBits]
theorem xor_run {k:IntKind} {a b:Int}:IntRun .xor k a b (.int k (k.wrap (BitVec.ofInt k.bits a ^^^ BitVec.ofInt k.bits b).toNat)):=fun T P w=>by simp [binOp,Op.intBits]
theorem lss_run {k:IntKind} {a b:Int}:IntRun .lss k a b (.bool (decide (a < b))):=fun T P w=>by simp [binOp,Op.intCmp]
theorem leq_run {k:IntKind} {a b:Int}:IntRun .leq k a b (.bool (decide (a≤b))):=fun T P w=>by simp [binOp,Op.intCmp]
theorem gtr_run {k:IntKind} {a b:Int}:IntRun .gtr k a b (.bool (decide (b < a))):=fun T P w=>by simp [binOp,Op.intCmp]
theorem geq_run {k:IntKind} {a b:Int}:IntRun .geq k a b (.bool (decide (b≤a))):=fun T P w=>by simp [binOp,Op.intCmp]
theorem eql_run {k:IntKind} {a b:Int}:IntRun .eql k a b (.bool (a == b)):=fun T P w=>by simp [binOp,Op.intCmp]
theorem neq_run {k:IntKind} {a b:Int}:IntRun .neq k a b (.bool (a != b)):=fun T P w=>by simp [binOp,Op.intCmp]
theorem bv_of {k:IntKind} {M:Nat} {Cn:Nat→AV} (K:Kd k M Cn) {n:Nat} (hn:n < M):(BitVec.ofInt k.bits (k.wrap n)).toNat = n:=by
 rw [BitVec.toNat_ofInt]
 have h1:=K.ww n
 have h2:=K.pow
 have h3:((2 ^ k.bits:Nat):Int) = (M:Int):=by rw [h2]
 rw [h3,h1,Int.emod_eq_of_lt (by omega) (by omega)]
 rfl
theorem sx_lt {n m:Nat} (hn:n < 18446744073709551616) (hm:m < 18446744073709551616):(IntKind.i64.wrap (n:Int) < IntKind.i64.wrap (m:Int)) ↔ sx n < sx m:=by
 have e:=IntKind.wrap_i64 (n:Int)
 have e2:=IntKind.wrap_i64 (m:Int)
 have a:sx n = (n + 9223372036854775808) % 18446744073709551616:=rfl
 have b:sx m = (m + 9223372036854775808) % 18446744073709551616:=rfl
 omega
theorem ble_dec (a b:Nat) (p:Prop) [Decidable p] (h:p ↔ a≤b):decide p = Nat.ble a b:=by
 cases c:Nat.ble a b with
 | true=>exact decide_eq_true (h.2 (yh c))
 | false=>exact decide_eq_false fun hp=>by rw [Nat.ble_eq_true_of_le (h.1 hp)] at c; cases c
theorem beq_dec (a b:Nat):decide (a = b) = Nat.beq a b:=by
 cases c:Nat.beq a b with
 | true=>exact decide_eq_true (ya c)
 | false=>exact decide_eq_false (qcl c)
theorem cnt_ok {b:AV} {V:Value} {g:Nat→AV} (hy:RV θ b V) (hn:cnt b g ≠ .er):∃ k m,V = .int k ((m:Nat):Int)∧cnt b g = g m:=by
 cases b <;> first | exact absurd rfl hn | skip
 ·rename_i m
  obtain ⟨_,e⟩:=hy.ra (v:=.i m) trivial
  obtain ⟨c,_⟩:=qa8 hn
  rw [qa4 (yh c)] at e
  exact ⟨_,m,e,by show bv _ _ _ = _; rw [c]; rfl⟩
 ·rename_i m; exact ⟨_,m,(hy.ra (v:=.w m) trivial).2,rfl⟩
 ·rename_i m; exact ⟨_,m,(hy.ra (v:=.y m) trivial).2,rfl⟩
 ·rename_i m; exact ⟨_,m,(hy.ra (v:=.h m) trivial).2,rfl⟩
theorem v_shl {x y:Operand} {k k':IntKind} {a:Int} {m:Nat} {T T':TypeId} (hx:ev ρ x = .int k a) (hy:ev ρ y = .int k' (m:Int)):OpVal C (.binOp .shl T x y T') ty ρ h (.int k (k.wrap (a * 2 ^ (min m k.bits)))):=by
 intro w hw pos after g d; simp [execOp,hx,hy,eqGuard,binOp,Op.shift,show ¬ (m:Int) < 0 by omega]
theorem v_shr {x y:Operand} {k k':IntKind} {a:Int} {m:Nat} {T T':TypeId} (hx:ev ρ x = .int k a) (hy:ev ρ y = .int k' (m:Int)):OpVal C (.binOp .shr T x y T') ty ρ h (.int k (a.fdiv (2 ^ (min m k.bits)))):=by
 intro w hw pos after g d; simp [execOp,hx,hy,eqGuard,binOp,Op.shift,show ¬ (m:Int) < 0 by omega]
theorem wrap_wrap (n:Int):IntKind.i64.wrap (IntKind.i64.wrap n) = IntKind.i64.wrap n:=by
 have:=IntKind.wrap_i64 n; have:=IntKind.wrap_i64 (IntKind.i64.wrap n); omega
theorem rv_oi (n:Int):RV θ (.o 1) (.int .i64 (IntKind.i64.wrap n)):=.inl (.inl (.inl ⟨_,wrap_wrap n,rfl⟩))
theorem rv_ob (b:Bool):RV θ (.o 2) (.bool b):=.inl (.inl (.inl ⟨b,rfl⟩))
theorem un2_ok {op:BinOp} {a b r d:AV} {x y:Operand} {T T':TypeId} (hx:RV θ a (ev ρ x)) (hy:RV θ b (ev ρ y)) (hn:un2 a b r d ≠ .er)
  (H1:∀ p q:Int,∃ V,IntRun op .i64 p q V∧RV θ r V) (H2:d ≠ .er→∃ V,OpVal C (.binOp op T x y T') ty ρ h V∧RV θ d V):
  ∃ V,OpVal C (.binOp op T x y T') ty ρ h V∧RV θ (un2 a b r d) V:=by
 have fin:∀ p q:Int,ev ρ x = .int .i64 p→ev ρ y = .int .i64 q→∃ V,OpVal C (.binOp op T x y T') ty ρ h V∧RV θ r V:=fun p q e1 e2=>by
  obtain ⟨V,h1,h2⟩:=H1 p q
  exact ⟨V,h1.val e1 e2,h2⟩
 have ofO:∀ {k:Nat} {V:Value},RV θ (.o k) V→Nat.beq k 1 = true→∃ p:Int,V = .int .i64 p:=fun {k V} hv hk=>by
  have:=ya hk
  subst this
  obtain ⟨p,_,e⟩:=hv.ra (v:=.o 1) trivial
  exact ⟨p,e⟩
 cases a with
 | o k=>
  cases b with
  | o j=>
   have hn:bv (an (Nat.beq k 1) (Nat.beq j 1)) r .er ≠ .er:=hn
   obtain ⟨c,_⟩:=qa8 hn
   obtain ⟨c1,c2⟩:=qaf c
   obtain ⟨p,e1⟩:=ofO hx c1
   obtain ⟨q,e2⟩:=ofO hy c2
   show ∃ V,_∧RV θ (bv (an (Nat.beq k 1) (Nat.beq j 1)) r .er) V
   rw [c]; exact fin p q e1 e2
  | i m=>
   have hn:bv (Nat.beq k 1) r .er ≠ .er:=hn
   obtain ⟨c,_⟩:=qa8 hn
   obtain ⟨p,e1⟩:=ofO hx c
   show ∃ V,_∧RV θ (bv (Nat.beq k 1) r .er) V
   rw [c]; exact fin p _ e1 (hy.ra (v:=.i m) trivial).2
  | _=>exact absurd rfl hn
 | i n=>
  cases b with
  | o j=>
   have hn:bv (Nat.beq j 1) r .er ≠ .er:=hn
   obtain ⟨c,_⟩:=qa8 hn
   obtain ⟨q,e2⟩:=ofO hy c
   show ∃ V,_∧RV θ (bv (Nat.beq j 1) r .er) V
   rw [c]; exact fin _ q (hx.ra (v:=.i n) trivial).2 e2
  | _=>exact H2 hn
 | _=>exact H2 hn
theorem binQ_ok {op:BinOp} {a b:AV} {x y:Operand} {T T':TypeId} (hx:RV θ a (ev ρ x)) (hy:RV θ b (ev ρ y)) (hn:(binQ op).f a b ≠ .er):
  ∃ V,OpVal C (.binOp op T x y T') ty ρ h V∧RV θ ((binQ op).f a b) V:=by
 cases op with
 | add=>
  refine un2_ok hx hy hn (fun p q=>⟨_,add_run,rv_oi _⟩) fun hn2=>?_
  clear hn
  have hn:=hn2
  clear hn2
  by_cases hs:∃ n u,a = .s n u
  ·obtain ⟨n,u,rfl⟩:=hs
   cases b <;> first | exact absurd rfl hn | skip
   rename_i m z
   obtain ⟨h1,e1⟩:=hx.ra (v:=.s n u) trivial
   obtain ⟨h2,e2⟩:=hy.ra (v:=.s m z) trivial
   have e:Nat.shiftLeft u (p8 m) + z = u * 256 ^ m + z:=by rw [sl8]
   obtain ⟨c,_⟩:=qa8 hn
   have hle:=yh c
   have hle':n + m≤1073741824:=hle
   have e0:addQ (.s n u) (.s m z) = bv (Nat.ble (Nat.add n m) 1073741824) (.s (n + m) (Nat.shiftLeft u (p8 m) + z)) .er:=rfl
   rw [e0,c]
   refine ⟨.string (byS n u ++ byS m z),?_,?_⟩
   ·have:((byS n u).size:Int) + ((byS m z).size:Int)≤9223372036854775807:=by rw [qea,qea]; omega
    intro w hw pos after g d; simp [execOp,e1,e2,eqGuard,binOp,Op.stringOp,this]
   ·refine .inl (.inl (.inl ⟨?_,?_⟩))
    ·show Nat.shiftLeft u (p8 m) + z < 256 ^ (n + m)
     rw [e]
     have h3:(u + 1) * 256 ^ m≤256 ^ n * 256 ^ m:=Nat.mul_le_mul_right _ h1
     rw [Nat.add_mul,Nat.one_mul,← Nat.pow_add] at h3
     omega
    ·show _ = Value.string (byS (n + m) (Nat.shiftLeft u (p8 m) + z))
     rw [e]; unfold byS; rw [byL_add m z h2,List.map_append]
     congr 1
  ·have e:addQ a b = l2 (fun M Cn n m=>Cn ((n + m) % M)) a b:=by
    cases a <;> first | rfl | exact absurd ⟨_,_,rfl⟩ hs
   rw [e] at hn ⊢
   refine l2_ok hx hy hn fun k M Cn K n m h1 h2 _=>⟨_,add_run,K.rv (Nat.mod_lt _ K.pos) ?_⟩
   rw [Int.add_emod,K.ww,K.ww,← Int.add_emod]; simp
 | sub=>
  refine l2_ok hx hy hn fun k M Cn K n m h1 h2 _=>⟨_,sub_run,K.rv (Nat.mod_lt _ K.pos) ?_⟩
  rw [Int.sub_emod,K.ww,K.ww,← Int.sub_emod]
  show _ = (((n + (M - m)) % M:Nat):Int) % M
  rw [Int.natCast_emod,Int.emod_emod,show ((n + (M - m):Nat):Int) = (n:Int) - m + M by omega,Int.add_emod_right]
 | mul=>
  refine l2_ok hx hy hn fun k M Cn K n m h1 h2 _=>⟨_,mul_run,K.rv (Nat.mod_lt _ K.pos) ?_⟩
  rw [Int.mul_emod,K.ww,K.ww,← Int.mul_emod]
  show _ = (((n * m) % M:Nat):Int) % M
  simp
 | quo=>
  refine l2s_ok hx hy hn (fun n m h1 h2 h3=>?_) (fun k M Cn K U n m h1 h2 h3=>?_)
  ·obtain ⟨c1,h4⟩:=qa8 h3
   obtain ⟨c2,h5⟩:=qa8 h4
   obtain ⟨c3,h6⟩:=bv_er h5
   have k1:=yh c1; have k2:=yh c2; have k3:=qcl c3
   refine ⟨_,quo_run (by rw [qa4 k2]; omega),?_⟩
   show RV θ (bv (Nat.ble n 9223372036854775807) (bv (Nat.ble m 9223372036854775807) (bv (Nat.beq m 0) .er (.i (n / m))) .er) .er) _
   rw [c1,c2,c3,qa4 k1,qa4 k2]
   have:((n:Int).tdiv (m:Int)) = ((n / m:Nat):Int):=by rw [Int.tdiv_eq_ediv_of_nonneg (by omega)]; rfl
   rw [this]
   exact kd_i.rv (Nat.lt_of_le_of_lt (Nat.div_le_self _ _) h1) rfl
  ·obtain ⟨c3,h6⟩:=bv_er h3
   have k3:=qcl c3
   refine ⟨_,quo_run (by omega),?_⟩
   show RV θ (bv (Nat.beq m 0) .er (Cn (n / m))) _
   rw [c3]
   have:((n:Int).tdiv (m:Int)) = ((n / m:Nat):Int):=by rw [Int.tdiv_eq_ediv_of_nonneg (by omega)]; rfl
   rw [this]
   exact K.rv (Nat.lt_of_le_of_lt (Nat.div_le_self _ _) h1) rfl
 | rem=>
  refine l2s_ok hx hy hn (fun n m h1 h2 h3=>?_) (fun k M Cn K U n m h1 h2 h3=>?_)
  ·obtain ⟨c1,h4⟩:=qa8 h3
   obtain ⟨c2,h5⟩:=qa8 h4
   obtain ⟨c3,h6⟩:=bv_er h5
   have k1:=yh c1; have k2:=yh c2; have k3:=qcl c3
   refine ⟨_,rem_run (by rw [qa4 k2]; omega),?_⟩
   show RV θ (bv (Nat.ble n 9223372036854775807) (bv (Nat.ble m 9223372036854775807) (bv (Nat.beq m 0) .er (.i (n % m))) .er) .er) _
   rw [c1,c2,c3,qa4 k1,qa4 k2]
   have:((n:Int).tmod (m:Int)) = ((n % m:Nat):Int):=by rw [Int.tmod_eq_emod_of_nonneg (by omega)]; rfl
   have hle:n % m≤n:=Nat.mod_le _ _
   rw [this,← qa4 (n:=n % m) (by omega)]
   exact kd_i.rv (by omega) rfl
  ·obtain ⟨c3,h6⟩:=bv_er h3
   have k3:=qcl c3
   refine ⟨_,rem_run (by omega),?_⟩
   show RV θ (bv (Nat.beq m 0) .er (Cn (n % m))) _
   rw [c3]
   have:((n:Int).tmod (m:Int)) = ((n % m:Nat):Int):=by rw [Int.tmod_eq_emod_of_nonneg (by omega)]; rfl
   have hle:n % m≤n:=Nat.mod_le _ _
   rw [this,← U.id (n % m) (by omega)]
   exact K.rv (by omega) rfl
 | and=>
  refine l2_ok hx hy hn fun k M Cn K n m h1 h2 _=>⟨_,and_run,?_⟩
  rw [BitVec.toNat_and,bv_of K h1,bv_of K h2]
  exact K.rv (Nat.lt_of_le_of_lt Nat.and_le_left h1) rfl
 | or=>
  refine l2_ok hx hy hn fun k M Cn K n m h1 h2 _=>⟨_,or_run,?_⟩
  rw [BitVec.toNat_or,bv_of K h1,bv_of K h2]
  have:=K.pow
  subst this
  exact K.rv (Nat.or_lt_two_pow h1 h2) rfl
 | xor=>
  refine l2_ok hx hy hn fun k M Cn K n m h1 h2 _=>⟨_,xor_run,?_⟩
  rw [BitVec.toNat_xor,bv_of K h1,bv_of K h2]
  have:=K.pow
  subst this
  exact K.rv (Nat.xor_lt_two_pow h1 h2) rfl
 | andNot=>exact absurd rfl hn
 | eql=>exact absurd rfl hn
 | neq=>exact absurd rfl hn
 | lss=>
  refine un2_ok hx hy hn (fun p q=>⟨_,lss_run,rv_ob _⟩) fun hn=>l2s_ok hx hy hn (fun n m h1 h2 h3=>⟨_,lss_run,?_⟩) (fun k M Cn K U n m h1 h2 h3=>⟨_,lss_run,?_⟩)
  ·rw [ble_dec (sx n + 1) (sx m) _ ((sx_lt h1 h2).trans Nat.lt_iff_add_one_le)]; exact rb
  ·rw [ble_dec (n + 1) m _ (by omega)]; exact rb
 | leq=>
  refine un2_ok hx hy hn (fun p q=>⟨_,leq_run,rv_ob _⟩) fun hn=>l2s_ok hx hy hn (fun n m h1 h2 h3=>⟨_,leq_run,?_⟩) (fun k M Cn K U n m h1 h2 h3=>⟨_,leq_run,?_⟩)
  ·rw [ble_dec (sx n) (sx m) _ (by have:=sx_lt h2 h1; omega)]; exact rb
  ·rw [ble_dec n m _ (by omega)]; exact rb
 | gtr=>
  refine un2_ok hx hy hn (fun p q=>⟨_,gtr_run,rv_ob _⟩) fun hn=>l2s_ok hx hy hn (fun n m h1 h2 h3=>⟨_,gtr_run,?_⟩) (fun k M Cn K U n m h1 h2 h3=>⟨_,gtr_run,?_⟩)
  ·rw [ble_dec (sx m + 1) (sx n) _ ((sx_lt h2 h1).trans Nat.lt_iff_add_one_le)]; exact rb
  ·rw [ble_dec (m + 1) n _ (by omega)]; exact rb
 | geq=>
  refine un2_ok hx hy hn (fun p q=>⟨_,geq_run,rv_ob _⟩) fun hn=>l2s_ok hx hy hn (fun n m h1 h2 h3=>⟨_,geq_run,?_⟩) (fun k M Cn K U n m h1 h2 h3=>⟨_,geq_run,?_⟩)
  ·rw [ble_dec (sx m) (sx n) _ (by have:=sx_lt h1 h2; omega)]; exact rb
  ·rw [ble_dec m n _ (by omega)]; exact rb
 | shl=>
  obtain ⟨k',m,e2,e⟩:=cnt_ok hy (show cnt b _ ≠ .er from hn)
  have e':(binQ .shl).f a b = _:=e
  rw [e'] at hn ⊢
  have go:∀ k M Cn,Kd k M Cn→∀ n,RA θ (Cn n) (ev ρ x)→∃ V,OpVal C (.binOp .shl T x y T') ty ρ h V∧RV θ (Cn (Nat.mod (Nat.shiftLeft n (Nat.min m k.bits)) M)) V:=by
   intro k M Cn K n h1
   obtain ⟨n1,e1⟩:=(K.ra _ _ _).1 h1
   refine ⟨_,v_shl e1 e2,K.rv (Nat.mod_lt _ K.pos) ?_⟩
   rw [Int.mul_emod,K.ww,← Int.mul_emod]
   show _ = (((n <<< (min m k.bits)) % M:Nat):Int) % M
   rw [Nat.shiftLeft_eq]; simp
  cases a <;> first | exact absurd rfl hn | skip
  ·exact go _ _ _ kd_i _ (hx.ra trivial)
  ·exact go _ _ _ kd_w _ (hx.ra trivial)
  ·exact go _ _ _ kd_y _ (hx.ra trivial)
  ·exact go _ _ _ kd_h _ (hx.ra trivial)
 | shr=>
  obtain ⟨k',m,e2,e⟩:=cnt_ok hy (show cnt b _ ≠ .er from hn)
  have e':(binQ .shr).f a b = _:=e
  rw [e'] at hn ⊢
  have key:∀ n c:Nat,((n:Int).fdiv (2 ^ c)) = ((Nat.shiftRight n c:Nat):Int):=fun n c=>by
   rw [fdiv_pow]; show _ = ((n >>> c:Nat):Int); rw [Nat.shiftRight_eq_div_pow]
  have hle:∀ n c:Nat,Nat.shiftRight n c≤n:=fun n c=>by show n >>> c≤n; rw [Nat.shiftRight_eq_div_pow]; exact Nat.div_le_self _ _
  have go:∀ k M Cn,Kd k M Cn→Ku k M→∀ n,RA θ (Cn n) (ev ρ x)→∃ V,OpVal C (.binOp .shr T x y T') ty ρ h V∧RV θ (Cn (Nat.shiftRight n (Nat.min m k.bits))) V:=by
   intro k M Cn K U n h1
   obtain ⟨n1,e1⟩:=(K.ra _ _ _).1 h1
   rw [U.id n n1] at e1
   refine ⟨_,v_shr e1 e2,?_⟩
   rw [key,← U.id _ (Nat.lt_of_le_of_lt (hle n _) n1)]
   exact K.rv (Nat.lt_of_le_of_lt (hle n _) n1) rfl
  cases a <;> first | exact absurd rfl hn | skip
  ·rename_i n
   obtain ⟨c,_⟩:=qa8 hn
   obtain ⟨n1,e1⟩:=(kd_i.ra _ _ _).1 (hx.ra (v:=.i n) trivial)
   rw [qa4 (yh c)] at e1
   refine ⟨_,v_shr e1 e2,?_⟩
   show RV θ (bv (Nat.ble n 9223372036854775807) (.i (Nat.shiftRight n (Nat.min m 64))) .er) _
   rw [c,key,← qa4 (n:=Nat.shiftRight n (min m IntKind.i64.bits)) (by have:=hle n (min m IntKind.i64.bits); have:=yh c; omega)]
   exact kd_i.rv (Nat.lt_of_le_of_lt (hle n _) n1) rfl
  ·exact go _ _ _ kd_w ku_w _ (hx.ra trivial)
  ·exact go _ _ _ kd_y ku_y _ (hx.ra trivial)
  ·exact go _ _ _ kd_h ku_h _ (hx.ra trivial)
end
section
variable {P:Program} {T:Tb} (hT:TbOk P T)
include hT
theorem tk_sl {t e sz:Nat} (h:tkT T t = .sl e sz):P.underlying t = some (.slice e)∧szT T e = sz:=by
 unfold tkT at h
 cases e1:T.und t with
 | none=>rw [e1] at h; cases h
 | some d=>rw [e1] at h; cases d <;> first | (cases h; done) | (injection h with h1 h2; subst h1; exact ⟨(hT.und e1).1,h2⟩)
theorem tk_ar {t n e sz:Nat} (h:tkT T t = .ar n e sz):P.underlying t = some (.array n e)∧szT T e = sz:=by
 unfold tkT at h
 cases e1:T.und t with
 | none=>rw [e1] at h; cases h
 | some d=>rw [e1] at h; cases d <;> first | (cases h; done) | (injection h with h0 h1 h2; subst h0; subst h1; exact ⟨(hT.und e1).1,h2⟩)
theorem tk_mp {t k e:Nat} (h:tkT T t = .mp k e):P.underlying t = some (.map k e):=by
 unfold tkT at h
 cases e1:T.und t with
 | none=>rw [e1] at h; cases h
 | some d=>rw [e1] at h; cases d <;> first | (cases h; done) | (injection h with h1 h2; subst h1; subst h2; exact (hT.und e1).1)
theorem tk_pt {t e:Nat} (h:tkT T t = .pt e):P.underlying t = some (.pointer e):=by
 unfold tkT at h
 cases e1:T.und t with
 | none=>rw [e1] at h; cases h
 | some d=>rw [e1] at h; cases d <;> first | (cases h; done) | (injection h with h1; subst h1; exact (hT.und e1).1)
theorem tk_it {t:Nat} {k:IntKind} (h:tkT T t = .it k):P.underlying t = some (.int k):=by
 unfold tkT at h
 cases e1:T.und t with
 | none=>rw [e1] at h; cases h
 | some d=>rw [e1] at h; cases d <;> first | (cases h; done) | (injection h with h1; subst h1; exact (hT.und e1).1)
theorem tk_str {t:Nat} (h:tkT T t = .str):P.underlying t = some .string:=by
 unfold tkT at h
 cases e1:T.und t with
 | none=>rw [e1] at h; cases h
 | some d=>rw [e1] at h; cases d <;> first | (cases h; done) | exact (hT.und e1).1
theorem tk_bo {t:Nat} (h:tkT T t = .bo):P.underlying t = some .bool:=by
 unfold tkT at h
 cases e1:T.und t with
 | none=>rw [e1] at h; cases h
 | some d=>rw [e1] at h; cases d <;> first | (cases h; done) | exact (hT.und e1).1
theorem tk_fn {t:Nat} (h:tkT T t = .fn):∃ a b c,P.underlying t = some (.func a b c):=by
 unfold tkT at h
 cases e1:T.und t with
 | none=>rw [e1] at h; cases h
 | some d=>rw [e1] at h; cases d <;> first | (cases h; done) | exact ⟨_,_,_,(hT.und e1).1⟩
theorem tk_some {t:Nat} (h:isOt (tkT T t) = false):∃ d,P.underlying t = some d:=by
 unfold tkT at h
 cases e1:T.und t with
 | none=>rw [e1] at h; cases h
 | some d=>exact ⟨d,(hT.und e1).1⟩
end
section
variable {C:Ctx} {ρ:Env} {h:H} {ty:TypeId} {θ:Th} {X:Cx} {hp:Hp} {T:Tb}
theorem rowC_ok (S:SR X θ hp h) {r:Rid} {b o0 t:Nat} (hr:θ r = some (b,o0,t)) {L:Nat} {cs:CL AV} (hg:getH hp r = .c L cs):
  ∃ arr E fr vs,h[b]? = some (.cells arr E fr)∧o0 + t = arr.size∧L≤t∧(fr.1 = fr.2∨arr.size≤fr.1)∧RC θ cs vs∧vs.length = L∧(arr.toList.drop o0).take L = vs:=by
 have:=S.rows r _ hr
 rw [hg] at this
 exact this
theorem qee (S:SR X θ hp h) {r:Rid} {b o0 t:Nat} (hr:θ r = some (b,o0,t)) {L:Nat} {cs:CL AV} (hg:getH hp r = .c L cs):
  ∃ vs,AtH h ⟨b,o0,none⟩ vs∧RC θ cs vs∧vs.length = L:=by
 obtain ⟨arr,E,fr,vs,h1,h2,h3,h4,h5,h6,h7⟩:=rowC_ok S hr hg
 refine ⟨vs,⟨rfl,arr,E,fr,h1,fun i v hi=>?_⟩,h5,h6⟩
 rw [← h7,List.getElem?_take] at hi
 split at hi
 ·rw [List.getElem?_drop] at hi
  simpa using hi
 ·cases hi
theorem qb8 (b o p:Nat):(⟨b,o,none⟩:Addr).add p = ⟨b,o + p,none⟩:=qdb rfl p
theorem ldQ_ok (hT:TbOk C.P T) (S:SR X θ hp h) {t:Nat} {a:AV} {x:Operand} (hx:RV θ a (ev ρ x)) (hn:(ldQ T t).f a hp ≠ .er):
  ∃ V,OpVal C (.load t x) ty ρ h V∧RV θ ((ldQ T t).f a hp) V:=by
 unfold ldQ at hn ⊢
 cases ca:aggT T t with
 | true=>
  rw [ca] at hn; simp only [cond_true] at hn ⊢
  cases a <;> first | exact absurd rfl hn | skip
  rename_i r o
  obtain ⟨b,o0,tt,hr,e⟩:=hx.ra (v:=.p r o) trivial
  have e0:ldA (szT T t) (.p r o) hp = rdC hp r o (szT T t):=rfl
  have hn':rdC hp r o (szT T t) ≠ .er:=hn
  unfold rdC at hn'
  rw [e0]; unfold rdC
  cases hg:getH hp r with
  | c L cs=>
   rw [hg] at hn'
   obtain ⟨c,_⟩:=qa8 hn'
   have hle:=yh c
   have hle':o + szT T t≤L:=hle
   obtain ⟨vs,hat,hc,hl⟩:=qee S hr hg
   simp only []
   rw [c]
   have hlen:((vs.drop o).take (szT T t)).length = szT T t:=by rw [List.length_take,List.length_drop]; omega
   refine ⟨.agg ((vs.drop o).take (szT T t)).toArray,v_loadA o (hT.agg ca) (by rw [e,qb8]) hat rfl hlen,.inl (.inr (.inl ⟨_,_,rfl,rfl,?_⟩))⟩
   exact ctk_ok (cdr_ok hc o (by omega)) _ (by rw [List.length_drop]; omega)
  | no=>rw [hg] at hn'; exact absurd rfl hn'
  | m=>rw [hg] at hn'; exact absurd rfl hn'
  | it=>rw [hg] at hn'; exact absurd rfl hn'
 | false=>
  rw [ca] at hn; simp only [cond_false] at hn ⊢
  cases cb:sclT T t with
  | false=>rw [cb] at hn; exact absurd rfl hn
  | true=>
   rw [cb] at hn; simp only [cond_true] at hn ⊢
   cases a <;> first | exact absurd rfl hn | skip
   rename_i r o
   obtain ⟨b,o0,tt,hr,e⟩:=hx.ra (v:=.p r o) trivial
   unfold ldS at hn ⊢
   cases hg:getH hp r with
   | c L cs=>
    simp only [hg] at hn ⊢
    obtain ⟨vs,hat,hc,hl⟩:=qee S hr hg
    obtain ⟨V,h1,h2⟩:=ld1_ok hc hn
    exact ⟨V,v_load1 o (hT.scl cb) (by rw [e,qb8]) hat h1,.inl (.inl h2)⟩
   | no=>simp only [hg] at hn; exact absurd rfl hn
   | m=>simp only [hg] at hn; exact absurd rfl hn
   | it=>simp only [hg] at hn; exact absurd rfl hn
theorem adr_ok (hT:TbOk C.P T) {s f o t':Nat} (hf:fldOff T s f = some (o,t')) {a:AV} {x:Operand} (hx:RV θ a (ev ρ x)) (hn:adr a o ≠ .er):
  ∃ V,OpVal C (.fieldAddr s x f) ty ρ h V∧RV θ (adr a o) V:=by
 cases a <;> first | exact absurd rfl hn | skip
 rename_i r p
 obtain ⟨b,o0,tt,hr,e⟩:=hx.ra (v:=.p r p) trivial
 have hF:FldAt C.P s f o:=by
  unfold fldOff at hf
  cases e1:T.und s with
  | none=>rw [e1] at hf; cases hf
  | some d=>
   rw [e1] at hf
   cases d <;> first | (cases hf; done) | skip
   rename_i fs
   simp only at hf
   cases e2:fs[f]? with
   | none=>rw [e2] at hf; cases hf
   | some y=>
    rw [e2] at hf
    simp only at hf
    cases c:Nat.blt 0 (szT T y.type) with
    | false=>rw [c] at hf; cases hf
    | true=>
     rw [c] at hf
     simp only [cond_true,Option.some.injEq,Prod.mk.injEq] at hf
     obtain ⟨rfl,rfl⟩:=hf
     have h0:0 < szT T y.type:=by simpa [Nat.blt_eq] using c
     exact ⟨fs,y,szT T y.type - 1,(hT.und e1).1,e2,rfl,by rw [show szT T y.type - 1 + 1 = szT T y.type by omega]; exact hT.size rfl h0⟩
 refine ⟨_,qd hF e,?_⟩
 rw [qb8]
 exact .inl (.inl (.inl ⟨b,o0,tt,hr,by rw [Nat.add_assoc]; rfl⟩))
theorem idx_ok {b:AV} {V:Value} {n:Nat} {g:Nat→AV} (hy:RV θ b V) (hn:idx b n g ≠ .er):∃ k m,V = .int k ((m:Nat):Int)∧m < n∧idx b n g = g m:=by
 obtain ⟨k,m,e,e2⟩:=cnt_ok hy (show cnt b _ ≠ .er from hn)
 have e3:idx b n g = bv (Nat.ble (m + 1) n) (g m) .er:=e2
 rw [e3] at hn
 obtain ⟨c,_⟩:=qa8 hn
 exact ⟨k,m,e,by have:=yh c; omega,by rw [e3,c]; rfl⟩
theorem idxA_ok (hT:TbOk C.P T) {t:Nat} {a b:AV} {x y:Operand} (hx:RV θ a (ev ρ x)) (hy:RV θ b (ev ρ y)) (hn:(idxA (tkT T t)).f a b ≠ .er):
  ∃ V,OpVal C (.indexAddr t x y) ty ρ h V∧RV θ ((idxA (tkT T t)).f a b) V:=by
 cases hk:tkT T t with
 | sl e sz=>
  rw [hk] at hn
  obtain ⟨hu,hsz⟩:=tk_sl hT hk
  have key:∀ r o n,(∃ bb o0 tt c,θ r = some (bb,o0,tt)∧0 < sz∧ev ρ x = .slice (some ⟨bb,o0 + o,none⟩) n c)→idx b n (fun m=>.p r (o + m * sz)) ≠ .er →
    ∃ V,OpVal C (.indexAddr t x y) ty ρ h V∧RV θ (idx b n (fun m=>.p r (o + m * sz))) V:=by
   rintro r o n ⟨bb,o0,tt,c,hr,h0,e⟩ hn
   obtain ⟨k,m,e2,hm,e3⟩:=idx_ok hy hn
   rw [e3]
   refine ⟨_,v_idx_sl ⟨hu,hT.size hsz h0⟩ e e2 (by omega) (by omega),?_⟩
   rw [qb8]
   exact .inl (.inl (.inl ⟨bb,o0,tt,hr,by rw [Nat.add_assoc]; simp⟩))
  cases a <;> first | exact absurd rfl hn | skip
  ·rename_i r o n z
   obtain ⟨c,hn2⟩:=qa8 (show bv (Nat.beq z sz) _ .er ≠ .er from hn)
   have:=ya c; subst this
   obtain ⟨bb,o0,tt,cc,hr,h0,_,_,e⟩:=hx.ra (v:=.sl r o n z) trivial
   obtain ⟨V,h1,h2⟩:=key r o n ⟨bb,o0,tt,cc,hr,h0,e⟩ hn2
   refine ⟨V,h1,?_⟩
   show RV θ (bv (Nat.beq z z) _ .er) V
   rw [c]; exact h2
  ·rename_i r o n cp z
   obtain ⟨c,hn2⟩:=qa8 (show bv (Nat.beq z sz) _ .er ≠ .er from hn)
   have:=ya c; subst this
   obtain ⟨bb,o0,tt,hr,h0,_,e⟩:=hx.ra (v:=.sr r o n cp z) trivial
   obtain ⟨V,h1,h2⟩:=key r o n ⟨bb,o0,tt,cp,hr,h0,e⟩ hn2
   refine ⟨V,h1,?_⟩
   show RV θ (bv (Nat.beq z z) _ .er) V
   rw [c]; exact h2
 | ar n e sz=>
  rw [hk] at hn
  obtain ⟨hu,hsz⟩:=tk_ar hT hk
  cases c:Nat.ble 1 sz with
  | false=>
   have e0:idxA (.ar n e sz) = (bif Nat.ble 1 sz then ⟨fun x y=>idxAr n sz x y⟩ else erB):=rfl
   rw [e0,c] at hn; exact absurd rfl hn
  | true=>
   have h0:=yh c
   have e0:idxA (.ar n e sz) = (bif Nat.ble 1 sz then ⟨fun x y=>idxAr n sz x y⟩ else erB):=rfl
   rw [e0,c] at hn
   rw [e0,c]
   simp only [cond_true] at hn ⊢
   cases a <;> first | exact absurd rfl hn | skip
   rename_i r o
   obtain ⟨bb,o0,tt,hr,e⟩:=hx.ra (v:=.p r o) trivial
   obtain ⟨k,m,e2,hm,e3⟩:=idx_ok hy (show idx b n _ ≠ .er from hn)
   have e4:idx b n (fun m=>AV.p r (Nat.add o (Nat.mul m sz))) = .p r (o + m * sz):=e3
   show ∃ V,_∧RV θ (idx b n (fun m=>AV.p r (Nat.add o (Nat.mul m sz)))) V
   rw [e4]
   refine ⟨_,v_idx_arr ⟨hu,hT.size hsz h0⟩ e e2 (by omega) (by omega),?_⟩
   rw [qb8]
   exact .inl (.inl (.inl ⟨bb,o0,tt,hr,by rw [Nat.add_assoc]; simp⟩))
 | _=>rw [hk] at hn; exact absurd rfl hn
end
end Go.Vm

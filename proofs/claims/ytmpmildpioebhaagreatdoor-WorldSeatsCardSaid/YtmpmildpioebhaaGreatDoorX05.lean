/-
  The statement WorldSeats (law 23): a seat whose power goes off is gone, and comes back with nothing lost. Part 5 of 27. No condition stands ahead of the statement. Parts of this text were printed by a program of ours.
-/
import Derived.Test.YtmpmildpioebhaaGreatDoorX04
import Derived.Laws.Append
set_option linter.all false
set_option maxRecDepth 100000
set_option maxHeartbeats 4000000
noncomputable section
namespace Go.Sh
open Go
open Go.Sh.Ty (reg)
def SlC (h:H) (s:Sl) (size:Nat) (cs:List Value):Prop:=(s.a = none∧s.len = 0∧cs = [])∨∃ a,s.a = some a∧AtH h a cs∧cs.length = s.len * size
theorem qdj {P:Program} {h:H} {s:Sl} {size:Nat} {cs:List Value} (H:SlC h s size cs) {w:World} (hw:w.heap = h):(Builtin.firstCells size s.len (reg s)).run P w = .ok cs.toArray w:=by
 rcases H with ⟨ha,hl,rfl⟩ | ⟨a,ha,hat,hl⟩
 ·have:reg s = .slice none s.len s.cap:=by simp only [reg,ha]
  rw [this,run_firstCells_none]
 ·have:reg s = .slice (some a) s.len s.cap:=by simp only [reg,ha]
  rw [this]
  exact run_firstCells_some w size s.len a s.len s.cap cs hl (fun j v hj=>cell?_of hw hat hj)
def SlR (h:H) (s:Sl) (size:Nat) (cs:List Value):Prop:=SlC h s size cs∨(s.len = 0∧cs = [])
theorem run_firstCellsR {P:Program} {h:H} {s:Sl} {size:Nat} {cs:List Value} (H:SlR h s size cs) {w:World} (hw:w.heap = h):(Builtin.firstCells size s.len (reg s)).run P w = .ok cs.toArray w:=by
 rcases H with H | ⟨hl,rfl⟩
 ·exact qdj H hw
 ·rw [hl]
  cases ha:s.a with
  | none=>
   have:reg s = .slice none s.len s.cap:=by simp only [reg,ha]
   rw [this,run_firstCells_none]
  | some a=>
   have:reg s = .slice (some a) s.len s.cap:=by simp only [reg,ha]
   rw [this]
   simp only [Builtin.firstCells,Nat.zero_mul,loadCells,loadCellsFrom,Sem.run_pure]
def maxBytes:Nat:=140737488355328
def app (T size bytes:Nat) (z:List Value) (s x:Sl) (k:Sl→H→Prop):H→Prop:=fun h=>
 ∃ xs ys:List Value,SlC h s size xs∧SlR h x size ys∧ys.all (·.oneCell') = true ∧
  (s.len + x.len≤s.cap→(∀ a,s.a = some a→WAt h (a.add (s.len * size)) ys.length) ∧
   ∀ r:Sl,r = ⟨s.a,s.len + x.len,s.cap⟩→k r (match s.a with | some a=>putC h (a.add (s.len * size)) ys | none=>h)) ∧
  (s.cap < s.len + x.len→(s.len + x.len) * bytes≤maxBytes∧s.len + x.len≤9223372036854775807 ∧
   ∀ (p:Addr) (cap:Nat) (r:Sl),p = ⟨h.size,0,none⟩→s.len + x.len≤cap→r = ⟨some p,s.len + x.len,cap⟩→k r (newC h T (xs ++ ys ++ (List.replicate (cap - (s.len + x.len)) z).flatten)))
theorem qe9 (z:List Value) (n:Nat):Builtin.zeroCells z.toArray n = (List.replicate n z).flatten.toArray:=by
 unfold Builtin.zeroCells
 by_cases h0:z.length = 0
 ·have:z = []:=List.eq_nil_of_length_eq_zero h0
  subst this
  simp
 ·apply Array.ext
  ·simp
  ·intro j h1 h2
   simp only [Array.size_map,Array.size_range,List.size_toArray] at h1
   have hfl:∀ (m j:Nat),j < m * z.length→(List.replicate m z).flatten[j]? = z[j % z.length]?:=by
    intro m
    induction m with
    | zero=>intro j hj; simp at hj
    | succ m ih=>
     intro j hj
     rw [List.replicate_succ,List.flatten_cons,List.getElem?_append]
     split
     ·rename_i hlt; rw [Nat.mod_eq_of_lt hlt]
     ·rename_i hge
      have e:(m + 1) * z.length = m * z.length + z.length:=Nat.succ_mul m _
      rw [ih (j - z.length) (by omega),Nat.mod_eq_sub_mod (by omega:j ≥ z.length)]
   have:=hfl n j h1
   have hlt:j % z.length < z.length:=Nat.mod_lt _ (by omega)
   rw [List.getElem?_eq_getElem hlt,List.getElem?_eq_some_iff] at this
   obtain ⟨h5,h6⟩:=this
   simp only [Array.getElem_map,Array.getElem_range,List.getElem_toArray,List.size_toArray]
   rw [h6,getElem!_pos _ _ (by simpa using hlt)]
   rfl
section
variable {C:Ctx} {ρ:Env} {h:H} {ty:TypeId} {Q:Exit→Act→World→Prop} {J:Env→H→Prop} {dst:Option Tmp}
theorem OpE.ofAny {o:Op} (hd:okd C.n dst = true)
  (hr:∀ w,w.heap = h→∀ (pos:String) (after:Array Edge) (g:Option (Nat×Bool)),∃ v h' w',(execOp (ev ρ) ⟨dst,o,ty,pos,after,g⟩).run C.P w = .ok (.value v) w'∧w'.heap = h'∧w'.tape = w.tape∧w'.os = w.os∧w'.output = w.output∧J (upo ρ dst v) h'):OpE C Q o ty dst J ρ h:=by
 intro a w s pos after g
 obtain ⟨v,h',w',hr,hh,ht,ho,hu,hj⟩:=hr w s.heap pos after g
 unfold Oper.wp
 rw [s.evals,hr]
 have s1:=(s.put hd v).world ht ho hu
 rw [hh] at s1
 exact ⟨_,_,s1,hj⟩
theorem qdw (P:Program) {a:Addr} {ys:List Value} {w:World} (hw:WAt w.heap a ys.length) (h1:ys.all (·.oneCell') = true):(storeCells a ys).run P w = .ok () { w with heap:=putC w.heap a ys }:=by
 have:=qex P a hw.1 ys 0 w (by exact hw) h1
 exact this
theorem e_app {T e size bytes:Nat} {z:List Value} {s x:Sl} {k:Sl→H→Prop} {xo so:Operand} (hT:SlT C.P T e size) (hz:ZeroOf C.P e z) (hb:(C.P.info? e).map (·.bytes) = some bytes) (hs:ev ρ so = reg s) (hx:ev ρ xo = reg x) (hd:okd C.n dst = true)
  (hh:app e size bytes z s x k h) (hj:∀ (h':H) (r:Sl),k r h'→J (upo ρ dst (reg r)) h'):OpE C Q (.call ⟨.builtin .append,#[so,xo],#[T,T]⟩) ty dst J ρ h:=by
 obtain ⟨xs,ys,hxs,hys,h1,hroom,hgrow⟩:=hh
 obtain ⟨i,zv,hi,hzv,hzc⟩:=hz
 obtain ⟨hu,i',hi',hsz⟩:=hT
 rw [hi] at hi'
 obtain rfl:=Option.some.inj hi'
 rw [hi] at hb
 have hby:i.bytes = bytes:=Option.some.inj hb
 refine OpE.ofAny hd (fun w hw pos after g=>?_)
 have hlx:(Builtin.lenOf (reg x)).run C.P w = .ok x.len w:=by simp [reg,Builtin.lenOf]
 have hfx:=run_firstCellsR (P:=C.P) hys hw
 have hss:reg s = .slice s.a s.len s.cap:=rfl
 have hxx:reg x = .slice x.a x.len x.cap:=rfl
 by_cases hc:s.len + x.len≤s.cap
 ·obtain ⟨hwa,hk⟩:=hroom hc
  cases ha:s.a with
  | none=>
   refine ⟨reg (⟨s.a,s.len + x.len,s.cap⟩:Sl),h,w,?_,hw,rfl,rfl,rfl,?_⟩
   ·rw [hxx] at hfx
    simp [execOp,resolve,invoke,builtin,hs,hx,Builtin.append_,run_underlying hu,sizeOf,typeInfo,hi,hsz,Builtin.lenOf,hss,hxx,hc,hfx,ha,reg]
   ·have:=hk _ rfl
    rw [ha] at this
    simp only at this
    rw [ha]
    exact hj _ _ this
  | some a=>
   have hst:=qdw C.P (a:=a.add (s.len * size)) (ys:=ys) (w:=w) (by rw [hw]; exact hwa a ha) h1
   refine ⟨reg (⟨s.a,s.len + x.len,s.cap⟩:Sl),putC h (a.add (s.len * size)) ys,{ w with heap:=putC w.heap (a.add (s.len * size)) ys },?_,by rw [hw],rfl,rfl,rfl,?_⟩
   ·rw [hxx] at hfx
    simp [execOp,resolve,invoke,builtin,hs,hx,Builtin.append_,run_underlying hu,sizeOf,typeInfo,hi,hsz,Builtin.lenOf,hss,hxx,hc,hfx,ha,reg,hst]
   ·have:=hk _ rfl
    rw [ha] at this
    simp only at this
    rw [ha]
    exact hj _ _ this
 ·obtain ⟨hbb,h63,hk⟩:=hgrow (by omega)
  have hcap:=grownCap_ge w (s.len + x.len) s.cap e
  have h48:¬ (281474976710656 < Builtin.nextslicecap (s.len + x.len) s.cap * i.bytes):=by
   have:=growslice_fits (need:=s.len + x.len) (old:=s.cap) (bytes:=i.bytes) (by omega) (by rw [hby]; exact hbb)
   omega
  have h63':¬ (9223372036854775807 < ((s.len:Int) + (x.len:Int))):=by omega
  have hfs:=qdj (P:=C.P) hxs (w:=w.drew) (by exact hw)
  have hfx':=run_firstCellsR (P:=C.P) hys (w:=w.drew) (by exact hw)
  rw [hxx] at hfx'
  rw [hss] at hfs
  have hzf:=qe9 z (grownCap w (s.len + x.len) s.cap e - (s.len + x.len))
  refine ⟨reg (⟨some ⟨h.size,0,none⟩,s.len + x.len,grownCap w (s.len + x.len) s.cap e⟩:Sl),newC h e (xs ++ ys ++ (List.replicate (grownCap w (s.len + x.len) s.cap e - (s.len + x.len)) z).flatten),{ w.drew with heap:=newC h e (xs ++ ys ++ (List.replicate (grownCap w (s.len + x.len) s.cap e - (s.len + x.len)) z).flatten) },?_,rfl,rfl,rfl,rfl,hj _ _ (hk _ _ _ rfl hcap rfl)⟩
  subst hw
  have hdrew:({ w with drawn:=w.drawn + 1 }:World) = w.drew:=rfl
  simp only [execOp,resolve,invoke,builtin,hs,hx,Builtin.append_,List.map_cons,List.map_nil,List.map_toArray,hss,hxx]
  simp [run_underlying hu,sizeOf,typeInfo,zeroValue,hi,hzv,hsz,Builtin.lenOf,hc,h63',h48,Question.forced,hfs,hfx',newRow,grownCap,reg,newC] at hzf ⊢
  rw [hzc,hzf]
  simp
  rfl
def strC (s:ByteArray):List Value:=s.data.toList.map fun b=>reg b
theorem strC_one (x:ByteArray):(strC x).all (·.oneCell') = true:=by
 rw [List.all_eq_true]; intro v hv; simp only [strC,List.mem_map] at hv; obtain ⟨b,_,rfl⟩:=hv; rfl
def cpy (size:Nat) (d x:Sl) (k:Int→H→Prop):H→Prop:=fun h=>
 ∃ ys:List Value,SlC h ⟨x.a,min x.len d.len,x.cap⟩ size ys∧ys.all (·.oneCell') = true∧(∀ a,d.a = some a→WAt h a ys.length) ∧
  k ((min x.len d.len:Nat):Int) (match d.a with | some a=>putC h a ys | none=>h)
theorem e_cpy {T U e size:Nat} {d x:Sl} {k:Int→H→Prop} {dO xo:Operand} (hT:SlT C.P T e size) (hs:ev ρ dO = reg d) (hx:ev ρ xo = reg x) (hd:okd C.n dst = true)
  (hh:cpy size d x k h) (hj:∀ (h':H) (r:Int),k r h'→J (upo ρ dst (reg r)) h'):OpE C Q (.call ⟨.builtin .copy,#[dO,xo],#[T,U]⟩) ty dst J ρ h:=by
 obtain ⟨ys,hys,h1,hwa,hk⟩:=hh
 refine OpE.ofAny hd (fun w hw pos after g=>?_)
 have hss:reg d = .slice d.a d.len d.cap:=rfl
 have hxx:reg x = .slice x.a x.len x.cap:=rfl
 have hfx:=qdj (P:=C.P) hys hw
 have hfx':(Builtin.firstCells size (min x.len d.len) (.slice x.a x.len x.cap)).run C.P w = .ok ys.toArray w:=by
  have e0:Builtin.firstCells size (min x.len d.len) (.slice x.a x.len x.cap) = Builtin.firstCells size (min x.len d.len) (reg (⟨x.a,min x.len d.len,x.cap⟩:Sl)):=by
   simp only [reg]; cases x.a <;> rfl
  rw [e0]; exact hfx
 have hmin:Nat.min x.len d.len = min x.len d.len:=rfl
 cases ha:d.a with
 | none=>
  refine ⟨reg ((min x.len d.len:Nat):Int),h,w,?_,hw,rfl,rfl,rfl,?_⟩
  ·simp only [execOp,resolve,invoke,builtin,hs,hx,Builtin.copy_,List.map_cons,List.map_nil,List.map_toArray,hss,hxx,ha]
   simp [run_underlying hT.1,run_sizeOf hT.2,Builtin.lenOf,hmin,hfx',reg,goInt]
  ·rw [ha] at hk; exact hj _ _ hk
 | some a=>
  have hst:=qdw C.P (a:=a) (ys:=ys) (w:=w) (by rw [hw]; exact hwa a ha) h1
  refine ⟨reg ((min x.len d.len:Nat):Int),putC h a ys,{ w with heap:=putC w.heap a ys },?_,by rw [hw],rfl,rfl,rfl,?_⟩
  ·simp only [execOp,resolve,invoke,builtin,hs,hx,Builtin.copy_,List.map_cons,List.map_nil,List.map_toArray,hss,hxx,ha]
   simp [run_underlying hT.1,run_sizeOf hT.2,Builtin.lenOf,hmin,hfx',reg,goInt,hst]
  ·rw [ha] at hk; exact hj _ _ hk
def clr (z:List Value) (d:Sl) (k:H→Prop):H→Prop:=fun h=>
 (d.a = none∨d.len = 0→k h)∧∀ a,d.a = some a→d.len ≠ 0→WAt h a (d.len * z.length)∧k (putC h a (List.replicate d.len z).flatten)
theorem e_clr {T e size:Nat} {z:List Value} {d:Sl} {k:H→Prop} {dO:Operand} (hT:SlT C.P T e size) (hz:ZeroOf C.P e z) (h1:z.all (·.oneCell') = true) (hs:ev ρ dO = reg d) (hd:okd C.n dst = true)
  (hh:clr z d k h) (hj:∀ h':H,k h'→J (upo ρ dst (.tuple #[])) h'):OpE C Q (.call ⟨.builtin .clear,#[dO],#[T]⟩) ty dst J ρ h:=by
 obtain ⟨i,zv,hi,hzv,hzc⟩:=hz
 refine OpE.ofAny hd (fun w hw pos after g=>?_)
 have hss:reg d = .slice d.a d.len d.cap:=rfl
 cases ha:d.a with
 | none=>
  refine ⟨.tuple #[],h,w,?_,hw,rfl,rfl,rfl,hj _ (hh.1 (.inl ha))⟩
  simp only [execOp,resolve,invoke,builtin,hs,Builtin.clear_,List.map_cons,List.map_nil,List.map_toArray,hss,ha]
  simp [run_underlying hT.1]
 | some a=>
  cases hl:d.len with
  | zero=>
   refine ⟨.tuple #[],h,w,?_,hw,rfl,rfl,rfl,hj _ (hh.1 (.inr hl))⟩
   simp only [execOp,resolve,invoke,builtin,hs,Builtin.clear_,List.map_cons,List.map_nil,List.map_toArray,hss,ha,hl]
   simp [run_underlying hT.1]
  | succ m=>
   obtain ⟨hwa,hk⟩:=hh.2 a ha (by omega)
   have hlen:(List.replicate d.len z).flatten.length = d.len * z.length:=by simp
   have hone:(List.replicate d.len z).flatten.all (·.oneCell') = true:=by
    rw [List.all_eq_true] at h1 ⊢
    intro v hv
    simp only [List.mem_flatten,List.mem_replicate] at hv
    obtain ⟨l,⟨_,rfl⟩,hv⟩:=hv
    exact h1 v hv
   have hst:=qdw C.P (a:=a) (ys:=(List.replicate d.len z).flatten) (w:=w) (by rw [hw,hlen]; exact hwa) hone
   have hzf:=qe9 z d.len
   refine ⟨.tuple #[],putC h a (List.replicate d.len z).flatten,{ w with heap:=putC w.heap a (List.replicate d.len z).flatten },?_,by rw [hw],rfl,rfl,rfl,hj _ hk⟩
   simp only [execOp,resolve,invoke,builtin,hs,Builtin.clear_,List.map_cons,List.map_nil,List.map_toArray,hss,ha]
   rw [hl] at hst hzf ⊢
   simp [run_underlying hT.1,zeroValue,typeInfo,hi,hzv,hzc,hzf,hst]
def frz (h:H) (b:Nat):H:=match h[b]? with
 | some (.cells arr T fr)=>h.setIfInBounds b (.cells arr T (if fr.1 == fr.2 then (arr.size,arr.size + 1) else (min fr.1 arr.size,max fr.2 (arr.size + 1))))
 | _=>h
def strish (s:Sl) (k:Sl→H→Prop):H→Prop:=fun h=>∃ (a:Addr) (arr:Array Value) (T:Nat) (fr:Nat×Nat),s.a = some a∧h[a.block]? = some (.cells arr T fr)∧k s (frz h a.block)
theorem e_strish {T e:Nat} {s:Sl} {k:Sl→H→Prop} {x:Operand} (hT:SlT C.P T e 1) (he:C.P.underlying e = some (.int .u8)) (hx:ev ρ x = reg s) (hd:okd C.n dst = true)
  (hh:strish s k h) (hj:∀ (h':H) (r:Sl),k r h'→J (upo ρ dst (reg r)) h'):OpE C Q (.convert T T x) ty dst J ρ h:=by
 obtain ⟨a,arr,T',fr,ha,hb,hk⟩:=hh
 refine OpE.ofAny hd (fun w hw pos after g=>⟨reg s,frz h a.block,{ w with heap:=frz h a.block },?_,rfl,rfl,rfl,rfl,hj _ _ hk⟩)
 have hss:reg s = .slice (some a) s.len s.cap:=by simp only [reg,ha]
 have hsh:w.shape? a.block = some (T',arr.size):=by unfold World.shape?; rw [hw,hb]
 have hfr:w.freeze { block:=a.block,off:=arr.size } 1 = { w with heap:=frz h a.block }:=by
  have e1:(w.freeze { block:=a.block,off:=arr.size } 1).heap = frz h a.block:=by
   unfold World.freeze frz
   rw [hb,if_neg (by decide)]
   simp only
   subst hw
   apply Array.ext
   ·simp
   ·intro j h1 h2
    rw [Array.getElem_modify,Array.getElem_setIfInBounds]
    split
    ·rename_i e; subst e
     rw [Array.getElem?_eq_some_iff] at hb
     rw [hb.2]
    ·rfl
  have e2:w.freeze { block:=a.block,off:=arr.size } 1 = { w with heap:=(w.freeze { block:=a.block,off:=arr.size } 1).heap }:=by
   unfold World.freeze; rw [if_neg (by decide)]
  rw [e2,e1]
 simp only [execOp,hx,hss]
 simp [convert,run_underlying hT.1,run_underlying he,markStringish,hsh,hfr]
end
end Go.Sh

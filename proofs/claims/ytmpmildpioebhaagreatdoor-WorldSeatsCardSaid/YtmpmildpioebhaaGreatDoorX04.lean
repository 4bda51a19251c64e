/-
  The statement WorldSeats (law 23): a seat whose power goes off is gone, and comes back with nothing lost. Part 4 of 27. No condition stands ahead of the statement. Parts of this text were printed by a program of ours.
-/
import Derived.Test.YtmpmildpioebhaaGreatDoorX02
import Derived.Stop.BytesEq
import Derived.KernelRfl
set_option linter.all false
set_option maxRecDepth 100000
set_option maxHeartbeats 4000000
noncomputable section
namespace Go.Sh
open Go
open Go.Sh.Ty (reg)
section
variable {C:Ctx} {ρ:Env} {h:H} {ty:TypeId}
def Sl.cut (s:Sl) (size:Nat) (lo hi mx:Nat):Sl:=⟨if mx = lo then s.a else s.a.map (·.add (lo * size)),hi - lo,mx - lo⟩
theorem qe5 {x:Value} {k:IntKind} {i:Int} {y:Nat} {code:BoundsCode} (hx:x = .int k i) (h0:0≤i) (h1:i≤y) (w:World):(Instr.sliceBound x y code).run C.P w = .ok i.toNat w:=by
 subst hx; simp [Instr.sliceBound,asIntOf,h0,h1]
theorem v_slice_ll {x l:Operand} {s:Sl} {T e:TypeId} {size:Nat} {k:IntKind} {lo:Int} (hs:SlT C.P T e size) (hx:ev ρ x = reg s) (hl:ev ρ l = .int k lo) (h0:0≤lo) (h1:lo≤s.len):
  OpVal C (.slice T x (some l) none none) ty ρ h (reg (s.cut size lo.toNat s.len s.cap)):=by
 intro w hw pos after g d
 have hx':ev ρ x = .slice s.a s.len s.cap:=hx
 simp [execOp,hx',Instr.sliceAt,run_underlying hs.1,Instr.slice,Instr.sliceBounds,qe5 hl h0 h1,run_sizeOf hs.2,reg,Sl.cut]
theorem v_slice_hh {x r:Operand} {s:Sl} {T e:TypeId} {size:Nat} {k:IntKind} {hi:Int} (hs:SlT C.P T e size) (hx:ev ρ x = reg s) (hr:ev ρ r = .int k hi) (h0:0≤hi) (h1:hi≤s.cap):
  OpVal C (.slice T x none (some r) none) ty ρ h (reg (s.cut size 0 hi.toNat s.cap)):=by
 intro w hw pos after g d
 have hx':ev ρ x = .slice s.a s.len s.cap:=hx
 simp [execOp,hx',Instr.sliceAt,run_underlying hs.1,Instr.slice,Instr.sliceBounds,qe5 hr h0 h1,run_sizeOf hs.2,reg,Sl.cut]
theorem v_slice_lh {x l r:Operand} {s:Sl} {T e:TypeId} {size:Nat} {k k':IntKind} {lo hi:Int} (hs:SlT C.P T e size) (hx:ev ρ x = reg s) (hl:ev ρ l = .int k lo) (hr:ev ρ r = .int k' hi) (h0:0≤lo) (h1:lo≤hi) (h2:hi≤s.cap):
  OpVal C (.slice T x (some l) (some r) none) ty ρ h (reg (s.cut size lo.toNat hi.toNat s.cap)):=by
 intro w hw pos after g d
 have hx':ev ρ x = .slice s.a s.len s.cap:=hx
 simp [execOp,hx',Instr.sliceAt,run_underlying hs.1,Instr.slice,Instr.sliceBounds,qe5 hr (by omega) h2,qe5 hl h0 (show lo≤(hi.toNat:Int) by omega),run_sizeOf hs.2,reg,Sl.cut]
theorem v_slice_hm {x r m:Operand} {s:Sl} {T e:TypeId} {size:Nat} {k k':IntKind} {hi mx:Int} (hs:SlT C.P T e size) (hx:ev ρ x = reg s) (hr:ev ρ r = .int k hi) (hm:ev ρ m = .int k' mx) (h0:0≤hi) (h1:hi≤mx) (h2:mx≤s.cap):
  OpVal C (.slice T x none (some r) (some m)) ty ρ h (reg (s.cut size 0 hi.toNat mx.toNat)):=by
 intro w hw pos after g d
 have hx':ev ρ x = .slice s.a s.len s.cap:=hx
 simp [execOp,hx',Instr.sliceAt,run_underlying hs.1,Instr.slice,Instr.sliceBounds,qe5 hm (by omega) h2,qe5 hr h0 (show hi≤(mx.toNat:Int) by omega),run_sizeOf hs.2,reg,Sl.cut]
theorem qds {x:Operand} {p:Addr} {T e:TypeId} {n size:Nat} (hs:ArrT C.P T n e size) (hx:ev ρ x = .pointer (some p)):
  OpVal C (.slice T x none none none) ty ρ h (reg (Sl.cut ⟨some p,n,n⟩ size 0 n n)):=by
 intro w hw pos after g d
 simp [execOp,hx,Instr.sliceAt,run_underlying hs.1,Instr.sliceBounds,run_sizeOf hs.2,reg,Sl.cut,Instr.sureAddr,asAddr]
 try split <;> rfl
theorem v_slice_al {x l:Operand} {p:Addr} {T e:TypeId} {n size:Nat} {k:IntKind} {lo:Int} (hs:ArrT C.P T n e size) (hx:ev ρ x = .pointer (some p)) (hl:ev ρ l = .int k lo) (h0:0≤lo) (h1:lo≤n):
  OpVal C (.slice T x (some l) none none) ty ρ h (reg (Sl.cut ⟨some p,n,n⟩ size lo.toNat n n)):=by
 intro w hw pos after g d
 simp [execOp,hx,Instr.sliceAt,run_underlying hs.1,Instr.sliceBounds,qe5 hl h0 h1,run_sizeOf hs.2,reg,Sl.cut,Instr.sureAddr,asAddr]
 try split <;> rfl
theorem v_idx_sl {x i:Operand} {a:Addr} {n c:Nat} {T e:TypeId} {size:Nat} {k:IntKind} {j:Int} (hs:SlT C.P T e size) (hx:ev ρ x = .slice (some a) n c) (hi:ev ρ i = .int k j) (h0:0≤j) (h1:j < n):
  OpVal C (.indexAddr T x i) ty ρ h (.pointer (some (a.add (j.toNat * size)))):=by
 intro w hw pos after g d
 simp [execOp,hx,hi,Instr.indexAt,run_underlying hs.1,asIntOf,h0,h1,run_sizeOf hs.2]
theorem v_idx_arr {x i:Operand} {p:Addr} {T e:TypeId} {n size:Nat} {k:IntKind} {j:Int} (hs:ArrT C.P T n e size) (hx:ev ρ x = .pointer (some p)) (hi:ev ρ i = .int k j) (h0:0≤j) (h1:j < n):
  OpVal C (.indexAddr T x i) ty ρ h (.pointer (some (p.add (j.toNat * size)))):=by
 intro w hw pos after g d
 simp [execOp,hx,hi,Instr.indexAt,run_underlying hs.1,asIntOf,h0,h1,run_sizeOf hs.2,Instr.sureAddr,asAddr]
theorem v_index1 {x i:Operand} {cs:Array Value} {T e:TypeId} {n:Nat} {k:IntKind} {j:Int} {v:Value} (hs:ArrT C.P T n e 1) (he:NotAgg C.P e) (hx:ev ρ x = .agg cs) (hi:ev ρ i = .int k j) (h0:0≤j) (h1:j < n) (hv:cs[j.toNat]? = some v):
  OpVal C (.index T x i) ty ρ h v:=by
 intro w hw pos after g d
 simp [execOp,hx,hi,Instr.index,run_underlying hs.1,asIntOf,h0,h1,run_sizeOf hs.2,part,qe3 he,hv]
theorem v_index_str {x i:Operand} {s:ByteArray} {T:TypeId} {k:IntKind} {j:Int} {b:UInt8} (hs:C.P.underlying T = some .string) (hx:ev ρ x = reg s) (hi:ev ρ i = .int k j) (h0:0≤j) (hb:s[j.toNat]? = some b):
  OpVal C (.index T x i) ty ρ h (reg b):=by
 intro w hw pos after g d
 have hx':ev ρ x = .string s:=hx
 simp [execOp,hx',hi,Instr.index,run_underlying hs,asIntOf,h0,hb,reg]
theorem qag {x:Operand} {s:Sl} {T e:TypeId} (hs:C.P.underlying T = some (.slice e)) (hx:ev ρ x = reg s):OpVal C (.call ⟨.builtin .len,#[x],#[T]⟩) ty ρ h (reg (s.len:Int)):=by
 intro w hw pos after g d
 have hx':ev ρ x = .slice s.a s.len s.cap:=hx
 simp [execOp,hx',resolve,invoke,builtin,Builtin.len_,run_underlying hs,reg,goInt]
theorem v_len_str {x:Operand} {s:ByteArray} {T:TypeId} (hs:C.P.underlying T = some .string) (hx:ev ρ x = reg s):OpVal C (.call ⟨.builtin .len,#[x],#[T]⟩) ty ρ h (reg (s.size:Int)):=by
 intro w hw pos after g d
 have hx':ev ρ x = .string s:=hx
 simp [execOp,hx',resolve,invoke,builtin,Builtin.len_,run_underlying hs,reg,goInt]
theorem v_len_map {x:Operand} {r:Nat} {T k e:TypeId} {es:Array MapEntry} {clk:Nat} (hs:C.P.underlying T = some (.map k e)) (hx:ev ρ x = .map (some r)) (hr:h[r]? = some (.map es clk)):OpVal C (.call ⟨.builtin .len,#[x],#[T]⟩) ty ρ h (reg (es.size:Int)):=by
 intro w hw pos after g d
 subst hw
 simp [execOp,hx,resolve,invoke,builtin,Builtin.len_,run_underlying hs,reg,goInt,getObj,Sem.run,hr]
def imin (a b:Int):Int:=if b < a then b else a
def imax (a b:Int):Int:=if b > a then b else a
theorem v_min {x y:Operand} {a b:Int} {ts:Array TypeId} (hx:ev ρ x = .int .i64 a) (hy:ev ρ y = .int .i64 b):OpVal C (.call ⟨.builtin .min,#[x,y],ts⟩) ty ρ h (reg (imin a b)):=by
 intro w hw pos after g d
 simp [execOp,hx,hy,resolve,invoke,builtin,Builtin.min_,Builtin.min2,reg,imin]
theorem v_max {x y:Operand} {a b:Int} {ts:Array TypeId} (hx:ev ρ x = .int .i64 a) (hy:ev ρ y = .int .i64 b):OpVal C (.call ⟨.builtin .max,#[x,y],ts⟩) ty ρ h (reg (imax a b)):=by
 intro w hw pos after g d
 simp [execOp,hx,hy,resolve,invoke,builtin,Builtin.max_,Builtin.max2,reg,imax]
theorem v_real {x:Operand} {a:Cx} {ts:Array TypeId} (hx:ev ρ x = reg a):OpVal C (.call ⟨.builtin .real,#[x],ts⟩) ty ρ h (reg (⟨a.re⟩:Fl)):=by
 intro w hw pos after g d
 have hx':ev ρ x = .complex .f64 a.re a.im:=hx
 have hr:Builtin.real_ ts ty #[.complex .f64 a.re a.im] = pure (reg (⟨a.re⟩:Fl)):=rfl
 simp [execOp,hx',resolve,invoke,builtin,hr]
theorem v_imag {x:Operand} {a:Cx} {ts:Array TypeId} (hx:ev ρ x = reg a):OpVal C (.call ⟨.builtin .imag,#[x],ts⟩) ty ρ h (reg (⟨a.im⟩:Fl)):=by
 intro w hw pos after g d
 have hx':ev ρ x = .complex .f64 a.re a.im:=hx
 have hr:Builtin.imag_ ts ty #[.complex .f64 a.re a.im] = pure (reg (⟨a.im⟩:Fl)):=rfl
 simp [execOp,hx',resolve,invoke,builtin,hr]
theorem v_complex {x y:Operand} {a b:Fl} {ts:Array TypeId} (hx:ev ρ x = reg a) (hy:ev ρ y = reg b):OpVal C (.call ⟨.builtin .complex,#[x,y],ts⟩) ty ρ h (reg (⟨a.b,b.b⟩:Cx)):=by
 intro w hw pos after g d
 have hx':ev ρ x = .float .f64 a.b:=hx
 have hy':ev ρ y = .float .f64 b.b:=hy
 have hr:Builtin.complex_ ts ty #[.float .f64 a.b,.float .f64 b.b] = pure (reg (⟨a.b,b.b⟩:Cx)):=rfl
 simp [execOp,hx',hy',resolve,invoke,builtin,hr]
def PtT (P:Program) (t:TypeId):Prop:=∃ e,P.underlying t = some (.pointer e)
theorem equal_nil {P:Program} {T:TypeId} (hT:PtT P T) (p:Option Addr) (w:World):(Op.equal T (.pointer p) (.pointer none)).run P w = .ok p.isNone w:=by
 obtain ⟨e,he⟩:=hT
 unfold Op.equal Op.maxDepth Op.equalIn
 cases p <;> simp [run_underlying he]
theorem binOp_eql_ptr (T:TypeId) (p q:Option Addr):binOp .eql T (.pointer p) (.pointer q) = (do pure (.bool (← Op.equal T (.pointer p) (.pointer q)))):=by
 cases p <;> cases q <;> rfl
theorem binOp_neq_ptr (T:TypeId) (p q:Option Addr):binOp .neq T (.pointer p) (.pointer q) = (do pure (.bool (!(← Op.equal T (.pointer p) (.pointer q))))):=by
 cases p <;> cases q <;> rfl
theorem qbq {x y:Operand} {p:Option Addr} {T T':TypeId} (hT:PtT C.P T) (hx:ev ρ x = .pointer p) (hy:ev ρ y = .pointer none):OpVal C (.binOp .eql T x y T') ty ρ h (reg p.isNone):=by
 intro w hw pos after g d
 simp only [execOp,hx,hy,eqGuard,binOp_eql_ptr]
 simp [equal_nil hT,reg]
theorem v_ne_nil {x y:Operand} {p:Option Addr} {T T':TypeId} (hT:PtT C.P T) (hx:ev ρ x = .pointer p) (hy:ev ρ y = .pointer none):OpVal C (.binOp .neq T x y T') ty ρ h (reg p.isSome):=by
 intro w hw pos after g d
 simp only [execOp,hx,hy,eqGuard,binOp_neq_ptr]
 simp [equal_nil hT,reg]
structure BytesT (P:Program) (t:TypeId) (n:Nat):Prop where
 e:∃ e,P.underlying t = some (.array n e)∧P.underlying e = some (.int .u8)∧SizeOf P e 1
 g:P.eqGuardType P.depth t = false
theorem reg_arr8 {n:Nat} (a:Arr n UInt8):reg a = .agg (((List.ofFn a).map Extern.Stop.cell).toArray):=by
 simp only [reg,List.map_ofFn]; rfl
instance {n:Nat}:DecidableEq (Arr n UInt8):=fun a b=>
 decidable_of_iff (List.ofFn a = List.ofFn b) ⟨fun e=>by
  funext i
  have:=congrArg (fun l=>l[i.1]?) e
  simpa using this,fun e=>by rw [e]⟩
theorem equal_arr8 {P:Program} {n:Nat} {T:TypeId} (hT:BytesT P T n) (a b:Arr n UInt8) (w:World):(Op.equal T (reg a) (reg b)).run P w = .ok (decide (a = b)) w:=by
 obtain ⟨⟨e,h1,h2,h3⟩,hg⟩:=hT
 rw [reg_arr8,reg_arr8]
 have:=Go.run_equalIn_bytes (P:=P) w 9998 T e n h1 h2 (run_sizeOf h3) (List.ofFn a) (List.ofFn b) (by simp) (by simp)
 have e2:(List.ofFn a == List.ofFn b) = decide (a = b):=by
  rw [Bool.eq_iff_iff]; simp only [beq_iff_eq,decide_eq_true_eq]
  exact ⟨fun e=>by funext i; have:=congrArg (fun l=>l[i.1]?) e; simpa using this,fun e=>by rw [e]⟩
 rw [← e2]
 exact this
end
def newC (h:H) (T:TypeId) (cs:List Value):H:=h.push (.cells cs.toArray T (0,0))
def splice (arr:Array Value) (o:Nat) (cs:List Value):Array Value:=(arr.toList.take o ++ cs ++ arr.toList.drop (o + cs.length)).toArray
def putC (h:H) (p:Addr) (cs:List Value):H:=match h[p.block]? with
 | some (.cells arr T fr)=>h.setIfInBounds p.block (.cells (splice arr p.off cs) T fr)
 | _=>h
def WAt (h:H) (p:Addr) (n:Nat):Prop:=
 p.spot = none∧∃ arr T fr,h[p.block]? = some (.cells arr T fr)∧p.off + n≤arr.size∧∀ i,i < n→¬ (fr.1≤p.off + i∧p.off + i < fr.2)
theorem putC_at {h:H} {p:Addr} {arr:Array Value} {T:TypeId} {fr:Nat×Nat} (hb:h[p.block]? = some (.cells arr T fr)) (cs:List Value):putC h p cs = h.setIfInBounds p.block (.cells (splice arr p.off cs) T fr):=by
 unfold putC; rw [hb]
theorem qdb {p:Addr} (hs:p.spot = none) (i:Nat):p.add i = ⟨p.block,p.off + i,none⟩:=by
 unfold Addr.add; split
 ·rename_i h; subst h; cases p; simp_all
 ·rfl
theorem add_add (p:Addr) (i j:Nat):(p.add i).add j = p.add (i + j):=by
 unfold Addr.add
 by_cases hi:i = 0
 ·subst hi; simp
 ·by_cases hj:j = 0
  ·subst hj; simp [hi]
  ·simp [hi,hj,Nat.add_assoc]
theorem WAt.sub {h:H} {p:Addr} {n:Nat} (H:WAt h p n) (off m:Nat) (hm:off + m≤n):WAt h (p.add off) m:=by
 obtain ⟨hs,arr,T,fr,hb,hn,hf⟩:=H
 rw [qdb hs]
 refine ⟨rfl,arr,T,fr,hb,by show p.off + off + m≤arr.size; omega,fun i hi=>?_⟩
 have:=hf (off + i) (by omega)
 rw [← Nat.add_assoc] at this
 exact this
theorem splice_nil (arr:Array Value) (o:Nat):splice arr o [] = arr:=by simp [splice]
theorem splice_set (arr:Array Value) (o:Nat) (v:Value) (rest:List Value) (ho:o < arr.size):
  splice (arr.setIfInBounds o v) (o + 1) rest = splice arr o (v :: rest):=by
 unfold splice
 congr 1
 obtain ⟨A,c,B,hl,hA⟩:∃ A c B,arr.toList = A ++ c :: B∧A.length = o:=
  ⟨arr.toList.take o,arr.toList[o]'(by simpa using ho),arr.toList.drop (o + 1),by rw [List.getElem_cons_drop,List.take_append_drop],by simp; omega⟩
 rw [Array.toList_setIfInBounds,hl]
 subst hA
 rw [List.set_append_right _ _ (Nat.le_refl _)]
 simp only [Nat.sub_self,List.set_cons_zero,List.length_cons,List.append_assoc]
 have t1:List.take (A.length + 1) (A ++ v :: B) = A ++ [v]:=by
  rw [show A ++ v :: B = (A ++ [v]) ++ B by simp,List.take_left' (by simp)]
 have d1:List.drop (A.length + 1 + rest.length) (A ++ v :: B) = List.drop rest.length B:=by
  rw [show A ++ v :: B = (A ++ [v]) ++ B by simp,← List.drop_drop,List.drop_left' (by simp)]
 have t2:List.take A.length (A ++ c :: B) = A:=List.take_left' rfl
 have d2:List.drop (A.length + (rest.length + 1)) (A ++ c :: B) = List.drop rest.length B:=by
  rw [← List.drop_drop,List.drop_left' rfl,List.drop_succ_cons]
 rw [t1,d1,t2,d2]
 simp
theorem qex (P:Program) (p:Addr) (hs:p.spot = none):∀ (vs:List Value) (i:Nat) (w:World),WAt w.heap (p.add i) vs.length→vs.all (·.oneCell') = true →
  (storeCells p vs i).run P w = .ok () { w with heap:=putC w.heap (p.add i) vs }
 | [],i,w,hw,_=>by
  obtain ⟨_,arr,T,fr,hb,hn,hf⟩:=hw
  have:putC w.heap (p.add i) [] = w.heap:=by
   unfold putC
   rw [hb]
   simp only [splice_nil]
   apply Array.ext
   ·simp
   ·intro j h1 h2
    rw [Array.getElem_setIfInBounds]
    split
    ·rename_i e; subst e
     rw [Array.getElem?_eq_some_iff] at hb
     exact hb.2.symm
    ·rfl
  simp [storeCells,this]
 | v :: rest,i,w,hw,h1=>by
  have hw2:=hw
  rw [qdb hs] at hw
  obtain ⟨_,arr,T,fr,hb,hn,hf⟩:=hw
  simp only at hb hn hf
  simp only [List.length_cons] at hn hf
  have h1':v.oneCell' = true∧rest.all (·.oneCell') = true:=by simpa using h1
  have hlt:p.off + i < arr.size:=by omega
  have hc:w.cell? (p.add i) = some arr[p.off + i]:=by
   rw [qdb hs]; simp [World.cell?,hb,hlt]
  have hfz:w.frozen? (p.add i) = false:=by
   rw [qdb hs]; simp only [World.frozen?,hb]
   have:=hf 0 (by omega)
   simp only [Nat.add_zero] at this
   simp; omega
  have hblk:p.block < w.heap.size:=by rw [Array.getElem?_eq_some_iff] at hb; exact hb.1
  have hheap:(w.setCell (p.add i) v).heap = w.heap.setIfInBounds p.block (.cells (arr.setIfInBounds (p.off + i) v) T fr):=by
   rw [qdb hs]; simp only [World.setCell]
   apply Array.ext
   ·simp
   ·intro j h1 h2
    rw [Array.getElem_modify,Array.getElem_setIfInBounds]
    split
    ·rename_i e; subst e
     rw [Array.getElem?_eq_some_iff] at hb
     rw [hb.2]
     simp
    ·rfl
  have hb':(w.setCell (p.add i) v).heap[p.block]? = some (.cells (arr.setIfInBounds (p.off + i) v) T fr):=by
   rw [hheap]; simp [hblk]
  have hw':WAt (w.setCell (p.add i) v).heap (p.add (i + 1)) rest.length:=by
   rw [qdb hs (i + 1)]
   refine ⟨rfl,_,T,fr,hb',by simp; omega,fun j hj=>?_⟩
   have:=hf (j + 1) (by omega)
   simp only
   rw [show p.off + (i + 1) + j = p.off + i + (j + 1) by omega]
   exact this
  have ih:=qex P p hs rest (i + 1) (w.setCell (p.add i) v) hw' h1'.2
  simp only [storeCells,Sem.run_bind]
  rw [run_store P w (p.add i) v .plain h1'.1]
  simp only [hc,hfz,Bool.false_eq_true,if_false,Result.andThen_ok]
  rw [ih]
  have:putC (w.setCell (p.add i) v).heap (p.add (i + 1)) rest = putC w.heap (p.add i) (v :: rest):=by
   rw [qdb hs i] at hb' ⊢
   rw [qdb hs (i + 1)]
   rw [putC_at (p:=⟨p.block,p.off + (i + 1),none⟩) hb',putC_at (p:=⟨p.block,p.off + i,none⟩) hb]
   rw [qdb hs i] at hheap
   simp only
   rw [hheap,← splice_set arr (p.off + i) v rest hlt]
   rw [show p.off + (i + 1) = p.off + i + 1 by omega]
   rw [Array.setIfInBounds_setIfInBounds]
  rw [this]
  have e1:(w.setCell (p.add i) v).tape = w.tape:=rfl
  have e2:(w.setCell (p.add i) v).drawn = w.drawn:=rfl
  have e3:(w.setCell (p.add i) v).os = w.os:=rfl
  have e4:(w.setCell (p.add i) v).output = w.output:=rfl
  rw [e1,e2,e3,e4]
theorem putC_field {h:H} {p:Addr} {cs nv:List Value} (off:Nat) (H:AtH h p cs) (hlen:off + nv.length≤cs.length):
  putC h (p.add off) nv = putC h p (cs.take off ++ nv ++ cs.drop (off + nv.length)):=by
 obtain ⟨hs,arr,T,fr,hb,hc⟩:=H
 rw [qdb hs]
 unfold putC
 simp only [hb]
 congr 2
 cases hcs:cs with
 | nil=>
  subst hcs
  have h0:off = 0∧nv = []:=⟨by simp only [List.length_nil] at hlen; omega,List.eq_nil_of_length_eq_zero (by simp only [List.length_nil] at hlen; omega)⟩
  obtain ⟨rfl,rfl⟩:=h0
  simp
 | cons c0 cr=>
  rw [← hcs]
  have hsz:p.off + cs.length≤arr.size:=by
   have hp:0 < cs.length:=by rw [hcs]; simp
   have:=hc (cs.length - 1) cs[cs.length - 1] (List.getElem?_eq_getElem (by omega))
   rw [Array.getElem?_eq_some_iff] at this
   obtain ⟨h3,_⟩:=this
   omega
  obtain ⟨A,B,hl,hA⟩:∃ A B,arr.toList = A ++ (cs ++ B)∧A.length = p.off:=by
   refine ⟨arr.toList.take p.off,arr.toList.drop (p.off + cs.length),?_,by simp; omega⟩
   have:cs = (arr.toList.drop p.off).take cs.length:=by
    apply List.ext_getElem?
    intro i
    rw [List.getElem?_take,List.getElem?_drop]
    split
    ·rename_i hi
     have:=hc i cs[i] (List.getElem?_eq_getElem hi)
     simp [this,hi]
    ·rename_i hi; rw [List.getElem?_eq_none (by omega)]
   conv=>rhs; rw [this]
   rw [show (List.take cs.length (List.drop p.off arr.toList)).length = cs.length by rw [← this]]
   rw [← List.drop_drop,List.take_append_drop,List.take_append_drop]
  obtain ⟨c1,c2,c3,hcc,h1,h2⟩:∃ c1 c2 c3,cs = c1 ++ (c2 ++ c3)∧c1.length = off∧c2.length = nv.length:=by
   refine ⟨cs.take off,(cs.drop off).take nv.length,cs.drop (off + nv.length),?_,by simp; omega,by simp; omega⟩
   rw [← List.drop_drop,List.take_append_drop,List.take_append_drop]
  unfold splice
  rw [hl,hcc,← hA,← h1]
  congr 1
  rw [show A.length + c1.length = (A ++ c1).length by simp]
  rw [show A ++ (c1 ++ (c2 ++ c3) ++ B) = (A ++ c1) ++ (c2 ++ (c3 ++ B)) by simp]
  rw [List.take_left',List.take_left' rfl]
  ·rw [← h2,show (A ++ c1).length + c2.length = (A ++ c1 ++ c2).length by simp [Nat.add_assoc],show A ++ c1 ++ (c2 ++ (c3 ++ B)) = (A ++ c1 ++ c2) ++ (c3 ++ B) by simp,List.drop_left']
   ·rw [show c1.length + c2.length = (c1 ++ c2).length by simp,show c1 ++ (c2 ++ c3) = (c1 ++ c2) ++ c3 by simp,List.drop_left' rfl]
    rw [show A ++ c1 ++ c2 ++ (c3 ++ B) = A ++ (c1 ++ c2 ++ c3) ++ B by simp]
    rw [show (A ++ (c1 ++ c2 ++ c3) ++ B).take A.length = A by simp]
    rw [List.drop_left']
    ·simp
    ·simp [h2]
   ·rfl
  ·rfl
section
variable {C:Ctx} {ρ:Env} {h:H} {ty:TypeId} {Q:Exit→Act→World→Prop} {J:Env→H→Prop} {dst:Option Tmp}
def OpE (C:Ctx) (Q:Exit→Act→World→Prop) (o:Op) (ty:TypeId) (dst:Option Tmp) (J:Env→H→Prop) (ρ:Env) (h:H):Prop:=
 ∀ a w,St C ρ h a w→∀ (pos:String) (after:Array Edge) (g:Option (Nat×Bool)),Oper.wp C.P ⟨dst,o,ty,pos,after,g⟩ a w (JA C J) Q
theorem OpE.of {o:Op} {v:Value} (hd:okd C.n dst = true) (h':H)
  (hr:∀ w,w.heap = h→∀ (pos:String) (after:Array Edge) (g:Option (Nat×Bool)),∃ w',(execOp (ev ρ) ⟨dst,o,ty,pos,after,g⟩).run C.P w = .ok (.value v) w'∧w'.heap = h'∧w'.tape = w.tape∧w'.os = w.os∧w'.output = w.output)
  (hj:J (upo ρ dst v) h'):OpE C Q o ty dst J ρ h:=by
 intro a w s pos after g
 obtain ⟨w',hr,hh,ht,ho,hu⟩:=hr w s.heap pos after g
 unfold Oper.wp
 rw [s.evals,hr]
 have s1:=(s.put hd v).world ht ho hu
 rw [hh] at s1
 exact ⟨_,_,s1,hj⟩
theorem OpE.ofSkip {o:Op} (h':H) (hd:dst = none)
  (hr:∀ w,w.heap = h→∀ (pos:String) (after:Array Edge) (g:Option (Nat×Bool)),∃ w',(execOp (ev ρ) ⟨dst,o,ty,pos,after,g⟩).run C.P w = .ok .skip w'∧w'.heap = h'∧w'.tape = w.tape∧w'.os = w.os∧w'.output = w.output)
  (hj:J ρ h'):OpE C Q o ty dst J ρ h:=by
 subst hd
 intro a w s pos after g
 obtain ⟨w',hr,hh,ht,ho,hu⟩:=hr w s.heap pos after g
 unfold Oper.wp
 rw [s.evals,hr]
 have s1:=s.world ht ho hu
 rw [hh] at s1
 exact ⟨_,_,s1,hj⟩
def ZeroOf (P:Program) (t:TypeId) (cs:List Value):Prop:=∃ i z,P.info? t = some i∧i.zero = some z∧z.cells = cs.toArray
theorem e_alloc {T:TypeId} {cs:List Value} (hz:ZeroOf C.P T cs) (hd:okd C.n dst = true) (hj:J (upo ρ dst (.pointer (some ⟨h.size,0,none⟩))) (newC h T cs)):OpE C Q (.alloc T) ty dst J ρ h:=by
 obtain ⟨i,z,hi,hz,hc⟩:=hz
 refine OpE.of hd (newC h T cs) (fun w hw pos after g=>⟨{ w with heap:=newC h T cs },?_,rfl,rfl,rfl,rfl⟩) hj
 subst hw
 simp [execOp,Instr.alloc,zeroValue,typeInfo,hi,hz,newVar,newRow,hc,newC]
theorem e_box {T:TypeId} {x:Operand} {v:Value} {cs:List Value} (hx:ev ρ x = v) (hv:v.cells = cs.toArray) (hd:okd C.n dst = true) (hj:J (upo ρ dst (.pointer (some ⟨h.size,0,none⟩))) (newC h T cs)):OpE C Q (.box T x) ty dst J ρ h:=by
 refine OpE.of hd (newC h T cs) (fun w hw pos after g=>⟨{ w with heap:=newC h T cs },?_,rfl,rfl,rfl,rfl⟩) hj
 subst hw
 simp [execOp,Instr.box,hx,newVar,newRow,hv,newC]
theorem e_store {T:TypeId} {x y:Operand} {v:Value} {p:Addr} {cs cs' nv:List Value} (off:Nat) (hx:ev ρ x = .pointer (some (p.add off))) (hy:ev ρ y = v) (hv:v.cells = nv.toArray) (hT:SizeOf C.P T nv.length)
  (h1:nv.all (·.oneCell') = true) (hat:AtH h p cs) (hw:WAt h p cs.length) (hl:Nat.ble (off + nv.length) cs.length = true) (hcs:cs.take off ++ nv ++ cs.drop (off + nv.length) = cs') (hj:J ρ (putC h p cs')):
  OpE C Q (.store T x y) ty none J ρ h:=by
 have hl':off + nv.length≤cs.length:=Nat.le_of_ble_eq_true hl
 refine OpE.ofSkip (putC h p cs') rfl (fun w hw' pos after g=>⟨{ w with heap:=putC h p cs' },?_,rfl,rfl,rfl,rfl⟩) hj
 subst hw'
 have hs:(p.add off).spot = none:=by rw [qdb hat.1]
 have hst:=qex C.P (p.add off) hs nv 0 w (by rw [show (p.add off).add 0 = p.add off from rfl]; exact hw.sub off _ hl') h1
 rw [show (p.add off).add 0 = p.add off from rfl,putC_field off hat hl',hcs] at hst
 simp [execOp,hx,hy,Instr.storeAt,Instr.sureAddr,storeVar,hv,run_sizeOf hT,hst]
end
def CallsH (P:Program) (f:FuncId) (args:Array Value) (h:H) (R:Value→H→Prop):Prop:=
 ∀ w,w.heap = h→Calls P f args w fun e w'=>∃ v,e = .returned v∧w'.tape = w.tape∧w'.os = w.os∧w'.output = w.output∧R v w'.heap
theorem CallsH.mono {P:Program} {f:FuncId} {args:Array Value} {h:H} {R R':Value→H→Prop} (hc:CallsH P f args h R) (hr:∀ v h',R v h'→R' v h'):CallsH P f args h R':=
 fun w hw=>(hc w hw).mono fun _ _ ⟨v,e,ht,ho,hu,r⟩=>⟨v,e,ht,ho,hu,hr _ _ r⟩
def RetOk (w0:World) (R:Value→H→Prop) (e:Ending) (w':World):Prop:=
 ∃ v,e = .returned v∧w'.tape = w0.tape∧w'.os = w0.os∧w'.output = w0.output∧R v w'.heap
def env0 (args:List Value):Env:=fun i=>args.getD i undef
theorem CallsH.of {P:Program} {f:FuncId} {fn:Func} {c:Code} (n:Nat) {args:List Value} {h:H} {R:Value→H→Prop} (hf:P.funcs[f]? = some fn) (hb:fn.body = some c) (hn:fn.ntmps = n) (ha:Nat.ble args.length n = true)
  (hh:∀ w0,CW ⟨P,w0,n⟩ c (bodyPost P fn (RetOk w0 R)) (env0 args) h):CallsH P f args.toArray h R:=by
 intro w hw
 refine (calls_of_wp (R:=RetOk w R) hf hb (hh w _ _ ?_)).mono fun e w' hr=>hr
 have ha':args.length≤n:=Nat.le_of_ble_eq_true ha
 refine ⟨fun t=>?_,by simp [hn]; omega,rfl,hw,rfl,rfl,rfl⟩
 simp only [env0,Array.getD_eq_getD_getElem?,List.getD_eq_getElem?_getD]
 rw [Array.getElem?_append]
 split
 ·simp
 ·rename_i hlt
  rw [Array.getElem?_replicate]
  rw [List.getElem?_eq_none (by simpa using hlt)]
  split <;> rfl
section
variable {P:Program} {w0:World} {n:Nat} {ρ:Env} {h:H} {fn:Func} {R:Value→H→Prop}
theorem ret1 {t:Tmp} (hr:fn.results = #[.tmp t]) {v:Value} (hv:ρ t = v) (hR:R v h):QN ⟨P,w0,n⟩ (bodyPost P fn (RetOk w0 R)) .ret ρ h:=by
 intro a w s
 refine ⟨s.defers,v,?_,v,rfl,s.tape,s.os,s.output,?_⟩
 ·have:=s.env t
  simp [results,hr,← hv,← this,Array.mapM_eq_mapM_toList]
 ·rw [s.heap]; exact hR
theorem ret0 (hr:fn.results = #[]) (hR:R (.tuple #[]) h):QN ⟨P,w0,n⟩ (bodyPost P fn (RetOk w0 R)) .ret ρ h:=by
 intro a w s
 refine ⟨s.defers,.tuple #[],?_,.tuple #[],rfl,s.tape,s.os,s.output,?_⟩
 ·simp [results,hr,Array.mapM_eq_mapM_toList]
 ·rw [s.heap]; exact hR
theorem ret0n (hr:fn.results = #[]) (hR:R (.tuple #[]) h):QN ⟨P,w0,n⟩ (bodyPost P fn (RetOk w0 R)) .normal ρ h:=by
 intro a w s
 refine ⟨s.defers,.tuple #[],?_,.tuple #[],rfl,s.tape,s.os,s.output,?_⟩
 ·simp [results,hr,Array.mapM_eq_mapM_toList]
 ·rw [s.heap]; exact hR
theorem ret2 {t u:Tmp} (hr:fn.results = #[.tmp t,.tmp u]) {v x:Value} (hv:ρ t = v) (hx:ρ u = x) (hR:R (.tuple #[v,x]) h):QN ⟨P,w0,n⟩ (bodyPost P fn (RetOk w0 R)) .ret ρ h:=by
 intro a w s
 refine ⟨s.defers,.tuple #[v,x],?_,.tuple #[v,x],rfl,s.tape,s.os,s.output,?_⟩
 ·have h1:=s.env t
  have h2:=s.env u
  simp [results,hr,← hv,← hx,← h1,← h2,Array.mapM_eq_mapM_toList]
 ·rw [s.heap]; exact hR
theorem ret3 {t u y:Tmp} (hr:fn.results = #[.tmp t,.tmp u,.tmp y]) {v x z:Value} (hv:ρ t = v) (hx:ρ u = x) (hz:ρ y = z) (hR:R (.tuple #[v,x,z]) h):QN ⟨P,w0,n⟩ (bodyPost P fn (RetOk w0 R)) .ret ρ h:=by
 intro a w s
 refine ⟨s.defers,.tuple #[v,x,z],?_,.tuple #[v,x,z],rfl,s.tape,s.os,s.output,?_⟩
 ·have h1:=s.env t
  have h2:=s.env u
  have h3:=s.env y
  simp [results,hr,← hv,← hx,← hz,← h1,← h2,← h3,Array.mapM_eq_mapM_toList]
 ·rw [s.heap]; exact hR
theorem run_loadVarA {T:TypeId} {m:Nat} {p:Addr} {cs:List Value} {w:World} (hT:IsAgg P T m) (hat:AtH h p cs) (hl:cs.length = m) (hw:w.heap = h):(loadVar T p).run P w = .ok (.agg cs.toArray) w:=by
 have:=run_loadCells_list (P:=P) (w:=w) p cs (fun j v hj=>cell?_of hw hat hj)
 rw [hl] at this
 simp [loadVar,qf0 hT,run_sizeOf hT.size,this]
theorem retc {t:Tmp} {T:TypeId} (hr:fn.results = #[.cell t T]) {m:Nat} {p:Addr} {cs:List Value} (hv:ρ t = .pointer (some p)) (hT:IsAgg P T m) (hat:AtH h p cs) (hl:cs.length = m) (hR:R (.agg cs.toArray) h):QN ⟨P,w0,n⟩ (bodyPost P fn (RetOk w0 R)) .ret ρ h:=by
 intro a w s
 have h1:=s.env t
 rw [hv,Array.getD_eq_getD_getElem?] at h1
 refine ⟨s.defers,.agg cs.toArray,?_,.agg cs.toArray,rfl,s.tape,s.os,s.output,?_⟩
 ·simp [results,hr,h1,Array.mapM_eq_mapM_toList,asAddr,run_loadVarA hT hat hl s.heap]
 ·rw [s.heap]; exact hR
theorem retc1 {t u:Tmp} {T:TypeId} (hr:fn.results = #[.cell t T,.tmp u]) {m:Nat} {p:Addr} {cs:List Value} {x:Value} (hv:ρ t = .pointer (some p)) (hT:IsAgg P T m) (hat:AtH h p cs) (hl:cs.length = m) (hx:ρ u = x) (hR:R (.tuple #[.agg cs.toArray,x]) h):QN ⟨P,w0,n⟩ (bodyPost P fn (RetOk w0 R)) .ret ρ h:=by
 intro a w s
 have h1:=s.env t
 rw [hv,Array.getD_eq_getD_getElem?] at h1
 have h2:=s.env u
 refine ⟨s.defers,.tuple #[.agg cs.toArray,x],?_,_,rfl,s.tape,s.os,s.output,?_⟩
 ·simp [results,hr,h1,← hx,← h2,Array.mapM_eq_mapM_toList,asAddr,run_loadVarA hT hat hl s.heap]
 ·rw [s.heap]; exact hR
end
section
variable {C:Ctx} {ρ:Env} {h:H} {ty:TypeId} {Q:Exit→Act→World→Prop} {J:Env→H→Prop} {dst:Option Tmp}
def FnOk (P : Program) (f : FuncId) : Prop := ∃ fn, P.funcs[f]? = some fn ∧ (fn.name == "runtime.NumGoroutine") = false ∧ fn.body.isNone = false
theorem run_callFunc {P:Program} {f:FuncId} (hf:FnOk P f) (vs:Array Value) (w:World):(callFunc f vs).run P w = .ok (.enter f vs) w:=by
 obtain ⟨fn,h1,h2,h3⟩:=hf
 unfold callFunc
 simp only [Sem.run_bind,run_program,Result.andThen_ok,h1,h2,h3,Bool.false_eq_true,if_false,Sem.run_pure]
theorem e_call {f:FuncId} {xs:Array Operand} {ts:Array TypeId} {vs:Array Value} (hf:FnOk C.P f) (hx:xs.map (ev ρ) = vs) (hd:okd C.n dst = true) (hc:CallsH C.P f vs h fun v h'=>J (upo ρ dst v) h'):
  OpE C Q (.call ⟨.value (.func f),xs,ts⟩) ty dst J ρ h:=by
 intro a w s pos after g
 unfold Oper.wp
 rw [s.evals]
 have hr:(execOp (ev ρ) ⟨dst,.call ⟨.value (.func f),xs,ts⟩,ty,pos,after,g⟩).run C.P w = .ok (.enter f vs) w:=by
  simp [execOp,resolve,ev,Deferred.ofValue,invoke,run_callFunc hf,hx]
 rw [hr]
 show Calls C.P f vs w _
 refine (hc w s.heap).mono ?_
 rintro e w' ⟨v,rfl,ht,ho,hu,hJ⟩
 exact ⟨_,_,(s.put hd v).world ht ho hu,hJ⟩
def fillL (place:Nat→Option (Nat×Nat)) (cells:List Value):List (Nat×Value)→Option (List Value)
 | []=>some cells
 | (i,v) :: rest=>match place i with
  | none=>none
  | some (off,size)=>if Nat.beq v.cells.size size && Nat.ble (off + size) cells.length then fillL place (cells.take off ++ v.cells.toList ++ cells.drop (off + size)) rest else none
theorem foldl_splice:∀ (vs:List Value) (o k:Nat) (cs:Array Value),o + k + vs.length≤cs.size →
  (vs.zipIdx k).foldl (fun cs (c,j)=>cs.setIfInBounds (o + j) c) cs = splice cs (o + k) vs
 | [],o,k,cs,_=>by simp [splice]
 | v :: vs,o,k,cs,h=>by
  simp only [List.zipIdx_cons,List.foldl_cons]
  simp only [List.length_cons] at h
  rw [foldl_splice vs o (k + 1) _ (by simp; omega),← splice_set cs (o + k) v vs (by omega)]
  rfl
theorem fill_of {place:Nat→Option (Nat×Nat)}:∀ (parts:List (Nat×Value)) (cells out:List Value),fillL place cells parts = some out→Instr.fill place cells.toArray parts = some out.toArray
 | [],cells,out,h=>by simp [fillL] at h; simp [Instr.fill,h]
 | (i,v) :: rest,cells,out,h=>by
  unfold fillL at h
  unfold Instr.fill
  split at h
  ·cases h
  ·rename_i off size hp
   rw [hp]
   simp only
   split at h
   ·rename_i hc
    rw [Bool.and_eq_true] at hc
    have e1:v.cells.size = size:=Nat.eq_of_beq_eq_true hc.1
    have e2:off + size≤cells.length:=Nat.le_of_ble_eq_true hc.2
    rw [if_neg (by simp [e1]; omega)]
    have:=foldl_splice v.cells.toList off 0 cells.toArray (by simp [e1]; omega)
    rw [← Array.foldl_toList,Array.toList_zipIdx,this]
    have e3:splice cells.toArray (off + 0) v.cells.toList = (cells.take off ++ v.cells.toList ++ cells.drop (off + size)).toArray:=by
     simp [splice,e1]
    rw [e3]
    exact fill_of rest _ _ h
   ·cases h
def PlacesT (P:Program) (t:TypeId) (ps:List (Nat×Nat)):Prop:=∃ fs,P.underlying t = some (.struct fs)∧fs.toList.mapM (fun f=>(P.info? f.type).map fun i=>(f.offset,i.size)) = some ps
theorem run_places {P:Program} (w:World):∀ (fs:List Field) (ps:List (Nat×Nat)),fs.mapM (fun f=>(P.info? f.type).map fun i=>(f.offset,i.size)) = some ps →
  (fs.mapM (m:=Sem) fun f=>do pure (f.offset,← sizeOf f.type)).run P w = .ok ps w
 | [],ps,h=>by simp at h; subst h; simp
 | f :: fs,ps,h=>by
  rw [List.mapM_cons] at h
  simp only [bind,Option.bind_eq_some_iff,Option.map_eq_some_iff,pure,Option.some.injEq] at h
  obtain ⟨_,⟨i,hi,rfl⟩,ps',hps,rfl⟩:=h
  have:=run_places w fs ps' hps
  rw [List.mapM_cons]
  simp only [Sem.run_bind,run_sizeOf ⟨i,hi,rfl⟩,Result.andThen_ok,Sem.run_pure] at this ⊢
  rw [this]
  simp
theorem v_build {t:TypeId} {parts:Array (Nat×Operand)} {z out:List Value} {ps:List (Nat×Nat)} {vs:List (Nat×Value)} (hz:ZeroOf C.P t z) (hp:PlacesT C.P t ps) (hv:parts.toList.map (fun p=>(p.1,ev ρ p.2)) = vs)
  (hf:fillL (fun i=>ps[i]?) z vs = some out):OpVal C (.build t parts) ty ρ h (.agg out.toArray):=by
 obtain ⟨i,zv,hi,hzv,hc⟩:=hz
 obtain ⟨fs,hu,hps⟩:=hp
 intro w hw pos after g d
 have h1:=run_places (P:=C.P) w fs.toList ps hps
 have h2:(parts.map fun (i,x)=>(i,ev ρ x)).toList = vs:=by simpa using hv
 have h3:=fill_of (place:=fun i=>ps.toArray[i]?) vs z out (by simpa using hf)
 have h4:(fs.mapM (m:=Sem) fun f=>do pure (f.offset,← sizeOf f.type)).run C.P w = .ok ps.toArray w:=by
  rw [Array.mapM_eq_mapM_toList]
  simp only [Sem.run_map]
  rw [h1]
  rfl
 simp only [execOp,Instr.build,Sem.run_bind,zeroValue,typeInfo,run_program,hi,Sem.run_pure,Result.andThen_ok,hzv,run_underlying hu,h4,h2,hc,h3]
theorem v_build_a {t e:TypeId} {n size:Nat} {parts:Array (Nat×Operand)} {z out:List Value} {vs:List (Nat×Value)} (hz:ZeroOf C.P t z) (hp:ArrT C.P t n e size) (hv:parts.toList.map (fun p=>(p.1,ev ρ p.2)) = vs)
  (hf:fillL (fun i=>some (i * size,size)) z vs = some out):OpVal C (.build t parts) ty ρ h (.agg out.toArray):=by
 obtain ⟨i,zv,hi,hzv,hc⟩:=hz
 obtain ⟨hu,hsz⟩:=hp
 intro w hw pos after g d
 have h2:(parts.map fun (i,x)=>(i,ev ρ x)).toList = vs:=by simpa using hv
 have h3:=fill_of (place:=fun i=>some (i * size,size)) vs z out hf
 simp only [execOp,Instr.build,Sem.run_bind,zeroValue,typeInfo,run_program,hi,Sem.run_pure,Result.andThen_ok,hzv,run_underlying hu,run_sizeOf hsz,h2,hc,h3]
theorem e_buildSlice {t e : TypeId} {n size : Nat} {parts : Array (Nat × Operand)} {z out : List Value} {vs : List (Nat × Value)} (hz : ZeroOf C.P e z) (hp : SlT C.P t e size) (hzl : z.length = size) (hv : parts.toList.map (fun p => (p.1, ev ρ p.2)) = vs)
    (hn : Nat.ble (n * size) 16777216 = true) (hf : fillL (fun i => some (i * size, size)) (List.replicate n z).flatten vs = some out) (hd : okd C.n dst = true)
    (hj : J (upo ρ dst (.slice (some ⟨h.size, 0, none⟩) n n)) (newC h e out)) : OpE C Q (.buildSlice t n parts) ty dst J ρ h := by
  obtain ⟨i, zv, hi, hzv, hc⟩ := hz
  obtain ⟨hu, hsz⟩ := hp
  have hn' : n * size ≤ 16777216 := Nat.le_of_ble_eq_true hn
  refine OpE.of hd (newC h e out) (fun w hw pos after g => ⟨{ w with heap := newC h e out }, ?_, rfl, rfl, rfl, rfl⟩) hj
  subst hw
  have h2 : (parts.map fun (i, x) => (i, ev ρ x)).toList = vs := by simpa using hv
  have h3 := fill_of (place := fun i => some (i * size, size)) vs _ out hf
  by_cases h0 : n * size = 0
  · have hz0 : ((Array.range (n * size)).map fun x => (#[] : Array Value)[x % (#[] : Array Value).size]!) = (List.replicate n z).flatten.toArray := by
      rw [h0]
      have : (List.replicate n z).flatten = [] := List.eq_nil_of_length_eq_zero (by simp [hzl, h0])
      rw [this]; simp
    simp only [execOp, Instr.buildSlice, Sem.run_bind, run_underlying hu, run_sizeOf hsz, Result.andThen_ok, Sem.run_ite, h0, show ¬ (0 > 2 ^ 24) by decide, if_false, if_true, Sem.run_pure] 
    rw [h0] at hz0
    simp only [h2, hz0, h3]
    simp [newRow, newC]
  · have hz1 : ((Array.range (n * size)).map fun x => zv.cells[x % zv.cells.size]!) = (List.replicate n z).flatten.toArray := by
      rw [hc]
      have hs0 : 0 < size := by rcases Nat.eq_zero_or_pos size with e | e; · subst e; simp at h0
                                · exact e
      apply Array.ext
      · simp [hzl]
      · intro j h1 h2
        simp only [Array.size_map, Array.size_range] at h1
        have hfl : ∀ (m j : Nat), j < m * size → (List.replicate m z).flatten[j]? = z[j % size]? := by
          intro m
          induction m with
          | zero => intro j hj; simp at hj
          | succ m ih =>
            intro j hj
            rw [List.replicate_succ, List.flatten_cons, List.getElem?_append, hzl]
            split
            · rename_i hlt; rw [Nat.mod_eq_of_lt hlt]
            · rename_i hge
              have e : (m + 1) * size = m * size + size := Nat.succ_mul m size
              rw [ih (j - size) (by omega), Nat.mod_eq_sub_mod (by omega : j ≥ size)]
        have := hfl n j h1
        have hlt : j % size < z.length := by rw [hzl]; exact Nat.mod_lt _ hs0
        rw [List.getElem?_eq_getElem hlt, List.getElem?_eq_some_iff] at this
        obtain ⟨h5, h6⟩ := this
        simp only [Array.getElem_map, Array.getElem_range, List.getElem_toArray, List.size_toArray, hzl]
        rw [h6, getElem!_pos _ _ (by simpa [hzl] using Nat.mod_lt _ hs0)]
        rfl
    simp only [execOp, Instr.buildSlice, Sem.run_bind, run_underlying hu, run_sizeOf hsz, Result.andThen_ok, Sem.run_ite, show ¬ (n * size > 2 ^ 24) by simp; omega, if_false, h0, zeroValue, typeInfo, run_program, hi, hzv, Sem.run_pure]
    simp only [h2, hz1, h3]
    simp [newRow, newC]
end
section
variable {C:Ctx} {ops:Array Oper} {Q:Exit→Act→World→Prop} {J:Env→H→Prop} {ρ:Env} {h:H} {os:List Oper} {o:Op} {ty:TypeId} {dst:Option Tmp} {pos:String} {after:Array Edge} {v:Value}
def gdt (g:Bool) (v:Value):Value:=cond g v undef
def gdf (g:Bool) (v:Value):Value:=cond g undef v
theorem gt {g:Bool} {v:Value} (hg:g = true):gdt g v = v:=by subst hg; rfl
theorem gf {g:Bool} {v:Value} (hg:g = false):gdf g v = v:=by subst hg; rfl
theorem OpW.val (hd:okd C.n dst = true) (hv:OpVal C o ty ρ h v) (hj:J (upo ρ dst v) h):OpW C ops Q ⟨dst,o,ty,pos,after,none⟩ J ρ h:=by
 intro a w s
 rw [if_pos (show Region.wanted ⟨dst,o,ty,pos,after,none⟩ (yielded ops a.tmps) = true from rfl)]
 unfold Oper.wp
 rw [s.evals,hv w s.heap]
 exact ⟨_,_,s.put hd v,hj⟩
theorem OpW.e (he:OpE C Q o ty dst J ρ h):OpW C ops Q ⟨dst,o,ty,pos,after,none⟩ J ρ h:=by
 intro a w s
 rw [if_pos (show Region.wanted ⟨dst,o,ty,pos,after,none⟩ (yielded ops a.tmps) = true from rfl)]
 exact he a w s _ _ _
theorem wanted_eq {a:Act} {w:World} (s:St C ρ h a w) {g:Nat×Bool} {t:Nat} {b:Bool} (ht:(ops[g.1]?).bind (·.dst) = some t) (hg:ρ t = .bool b) (htn:Nat.blt t C.n = true):
  Region.wanted ⟨dst,o,ty,pos,after,some g⟩ (yielded ops a.tmps) = (b == g.2):=by
 obtain ⟨g1,g2⟩:=g
 have:=s.env t
 have hlt:t < a.tmps.size:=by rw [s.size]; simpa [Nat.blt_eq] using htn
 simp only [Array.getD_eq_getD_getElem?,Array.getElem?_eq_getElem hlt,Option.getD_some] at this
 simp only [Region.wanted,yielded,ht,Option.bind_some,Array.getElem?_eq_getElem hlt,this,hg]
 cases b <;> cases g2 <;> rfl
theorem OpW.no {g:Nat×Bool} (t:Nat) (ht:(ops[g.1]?).bind (·.dst) = some t) (hg:ρ t = .bool (!g.2)) (htn:Nat.blt t C.n = true) (hd:okd C.n dst = true) (hj:J (upo ρ dst undef) h):
  OpW C ops Q ⟨dst,o,ty,pos,after,some g⟩ J ρ h:=by
 intro a w s
 rw [wanted_eq s ht hg htn,if_neg (by cases g.2 <;> simp)]
 exact ⟨_,_,s.put hd undef,hj⟩
theorem OpW.ye {g:Nat×Bool} (t:Nat) (ht:(ops[g.1]?).bind (·.dst) = some t) (hg:ρ t = .bool g.2) (htn:Nat.blt t C.n = true) (he:OpE C Q o ty dst J ρ h):
  OpW C ops Q ⟨dst,o,ty,pos,after,some g⟩ J ρ h:=by
 intro a w s
 rw [wanted_eq s ht hg htn,if_pos (by simp)]
 exact he a w s _ _ _
theorem OpW.yv {g:Nat×Bool} (t:Nat) (ht:(ops[g.1]?).bind (·.dst) = some t) (hg:ρ t = .bool g.2) (htn:Nat.blt t C.n = true) (hd:okd C.n dst = true) (hv:OpVal C o ty ρ h v) (hj:J (upo ρ dst v) h):
  OpW C ops Q ⟨dst,o,ty,pos,after,some g⟩ J ρ h:=by
 intro a w s
 rw [wanted_eq s ht hg htn,if_pos (by simp)]
 unfold Oper.wp
 rw [s.evals,hv w s.heap]
 exact ⟨_,_,s.put hd v,hj⟩
theorem OpW.tv {gi:Nat} {b:Bool} (t:Nat) (ht:(ops[gi]?).bind (·.dst) = some t) (hg:ρ t = .bool b) (htn:Nat.blt t C.n = true) (hd:okd C.n dst = true) (hv:b = true→OpVal C o ty ρ h v) (hj:J (upo ρ dst (gdt b v)) h):
  OpW C ops Q ⟨dst,o,ty,pos,after,some (gi,true)⟩ J ρ h:=by
 cases b
 ·exact OpW.no t ht hg htn hd hj
 ·exact OpW.yv t ht hg htn hd (hv rfl) hj
theorem OpW.fv {gi:Nat} {b:Bool} (t:Nat) (ht:(ops[gi]?).bind (·.dst) = some t) (hg:ρ t = .bool b) (htn:Nat.blt t C.n = true) (hd:okd C.n dst = true) (hv:b = false→OpVal C o ty ρ h v) (hj:J (upo ρ dst (gdf b v)) h):
  OpW C ops Q ⟨dst,o,ty,pos,after,some (gi,false)⟩ J ρ h:=by
 cases b
 ·exact OpW.yv t ht hg htn hd (hv rfl) hj
 ·exact OpW.no t ht hg htn hd hj
theorem RLK.val (hv:OpVal C o ty ρ h v) (hd:okd C.n dst = true) (hj:RLK C ops Q J os (upo ρ dst v) h):RLK C ops Q J (⟨dst,o,ty,pos,after,none⟩ :: os) ρ h:=.s (OpW.val hd hv hj)
theorem RLK.e (he:OpE C Q o ty dst (RLK C ops Q J os) ρ h):RLK C ops Q J (⟨dst,o,ty,pos,after,none⟩ :: os) ρ h:=.s (OpW.e he)
theorem RLK.no {g:Nat×Bool} (t:Nat) (ht:(ops[g.1]?).bind (·.dst) = some t) (hg:ρ t = .bool (!g.2)) (htn:Nat.blt t C.n = true) (hd:okd C.n dst = true) (hj:RLK C ops Q J os (upo ρ dst undef) h):RLK C ops Q J (⟨dst,o,ty,pos,after,some g⟩ :: os) ρ h:=.s (OpW.no t ht hg htn hd hj)
theorem RLK.ye {g:Nat×Bool} (t:Nat) (ht:(ops[g.1]?).bind (·.dst) = some t) (hg:ρ t = .bool g.2) (htn:Nat.blt t C.n = true) (he:OpE C Q o ty dst (RLK C ops Q J os) ρ h):RLK C ops Q J (⟨dst,o,ty,pos,after,some g⟩ :: os) ρ h:=.s (OpW.ye t ht hg htn he)
theorem RLK.yv {g:Nat×Bool} (t:Nat) (ht:(ops[g.1]?).bind (·.dst) = some t) (hg:ρ t = .bool g.2) (htn:Nat.blt t C.n = true) (hv:OpVal C o ty ρ h v) (hd:okd C.n dst = true) (hj:RLK C ops Q J os (upo ρ dst v) h):RLK C ops Q J (⟨dst,o,ty,pos,after,some g⟩ :: os) ρ h:=.s (OpW.yv t ht hg htn hd hv hj)
theorem RLK.tv {gi:Nat} {b:Bool} (t:Nat) (ht:(ops[gi]?).bind (·.dst) = some t) (hg:ρ t = .bool b) (htn:Nat.blt t C.n = true) (hv:b = true→OpVal C o ty ρ h v) (hd:okd C.n dst = true) (hj:RLK C ops Q J os (upo ρ dst (gdt b v)) h):RLK C ops Q J (⟨dst,o,ty,pos,after,some (gi,true)⟩ :: os) ρ h:=.s (OpW.tv t ht hg htn hd hv hj)
theorem RLK.fv {gi:Nat} {b:Bool} (t:Nat) (ht:(ops[gi]?).bind (·.dst) = some t) (hg:ρ t = .bool b) (htn:Nat.blt t C.n = true) (hv:b = false→OpVal C o ty ρ h v) (hd:okd C.n dst = true) (hj:RLK C ops Q J os (upo ρ dst (gdf b v)) h):RLK C ops Q J (⟨dst,o,ty,pos,after,some (gi,false)⟩ :: os) ρ h:=.s (OpW.fv t ht hg htn hd hv hj)
end
section
variable {C:Ctx} {ops:Array Oper} {Q:Exit→Act→World→Prop} {J:Env→H→Prop} {ρ:Env} {h:H} {R:List Nat} {T:Nat→H→Prop} {fuel:Nat} {listed:Array Bool}
theorem AW.mono {T':Nat→H→Prop} (ht:∀ i h,T i h→T' i h) (hh:AW C ops Q R T fuel listed ρ h):AW C ops Q R T' fuel listed ρ h:=
 fun hc a w s=>qfh (fun i w=>ht i w.heap) _ _ _ _ (hh hc a w s)
def takeOk (ops:Array Oper) (R:List Nat) (listed:Array Bool) (n i:Nat) (dst:Option Tmp):Bool:=
 okd n dst && R.contains i && Region.noSelect ops && (Region.ready .any ops listed).contains i && Region.free .any ops listed i
theorem AW.p (i:Nat) {o:Op} {dst:Option Tmp} {ty:TypeId} {pos:String} {after:Array Edge} {v:Value}
  (hi:ops[i]? = some ⟨dst,o,ty,pos,after,none⟩) (hk:takeOk ops R listed C.n i dst = true) (hQ:NoPanic C Q)
  (hy:∀ h',OpVal C o ty ρ h' v)
  (hh:AW C ops Q R T fuel (listed.setIfInBounds i true) (upo ρ dst v) h):
  AW C ops Q R T (fuel + 1) listed ρ h:=by
 simp only [takeOk,Bool.and_eq_true] at hk
 exact AW.t i v (fun _=>True) hi hk.1.1.1.1 hk.1.1.1.2 hk.1.1.2 hk.1.2 hk.2 hQ trivial (fun h' _=>hy h') (hh.mono fun _ _ h=>⟨h,.inr trivial⟩)
theorem AW.r (i:Nat) {o:Op} {dst:Option Tmp} {ty:TypeId} {pos:String} {after:Array Edge} {v:Value} (S:H→Prop)
  (hi:ops[i]? = some ⟨dst,o,ty,pos,after,none⟩) (hk:takeOk ops R listed C.n i dst = true) (hQ:NoPanic C Q)
  (hs:S h) (hy:∀ h',S h'→OpVal C o ty ρ h' v)
  (hh:AW C ops Q R (fun j h'=>T j h'∧(reachB ops ops.size i j = true∨S h')) fuel (listed.setIfInBounds i true) (upo ρ dst v) h):
  AW C ops Q R T (fuel + 1) listed ρ h:=by
 simp only [takeOk,Bool.and_eq_true] at hk
 exact AW.t i v S hi hk.1.1.1.1 hk.1.1.1.2 hk.1.1.2 hk.1.2 hk.2 hQ hs hy hh
theorem AW.no' (i:Nat) {o:Op} {dst:Option Tmp} {ty:TypeId} {pos:String} {after:Array Edge} {g:Nat×Bool} (t:Nat)
  (hi:ops[i]? = some ⟨dst,o,ty,pos,after,some g⟩) (ht:(ops[g.1]?).bind (·.dst) = some t) (hg:ρ t = .bool (!g.2)) (htn:Nat.blt t C.n = true)
  (hk:takeOk ops R listed C.n i dst = true) (hQ:NoPanic C Q)
  (hh:AW C ops Q R T fuel (listed.setIfInBounds i true) (upo ρ dst undef) h):
  AW C ops Q R T (fuel + 1) listed ρ h:=by
 simp only [takeOk,Bool.and_eq_true] at hk
 exact AW.no i t hi ht hg htn hk.1.1.1.1 hk.1.1.1.2 hk.1.1.2 hk.1.2 hk.2 hQ hh
theorem AW.yp (i:Nat) {o:Op} {dst:Option Tmp} {ty:TypeId} {pos:String} {after:Array Edge} {g:Nat×Bool} (t:Nat) {v:Value}
  (hi:ops[i]? = some ⟨dst,o,ty,pos,after,some g⟩) (ht:(ops[g.1]?).bind (·.dst) = some t) (hg:ρ t = .bool g.2) (htn:Nat.blt t C.n = true)
  (hk:takeOk ops R listed C.n i dst = true) (hQ:NoPanic C Q) (hy:∀ h',OpVal C o ty ρ h' v)
  (hh:AW C ops Q R T fuel (listed.setIfInBounds i true) (upo ρ dst v) h):
  AW C ops Q R T (fuel + 1) listed ρ h:=by
 simp only [takeOk,Bool.and_eq_true] at hk
 exact AW.tg i t v (fun _=>True) hi ht hg htn hk.1.1.1.1 hk.1.1.1.2 hk.1.1.2 hk.1.2 hk.2 hQ trivial (fun h' _=>hy h') (hh.mono fun _ _ h=>⟨h,.inr trivial⟩)
theorem AW.yr (i:Nat) {o:Op} {dst:Option Tmp} {ty:TypeId} {pos:String} {after:Array Edge} {g:Nat×Bool} (t:Nat) {v:Value} (S:H→Prop)
  (hi:ops[i]? = some ⟨dst,o,ty,pos,after,some g⟩) (ht:(ops[g.1]?).bind (·.dst) = some t) (hg:ρ t = .bool g.2) (htn:Nat.blt t C.n = true)
  (hk:takeOk ops R listed C.n i dst = true) (hQ:NoPanic C Q) (hs:S h) (hy:∀ h',S h'→OpVal C o ty ρ h' v)
  (hh:AW C ops Q R (fun j h'=>T j h'∧(reachB ops ops.size i j = true∨S h')) fuel (listed.setIfInBounds i true) (upo ρ dst v) h):
  AW C ops Q R T (fuel + 1) listed ρ h:=by
 simp only [takeOk,Bool.and_eq_true] at hk
 exact AW.tg i t v S hi ht hg htn hk.1.1.1.1 hk.1.1.1.2 hk.1.1.2 hk.1.2 hk.2 hQ hs hy hh
theorem NoPanic.body {P:Program} {w0:World} {n:Nat} {fn:Func} {R:Value→H→Prop}:NoPanic ⟨P,w0,n⟩ (bodyPost P fn (RetOk w0 R)):=by
 rintro c a a' w _ ⟨_,v,h,_⟩
 cases h
theorem NoPanic.then_ {K:Act→World→Prop} (hq:NoPanic C Q):NoPanic C (Exit.then K Q):=fun c a a' w hd h=>hq c a a' w hd h
theorem NoPanic.block {id:Nat} (hq:NoPanic C Q):NoPanic C (Exit.inBlock id Q):=fun c a a' w hd h=>hq c a a' w hd h
end
def AllEq (ρ:Env):List (Nat×Value)→Prop
 | []=>True
 | (d,v) :: r=>ρ d = v∧AllEq ρ r
theorem qn {ρ:Env}:∀ {l:List (Nat×Value)},AllEq ρ l→ρ = setl ρ l
 | [],_=>rfl
 | (d,v) :: r,h=>by
  have e:up ρ d v = ρ:=by
   funext i
   unfold up
   cases hb:Nat.beq i d with
   | false=>rfl
   | true=>rw [Nat.eq_of_beq_eq_true hb]; exact h.1.symm
  show ρ = setl (up ρ d v) r
  rw [e]
  exact qn h.2
theorem qek {C:Ctx} {ops:Array Oper} {ρ:Env} {h:H} {o:Op} {ty:TypeId} {dst:Option Tmp} {pos:String} {after:Array Edge} {a:Act} {w:World} (s:St C ρ h a w) {g:Nat×Bool} {t:Nat} (ht:(ops[g.1]?).bind (·.dst) = some t) (hg:ρ t = undef) (htn:Nat.blt t C.n = true):
  Region.wanted ⟨dst,o,ty,pos,after,some g⟩ (yielded ops a.tmps) = false:=by
 obtain ⟨g1,g2⟩:=g
 have:=s.env t
 have hlt:t < a.tmps.size:=by rw [s.size]; simpa [Nat.blt_eq] using htn
 simp only [Array.getD_eq_getD_getElem?,Array.getElem?_eq_getElem hlt,Option.getD_some] at this
 simp only [Region.wanted,yielded,ht,Option.bind_some,Array.getElem?_eq_getElem hlt,this,hg]
 cases g2 <;> rfl
section
variable {C:Ctx} {ops:Array Oper} {Q:Exit→Act→World→Prop} {J:Env→H→Prop} {ρ:Env} {h:H} {os:List Oper} {o:Op} {ty:TypeId} {dst:Option Tmp} {pos:String} {after:Array Edge} {R:List Nat} {T:Nat→H→Prop} {fuel:Nat} {listed:Array Bool}
theorem OpW.nu {g:Nat×Bool} (t:Nat) (ht:(ops[g.1]?).bind (·.dst) = some t) (hg:ρ t = undef) (htn:Nat.blt t C.n = true) (hd:okd C.n dst = true) (hj:J (upo ρ dst undef) h):
  OpW C ops Q ⟨dst,o,ty,pos,after,some g⟩ J ρ h:=by
 intro a w s
 rw [qek s ht hg htn,if_neg (by simp)]
 exact ⟨_,_,s.put hd undef,hj⟩
theorem RLK.nu {g:Nat×Bool} (t:Nat) (ht:(ops[g.1]?).bind (·.dst) = some t) (hg:ρ t = undef) (htn:Nat.blt t C.n = true) (hd:okd C.n dst = true) (hj:RLK C ops Q J os (upo ρ dst undef) h):RLK C ops Q J (⟨dst,o,ty,pos,after,some g⟩ :: os) ρ h:=.s (OpW.nu t ht hg htn hd hj)
theorem AW.nu (i:Nat) (t:Nat) {g:Nat×Bool}
  (hi:ops[i]? = some ⟨dst,o,ty,pos,after,some g⟩) (ht:(ops[g.1]?).bind (·.dst) = some t) (hg:ρ t = undef) (htn:Nat.blt t C.n = true)
  (hk:takeOk ops R listed C.n i dst = true) (hQ:NoPanic C Q)
  (hh:AW C ops Q R T fuel (listed.setIfInBounds i true) (upo ρ dst undef) h):
  AW C ops Q R T (fuel + 1) listed ρ h:=by
 simp only [takeOk,Bool.and_eq_true] at hk
 obtain ⟨⟨⟨⟨hd,hR⟩,hsel⟩,hr⟩,hf⟩:=hk
 intro hc a w s
 have hr':i ∈ Region.ready .any ops listed:=by simpa using hr
 have hw:=qek (C:=C) (ops:=ops) (o:=o) (ty:=ty) (dst:=dst) (pos:=pos) (after:=after) s ht hg htn
 refine qfn (S:=fun _=>True) (v:=undef) hi hR ops.size (Region.noSelect_spec hsel) (fun c a w hq=>hQ c _ _ w (by cases dst <;> rfl) hq) _ fuel listed a w hc
  (Region.free_spec hi hf) hr' (.inr ⟨hw,rfl⟩) trivial ?_
 exact qfh (fun _ _ h=>⟨h,.inr trivial⟩) _ _ _ _ (hh (hc.set hr') _ _ (s.put hd undef))
theorem CW.drawN {id:Nat} (n:Nat) (hn:ops.size = n) (hm:C.P.follows .mixedOrders = true) (R:List Nat)
  (hh:AW C ops Q R (fun _ _=>True) n (Array.replicate n false) ρ h):CW C (.region id ops true) Q ρ h:=by
 subst hn; exact CW.draw hm R hh
end
def box {α:Type} [Ty α] (T:TypeId) (x:α) (k:Addr→H→Prop):H→Prop:=fun h=>∀ p:Addr,p = ⟨h.size,0,none⟩→k p (newC h T (enc x))
def ld {σ α:Type} [Ty σ] (p:Addr) (g:σ→α) (k:α→H→Prop):H→Prop:=fun h=>∃ y:α,(∃ x:σ,AtH h p (enc x)∧g x = y)∧k y h
def st {σ:Type} [Ty σ] (p:Addr) (u:σ→σ) (k:H→Prop):H→Prop:=fun h=>∃ x:σ,AtH h p (enc x)∧WAt h p (enc x).length∧k (putC h p (enc (u x)))
def chk {σ α:Type} [Ty σ] (p:Addr) (g:σ→α) (v:α) (k:H→Prop):H→Prop:=fun h=>(∃ x:σ,AtH h p (enc x)∧g x = v)∧k h
def nn (x:Option Addr) (k:Addr→H→Prop):H→Prop:=fun h=>∃ p,x = some p∧k p h
def ifb (b:Bool) (x y:H→Prop):H→Prop:=fun h=>(b = true→x h)∧(b = false→y h)
def both (x y:H→Prop):H→Prop:=fun h=>x h∧y h
def must (p:Prop) (k:H→Prop):H→Prop:=fun h=>p∧k h
def getS {α:Type} (x:Option α) (k:α→H→Prop):H→Prop:=fun h=>∃ y,x = some y∧k y h
def bnd (j:Int) (n:Nat) (k:Fin n→H→Prop):H→Prop:=fun h=>∃ i:Fin n,j = (i.val:Int)∧k i h
def sidx (s:Sl) (j:Int) (size:Nat) (k:Addr→H→Prop):H→Prop:=fun h=>∃ p,((∃ a,s.a = some a∧p = a.add (j.toNat * size))∧0≤j∧j < s.len)∧k p h
def call {β:Type} [Ty β] (P:Program) (f:FuncId) (vs:List Value) (k:β→H→Prop):H→Prop:=fun h=>CallsH P f vs.toArray h fun v h'=>∃ r:β,v = reg r∧k r h'
def mks {α:Type} [Ty α] (T:TypeId) (l:List α) (k:Sl→H→Prop):H→Prop:=fun h=>∀ (p:Addr) (s:Sl),p = ⟨h.size,0,none⟩→s = ⟨some p,l.length,l.length⟩→k s (newC h T (l.map enc).flatten)
theorem qbl {b:Bool} {x y:H→Prop} {h:H} {G:Prop} (hh:ifb b x y h) (h1:b = true→x h→G) (h2:b = false→y h→G):G:=by
 cases b
 ·exact h2 rfl (hh.2 rfl)
 ·exact h1 rfl (hh.1 rfl)
def upd {n:Nat} {α:Type} (x:Arr n α) (i:Fin n) (v:α):Arr n α:=fun j=>if j = i then v else x j
def arrOf {n:Nat} {α:Type} [Inhabited α] (l:List α):Arr n α:=fun i=>l.getD i.val default
theorem qda {n:Nat} {α:Type} [Ty α] (i:Fin n) (x:Arr n α):(enc x)[i.val]? = some (reg (x i)):=by
 simp [enc,reg,Value.cells]
theorem qr {n:Nat} {α:Type} [Ty α] (x:Arr n α):(enc x).length = n:=by simp [enc,reg,Value.cells]
theorem arr_ble {n:Nat} {α:Type} [Ty α] (i:Fin n) (x:Arr n α) (v:List Value) (hv:v.length = 1):Nat.ble (i.val + v.length) (enc x).length = true:=by
 rw [qr,hv,Nat.ble_eq]; exact i.2
theorem arr_set {n:Nat} {α:Type} [Ty α] (i:Fin n) (x:Arr n α) (v:α) (hv:enc v = [reg v]):(enc x).take i.val ++ enc v ++ (enc x).drop (i.val + (enc v).length) = enc (upd x i v):=by
 rw [hv]
 apply List.ext_getElem?
 intro j
 have hl:=qr x
 have e:(enc (upd x i v))[j]? = if h:j < n then some (reg (upd x i v ⟨j,h⟩)) else none:=by
  simp only [enc,reg,Value.cells,List.getElem?_ofFn]
 have e2:(enc x)[j]? = if h:j < n then some (reg (x ⟨j,h⟩)) else none:=by
  simp only [enc,reg,Value.cells,List.getElem?_ofFn]
 rw [e]
 simp only [List.append_assoc,List.getElem?_append,List.length_take,hl,List.length_cons,List.length_nil,List.getElem?_take,List.getElem?_drop]
 have hi:=i.2
 by_cases h1:j < i.val
 ·rw [if_pos (by omega),if_pos h1,e2]
  have hjn:j < n:=by omega
  have hne:(⟨j,hjn⟩:Fin n) ≠ i:=fun e=>by have:=congrArg Fin.val e; simp at this; omega
  simp [hjn,upd,hne]
 ·by_cases h2:j = i.val
  ·subst h2
   rw [if_neg (by omega)]
   simp [show min i.val n = i.val by omega,upd]
  ·rw [if_neg (by omega),if_neg (by omega),show i.val + (0 + 1) + (j - min i.val n - (0 + 1)) = j by omega,e2]
   by_cases h3:j < n
   ·simp [h3,upd,show (⟨j,h3⟩:Fin n) ≠ i from fun e=>h2 (by have:=congrArg Fin.val e; simpa using this)]
   ·simp [h3]
section
variable {C:Ctx} {ρ:Env} {h:H} {ty:TypeId} {Q:Exit→Act→World→Prop} {J:Env→H→Prop} {dst:Option Tmp}
theorem qbx {c x y:Operand} {b:Bool} {v:Value} (hc:ev ρ c = .bool b) (hb:b = true) (hx:ev ρ x = v):OpVal C (.pick c x y) ty ρ h v:=by
 subst hb; intro w hw pos after g d; simp [execOp,hc,hx,asBool]
theorem qb0 {c x y:Operand} {b:Bool} {v:Value} (hc:ev ρ c = .bool b) (hb:b = false) (hy:ev ρ y = v):OpVal C (.pick c x y) ty ρ h v:=by
 subst hb; intro w hw pos after g d; simp [execOp,hc,hy,asBool]
theorem qc2 {σ α:Type} [Ty σ] [Ty α] {x:Operand} {T:TypeId} {p:Addr} {s:σ} {g:σ→α} {y:α} (off:Nat) (hT:NotAgg C.P T) (hx:ev ρ x = .pointer (some (p.add off))) (hat:AtH h p (enc s)) (hg:g s = y) (hf:∀ s:σ,(enc s)[off]? = some (reg (g s))):OpVal C (.load T x) ty ρ h (reg y):=
 v_load1 off hT hx hat (by rw [hf,hg])
theorem v_ldA {σ α:Type} [Ty σ] [Ty α] {x:Operand} {T:TypeId} {p:Addr} {s:σ} {g:σ→α} {y:α} {n:Nat} (off:Nat) (hT:IsAgg C.P T n) (hx:ev ρ x = .pointer (some (p.add off))) (hat:AtH h p (enc s)) (hg:g s = y) (hf:∀ s:σ,((enc s).drop off).take n = enc (g s)) (hl:∀ y:α,(enc y).length = n) (hr:∀ y:α,reg y = .agg (enc y).toArray):OpVal C (.load T x) ty ρ h (reg y):=by
 rw [hr y]
 exact v_loadA off hT hx hat (by rw [hf,hg]) (hl y)
theorem qaz {x i:Operand} {s:Sl} {p:Addr} {T e:TypeId} {size:Nat} {k:IntKind} {j:Int} (hs:SlT C.P T e size) (hx:ev ρ x = reg s) (hi:ev ρ i = .int k j) (hp:∃ a,s.a = some a∧p = a.add (j.toNat * size)) (h0:0≤j) (h1:j < s.len):
  OpVal C (.indexAddr T x i) ty ρ h (.pointer (some p)):=by
 obtain ⟨a,ha,rfl⟩:=hp
 have hx':ev ρ x = .slice (some a) s.len s.cap:=by rw [hx,← ha]; rfl
 exact v_idx_sl hs hx' hi h0 h1
theorem qay {x i:Operand} {p:Addr} {T e:TypeId} {n:Nat} {k:IntKind} {j:Int} {f:Fin n} (hs:ArrT C.P T n e 1) (hx:ev ρ x = .pointer (some p)) (hi:ev ρ i = .int k j) (hj:j = (f.val:Int)):
  OpVal C (.indexAddr T x i) ty ρ h (.pointer (some (p.add f.val))):=by
 subst hj
 have:=v_idx_arr (C:=C) (ty:=ty) (h:=h) hs hx hi (Int.natCast_nonneg _) (by have:=f.2; omega)
 simpa using this
theorem v_index1P {α:Type} [Ty α] {x i:Operand} {n:Nat} {a:Arr n α} {T e:TypeId} {k:IntKind} {j:Int} {f:Fin n} (hs:ArrT C.P T n e 1) (he:NotAgg C.P e) (hx:ev ρ x = reg a) (hi:ev ρ i = .int k j) (hj:j = (f.val:Int)):
  OpVal C (.index T x i) ty ρ h (reg (a f)):=by
 subst hj
 exact v_index1 (cs:=(List.ofFn fun i=>reg (a i)).toArray) hs he hx hi (Int.natCast_nonneg _) (by have:=f.2; omega) (by simp)
theorem qah {α:Type} [Ty α] {t:TypeId} {parts:Array (Nat×Operand)} {z:List Value} {ps:List (Nat×Nat)} {vs:List (Nat×Value)} (x:α) (hz:ZeroOf C.P t z) (hp:PlacesT C.P t ps) (hv:parts.toList.map (fun p=>(p.1,ev ρ p.2)) = vs)
  (hf:fillL (fun i=>ps[i]?) z vs = some (enc x)) (hr:reg x = .agg (enc x).toArray):OpVal C (.build t parts) ty ρ h (reg x):=by
 rw [hr]; exact v_build hz hp hv hf
theorem v_buildAT {α:Type} [Ty α] {t e:TypeId} {n size:Nat} {parts:Array (Nat×Operand)} {z:List Value} {vs:List (Nat×Value)} (x:α) (hz:ZeroOf C.P t z) (hp:ArrT C.P t n e size) (hv:parts.toList.map (fun p=>(p.1,ev ρ p.2)) = vs)
  (hf:fillL (fun i=>some (i * size,size)) z vs = some (enc x)) (hr:reg x = .agg (enc x).toArray):OpVal C (.build t parts) ty ρ h (reg x):=by
 rw [hr]; exact v_build_a hz hp hv hf
theorem qaq {T:TypeId} {cs:List Value} {p:Addr} (hp:p = ⟨h.size,0,none⟩) (hz:ZeroOf C.P T cs) (hd:okd C.n dst = true) (hj:J (upo ρ dst (.pointer (some p))) (newC h T cs)):OpE C Q (.alloc T) ty dst J ρ h:=by
 subst hp; exact e_alloc hz hd hj
theorem qan {T:TypeId} {x:Operand} {v:Value} {cs:List Value} {p:Addr} (hp:p = ⟨h.size,0,none⟩) (hx:ev ρ x = v) (hv:v.cells = cs.toArray) (hd:okd C.n dst = true) (hj:J (upo ρ dst (.pointer (some p))) (newC h T cs)):OpE C Q (.box T x) ty dst J ρ h:=by
 subst hp; exact e_box hx hv hd hj
theorem qc1 {α:Type} [Ty α] {t e:TypeId} {n size:Nat} {parts:Array (Nat×Operand)} {z:List Value} {vs:List (Nat×Value)} {p:Addr} {s:Sl} (l:List α) (hp:p = ⟨h.size,0,none⟩) (hs:s = ⟨some p,n,n⟩) (hz:ZeroOf C.P e z) (ht:SlT C.P t e size) (hzl:z.length = size) (hv:parts.toList.map (fun p=>(p.1,ev ρ p.2)) = vs)
  (hn:Nat.ble (n * size) 16777216 = true) (hf:fillL (fun i=>some (i * size,size)) (List.replicate n z).flatten vs = some (l.map enc).flatten) (hd:okd C.n dst = true)
  (hj:J (upo ρ dst (reg s)) (newC h e (l.map enc).flatten)):OpE C Q (.buildSlice t n parts) ty dst J ρ h:=by
 subst hp; subst hs; exact e_buildSlice hz ht hzl hv hn hf hd hj
theorem qw {β:Type} [Ty β] {f:FuncId} {xs:Array Operand} {ts:Array TypeId} {vs:List Value} {k:β→H→Prop} (hf:FnOk C.P f) (hx:xs.toList.map (ev ρ) = vs) (hd:okd C.n dst = true) (hc:call C.P f vs k h) (hj:∀ (h':H) (n:β),k n h'→J (upo ρ dst (reg n)) h'):
  OpE C Q (.call ⟨.value (.func f),xs,ts⟩) ty dst J ρ h:=by
 refine e_call hf (vs:=vs.toArray) ?_ hd (hc.mono ?_)
 ·subst hx; apply Array.toList_inj.1; simp
 ·rintro v h' ⟨r,rfl,hk⟩; exact hj _ _ hk
end
theorem SizeOf.of {P:Program} {t n:Nat} (h:(P.info? t).map (·.size) = some n):SizeOf P t n:=by
 rw [Option.map_eq_some_iff] at h; exact h
theorem ZeroOf.of {P:Program} {t:Nat} {cs:List Value} (h:((P.info? t).bind (·.zero)).map (·.cells) = some cs.toArray):ZeroOf P t cs:=by
 rw [Option.map_eq_some_iff] at h
 obtain ⟨z,hz,hc⟩:=h
 rw [Option.bind_eq_some_iff] at hz
 obtain ⟨i,hi,hz⟩:=hz
 exact ⟨i,z,hi,hz,hc⟩
theorem IsAgg.of {P:Program} {t n:Nat} (h:(match P.underlying t with | some (.struct _) | some (.array _ _)=>true | _=>false) = true) (hs:(P.info? t).map (·.size) = some n):IsAgg P t n:=by
 refine ⟨?_,SizeOf.of hs⟩
 split at h
 ·rename_i x e; exact ⟨_,e,.inl ⟨_,rfl⟩⟩
 ·rename_i m x e; exact ⟨_,e,.inr ⟨_,_,rfl⟩⟩
 ·cases h
theorem NotAgg.of {P:Program} {t:Nat} (h:(match P.underlying t with | some (.struct _) | some (.array _ _) | none=>false | _=>true) = true):NotAgg P t:=by
 cases e:P.underlying t with
 | none=>rw [e] at h; cases h
 | some d=>rw [e] at h; refine ⟨d,e,?_⟩; cases d <;> first | trivial | cases h
theorem FldAt.of {P:Program} {s f off:Nat} (n:Nat) (h:(match P.underlying s with | some (.struct fs)=>(fs[f]?).bind fun x=>(P.info? x.type).map fun i=>(x.offset,i.size) | _=>none) = some (off,n + 1)):FldAt P s f off:=by
 split at h
 ·rename_i fs e
  rw [Option.bind_eq_some_iff] at h
  obtain ⟨x,hx,h⟩:=h
  rw [Option.map_eq_some_iff] at h
  obtain ⟨i,hi,h⟩:=h
  obtain ⟨rfl,h2⟩:=Prod.mk.inj h
  exact ⟨fs,x,n,e,hx,rfl,i,hi,h2⟩
 ·cases h
theorem PlacesT.of {P:Program} {t:Nat} {ps:List (Nat×Nat)} (h:(match P.underlying t with | some (.struct fs)=>fs.toList.mapM (fun f=>(P.info? f.type).map fun i=>(f.offset,i.size)) | _=>none) = some ps):PlacesT P t ps:=by
 split at h
 ·rename_i fs e; exact ⟨fs,e,h⟩
 ·cases h
theorem qc3 {σ:Type} [Ty σ] {h:H} {p:Addr} {x y:σ} (hx:AtH h p (enc x)) (hg:(fun x:σ=>x) x = y):AtH h p (enc y):=by
 have hg':x = y:=hg
 rw [← hg']; exact hx
theorem qp (x:Int):(enc x).length = 1:=rfl
theorem len_b (x:Bool):(enc x).length = 1:=rfl
theorem qb6 (x:UInt8):(enc x).length = 1:=rfl
theorem len_s (x:ByteArray):(enc x).length = 1:=rfl
theorem yj (x:Sl):(enc x).length = 1:=rfl
theorem qx (x:Option Addr):(enc x).length = 1:=rfl
theorem yq (x:Mp):(enc x).length = 1:=rfl
theorem qcj (x:Cx):(enc x).length = 1:=rfl
theorem qaw {M S:List Value} {n:Nat} (hm:M.length = n):((M ++ S).drop 0).take n = M:=by subst hm; simp
theorem qa0 {M:List Value} {n:Nat} (hm:M.length = n):(M.drop 0).take n = M:=by subst hm; simp
theorem yd {A R M:List Value} {a o n:Nat} (ha:A.length = a) (h:(R.drop o).take n = M):((A ++ R).drop (a + o)).take n = M:=by
 subst ha; rw [← h,← List.drop_drop,List.drop_left' rfl]
theorem qav {l:List Value} {o:Nat} {v:Value} (h:(l.drop o).take 1 = [v]):l[o]? = some v:=by
 have:=congrArg (fun l=>l[0]?) h
 simpa [List.getElem?_take,List.getElem?_drop] using this
theorem get_sub {l M r:List Value} {a n b k:Nat} (h:(l.drop a).take n = M) (h2:(M.drop b).take k = r) (hb:Nat.ble (b + k) n = true):(l.drop (a + b)).take k = r:=by
 have hb':b + k≤n:=Nat.le_of_ble_eq_true hb
 rw [← h2,← h,List.drop_take,List.take_take,Nat.min_eq_left (by omega),List.drop_drop]
theorem yz {M M' S:List Value} (h:M.length = M'.length):(M ++ S).take 0 ++ M' ++ (M ++ S).drop (0 + M'.length) = M' ++ S:=by
 rw [Nat.zero_add,← h,List.drop_left' rfl]; simp
theorem qa6 {M M':List Value} (h:M.length = M'.length):M.take 0 ++ M' ++ M.drop (0 + M'.length) = M':=by
 rw [Nat.zero_add,← h]; simp
theorem qc {A R M R':List Value} {a o k:Nat} (ha:A.length = a) (h:R.take o ++ M ++ R.drop (o + k) = R'):(A ++ R).take (a + o) ++ M ++ (A ++ R).drop (a + o + k) = A ++ R':=by
 subst ha; rw [← h,List.take_append,Nat.add_assoc,← List.drop_drop,List.drop_left' rfl,List.take_of_length_le (by omega)]; simp
theorem set_nest {l M v M' R:List Value} {a n b:Nat} (h:(l.drop a).take n = M) (h2:M.take b ++ v ++ M.drop (b + v.length) = M') (h3:l.take a ++ M' ++ l.drop (a + M'.length) = R) (hn:M.length = n) (hb:Nat.ble (b + v.length) n = true):
  l.take (a + b) ++ v ++ l.drop (a + b + v.length) = R:=by
 have hb':b + v.length≤n:=Nat.le_of_ble_eq_true hb
 have hM':M'.length = n:=by rw [← h2]; simp [hn]; omega
 rw [← h3,hM',← h2]
 have e1:l.take (a + b) = l.take a ++ M.take b:=by
  rw [← h,List.take_take,Nat.min_eq_left (by omega),List.take_add]
 have e2:l.drop (a + b + v.length) = M.drop (b + v.length) ++ l.drop (a + n):=by
  rw [← h,List.drop_take,List.drop_drop]
  conv=>lhs; rw [Nat.add_assoc,← List.take_append_drop (n - (b + v.length)) (l.drop (a + (b + v.length)))]
  congr 1
  rw [List.drop_drop]
  congr 1
  omega
 rw [e1,e2]; simp
theorem qy {α:Type} [Ty α] {T:TypeId} {x:α} {k:Addr→H→Prop} {h:H} {G:Prop} (hh:box T x k h) (f:∀ p:Addr,p = ⟨h.size,0,none⟩→k p (newC h T (enc x))→G):G:=f _ rfl (hh _ rfl)
theorem qbd {α:Type} [Ty α] {T:TypeId} {l:List α} {k:Sl→H→Prop} {h:H} {G:Prop} (hh:mks T l k h) (f:∀ (p:Addr) (s:Sl),p = ⟨h.size,0,none⟩→s = ⟨some p,l.length,l.length⟩→k s (newC h T (l.map enc).flatten)→G):G:=f _ _ rfl rfl (hh _ _ rfl rfl)
end Go.Sh

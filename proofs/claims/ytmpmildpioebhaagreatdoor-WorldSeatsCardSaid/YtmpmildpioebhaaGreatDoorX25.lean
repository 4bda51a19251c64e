/-
  The statement WorldSeats (law 23): a seat whose power goes off is gone, and comes back with nothing lost. Part 25 of 27. No condition stands ahead of the statement. Parts of this text were printed by a program of ours.
-/
import Derived.Test.YtmpmildpioebhaaGreatDoorX18
import Derived.Test.YtmpmildpioebhaaGreatDoorX24
import Derived.Laws.BytesString
import Derived.Deep.Slices
import Derived.OpenShut
import Derived.SizedLaws
set_option linter.all false
set_option maxRecDepth 100000
set_option maxHeartbeats 4000000
noncomputable section
namespace Go.Vm
open Go Go.Sh Go.Proofs.YtmpmildpioebhaaGreatDoor
open Go.Sh.Ty (reg)
section
variable {C:Ctx} {h0:H} {n0:Nat} {ρ:Env} {Q:Exit→Act→World→Prop}
theorem XW_start (h:H) (hp:0 < h.size):SR (XW h h.size .u) (fun _=>none) hpE h:=
 ⟨fun r x hr=>(by cases hr),fun r r' x x' hr=>(by cases hr),fun r x hr=>(by cases hr),fun r x hr=>(by cases hr),fun b hb=>⟨hb,rfl⟩,fun r row hr=>(by cases hr),rfl,fun r x hr=>(by cases hr)⟩
theorem XW_ext {h h':H} {v:AV} {θ:Th} {hp:Hp} (h1:0 < h.size) (S:SR (XW h h.size v) θ hp h'):Go.Sh.Ext h h':=by
 refine ⟨?_,fun i hi _=>(S.keepU i hi).2⟩
 have:=(S.keepU (h.size - 1) (show h.size - 1 < h.size by omega)).1
 omega
theorem alive_ok {h:H} (h1:0 < h.size) (h2:AtH h ⟨0,0,none⟩ shaTab):CallsH PR 5 #[] h fun v h'=>∃ r:Bool,v = reg r∧r = true∧SR (XW h h.size .u) (fun _=>none) hpE h':=by
 obtain ⟨_,hc⟩:=yg (G0_ok 200) alive_run rfl rfl (XW h h.size .u) (XW_ok h1 h2) (fun _=>none) hpE h [] (XW_start h h1) rfl
 exact hc.mono fun w h' ⟨S,hv⟩=>⟨true,hv.ra (v:=.b true) trivial,rfl,S⟩
end
end Go.Vm
namespace Go.Proofs.YtmpmildpioebhaaGreatDoor
open Go Go.Sh
open Go.Sh.Ty (reg)
open Go.Vm (RV RV1 RC RW RVs RF RA AV PureAt PR XW XW_ok XW_ext XW_start hpE byV rv_i alive_ok)
theorem reg_dig {d:Nat} {f:Dig} (hf:List.ofFn f = bU 32 d):(reg f:Value) = .agg (Array.mk (byV 32 d)):=by
 show Value.agg (List.ofFn fun i=>reg (f i)).toArray = _
 congr 2
 rw [← bU_val,← hf]
 have:∀ l:List UInt8,(l.map (enc:UInt8→List Value)).flatten = l.map reg:=by
  intro l
  induction l with
  | nil=>rfl
  | cons a l ih=>simp only [List.map_cons,List.flatten_cons,ih]; rfl
 rw [this,List.map_ofFn]; rfl
theorem ofFn_arr {l:List UInt8} (h:l.length = 32):List.ofFn (arrOf l:Dig) = l:=by
 apply List.ext_getElem
 ·simp [h]
 ·intro i h1 h2
  rw [List.getElem_ofFn]
  show (l[i]?).getD default = l[i]
  rw [List.getElem?_eq_getElem h2]; rfl
theorem rv_dg {θ:Go.Vm.Th} {x:Nat} {w:Value} (h:RV θ (.a (.cons 32 (.bs 32 x) .nil)) w):∃ f:Dig,w = reg f:=by
 rcases h with h | ⟨l,vs,e,_⟩
 ·rcases h with h | ⟨cs,vs,e,rfl,hc⟩ | ⟨e,_⟩
  ·simp [RF,RA] at h
  ·cases e
   obtain ⟨v1,v2,rfl,h1,h2⟩:=hc
   obtain rfl:v2 = []:=h2
   rcases h1 with ⟨y,e,_,_,rfl⟩ | ⟨e,_⟩
   ·cases e
    exact ⟨arrOf (bU 32 x),by rw [reg_dig (ofFn_arr (by rw [bU_len]))]; simp⟩
   ·cases e
  ·cases e
 ·cases e
theorem pub_of {j n x0 x1:Nat} (hn:n < 256 ^ 32) (hf:List.ofFn (seedD j) = bU 32 n) (P0:PureAt PR 51 [.a (.cons 32 (.bs 32 n) .nil),.i 0] (.a (.cons 32 (.bs 32 x0) .nil))) (P1:PureAt PR 51 [.a (.cons 32 (.bs 32 n) .nil),.i 1] (.a (.cons 32 (.bs 32 x1) .nil))):PubOk (seedD j):=by
 intro i h0 h2 k h hT hk
 have ht:AtH h ⟨0,0,none⟩ Go.Vm.shaTab:=by have:=hT; unfold Tb at this; rw [table_val] at this; exact this
 have hsz:0 < h.size:=by
  obtain ⟨_,arr,T,fr,hb,_⟩:=ht
  rw [Array.getElem?_eq_some_iff] at hb; exact hb.1
 have go:∀ (m:Nat) (x:Nat),m < 2 ^ 62→PureAt PR 51 [.a (.cons 32 (.bs 32 n) .nil),.i m] (.a (.cons 32 (.bs 32 x) .nil))→call (β:=Arr 32 UInt8) Prog 51 [reg (seedD j:Arr 32 UInt8),reg ((m:Nat):Int)] k h:=by
  intro m x hm P
  have r1:RV (fun _=>none) (.a (.cons 32 (.bs 32 n) .nil)) (reg (seedD j)):=dig_rv hn hf
  have r2:RV (fun _=>none) (.i m) (reg ((m:Nat):Int)):=rv_i m hm
  have r1':RV1 (fun _=>none) (.a (.cons 32 (.bs 32 n) .nil)) (reg (seedD j)):=r1.resolve_right (by rintro ⟨l,vs,e,_⟩; cases e)
  have r2':RV1 (fun _=>none) (.i m) (reg ((m:Nat):Int)):=r2.resolve_right (by rintro ⟨l,vs,e,_⟩; cases e)
  obtain ⟨_,hc⟩:=P (XW h h.size .u) (XW_ok hsz ht) (fun _=>none) hpE h _ (XW_start h hsz) ⟨_,_,rfl,r1',_,_,rfl,r2',rfl⟩
  exact hc.mono fun w h' ⟨S,hv⟩=>by
   obtain ⟨f,e⟩:=rv_dg hv
   exact ⟨f,e,hk f h' (XW_ext hsz S)⟩
 rcases (show i = 0∨i = 1 by omega) with rfl | rfl
 ·exact go 0 x0 (by decide) P0
 ·exact go 1 x1 (by decide) P1
theorem seedsOk:∀ j:Nat,j < 4→PubOk (seedD j):=by
 intro j hj
 match j,hj with
 | 0,_=>exact pub_of (j:=0) (by decide +kernel) (by decide +kernel) Go.Vm.puP0_0 Go.Vm.puP0_1
 | 1,_=>exact pub_of (j:=1) (by decide +kernel) (by decide +kernel) Go.Vm.puP1_0 Go.Vm.puP1_1
 | 2,_=>exact pub_of (j:=2) (by decide +kernel) (by decide +kernel) Go.Vm.puP2_0 Go.Vm.puP2_1
 | 3,_=>exact pub_of (j:=3) (by decide +kernel) (by decide +kernel) Go.Vm.puP3_0 Go.Vm.puP3_1
 | _ + 4,h=>omega
theorem aliveOk:AliveOk:=by
 intro k h hT hk
 have ht:AtH h ⟨0,0,none⟩ Go.Vm.shaTab:=by have:=hT; unfold Tb at this; rw [table_val] at this; exact this
 have hsz:0 < h.size:=by
  obtain ⟨_,arr,T,fr,hb,_⟩:=ht
  rw [Array.getElem?_eq_some_iff] at hb; exact hb.1
 exact (alive_ok hsz ht).mono fun v h' ⟨r,e,e2,S⟩=>⟨r,e,by subst e2; exact hk h' (XW_ext hsz S)⟩
def Dec (t:TypeId) {α:Type} [Ty α] (S:H→α→Prop):Prop:=
 ∀ {HT:Type} (en:TypeId×Value→HT) (W:World) (fuel:Nat) (cs:List Value) (x:DataW HT×List MemPlace),DataW.trod en Prog W 0 (fun _=>true) true fuel t cs = some x→∃ a:α,cs = enc a∧S W.heap a
def IntOk (_:H) (n:Int):Prop:=-9223372036854775808≤n∧n≤9223372036854775807
theorem dec_int {t:TypeId} (ht:Tryz.prog.underlying t = some (.int .i64)):Dec t IntOk:=by
 intro HT en W fuel cs x h
 obtain ⟨n,rfl,_,hw⟩:=DataW.trod_int ht h
 refine ⟨n,rfl,?_⟩
 simp [Lit.wf,IntKind.min,IntKind.max,IntKind.signed,IntKind.bits] at hw
 exact hw
theorem dec_u8 {t:TypeId} (ht:Tryz.prog.underlying t = some (.int .u8)):Dec t (fun _ (_:UInt8)=>True):=by
 intro HT en W fuel cs x h
 obtain ⟨n,rfl,_,hw⟩:=DataW.trod_int ht h
 simp [Lit.wf,IntKind.min,IntKind.max,IntKind.signed,IntKind.bits] at hw
 refine ⟨UInt8.ofNat n.toNat,?_,trivial⟩
 show [Value.int .u8 n] = [Value.int .u8 ((UInt8.ofNat n.toNat).toNat:Int)]
 have:((UInt8.ofNat n.toNat).toNat:Int) = n:=by
  rw [UInt8.toNat_ofNat']; omega
 rw [this]
theorem dec_arr {t e:TypeId} {n:Nat} {α:Type} [Ty α] {S:H→α→Prop} (ht:Tryz.prog.underlying t = some (.array n e)) (hc:Tryz.prog.cellsOf e = 1) (hct:Tryz.prog.cellsOf t = n) (h1:∀ a:α,enc a = [reg a]) (D:Dec e S):Dec t (fun h (x:Arr n α)=>∀ i,S h (x i)):=by
 intro HT en W fuel cs x h
 obtain ⟨xs,m,_,_,hl,hxl,hget⟩:=DataW.trod_array ht h
 have hl':cs.length = n:=hl.trans hct
 have key:∀ i:Fin n,∃ a:α,cs[i.1]? = some (reg a)∧S W.heap a:=by
  intro i
  have h2:=hget i.1 i.2
  rw [hc,List.getElem?_eq_getElem (by omega),Nat.mul_one] at h2
  obtain ⟨a,ha,hs⟩:=D en W m _ _ h2
  refine ⟨a,?_,hs⟩
  rw [h1] at ha
  have:=congrArg (fun l=>l[0]?) ha
  simpa [List.getElem?_take] using this
 refine ⟨fun i=>(key i).choose,?_,fun i=>(key i).choose_spec.2⟩
 show cs = (List.ofFn fun i=>reg ((key i).choose))
 apply List.ext_getElem?
 intro i
 by_cases hi:i < n
 ·rw [(key ⟨i,hi⟩).choose_spec.1]; simp [List.getElem?_ofFn,hi]
 ·rw [List.getElem?_eq_none (by omega),List.getElem?_eq_none (by simpa using hi)]
def AtA (arr:Array Value) (off:Nat) (cs:List Value):Prop:=∀ i v,cs[i]? = some v→arr[off + i]? = some v
theorem AtA.app {arr:Array Value} {off:Nat} {a b:List Value} (ha:AtA arr off a) (hb:AtA arr (off + a.length) b):AtA arr off (a ++ b):=by
 intro i v hv
 by_cases hi:i < a.length
 ·rw [List.getElem?_append_left hi] at hv; exact ha i v hv
 ·rw [List.getElem?_append_right (by omega)] at hv
  have:=hb _ _ hv
  rwa [show off + a.length + (i - a.length) = off + i by omega] at this
theorem AtA.flat {arr:Array Value} {c:Nat}:∀ (L:List (List Value)) (off:Nat),(∀ i x,L[i]? = some x→x.length = c∧AtA arr (off + i * c) x)→AtA arr off L.flatten
 | [],off,_=>by intro i v hv; simp at hv
 | x :: L,off,h=>by
  have h0:=h 0 x rfl
  rw [List.flatten_cons]
  refine AtA.app (by simpa using h0.2) ?_
  rw [h0.1]
  refine AtA.flat (c:=c) L (off + c) (fun i y hy=>?_)
  have:=h (i + 1) y hy
  rwa [show off + (i + 1) * c = off + c + i * c by rw [Nat.add_mul]; omega] at this
theorem flat_len {α:Type} [Ty α] {c:Nat} (hn:∀ y:α,(enc y).length = c):∀ l:List α,(l.map enc).flatten.length = l.length * c
 | []=>by simp
 | x :: l=>by rw [List.map_cons,List.flatten_cons,List.length_append,hn,flat_len hn l,List.length_cons,Nat.add_mul]; omega
theorem add_add (a:Addr) (x y:Nat):(a.add x).add y = a.add (x + y):=by
 unfold Addr.add
 by_cases hx:x = 0
 ·subst hx; simp
 ·by_cases hy:y = 0
  ·subst hy; simp
  ·simp [hx,hy,Nat.add_assoc]
theorem cell_add {W:World} {a:Addr} {arr:Array Value} {T:TypeId} {fr:Nat×Nat} (ho:W.heap[a.block]? = some (.cells arr T fr)) (hs:a.spot = none) (k:Nat):W.cell? (a.add k) = arr[a.off + k]?:=by
 unfold Addr.add
 by_cases hk:k = 0
 ·subst hk; simp [World.cell?,ho,hs]
 ·simp [World.cell?,ho,hk]
def SlOk {α:Type} [Ty α] (c:Nat) (S:H→α→Prop) (h:H) (s:Sl):Prop:=∃ l:List α,SVz c h s l∧∀ a ∈ l,S h a
theorem dec_slice {t e:TypeId} {c:Nat} {α:Type} [Ty α] {S:H→α→Prop} (ht:Tryz.prog.underlying t = some (.slice e)) (hc:Tryz.prog.cellsOf e = c) (h0:0 < c) (hn:∀ y:α,(enc y).length = c) (D:Dec e S):Dec t (SlOk c S):=by
 intro HT en W fuel cs x h
 rcases Go.Deep.open_slice ht h with ⟨rfl,_⟩ | ⟨a,len,cap,m,n,DD,Pl,rfl,_,hlc,_,hm,_,hx⟩
 ·exact ⟨Sl.nil,rfl,[],⟨rfl,fun hne=>absurd rfl hne⟩,by simp⟩
 ·simp only [if_true] at hm
  subst hm
  have key:∀ i:Fin len,∃ y:α,(∀ r v,(enc y)[r]? = some v→W.cell? (a.add (i.1 * c + r)) = some v)∧S W.heap y:=by
   intro i
   obtain ⟨cs',h1,h2⟩:=hx i.1 (by omega)
   obtain ⟨y,rfl,hs⟩:=D en W n _ _ h2
   refine ⟨y,fun r v hv=>?_,hs⟩
   rw [hc] at h1
   obtain ⟨_,h4,h5⟩:=World.cells?_some h1
   have hr:r < c:=by
    rw [List.getElem?_eq_some_iff] at hv; obtain ⟨h9,_⟩:=hv; rw [hn] at h9; exact h9
   have:=h5 r hr
   rw [hv] at this
   rw [← this,add_add]
  refine ⟨⟨some a,len,_⟩,rfl,List.ofFn fun i=>(key i).choose,⟨by simp,fun hne=>?_⟩,?_⟩
  ·have hlen:0 < len:=by
    rcases Nat.eq_zero_or_pos len with h9 | h9
    ·subst h9; simp at hne
    ·exact h9
   have h00:=(key ⟨0,hlen⟩).choose_spec.1
   generalize hy:(key ⟨0,hlen⟩).choose = y at h00
   obtain ⟨v,hv⟩:∃ v,(enc y)[0]? = some v:=⟨_,List.getElem?_eq_getElem (by rw [hn]; exact h0)⟩
   have hc0:=h00 0 v hv
   rw [show a.add ((⟨0,hlen⟩:Fin len).1 * c + 0) = a by simp [Addr.add]] at hc0
   unfold World.cell? at hc0
   cases ho:W.heap[a.block]? with
   | none=>simp [ho] at hc0
   | some o=>
    cases o with
    | cells arr T fr=>
     have hsp:a.spot = none:=by
      cases hs:a.spot with
      | none=>rfl
      | some z=>simp [ho,hs] at hc0
     refine ⟨.inr ⟨a,rfl,⟨hsp,arr,T,fr,ho,?_⟩,?_⟩,by simp,hlc⟩
     ·refine AtA.flat (c:=c) _ _ (fun i z hz=>?_)
      rw [List.getElem?_map] at hz
      by_cases hi:i < len
      ·rw [List.getElem?_ofFn] at hz
       simp only [hi,dite_true,Option.map_some,Option.some.injEq] at hz
       subst hz
       refine ⟨hn _,fun r v hv=>?_⟩
       have h8:=(key ⟨i,hi⟩).choose_spec.1 r v hv
       rw [cell_add ho hsp] at h8
       rw [← h8,Nat.add_assoc]
      ·rw [List.getElem?_eq_none (by simpa using hi)] at hz; simp at hz
     ·rw [flat_len hn]; simp
    | _=>simp [ho] at hc0
  ·intro y hy
   rw [List.mem_ofFn] at hy
   obtain ⟨i,rfl⟩:=hy
   exact (key i).choose_spec.2
theorem cut_at (cs:List Value) (o s:Nat):cs.drop o = (cs.drop o).take s ++ cs.drop (o + s):=by
 rw [← List.drop_drop,List.take_append_drop]
theorem cut_end {cs:List Value} {o s:Nat} (h:cs.length = o + s):cs.drop o = (cs.drop o).take s:=by
 rw [List.take_of_length_le]; simp; omega
theorem fld {α:Type} {xs:List α} {m:Nat} (h:xs.length = m) (i:Nat) (hi:i < m):∃ y,xs[i]? = some y:=⟨_,List.getElem?_eq_getElem (by omega)⟩
theorem fdec {t:TypeId} {α:Type} [Ty α] {S:H→α→Prop} (D:Dec t S) {c:Nat} (hc:Tryz.prog.cellsOf t = c) (o:Nat) {HT:Type} {en:TypeId×Value→HT} {W:World} {n:Nat} {cs:List Value} {r:Option (DataW HT×List MemPlace)} {y:DataW HT×List MemPlace}
  (h:DataW.trod en Prog W 0 (fun _=>true) true n t ((cs.drop o).take (Tryz.prog.cellsOf t)) = r) (e:r = some y):∃ a:α,(cs.drop o).take c = enc a∧S W.heap a:=by
 rw [hc] at h
 exact D en W n _ _ (h.trans e)
theorem cof3:Tryz.prog.cellsOf 3 = 1:=by kernel_rfl
theorem cof25:Tryz.prog.cellsOf 25 = 1:=by kernel_rfl
theorem cof27:Tryz.prog.cellsOf 27 = 2:=by kernel_rfl
theorem cof31:Tryz.prog.cellsOf 31 = 32:=by kernel_rfl
theorem cof33:Tryz.prog.cellsOf 33 = 33:=by kernel_rfl
theorem cof82:Tryz.prog.cellsOf 82 = 34:=by kernel_rfl
theorem dec_i:Dec 3 IntOk:=dec_int Tryz.underlying3
theorem dec_true {t:TypeId} {α:Type} [Ty α] {S:H→α→Prop} (D:Dec t S):Dec t (fun _ (_:α)=>True):=by
 intro HT en W fuel cs x h
 obtain ⟨a,h1,_⟩:=D en W fuel cs x h
 exact ⟨a,h1,trivial⟩
theorem dec_dig:Dec 31 (fun _ (_:Dig)=>True):=by
 intro HT en W fuel cs x h
 obtain ⟨a,h1,_⟩:=dec_arr (α:=UInt8) (S:=fun _ _=>True) Tryz.underlying31 (by kernel_rfl) (by kernel_rfl) (fun _=>rfl) (dec_u8 Tryz.underlying5) en W fuel cs x h
 exact ⟨a,h1,trivial⟩
theorem dec_key:Dec 33 (fun _ (_:qo)=>True):=by
 intro HT en W fuel cs x h
 obtain ⟨xs,n,_,_,hl,hxl,hf⟩:=DataW.trod_struct Tryz.underlying33 h
 rw [cof33] at hl
 obtain ⟨y0,e0⟩:=fld hxl 0 (by decide)
 obtain ⟨a0,c0,s0⟩:=fdec (S:=fun _ (_:Dig)=>True) dec_dig cof31 0 (hf 0 _ rfl) e0
 obtain ⟨y1,e1⟩:=fld hxl 1 (by decide)
 obtain ⟨a1,c1,s1⟩:=fdec (S:=fun _ (_:Int)=>True) (dec_true dec_i) cof3 32 (hf 1 _ rfl) e1
 refine ⟨⟨a0,a1⟩,?_,trivial⟩
 rw [enc_api_Key]
 dsimp only
 rw [← c0,← c1,← cut_end (show cs.length = 32 + 1 by omega)]
 exact cut_at cs 0 32
theorem dec_member:Dec 82 (fun _ (_:qj)=>True):=by
 intro HT en W fuel cs x h
 obtain ⟨xs,n,_,_,hl,hxl,hf⟩:=DataW.trod_struct Tryz.underlying82 h
 rw [cof82] at hl
 obtain ⟨y0,e0⟩:=fld hxl 0 (by decide)
 obtain ⟨a0,c0,s0⟩:=fdec (S:=fun _ (_:Int)=>True) (dec_true dec_i) cof3 0 (hf 0 _ rfl) e0
 obtain ⟨y1,e1⟩:=fld hxl 1 (by decide)
 obtain ⟨a1,c1,s1⟩:=fdec (S:=fun _ (_:qo)=>True) dec_key cof33 1 (hf 1 _ rfl) e1
 refine ⟨⟨a0,a1⟩,?_,trivial⟩
 rw [enc_api_Member]
 dsimp only
 rw [← c0,← c1,← cut_end (show cs.length = 1 + 33 by omega)]
 exact cut_at cs 0 1
theorem dec_members:Dec 25 (SlOk (α:=qj) 34 fun _ _=>True):=dec_slice Tryz.underlying25 cof82 (by decide) yk dec_member
theorem dec_ints:Dec 48 (SlOk 1 IntOk):=dec_slice Tryz.underlying48 cof3 (by decide) qp dec_i
def ConfigDec (h:H) (x:qa):Prop:=SlOk (α:=qj) 34 (fun _ _=>True) h x.Members
theorem dec_config:Dec 27 ConfigDec:=by
 intro HT en W fuel cs x h
 obtain ⟨xs,n,_,_,hl,hxl,hf⟩:=DataW.trod_struct Tryz.underlying27 h
 rw [cof27] at hl
 obtain ⟨y0,e0⟩:=fld hxl 0 (by decide)
 obtain ⟨a0,c0,s0⟩:=fdec (S:=fun _ (_:Int)=>True) (dec_true dec_i) cof3 0 (hf 0 _ rfl) e0
 obtain ⟨y1,e1⟩:=fld hxl 1 (by decide)
 obtain ⟨a1,c1,s1⟩:=fdec dec_members cof25 1 (hf 1 _ rfl) e1
 refine ⟨⟨a0,a1⟩,?_,s1⟩
 rw [enc_api_Config]
 dsimp only
 rw [← c0,← c1,← cut_end (show cs.length = 1 + 1 by omega)]
 exact cut_at cs 0 1
end Go.Proofs.YtmpmildpioebhaaGreatDoor

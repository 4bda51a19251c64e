/-
  The statement WorldSeats (law 23): a seat whose power goes off is gone, and comes back with nothing lost. Part 26 of 27. No condition stands ahead of the statement. Parts of this text were printed by a program of ours.
-/
import Derived.Test.YtmpmildpioebhaaGreatDoorX25
import Derived.Deep.DeepHandedRow
import Derived.Lib.LaidTab
import Derived.OpenShut
import Derived.ProofKit
import Derived.Test.YtmpmildpioebhaaGreatDoorCards
import Derived.Test.YtmpmildpioebhaaGreatDoorTie
import Derived.WalkKit
import Derived.Laws.BytesString
set_option linter.all false
set_option maxRecDepth 100000
set_option maxHeartbeats 4000000
noncomputable section
namespace Go.Proofs.YtmpmildpioebhaaGreatDoor
open Go Go.Sh Go.ChangeShapes Go.WideShapes Go.ChangeAt Go.RowKit
open Go.Sh.Ty (reg)
theorem ownKnob0:ownKnob Tryz.prog.godebug = none:=by kernel_rfl
theorem gTab : Tryz.prog.globalNamed "wapentake/sha.table" = some 0 := by kernel_rfl
theorem gTabType:(Tryz.prog.globals[0]?).map (·.type) = some 350:=by kernel_rfl
theorem cof350:Tryz.prog.cellsOf 350 = 64:=by kernel_rfl
theorem cof249:Tryz.prog.cellsOf 249 = 1:=by kernel_rfl
def tabZ:List Int:=[1116352408,1899447441,3049323471,3921009573,961987163,1508970993,2453635748,2870763221,3624381080,310598401,607225278,1426881987,1925078388,2162078206,2614888103,3248222580,3835390401,4022224774,264347078,604807628,770255983,1249150122,1555081692,1996064986,2554220882,2821834349,2952996808,3210313671,3336571891,3584528711,113926993,338241895,666307205,773529912,1294757372,1396182291,1695183700,1986661051,2177026350,2456956037,2730485921,2820302411,3259730800,3345764771,3516065817,3600352804,4094571909,275423344,430227734,506948616,659060556,883997877,958139571,1322822218,1537002063,1747873779,1955562222,2024104815,2227730452,2361852424,2428436474,2756734187,3204031479,3329325298]
def powZ:List Int:=[1,10,100,1000,10000,100000,1000000,10000000,100000000,1000000000,10000000000,100000000000,1000000000000,10000000000000,100000000000000,1000000000000000,10000000000000000,100000000000000000,1000000000000000000,10000000000000000000]
def db32Z:List Int:=[0,1,28,2,29,14,24,3,30,22,20,15,25,17,4,8,31,27,13,23,21,19,16,7,26,12,18,6,11,5,10,9]
def db64Z:List Int:=[0,1,56,2,57,49,28,3,61,58,42,50,38,29,17,4,62,47,59,36,45,43,51,22,53,39,33,30,24,18,12,5,63,55,48,27,60,41,37,16,46,35,44,21,52,32,23,11,54,26,40,15,34,20,31,10,25,14,19,9,13,8,7,6]
theorem tabData_eq:(Rows.laid_wapentake_sha_table:DataW Unit) = Lib.tabData .u32 tabZ:=by kernel_rfl
def laid4 : List (String × DataW Unit) := [("math/bits.deBruijn32tab", Rows.laid_math_bits_deBruijn32tab), ("math/bits.deBruijn64tab", Rows.laid_math_bits_deBruijn64tab), ("internal/strconv.uint64pow10", Rows.laid_internal_strconv_uint64pow10), ("wapentake/sha.table", Rows.laid_wapentake_sha_table)]
theorem table1 {W : World} (h : laidMetH Tryz.prog [("wapentake/sha.table", Rows.laid_wapentake_sha_table)] W) : Lib.TabIs Tryz.prog W "wapentake/sha.table" .u32 tabZ :=
  Lib.tabIs_of_head (rest := []) gTab gTabType Tryz.underlying350 Tryz.underlying249 cof249 cof350 (by rw [← tabData_eq]; exact h)
theorem table {W : World} (h : laidMetH Tryz.prog laid4 W) : Lib.TabIs Tryz.prog W "wapentake/sha.table" .u32 tabZ :=
  table1 (h.filter fun p => p.1 == "wapentake/sha.table")
theorem encTab:Go.Vm.shaTab = tabZ.map (Value.int .u32):=by kernel_rfl
theorem tb_of_laid {W:World} (h:laidMetH Tryz.prog laid4 W):AtH W.heap ⟨0,0,none⟩ Go.Vm.shaTab:=by
 have hc:∀ i,i < 64→W.cell? ⟨0,i,none⟩ = some (.int .u32 (tabZ.getD i 0)):=fun i hi=>(table h).cell gTab i hi
 have h0:=hc 0 (by decide)
 unfold World.cell? at h0
 cases ho:W.heap[0]? with
 | none=>simp [ho] at h0
 | some o=>
  cases o with
  | cells arr T fr=>
   refine ⟨rfl,arr,T,fr,ho,fun i v hv=>?_⟩
   rw [encTab] at hv
   have hi:i < 64:=by
    rw [List.getElem?_eq_some_iff] at hv; obtain ⟨h9,_⟩:=hv; simpa [tabZ] using h9
   have h1:=hc i hi
   simp only [World.cell?,ho,Option.isSome_none,Bool.false_eq_true,if_false] at h1
   rw [show (⟨0,0,none⟩:Addr).off + i = i by simp,h1]
   rw [List.getElem?_map] at hv
   have hlt:i < tabZ.length:=hi
   rw [List.getElem?_eq_getElem hlt,Option.map_some] at hv
   rw [List.getD_eq_getElem?_getD,List.getElem?_eq_getElem hlt]
   exact hv
  | _=>simp [ho] at h0
theorem kids:Kids Tryz.prog (· < Tryz.prog.types.size):=kids_rows (by kernel_rfl) (by kernel_rfl)
theorem full:∀ t e,t < Tryz.prog.types.size→Tryz.prog.underlying t = some (.slice e)→0 < Tryz.prog.cellsOf e:=slices_full_of Tryz.prog (by kernel_rfl)
theorem kept_ext {W W':World} {may:MemPlace→Prop} (hx:Ext W.heap W'.heap) (ho:W'.os = W.os) (hu:W'.output = W.output):W.keptBut W' may:=by
 refine ⟨ho,hu,fun i hi=>?_⟩
 have h1:W'.heap[i]? = W.heap[i]?:=hx.same i hi (by simp)
 rw [h1]
 cases W.heap[i]? with
 | none=>rfl
 | some o=>cases o <;> simp
theorem sameAt_ext {W W':World} (hx:Ext W.heap W'.heap) {p:MemPlace} (hp:p.block < W.heap.size):W.sameAt W' p:=by
 have h1:W'.heap[p.block]? = W.heap[p.block]?:=hx.same _ hp (by simp)
 cases p with
 | cell b o=>simp only [World.sameAt,World.cell?]; simp only [MemPlace.block] at h1; rw [h1]
 | map b=>exact h1
section
variable {HT:Type} {en:TypeId×Value→HT}
theorem arg_int {W:World} {t:TypeId} {b0:Nat} {v:Value} {d:DataW HT} {p:List MemPlace} (ht:Tryz.prog.underlying t = some (.int .i64)) (hv:Value.okWide Tryz.prog W .any b0 t v) (h:DataW.Trod en Tryz.prog W 0 (fun _=>true) true t v d p):∃ n:Int,v = reg n∧IntOk W.heap n:=by
 obtain ⟨n,rfl,_,_,hw⟩:=open_int ht hv h
 simp [Lit.wf,IntKind.min,IntKind.max,IntKind.signed,IntKind.bits] at hw
 exact ⟨n,rfl,hw⟩
theorem arg_slice {W:World} {t e:TypeId} {S:H→Sl→Prop} {b0:Nat} {v:Value} {d:DataW HT} {p:List MemPlace} (ht:Tryz.prog.underlying t = some (.slice e)) (D:Dec t S) (hv:Value.okWide Tryz.prog W .any b0 t v) (h:DataW.Trod en Tryz.prog W 0 (fun _=>true) true t v d p):∃ s:Sl,v = reg s∧S W.heap s:=by
 obtain ⟨a,l,c,rfl⟩:=okWide_slice ht hv
 obtain ⟨n,hn⟩:=h
 obtain ⟨s,hs,hS⟩:=D en W n _ _ hn
 refine ⟨s,?_,hS⟩
 have:[Value.slice a l c] = [reg s]:=hs
 simpa using this
theorem arg_config {W:World} {b0:Nat} {v:Value} {d:DataW HT} {p:List MemPlace} (hv:Value.okWide Tryz.prog W .any b0 27 v) (h:DataW.Trod en Tryz.prog W 0 (fun _=>true) true 27 v d p):∃ x:qa,v = reg x∧ConfigDec W.heap x:=by
 have hcs:∃ cs,v = .agg cs:=by
  simp only [Value.okWide,Tryz.underlying27] at hv
  exact ⟨_,hv.choose_spec.1⟩
 obtain ⟨cs,rfl⟩:=hcs
 obtain ⟨n,hn⟩:=h
 obtain ⟨x,hx,hS⟩:=dec_config en W n _ _ hn
 refine ⟨x,?_,hS⟩
 have h1:cs.toList = enc x.Epoch ++ enc x.Members:=hx
 show Value.agg cs = Value.agg (enc x.Epoch ++ enc x.Members).toArray
 rw [← h1]
theorem trodAll_carry {W W':World} {sp:Nat→Bool}:∀ {ts:List TypeId} {vs:List Value} {ds:List (DataW HT)} {ps:List MemPlace},DataW.TrodAll en Tryz.prog W 0 sp true ts vs ds ps→(∀ p ∈ ps,W.sameAt W' p)→DataW.TrodAll en Tryz.prog W' 0 sp true ts vs ds ps
 | [],[],[],_,h,_=>h
 | _ :: _,_ :: _,_ :: _,_,⟨p,q,⟨n,h1⟩,h2,e⟩,hs=>⟨p,q,⟨n,DataW.trod_carry n _ _ _ h1 (fun x hx=>hs x (by rw [e]; exact List.mem_append_left _ hx))⟩,trodAll_carry h2 (fun x hx=>hs x (by rw [e]; exact List.mem_append_right _ hx)),e⟩
theorem post_ext {f:Func} {s:ChangeSpec} {W W':World} {args:Array Value} {ds gs:List (DataW HT)} {before:List MemPlace} (hrt:f.resultTypes = #[4]) (hsv:s.vars = []) (hft:∀ t ∈ f.params.toList,t < Tryz.prog.types.size)
  (hW:DataW.Whole en Tryz.prog f.params.toList s.vars false W args.toList ds gs before) (hfr:(s.fn HT (ds ++ gs)).results = [.lit (.bool true)]) (hfa:(s.fn HT (ds ++ gs)).args = ds) (hfv:(s.fn HT (ds ++ gs)).vars = [])
  (hx:Ext W.heap W'.heap) (ho:W'.os = W.os) (hu:W'.output = W.output):s.post en Tryz.prog f false true false false W args (.bool true) W':=by
 have hlt:∀ p ∈ before,p.block < W.heap.size:=fun p hp=>hW.lt p hp
 have hW':=hW
 obtain ⟨p,q,hA,hV,hpq,hfz,_⟩:=hW
 rw [hsv] at hV
 obtain ⟨hgs,hq⟩:=trodVars_none hV
 subst hq
 rw [List.append_nil] at hpq
 subst hpq
 have hre:∀ sp:Nat→Bool,(∀ x ∈ before,sp x.block = true)→DataW.TrodAll en Tryz.prog W' 0 sp true f.params.toList args.toList (s.fn HT (ds ++ gs)).args before:=by
  intro sp hsp
  rw [hfa]
  exact trodAll_carry (hA.respare kids full hft hsp) (fun x hxp=>sameAt_ext hx (hlt x hxp))
 have hres:∀ (b:Nat) (sp:Nat→Bool) (hd:Bool),DataW.TrodAll en Tryz.prog W' b sp hd f.resultTypes.toList ((Value.bool true).resultList f.resultTypes.size) (s.fn HT (ds ++ gs)).results []:=by
  intro b sp hd
  rw [hrt,hfr]
  exact trodAll_cons_mk (shut_bool Tryz.underlying4 _) trodAll_mk0
 have hvr:∀ sp:Nat→Bool,DataW.TrodVars en Tryz.prog W' sp s.vars (s.fn HT (ds ++ gs)).vars []:=by
  intro sp; rw [hsv,hfv]; rfl
 have hold:∀ p ∈ before,(fun b=>decide (b < W.heap.size)) p.block = true:=fun p hp=>by simpa using hlt p hp
 refine ⟨ds,gs,before,[],before,[],hW',hres _ _ _,hre _ hold,hvr _,World.keptBut_mono (fun p hp=>⟨hp,?_⟩) (kept_ext (may:=(· ∈ before)) hx ho hu),fun _=>?_⟩
 ·exact Or.inr (Or.inl hp)
 ·refine ⟨?_,_,_,([] ++ before) ++ [],⟨[] ++ before,[],trodAll_append (hre _ (fun _ _=>rfl)) (hres _ _ _),hvr _,rfl,?_,?_⟩,?_⟩
  ·exact ok_one hrt rfl (okWide_bool_mk Tryz.underlying4 _)
  ·intro b off hp
   have hp':MemPlace.cell b off ∈ before:=by simpa using hp
   have h1:W'.heap[b]? = W.heap[b]?:=hx.same b (hlt _ hp') (by simp)
   have h2:W'.frozen? ⟨b,off,none⟩ = W.frozen? ⟨b,off,none⟩:=by
    simp only [World.frozen?,h1]
   rw [h2]
   exact hfz b off hp'
  ·intro ha; cases ha
  ·intro x hp _
   simpa using hp
end
end Go.Proofs.YtmpmildpioebhaaGreatDoor

/-
  The statement WorldLoses (law 23): where all letters are lost nobody decides anything. Part 7 of 30. No condition stands ahead of the statement. Parts of this text were printed by a program of ours.
-/
import Derived.Test.YtmpmildpioebhaaGreatDoorW06
import Derived.Laws.MakeOwn
import Derived.Laws.IdiomStrings
import Derived.Laws.BytesString
import Derived.KernelRfl
import Derived.Test.YtmpmildpioebhaaGreatDoorChecked
set_option linter.all false
set_option maxRecDepth 100000
set_option maxHeartbeats 4000000
noncomputable section
namespace Go.Vm
open Go Go.Sh
open Go.Sh.Ty (reg)
theorem kEq_ok {a b:KK} (h:kEq a b = true):a = b:=by
 cases a <;> cases b <;> first | rfl | cases h | (have:=beq_ok h; subst this; rfl)
theorem ofI_nt {k:IntKind} {n:Nat} {l:List AV}:ofI k n ≠ .t l:=by
 unfold ofI; split <;> (intro e; cases e)
theorem ofInt_nt {k:IntKind} {n:Int} {l:List AV}:ofInt k n ≠ .t l:=by
 unfold ofInt
 cases decide (k.wrap n = n) with
 | true=>exact ofI_nt
 | false=>intro e; cases e
theorem ofAtom_nt {v:Value} {l:List AV}:ofAtom v ≠ .t l:=by
 unfold ofAtom
 split <;> first | exact ofInt_nt | (intro e; cases e)
theorem ofV_nt {v:Value} {l:List AV}:ofV v ≠ .t l:=by
 unfold ofV
 split
 ·rename_i cs
  cases okC (ofCells cs.toList) <;> (intro e; cases e)
 ·exact ofAtom_nt
theorem zeroA_nt {T:Tb} {t:Nat} {l:List AV}:zeroA T t ≠ .t l:=by
 unfold zeroA
 split
 ·split
  ·exact ofV_nt
  ·intro e; cases e
 ·intro e; cases e
theorem RV.rv1 {θ:Th} {v:AV} {V:Value} (h:RV θ v V) (hn:∀ l,v ≠ .t l):RV1 θ v V:=by
 rcases h with h | ⟨l,_,e,_⟩
 ·exact h
 ·exact absurd e (hn l)
theorem RV1.ne {θ:Th} {v:AV} {V:Value} (h:RV1 θ v V):v ≠ .er:=by
 intro e; subst e
 rcases h with (h | ⟨_,_,_,_,_,e,_⟩) | ⟨_,_,e,_⟩ | ⟨e,_⟩
 ·exact h
 ·cases e
 ·cases e
 ·cases e
theorem rv_t2 {θ:Th} {v:AV} {V:Value} {β:Bool} (h:RV1 θ v V):RV θ (.t [v,.b β]) (.tuple #[V,.bool β]):=
 .inr ⟨_,[V,.bool β],rfl,rfl,V,[.bool β],rfl,h,.bool β,[],rfl,.inl (.inl rfl),rfl⟩
theorem cpA_ok {θ:Th} {v:AV} {V:Value} {β ok:Bool} (h:RV1 θ v V):RV θ (cpA v ok β) (if ok then .tuple #[V,.bool β] else V):=by
 cases ok with
 | true=>exact rv_t2 h
 | false=>exact h.toRV
theorem run_look {P:Program} {T K E:TypeId} (hT:P.underlying T = some (.map K E)) {V:Value} (hc:∀ e w,(Instr.checkKey e 10000 K V).run P w = .ok () w) {es:Array MapEntry} {o:Option (Nat×Value)} {w:World}
  (he:(Instr.findKey K V es.toList).run P w = .ok o w) {X:Value} (hX:(X = .map none∧es = #[])∨∃ r clk,X = .map (some r)∧w.heap[r]? = some (.map es clk)) {z:Value} (hz:o = none→ZeroV P E z) (b:Bool):
  (Instr.lookup T X V b).run P w = .ok (if b then .tuple #[(o.map (·.2)).getD z,.bool o.isSome] else (o.map (·.2)).getD z) w:=by
 rcases hX with ⟨rfl,rfl⟩ | ⟨r,clk,rfl,hb⟩
 ·cases o with
  | none=>
   obtain ⟨i,hi,hzv⟩:=hz rfl
   simp [Instr.lookup,run_underlying hT,hc,he,zeroValue,typeInfo,hi,hzv]
  | some p=>simp [Instr.lookup,run_underlying hT,hc,he]
 ·cases o with
  | none=>
   obtain ⟨i,hi,hzv⟩:=hz rfl
   simp [Instr.lookup,run_underlying hT,run_getObjH hb,hc,he,zeroValue,typeInfo,hi,hzv]
  | some p=>simp [Instr.lookup,run_underlying hT,run_getObjH hb,hc,he]
theorem kOk_ne {kk:KK} {k:AV} (h:kOk kk k = true):k ≠ .er:=by
 intro e; subst e
 unfold kOk at h
 split at h <;> first | (rename_i e; cases e; done) | cases h
theorem cpZ_ok {v:AV} {ok β:Bool} (h:v ≠ .er):cpZ v ok β = cpA v ok β:=by
 cases v <;> first | exact absurd rfl h | rfl
section
variable {C:Ctx} {ρ:Env} {h:H} {ty:TypeId} {θ:Th} {X:Cx} {hp:Hp} {T:Tb}
theorem look1 (hT:TbOk C.P T) {t K e:Nat} (hu:C.P.underlying t = some (.map K e)) {k:AV} {xo ko:Operand} {kk:KK} (hkk:kkT T K = some kk) (hk:RV θ k (ev ρ ko)) (hc:kOk kk k = true) {ms:Array MapEntry}
  (hX:(ev ρ xo = .map none∧ms = #[])∨∃ r clk,ev ρ xo = .map (some r)∧h[r]? = some (.map ms clk)) {es:List KV} (hes:KVs θ kk es ms.toList) (ok:Bool)
  (hn:(match mfnd k es with | some x=>cpZ x.v ok true | none=>cpZ (zeroA T e) ok false) ≠ .er):
  ∃ V,OpVal C (.lookup t xo ko ok) ty ρ h V∧RV θ (match mfnd k es with | some x=>cpZ x.v ok true | none=>cpZ (zeroA T e) ok false) V:=by
 have hkr:=KR.of hc hk
 have hkT:=keyT_of hT hkk
 have ck:∀ e w,(Instr.checkKey e 10000 K (ev ρ ko)).run C.P w = .ok () w:=fun e w=>hkT.ok e ⟨ev ρ ko,hkr.isKey⟩ w
 obtain ⟨o,hf,hrun⟩:=find_ok hT hkk hkr hes
 cases hf with
 | no a1 a2 a3 a4=>
  rw [a1] at hn ⊢
  simp only at hn ⊢
  have hz:zeroA T e ≠ .er:=by
   intro e1; rw [e1] at hn; exact hn rfl
  rw [cpZ_ok hz]
  obtain ⟨z,hzv,hr⟩:=zeroA_ok hT (θ:=θ) hz
  refine ⟨_,?_,cpA_ok (β:=false) (ok:=ok) (hr.rv1 fun l=>zeroA_nt)⟩
  intro w hw pos after g d
  subst hw
  have:=run_look hu ck (hrun w) hX (fun _=>hzv) ok
  simp only [Option.map_none,Option.getD_none,Option.isSome_none] at this
  simp [execOp,this]
 | @yes j m x a1 a2 a3 a4 a5 a6 a7=>
  rw [a5] at hn ⊢
  simp only at hn ⊢
  have hne:=a4.2.2.1.ne
  rw [cpZ_ok hne]
  refine ⟨_,?_,cpA_ok (β:=true) (ok:=ok) a4.2.2.1⟩
  intro w hw pos after g d
  subst hw
  have:=run_look (z:=.nilIface) hu ck (hrun w) hX (fun e=>by cases e) ok
  simp only [Option.map_some,Option.getD_some,Option.isSome_some] at this
  simp [execOp,this]
theorem lookQ_ok (hT : TbOk C.P T) (S : SR X θ hp h) {t : Nat} {x k : AV} {xo ko : Operand} {ok : Bool} (hx : RV θ x (ev ρ xo)) (hk : k ≠ .er → RV θ k (ev ρ ko)) (hn : lookQ T (tkT T t) x k ok hp ≠ .er) :
    ∃ V, OpVal C (.lookup t xo ko ok) ty ρ h V ∧ RV θ (lookQ T (tkT T t) x k ok hp) V := by
  cases htk : tkT T t with
  | mp K e =>
    rw [htk] at hn
    have hu := tk_mp hT htk
    cases x <;> first | exact absurd rfl hn | skip
    · rename_i r
      obtain ⟨bb, o0, tt, hr, e1⟩ := hx.ra (v := .m r) trivial
      cases hg : getH hp r with
      | m kk2 clk es =>
        have e2 : lookQ T (.mp K e) (.m r) k ok hp = lookF (zeroA T e) .u k (kkT T K) (some (kk2, es)) ok := by unfold lookQ; simp only [hg]
        rw [e2] at hn ⊢
        have := S.rows r _ hr
        rw [hg] at this
        obtain ⟨ms, g1, g2, g3⟩ := this
        unfold lookF at hn ⊢
        cases hkk : kkT T K with
        | none => rw [hkk] at hn; exact absurd rfl hn
        | some kk =>
          rw [hkk] at hn
          simp only at hn ⊢
          obtain ⟨c1, hn1⟩ := bv_ok hn
          obtain ⟨c2, hn2⟩ := bv_ok hn1
          rw [c1, c2]
          have := kEq_ok c2
          subst this
          exact look1 hT hu hkk (hk (kOk_ne c1)) c1 (.inr ⟨_, _, e1, g1⟩) g2 ok hn2
      | _ => have e2 : lookQ T (.mp K e) (.m r) k ok hp = .er := by unfold lookQ; simp only [hg]
             rw [e2] at hn; exact absurd rfl hn
    · have e1 := hx.ra (v := .mn) trivial
      have e2 : lookQ T (.mp K e) .mn k ok hp = lookF (zeroA T e) .u k (kkT T K) none ok := rfl
      rw [e2] at hn ⊢
      unfold lookF at hn ⊢
      cases hkk : kkT T K with
      | none => rw [hkk] at hn; exact absurd rfl hn
      | some kk =>
        rw [hkk] at hn
        simp only at hn ⊢
        obtain ⟨c1, hn⟩ := bv_ok hn
        rw [c1]
        exact look1 hT hu hkk (hk (kOk_ne c1)) c1 (.inl ⟨e1, rfl⟩) (es := []) rfl ok hn
  | _ => rw [htk] at hn; exact absurd rfl hn
theorem eBn_ok {kk:KK} {b:Nat}:∀ {es:List KV} {ms:List MapEntry},KVs θ kk es ms→eBn b es ≠ .er→∃ m ∈ ms,m.born = b∧RV θ (eBn b es) (.tuple #[m.key,m.val])
 | [],_,_,hn=>absurd rfl hn
 | e :: es,_,⟨m,r,e1,h1,h2⟩,hn=>by
  subst e1
  have e0:eBn b (e :: es) = bif Nat.beq e.bn b then .t [e.k,e.v] else eBn b es:=rfl
  rw [e0] at hn ⊢
  cases c:Nat.beq e.bn b with
  | true=>
   refine ⟨m,List.mem_cons_self,h1.2.2.2.trans (beq_ok c),?_⟩
   exact .inr ⟨_,[m.key,m.val],rfl,rfl,_,[m.val],rfl,h1.2.1,_,[],rfl,h1.2.2.1,rfl⟩
  | false=>
   rw [c] at hn
   obtain ⟨m',hm,h3⟩:=eBn_ok h2 hn
   exact ⟨m',List.mem_cons_of_mem _ hm,h3⟩
theorem entQ_ok (S:SR X θ hp h) {x:AV} {xo:Operand} (hx:RV θ x (ev ρ xo)) (hn:entQ x hp ≠ .er):∃ V,OpVal C (.entry xo) ty ρ h V∧RV θ (entQ x hp) V:=by
 unfold entQ at hn ⊢
 split at hn
 ·rename_i r
  split at hn
  ·rename_i m clk all todo b hg
   split at hn
   ·rename_i kk clk2 es hg2
    obtain ⟨c,hn1⟩:=bv_ok hn
    obtain ⟨bb,o0,tt,hr,e1⟩:=hx.ra (v:=.p r 0) trivial
    have h1:=S.rows r _ hr
    rw [hg] at h1
    obtain ⟨mb,seen,g1,g2,g3,g4,bm,om,tm,g5,g6⟩:=h1
    have h2:=S.rows m _ g5
    rw [hg2] at h2
    obtain ⟨ms,f1,f2,f3,f4⟩:=h2
    simp only at f1 g1 g2
    have:=beq_ok c
    subst this
    subst g6
    rw [c]
    obtain ⟨me,hm,hb,hv⟩:=eBn_ok f2 hn1
    refine ⟨_,?_,hv⟩
    obtain ⟨s0,hs0⟩:∃ s0:Array Nat,seen = s0.push me.born:=by
     have hl:=g4
     rw [List.getLast?_eq_some_iff] at hl
     obtain ⟨ys,hys⟩:=hl
     exact ⟨ys.toArray,by apply Array.ext'; simp [hys,hb]⟩
    subst hs0
    intro w hw pos after g d
    subst hw
    subst g2
    have:=run_entry_at (P:=C.P) w bb bm _ s0 ms _ me g1 f1 hm f4
    simp [execOp,e1,this]
   ·exact absurd rfl hn
  ·exact absurd rfl hn
 ·exact absurd rfl hn
end
section
variable {C:Ctx} {ρ:Env} {h:H} {θ:Th} {X:Cx} {hp:Hp} {T:Tb}
def EqR (C:Ctx) (ρ:Env) (h:H) (t:TypeId) (x y:Operand) (d:Bool):Prop:=
 ∀ ty T',OpVal C (.binOp .eql t x y T') ty ρ h (.bool d)∧OpVal C (.binOp .neq t x y T') ty ρ h (.bool (!d))
theorem eq_of {t:TypeId} {x y:Operand} {V V':Value} {d:Bool} (hx:ev ρ x = V) (hy:ev ρ y = V') (e1:binOp .eql t V V' = (do pure (.bool (← Op.equal t V V')))) (e2:binOp .neq t V V' = (do pure (.bool (!(← Op.equal t V V')))))
  (g1:eqGuard .eql t x y V V' = pure ()) (g2:eqGuard .neq t x y V V' = pure ()) (hq:∀ w,(Op.equal t V V').run C.P w = .ok d w):EqR C ρ h t x y d:=by
 intro ty T'
 constructor
 ·intro w hw pos after g d'
  have:=hq w
  simp only [execOp,hx,hy,e1,g1]
  simp [this]
 ·intro w hw pos after g d'
  have:=hq w
  simp only [execOp,hx,hy,e2,g2]
  simp [this]
theorem eq_agg {t:TypeId} {x y:Operand} {a b:Array Value} {d:Bool} (hx:ev ρ x = .agg a) (hy:ev ρ y = .agg b) (hg:C.P.eqGuardType C.P.depth t = false) (hq:∀ w,(Op.equal t (.agg a) (.agg b)).run C.P w = .ok d w):EqR C ρ h t x y d:=by
 intro ty T'
 have e1:binOp .eql t (.agg a) (.agg b) = (do pure (.bool (← Op.equal t (.agg a) (.agg b)))):=rfl
 have e2:binOp .neq t (.agg a) (.agg b) = (do pure (.bool (!(← Op.equal t (.agg a) (.agg b))))):=rfl
 have gg:∀ op,∃ msg:String,(op = .eql∨op = .neq)→eqGuard op t x y (.agg a) (.agg b) = (do
   if !(← program).eqGuardType (← program).depth t then return
   if ← Op.eqGuardIn Op.maxDepth t (.agg a) (.agg b) then unsupported (.noEntry msg)):=fun op=>⟨_,fun e=>by rcases e with rfl | rfl <;> rfl⟩
 obtain ⟨m1,g1⟩:=gg .eql
 obtain ⟨m2,g2⟩:=gg .neq
 constructor
 ·intro w hw pos after g d'
  have:=hq w
  simp only [execOp,hx,hy,e1,g1 (.inl rfl)]
  simp [this,hg]
 ·intro w hw pos after g d'
  have:=hq w
  simp only [execOp,hx,hy,e2,g2 (.inr rfl)]
  simp [this,hg]
theorem eq_int {t:TypeId} {x y:Operand} {k:IntKind} {a b:Int} {d:Bool} (hx:ev ρ x = .int k a) (hy:ev ρ y = .int k b) (hd:(a == b) = d):EqR C ρ h t x y d:=by
 intro ty T'
 subst hd
 exact ⟨eql_run.val hx hy,by have:=IntRun.val (C:=C) (ρ:=ρ) (h:=h) (ty:=ty) (T:=t) (T':=T') (neq_run (k:=k) (a:=a) (b:=b)) hx hy; exact this⟩
theorem ba_beq (a b:ByteArray):(a.toList == b.toList) = decide (a = b):=by
 rw [← beq_toListBytes,bytes_beq]
theorem eq_str {t:TypeId} {x y:Operand} {a b:ByteArray} {d:Bool} (hx:ev ρ x = .string a) (hy:ev ρ y = .string b) (hd:decide (a = b) = d):EqR C ρ h t x y d:=by
 intro ty T'
 subst hd
 constructor
 ·intro w hw pos after g d'
  simp [execOp,hx,hy,eqGuard,binOp,Op.stringOp,ba_beq]
 ·intro w hw pos after g d'
  simp [execOp,hx,hy,eqGuard,binOp,Op.stringOp,ba_beq]
theorem kd_eq {k:IntKind} {M:Nat} {Cn:Nat→AV} (K:Kd k M Cn) {n m:Nat} {x y:Operand} {t:TypeId} (hx:RA θ (Cn n) (ev ρ x)) (hy:RA θ (Cn m) (ev ρ y)):EqR C ρ h t x y (Nat.beq n m):=by
 obtain ⟨h1,e1⟩:=(K.ra _ _ _).1 hx
 obtain ⟨h2,e2⟩:=(K.ra _ _ _).1 hy
 refine eq_int e1 e2 ?_
 rw [← beq_dec,Bool.eq_iff_iff]
 simp only [beq_iff_eq,decide_eq_true_eq]
 refine ⟨fun e=>?_,fun e=>by rw [e]⟩
 have a1:=K.ww n
 have a2:=K.ww m
 rw [e] at a1
 have a3:((n:Nat):Int) % M = (m:Int) % M:=a1.symm.trans a2
 rw [Int.emod_eq_of_lt (by omega) (by omega),Int.emod_eq_of_lt (by omega) (by omega)] at a3
 omega
theorem eqN_ok {a b:AV} {x y:Operand} {t:TypeId} (hx:RV θ a (ev ρ x)) (hy:RV θ b (ev ρ y)) (hn:eqN a b ≠ .er):∃ d,eqN a b = .b d∧EqR C ρ h t x y d:=by
 cases a <;> first | exact absurd rfl hn | skip
 all_goals cases b <;> first | exact absurd rfl hn | skip
 ·exact ⟨_,rfl,kd_eq kd_i (hx.ra (v:=.i _) trivial) (hy.ra (v:=.i _) trivial)⟩
 ·exact ⟨_,rfl,kd_eq kd_w (hx.ra (v:=.w _) trivial) (hy.ra (v:=.w _) trivial)⟩
 ·exact ⟨_,rfl,kd_eq kd_y (hx.ra (v:=.y _) trivial) (hy.ra (v:=.y _) trivial)⟩
 ·exact ⟨_,rfl,kd_eq kd_h (hx.ra (v:=.h _) trivial) (hy.ra (v:=.h _) trivial)⟩
 ·rename_i n u m z
  obtain ⟨h1,e1⟩:=hx.ra (v:=.s n u) trivial
  obtain ⟨h2,e2⟩:=hy.ra (v:=.s m z) trivial
  refine ⟨_,rfl,eq_str e1 e2 ?_⟩
  rw [Bool.eq_iff_iff,decide_eq_true_eq,an_iff,beq_iff,beq_iff]
  exact ⟨fun e=>byS_inj h1 h2 e,fun ⟨e3,e4⟩=>by rw [e3,e4]⟩
theorem kkT_scl (hT:TbOk C.P T) {K:Nat} {kk:KK} (h:kkT T K = some kk) (ha:aggT T K = true):C.P.eqGuardType C.P.depth K = false∧kk ≠ .int∧kk ≠ .str:=by
 have h0:=h
 have hs:∀ s,kk = .key s→C.P.eqGuardType C.P.depth K = false:=fun s e=>(hT.stood K s (e ▸ h0)).2
 unfold kkT at h
 split at h
 ·split at h <;> first | (cases h; done) | (injection h with h; subst h; exact ⟨hs _ rfl,(fun e=>by cases e),(fun e=>by cases e)⟩)
 ·obtain ⟨⟨d,hd,hA⟩,_⟩:=hT.agg ha
  split at h
  ·rename_i e
   have:=kk1_1 hT e
   rw [this] at hd; injection hd with hd; subst hd
   rcases hA with ⟨_,e⟩ | ⟨_,_,e⟩ <;> cases e
  ·rename_i e; injection h with h; subst h
   exact ⟨hT.guard _ e,(fun e=>by cases e),(fun e=>by cases e)⟩
  ·rename_i e
   have:=kk1_3 hT e
   rw [this] at hd; injection hd with hd; subst hd
   rcases hA with ⟨_,e⟩ | ⟨_,_,e⟩ <;> cases e
  ·cases h
theorem KR.aggr {kk:KK} {k:AV} {V:Value} (h:KR kk k V) (n1:kk ≠ .int) (n2:kk ≠ .str):∃ A,V = .agg A:=by
 cases h <;> first | exact absurd rfl n1 | exact absurd rfl n2 | exact ⟨_,rfl⟩
theorem eq_key {P:Program} {K:TypeId} {kk:KK} (hk:KeyT P K (KeyOf kk)) (a b:KeyOf kk) {β:Bool} (e2:β = true ↔ a.1 = b.1) (w:World):(Op.equal K a.1 b.1).run P w = .ok β w:=by
 have:=hk.eq a b w
 have e3:decide (a = b) = β:=by
  rw [Bool.eq_iff_iff,decide_eq_true_eq,e2]
  exact ⟨fun e=>congrArg Subtype.val e,fun e=>Subtype.ext e⟩
 rw [e3] at this
 exact this
theorem eqT_ok (hT:TbOk C.P T) {t:Nat} {a b:AV} {x y:Operand} (hx:RV θ a (ev ρ x)) (hy:RV θ b (ev ρ y)) (hn:(eqT T t).f a b ≠ .er):∃ d,(eqT T t).f a b = .b d∧EqR C ρ h t x y d:=by
 unfold eqT at hn ⊢
 cases ca:aggT T t with
 | true=>
  rw [ca] at hn
  simp only [cond_true] at hn ⊢
  cases hk:kkT T t with
  | none=>rw [hk] at hn; exact absurd rfl hn
  | some kk=>
   rw [hk] at hn
   simp only at hn ⊢
   obtain ⟨c,hn1⟩:=bv_ok hn
   obtain ⟨c1,c2⟩:=an_ok c
   rw [c]
   have k1:=KR.of c1 hx
   have k2:=KR.of c2 hy
   obtain ⟨β,e1,e2⟩:=keyE_ok k1 k2
   obtain ⟨hg,n1,n2⟩:=kkT_scl hT hk ca
   refine ⟨β,e1,?_⟩
   have hq:∀ w,(Op.equal t (ev ρ x) (ev ρ y)).run C.P w = .ok β w:=fun w=>eq_key (keyT_of hT hk) ⟨ev ρ x,k1.isKey⟩ ⟨ev ρ y,k2.isKey⟩ e2 w
   obtain ⟨A,hA⟩:=k1.aggr n1 n2
   obtain ⟨B,hB⟩:=k2.aggr n1 n2
   rw [hA,hB] at hq
   exact eq_agg hA hB hg hq
 | false=>
  rw [ca] at hn
  simp only [cond_false] at hn ⊢
  cases hk:tkT T t with
  | it k=>rw [hk] at hn; exact eqN_ok hx hy hn
  | str=>rw [hk] at hn; exact eqN_ok hx hy hn
  | bo=>
   rw [hk] at hn
   have hu:=tk_bo hT hk
   cases a <;> first | exact absurd rfl hn | skip
   cases b <;> first | exact absurd rfl hn | skip
   rename_i u v
   have e1:=hx.ra (v:=.b u) trivial
   have e2:=hy.ra (v:=.b v) trivial
   refine ⟨_,rfl,?_⟩
   refine eq_of e1 e2 rfl rfl rfl rfl fun w=>?_
   unfold Op.equal Op.maxDepth Op.equalIn
   simp only [Sem.run_bind,run_underlying hu,Result.andThen_ok]
   cases u <;> cases v <;> rfl
  | pt e=>
   rw [hk] at hn
   have hu:=tk_pt hT hk
   have go:∀ p q d,(p = none∨q = none)→d = (p.isNone && q.isNone)→ev ρ x = .pointer p→ev ρ y = .pointer q→EqR C ρ h t x y d:=fun p q d h1 h2 e1 e2=>by
    subst h2
    refine eq_of e1 e2 (binOp_eql_ptr _ _ _) (binOp_neq_ptr _ _ _) rfl rfl fun w=>?_
    unfold Op.equal Op.maxDepth Op.equalIn
    simp only [Sem.run_bind,run_underlying hu,Result.andThen_ok]
    cases p <;> cases q <;> first | rfl | (rcases h1 with h1 | h1 <;> cases h1)
   cases a <;> first | exact absurd rfl hn | skip
   all_goals cases b <;> first | exact absurd rfl hn | skip
   ·obtain ⟨bb,o0,tt,hr,e1⟩:=hx.ra (v:=.p _ _) trivial
    exact ⟨false,rfl,go _ _ _ (.inr rfl) rfl e1 (hy.ra (v:=.pn) trivial)⟩
   ·obtain ⟨bb,o0,tt,hr,e1⟩:=hy.ra (v:=.p _ _) trivial
    exact ⟨false,rfl,go _ _ _ (.inl rfl) rfl (hx.ra (v:=.pn) trivial) e1⟩
   ·exact ⟨true,rfl,go _ _ _ (.inl rfl) rfl (hx.ra (v:=.pn) trivial) (hy.ra (v:=.pn) trivial)⟩
  | sl e sz=>
   rw [hk] at hn
   obtain ⟨hu,_⟩:=tk_sl hT hk
   have go:∀ p n c q m k d,(p = none∨q = none)→d = (p.isNone && q.isNone)→ev ρ x = .slice p n c→ev ρ y = .slice q m k→EqR C ρ h t x y d:=fun p n c q m k d h1 h2 e1 e2=>by
    subst h2
    refine eq_of e1 e2 rfl rfl rfl rfl fun w=>?_
    unfold Op.equal Op.maxDepth Op.equalIn
    simp only [Sem.run_bind,run_underlying hu,Result.andThen_ok]
    cases p <;> cases q <;> first | rfl | (rcases h1 with h1 | h1 <;> cases h1)
   have hsl:∀ {c:AV} {V:Value},RV θ c V→(∃ r o n z,c = .sl r o n z)∨(∃ r o n k z,c = .sr r o n k z)∨(∃ r o z,c = .se r o z)∨c = .sz→∃ p n k,V = .slice (some p) n k:=by
    intro c V hc hs
    rcases hs with ⟨r,o,n,z,rfl⟩ | ⟨r,o,n,k,z,rfl⟩ | ⟨r,o,z,rfl⟩ | rfl
    ·obtain ⟨bb,o0,tt,c,hr,hz,hc,hnc,e⟩:=hc.ra (v:=.sl r o n z) trivial
     exact ⟨_,_,_,e⟩
    ·obtain ⟨bb,o0,tt,hr,hz,hnc,e⟩:=hc.ra (v:=.sr r o n k z) trivial
     exact ⟨_,_,_,e⟩
    ·obtain ⟨bb,o0,tt,c,hr,hz,hc,hv⟩:=hc.ra (v:=.se r o z) trivial
     rcases hv with ⟨rfl,p,hp',e1⟩ | ⟨hc0,e1⟩
     ·exact ⟨_,_,_,e1⟩
     ·exact ⟨_,_,_,e1⟩
    ·obtain ⟨p,hp',e1⟩:=hc.ra (v:=.sz) trivial
     exact ⟨_,_,_,e1⟩
   by_cases ha:a = .sn
   ·subst ha
    have e1:=hx.ra (v:=.sn) trivial
    cases b <;> first | exact absurd rfl hn | skip
    ·obtain ⟨p,n,k,e2⟩:=hsl hy (.inl ⟨_,_,_,_,rfl⟩)
     exact ⟨false,rfl,go _ _ _ _ _ _ _ (.inl rfl) rfl e1 e2⟩
    ·obtain ⟨p,n,k,e2⟩:=hsl hy (.inr (.inl ⟨_,_,_,_,_,rfl⟩))
     exact ⟨false,rfl,go _ _ _ _ _ _ _ (.inl rfl) rfl e1 e2⟩
    ·obtain ⟨p,n,k,e2⟩:=hsl hy (.inr (.inr (.inl ⟨_,_,_,rfl⟩)))
     exact ⟨false,rfl,go _ _ _ _ _ _ _ (.inl rfl) rfl e1 e2⟩
    ·obtain ⟨p,n,k,e2⟩:=hsl hy (.inr (.inr (.inr rfl)))
     exact ⟨false,rfl,go _ _ _ _ _ _ _ (.inl rfl) rfl e1 e2⟩
    ·exact ⟨true,rfl,go _ _ _ _ _ _ _ (.inl rfl) rfl e1 (hy.ra (v:=.sn) trivial)⟩
   ·have fin:eqSl a b = .b false→b = .sn→(∃ p n k,ev ρ x = .slice (some p) n k)→∃ d,eqSl a b = .b d∧EqR C ρ h t x y d:=by
     intro e0 e1 ⟨p,n,k,e2⟩
     subst e1
     exact ⟨false,e0,go _ _ _ _ _ _ _ (.inr rfl) rfl e2 (hy.ra (v:=.sn) trivial)⟩
    have hb:∀ c:AV,isSn c ≠ .er→c = .sn:=by intro c hc; cases c <;> first | rfl | exact absurd rfl hc
    cases a <;> first | exact absurd rfl hn | exact absurd rfl ha | skip
    all_goals (have hb1:=hb b hn; subst hb1)
    ·exact fin rfl rfl (hsl hx (.inl ⟨_,_,_,_,rfl⟩))
    ·exact fin rfl rfl (hsl hx (.inr (.inl ⟨_,_,_,_,_,rfl⟩)))
    ·exact fin rfl rfl (hsl hx (.inr (.inr (.inl ⟨_,_,_,rfl⟩))))
    ·exact fin rfl rfl (hsl hx (.inr (.inr (.inr rfl))))
  | mp k e=>
   rw [hk] at hn
   have hu:=tk_mp hT hk
   have go:∀ p q d,(p = none∨q = none)→d = (p.isNone && q.isNone)→ev ρ x = .map p→ev ρ y = .map q→EqR C ρ h t x y d:=fun p q d h1 h2 e1 e2=>by
    subst h2
    refine eq_of e1 e2 rfl rfl rfl rfl fun w=>?_
    unfold Op.equal Op.maxDepth Op.equalIn
    simp only [Sem.run_bind,run_underlying hu,Result.andThen_ok]
    cases p <;> cases q <;> first | rfl | (rcases h1 with h1 | h1 <;> cases h1)
   cases a <;> first | exact absurd rfl hn | skip
   all_goals cases b <;> first | exact absurd rfl hn | skip
   ·obtain ⟨bb,o0,tt,hr,e1⟩:=hx.ra (v:=.m _) trivial
    exact ⟨false,rfl,go _ _ _ (.inr rfl) rfl e1 (hy.ra (v:=.mn) trivial)⟩
   ·obtain ⟨bb,o0,tt,hr,e1⟩:=hy.ra (v:=.m _) trivial
    exact ⟨false,rfl,go _ _ _ (.inl rfl) rfl (hx.ra (v:=.mn) trivial) e1⟩
   ·exact ⟨true,rfl,go _ _ _ (.inl rfl) rfl (hx.ra (v:=.mn) trivial) (hy.ra (v:=.mn) trivial)⟩
  | fn=>
   rw [hk] at hn
   obtain ⟨a1,a2,a3,hu⟩:=tk_fn hT hk
   have hf:∀ {f:Nat} {fs cs:List AV} {V:Value},RV θ (.f f fs cs) V→∃ g a b,V = .func g a b:=by
    intro f fs cs V hv
    rcases hv with (hv | ⟨_,_,e,_⟩ | ⟨e,_⟩) | ⟨_,_,e,_⟩
    ·rcases hv with hv | ⟨_,_,_,_,_,e,e2,_⟩
     ·exact hv.elim
     ·exact ⟨_,_,_,e2⟩
    ·cases e
    ·cases e
    ·cases e
   have one:∀ g A B d,d = false→((ev ρ x = .nilFunc∧ev ρ y = .func g A B)∨(ev ρ x = .func g A B∧ev ρ y = .nilFunc))→EqR C ρ h t x y d:=fun g A B d hd hh=>by
    subst hd
    rcases hh with ⟨e1,e2⟩ | ⟨e1,e2⟩
    ·refine eq_of e1 e2 rfl rfl rfl rfl fun w=>?_
     unfold Op.equal Op.maxDepth Op.equalIn
     simp only [Sem.run_bind,run_underlying hu,Result.andThen_ok]
     rfl
    ·refine eq_of e1 e2 rfl rfl rfl rfl fun w=>?_
     unfold Op.equal Op.maxDepth Op.equalIn
     simp only [Sem.run_bind,run_underlying hu,Result.andThen_ok]
     rfl
   cases a <;> first | exact absurd rfl hn | skip
   all_goals cases b <;> first | exact absurd rfl hn | skip
   ·obtain ⟨g,A,B,e1⟩:=hf hx
    exact ⟨false,rfl,one _ _ _ _ rfl (.inr ⟨e1,hy.ra (v:=.fn) trivial⟩)⟩
   ·obtain ⟨g,A,B,e1⟩:=hf hy
    exact ⟨false,rfl,one _ _ _ _ rfl (.inl ⟨hx.ra (v:=.fn) trivial,e1⟩)⟩
   ·refine ⟨true,rfl,eq_of (hx.ra (v:=.fn) trivial) (hy.ra (v:=.fn) trivial) rfl rfl rfl rfl fun w=>?_⟩
    unfold Op.equal Op.maxDepth Op.equalIn
    simp only [Sem.run_bind,run_underlying hu,Result.andThen_ok]
    rfl
  | _=>rw [hk] at hn; exact absurd rfl hn
theorem binT_ok (hT:TbOk C.P T) {op:BinOp} {t T' ty:TypeId} {a b:AV} {x y:Operand} (hx:RV θ a (ev ρ x)) (hy:RV θ b (ev ρ y)) (hn:(binT T op t).f a b ≠ .er):
  ∃ V,OpVal C (.binOp op t x y T') ty ρ h V∧RV θ ((binT T op t).f a b) V:=by
 cases op with
 | eql=>
  obtain ⟨d,e,hd⟩:=eqT_ok (h:=h) hT hx hy hn
  have e0:(binT T .eql t).f a b = (eqT T t).f a b:=rfl
  rw [e0,e]
  exact ⟨_,(hd ty T').1,rb⟩
 | neq=>
  have e0:(binT T .neq t).f a b = notA ((eqT T t).f a b):=rfl
  rw [e0] at hn ⊢
  have hn1:(eqT T t).f a b ≠ .er:=by intro e; rw [e] at hn; exact hn rfl
  obtain ⟨d,e,hd⟩:=eqT_ok (h:=h) hT hx hy hn1
  rw [e]
  refine ⟨_,(hd ty T').2,?_⟩
  cases d <;> exact rb
 | _=>exact binQ_ok hx hy hn
end
section
variable {T:Tb} {hp:Hp}
theorem bv_same (c:Bool):bv c .er .er = .er:=by cases c <;> rfl
theorem ldQ_er {t:Nat}:(ldQ T t).f .er hp = .er:=by
 unfold ldQ; cases aggT T t <;> cases sclT T t <;> rfl
theorem idxA_er1 {S:TK} {b:AV}:(idxA S).f .er b = .er:=by
 cases S <;> first | rfl | skip
 rename_i n e sz
 show (bif Nat.ble 1 sz then (⟨fun x y=>idxAr n sz x y⟩:Bf) else erB).f .er b = .er
 cases Nat.ble 1 sz <;> rfl
theorem idxA_er2 {S:TK} {a:AV}:(idxA S).f a .er = .er:=by
 cases S <;> first | rfl | skip
 ·cases a <;> first | rfl | exact bv_same _
 ·rename_i n e sz
  show (bif Nat.ble 1 sz then (⟨fun x y=>idxAr n sz x y⟩:Bf) else erB).f a .er = .er
  cases Nat.ble 1 sz
  ·rfl
  ·cases a <;> rfl
theorem idxV_er1 {S:TK} {b:AV}:(idxV T S).f .er b = .er:=by
 cases S <;> first | rfl | skip
 rename_i n e sz
 show (bif aggT T e then (⟨fun x y=>idxVa n sz x y⟩:Bf) else bif an (sclT T e) (Nat.beq sz 1) then ⟨fun x y=>idxV1 n x y⟩ else erB).f .er b = .er
 cases aggT T e <;> cases an (sclT T e) (Nat.beq sz 1) <;> rfl
theorem idxV_er2 {S:TK} {a:AV}:(idxV T S).f a .er = .er:=by
 cases S <;> first | rfl | skip
 ·rename_i n e sz
  show (bif aggT T e then (⟨fun x y=>idxVa n sz x y⟩:Bf) else bif an (sclT T e) (Nat.beq sz 1) then ⟨fun x y=>idxV1 n x y⟩ else erB).f a .er = .er
  cases aggT T e <;> cases an (sclT T e) (Nat.beq sz 1) <;> cases a <;> rfl
 ·cases a <;> rfl
theorem fldQ_er {t o:Nat}:(fldQ T t o).f .er hp = .er:=by
 unfold fldQ; cases aggT T t <;> cases sclT T t <;> rfl
theorem slQ_er {S:TK} {lo hi mx:Option AV}:(slQ S).f .er lo hi mx hp = .er:=by
 cases S <;> first | rfl | skip
 ·rename_i e sz
  show (bif Nat.ble 1 sz then (⟨fun x lo hi mx h=>slSl sz x lo hi mx h⟩:Sq) else erS).f .er lo hi mx hp = .er
  cases Nat.ble 1 sz <;> rfl
 ·rename_i n e sz
  show (bif Nat.ble 1 sz then (⟨fun x lo hi mx _=>slArr n sz x lo hi mx⟩:Sq) else erS).f .er lo hi mx hp = .er
  cases Nat.ble 1 sz <;> rfl
theorem cvQ_er {S D:TK}:(cvQ T S D).f .er hp = .er:=by
 cases D <;> first | rfl | skip
 ·cases S <;> first | rfl | skip
  rename_i e sz
  show (bif u8T T e then (⟨cvS⟩:Lf) else ⟨fun _ _=>.er⟩).f .er hp = .er
  cases u8T T e <;> rfl
 ·rename_i k; cases k <;> rfl
theorem lenT_er {S:TK}:(lenT S).f .er hp = .er:=by cases S <;> rfl
theorem binQ_er1 {op:BinOp} {b:AV}:(binQ op).f .er b = .er:=by
 cases op <;> first | rfl | skip
 ·show cnt b (fun _=>.er) = .er
  cases b <;> first | rfl | exact bv_same _
 ·show cnt b (fun _=>.er) = .er
  cases b <;> first | rfl | exact bv_same _
theorem binQ_er2 {op:BinOp} {a:AV}:(binQ op).f a .er = .er:=by
 cases op <;> first | rfl | (cases a <;> rfl)
theorem eqT_er1 {t:Nat} {b:AV}:(eqT T t).f .er b = .er:=by
 unfold eqT
 cases aggT T t with
 | true=>
  cases hk:kkT T t with
  | none=>rfl
  | some kk=>
   show bv (an (kOk kk .er) (kOk kk b)) (keyE .er b) .er = .er
   cases c:kOk kk .er with
   | true=>exact absurd rfl (kOk_ne c)
   | false=>rfl
 | false=>cases tkT T t <;> rfl
theorem eqT_er2 {t:Nat} {a:AV}:(eqT T t).f a .er = .er:=by
 unfold eqT
 cases aggT T t with
 | true=>
  cases hk:kkT T t with
  | none=>rfl
  | some kk=>
   show bv (an (kOk kk a) (kOk kk .er)) (keyE a .er) .er = .er
   cases c:kOk kk .er with
   | true=>exact absurd rfl (kOk_ne c)
   | false=>rw [an_eq,Bool.and_false]; rfl
 | false=>cases tkT T t <;> cases a <;> rfl
theorem binT_bin {op:BinOp} {t:Nat} (h1:op ≠ .eql) (h2:op ≠ .neq):binT T op t = binQ op:=by cases op <;> first | rfl | exact absurd rfl h1 | exact absurd rfl h2
theorem binT_er1 {op:BinOp} {t:Nat} {b:AV}:(binT T op t).f .er b = .er:=by
 by_cases h1:op = .eql
 ·subst h1; exact eqT_er1
 by_cases h2:op ≠ .neq
 ·rw [binT_bin h1 h2]; exact binQ_er1
 have h3:op = .neq:=Decidable.not_not.1 h2
 subst h3
 show notA ((eqT T t).f .er b) = .er
 rw [eqT_er1]; rfl
theorem binT_er2 {op:BinOp} {t:Nat} {a:AV}:(binT T op t).f a .er = .er:=by
 by_cases h1:op = .eql
 ·subst h1; exact eqT_er2
 by_cases h2:op ≠ .neq
 ·rw [binT_bin h1 h2]; exact binQ_er2
 have h3:op = .neq:=Decidable.not_not.1 h2
 subst h3
 show notA ((eqT T t).f a .er) = .er
 rw [eqT_er2]; rfl
theorem unQ_er {op:UnOp}:unQ op .er = .er:=by cases op <;> rfl
theorem lookQ_er {S:TK} {k:AV} {ok:Bool}:lookQ T S .er k ok hp = .er:=by cases S <;> rfl
theorem minQ_er2 {a:AV}:minQ a .er = .er:=by cases a <;> rfl
theorem maxQ_er2 {a:AV}:maxQ a .er = .er:=by cases a <;> rfl
theorem list1 {α:Type} {xs:Array α} {x:α} (h:xs.toList = [x]):xs = #[x]:=by apply Array.ext'; rw [h]
theorem list2 {α:Type} {xs:Array α} {x y:α} (h:xs.toList = [x,y]):xs = #[x,y]:=by apply Array.ext'; rw [h]
end
section
variable {C:Ctx} {ρ:Env} {h:H} {ty:TypeId} {θ:Th} {X:Cx} {hp:Hp} {T:Tb}
theorem mh_ok {m h:Option Operand} (hh:∀ v,m = some v→h = none→False):m = none∨h ≠ none:=by
 cases m with
 | none=>exact .inl rfl
 | some v=>exact .inr fun e=>hh v rfl e
theorem v_mv {x:Operand} {e:E} (he:RE θ e ρ) {o:Op} (ho:o = .move x∨o = .assign x) (hn:(gO x).f e ≠ .er):∃ V,OpVal C o ty ρ h V∧RV θ ((gO x).f e) V:=by
 rcases ho with rfl | rfl
 ·exact ⟨_,v_move rfl,gO_ok he hn⟩
 ·exact ⟨_,v_assign rfl,gO_ok he hn⟩
theorem cQ_ok (hT:TbOk C.P T) (S:SR X θ hp h) {e:E} (he:RE θ e ρ) {o:Op} {q:Qf} (hq:cQ T o = some q) (hn:q.f e hp ≠ .er):∃ V,OpVal C o ty ρ h V∧RV θ (q.f e hp) V:=by
 have hx:∀ {x:Operand} {f:AV→AV},f ((gO x).f e) ≠ .er→f .er = .er→RV θ ((gO x).f e) (ev ρ x):=fun {x f} h1 h2=>gO_ok he fun e1=>h1 (by rw [e1,h2])
 unfold cQ at hq
 split at hq <;> first | (cases hq; done) | skip
 ·injection hq with hq; subst hq; exact v_mv he (.inl rfl) hn
 ·injection hq with hq; subst hq; exact v_mv he (.inr rfl) hn
 ·injection hq with hq; subst hq
  rename_i c a b
  exact pickQ_ok (hx (f:=fun y=>pickQ y _ _) hn rfl) (fun h=>gO_ok he h) (fun h=>gO_ok he h) hn
 ·injection hq with hq; subst hq; exact bldQ_ok hT he hn
 ·injection hq with hq; subst hq; exact ldQ_ok hT S (hx (f:=fun y=>(ldQ T _).f y hp) hn ldQ_er) hn
 ·injection hq with hq; subst hq; exact nilQ_ok (hx (f:=nilQ) hn rfl) hn
 ·injection hq with hq; subst hq; exact binT_ok hT (hx (f:=fun y=>(binT T _ _).f y _) hn binT_er1) (hx (f:=fun y=>(binT T _ _).f _ y) hn binT_er2) hn
 ·injection hq with hq; subst hq; exact unQ_ok (hx (f:=unQ _) hn unQ_er) hn
 ·rename_i s d x
  split at hq
  ·cases hq
  ·injection hq with hq; subst hq
   cases c:isOt (tkT T s) with
   | true=>rw [c] at hn; exact absurd rfl hn
   | false=>
    rw [c] at hn
    simp only [cond_false] at hn ⊢
    exact cvQ_ok hT S c (hx (f:=fun y=>(cvQ T _ _).f y hp) hn cvQ_er) hn
 ·split at hq
  ·injection hq with hq; subst hq; exact mkF_ok he hn
  ·injection hq with hq; subst hq; exact absurd rfl hn
 ·split at hq
  ·injection hq with hq; subst hq; exact absurd rfl hn
  ·rename_i hmh
   injection hq with hq; subst hq
   exact slQ_ok hT S he (mh_ok hmh) (hx (f:=fun y=>(slQ _).f y _ _ _ hp) hn slQ_er) hn
 ·split at hq
  ·rename_i hf
   injection hq with hq; subst hq; exact adr_ok hT hf (hx (f:=fun y=>adr y _) hn rfl) hn
  ·injection hq with hq; subst hq; exact absurd rfl hn
 ·split at hq
  ·rename_i hf
   injection hq with hq; subst hq; exact fldQ_ok hT hf (hx (f:=fun y=>(fldQ T _ _).f y hp) hn fldQ_er) hn
  ·injection hq with hq; subst hq; exact absurd rfl hn
 ·injection hq with hq; subst hq; exact idxA_ok hT (hx (f:=fun y=>(idxA _).f y _) hn idxA_er1) (hx (f:=fun y=>(idxA _).f _ y) hn idxA_er2) hn
 ·injection hq with hq; subst hq; exact idxV_ok hT (hx (f:=fun y=>(idxV T _).f y _) hn idxV_er1) (hx (f:=fun y=>(idxV T _).f _ y) hn idxV_er2) hn
 ·injection hq with hq; subst hq; exact lookQ_ok hT S (hx (f:=fun y=>lookQ T _ y _ _ hp) hn lookQ_er) (fun h=>gO_ok he h) hn
 ·injection hq with hq; subst hq; exact entQ_ok S (hx (f:=fun y=>entQ y hp) hn rfl) hn
 ·injection hq with hq; subst hq; exact extQ_ok (hx (f:=fun y=>extQ y _) hn rfl) hn
 ·split at hq
  ·rename_i hxs hts
   injection hq with hq; subst hq
   rw [list1 hxs,list1 hts]
   exact lenT_ok hT S (hx (f:=fun y=>(lenT _).f y hp) hn lenT_er) hn
  ·injection hq with hq; subst hq; exact absurd rfl hn
 ·split at hq
  ·rename_i hxs
   injection hq with hq; subst hq
   rw [list2 hxs]
   exact minQ_ok (hx (f:=fun y=>minQ y _) hn rfl) (hx (f:=fun y=>minQ _ y) hn minQ_er2) hn
  ·injection hq with hq; subst hq; exact absurd rfl hn
 ·split at hq
  ·rename_i hxs
   injection hq with hq; subst hq
   rw [list2 hxs]
   exact maxQ_ok (hx (f:=fun y=>maxQ y _) hn rfl) (hx (f:=fun y=>maxQ _ y) hn maxQ_er2) hn
  ·injection hq with hq; subst hq; exact absurd rfl hn
end
def Kt (X:Cx) (θ:Th) (hp:Hp) (q:K1) (R:Value→H→Prop):Prop:=
 ∀ θ' hp' h' a w,SR X θ' hp' h'→Ext θ θ' (tor hp.nx)→tor hp.nx≤tor hp'.nx→RV θ' a w→X.G (q a hp')→R w h'
section
variable {C:Ctx} {ρ:Env} {h:H} {ty:TypeId} {Q:Exit→Act→World→Prop} {J:Env→H→Prop} {dst:Option Tmp} {X:Cx} {θ:Th} {hp:Hp} {T:Tb} {q:K1} {o:Op}
theorem OpE.skipD (hd:okd C.n dst = true) (h':H)
  (hr:∀ w,w.heap = h→∀ (pos:String) (after:Array Edge) (g:Option (Nat×Bool)),∃ w',(execOp (ev ρ) ⟨dst,o,ty,pos,after,g⟩).run C.P w = .ok .skip w'∧w'.heap = h'∧w'.tape = w.tape∧w'.os = w.os∧w'.output = w.output)
  (hj:J (upo ρ dst undef) h'):OpE C Q o ty dst J ρ h:=by
 intro a w s pos after g
 obtain ⟨w',hr,hh,ht,ho,hu⟩:=hr w s.heap pos after g
 unfold Oper.wp
 rw [s.evals,hr]
 have s1:=(s.put hd undef).world ht ho hu
 rw [hh] at s1
 exact ⟨_,_,s1,hj⟩
theorem splice_take {arr:Array Value} {o0 L:Nat} {vs:List Value} (hl:vs.length = L) (hb:o0 + L≤arr.size):(splice arr o0 vs).size = arr.size∧((splice arr o0 vs).toList.drop o0).take L = vs:=by
 subst hl
 have h1:(arr.toList.take o0).length = o0:=by simp; omega
 constructor
 ·simp [splice]; omega
 ·show ((arr.toList.take o0 ++ vs ++ arr.toList.drop (o0 + vs.length)).drop o0).take vs.length = vs
  rw [List.append_assoc,List.drop_append,h1,Nat.sub_self,List.drop_zero,List.drop_of_length_le (by omega),List.nil_append,List.take_append,List.take_length,Nat.sub_self,List.take_zero,List.append_nil]
theorem rowC_w (S:SR X θ hp h) {r:Rid} {b o0 t:Nat} (hr:θ r = some (b,o0,t)) {L:Nat} {cs:CL AV} (hg:getH hp r = .c L cs):WAt h ⟨b,o0,none⟩ L:=by
 obtain ⟨arr,E,fr,vs,h1,h2,h3,h4,h5,h6,h7⟩:=rowC_ok S hr hg
 exact ⟨rfl,arr,E,fr,h1,by show o0 + L≤_; omega,fun i hi ⟨k1,k2⟩=>by
  have k1:fr.1≤o0 + i:=k1
  have k2:o0 + i < fr.2:=k2
  rcases h4 with h4 | h4 <;> omega⟩
theorem rowC_put (S:SR X θ hp h) {r:Rid} {b o0 t:Nat} (hr:θ r = some (b,o0,t)) {L:Nat} {cs cs':CL AV} (hg:getH hp r = .c L cs) (hK:X.K r = none) {vs':List Value} (hc:RC θ cs' vs') (hl:vs'.length = L):
  SR X θ ⟨uR hp.rows r (.c L cs'),hp.nx,hp.ro⟩ (putC h ⟨b,o0,none⟩ vs'):=by
 obtain ⟨arr,E,fr,vs,h1,h2,h3,h4,h5,h6,h7⟩:=rowC_ok S hr hg
 have e:=putC_at (h:=h) (p:=⟨b,o0,none⟩) h1 vs'
 obtain ⟨s1,s2⟩:=splice_take (arr:=arr) (o0:=o0) hl (by omega)
 refine S.upd hr (by rw [hg]; trivial) hK (by rw [e]; simp) (fun b' hb=>?_) ?_
 ·rw [e]; rw [Array.getElem?_setIfInBounds_ne (Ne.symm hb)]
 ·refine ⟨splice arr o0 vs',E,fr,vs',?_,by rw [s1]; exact h2,h3,by rw [s1]; exact h4,hc,hl,s2⟩
  rw [e]
  show (h.setIfInBounds b _)[b]? = _
  have hb:b < h.size:=by rw [Array.getElem?_eq_some_iff] at h1; exact h1.1
  simp [hb]
theorem st_run (S:SR X θ hp h) {r:Rid} {b o0 t:Nat} (hr:θ r = some (b,o0,t)) {L:Nat} {cs:CL AV} (hg:getH hp r = .c L cs) {vs:List Value} (hat:AtH h ⟨b,o0,none⟩ vs) (hvl:vs.length = L) {o:Nat} {x y:Operand} {T':TypeId} {nv:List Value}
  (hx:ev ρ x = .pointer (some ⟨b,o0 + o,none⟩)) (hv:(ev ρ y).cells = nv.toArray) (hT:SizeOf C.P T' nv.length) (h1:nv.all (·.oneCell') = true) (hl:o + nv.length≤L) (hd:okd C.n dst = true)
  (hj:J (upo ρ dst undef) (putC h ⟨b,o0,none⟩ (vs.take o ++ nv ++ vs.drop (o + nv.length)))):OpE C Q (.store T' x y) ty dst J ρ h:=by
 have hw:=rowC_w S hr hg
 refine OpE.skipD hd (putC h ⟨b,o0,none⟩ (vs.take o ++ nv ++ vs.drop (o + nv.length))) (fun w hw' pos after g=>⟨{ w with heap:=putC h ⟨b,o0,none⟩ (vs.take o ++ nv ++ vs.drop (o + nv.length)) },?_,rfl,rfl,rfl,rfl⟩) hj
 subst hw'
 have ea:(⟨b,o0,none⟩:Addr).add o = ⟨b,o0 + o,none⟩:=addr_add b o0 o
 have hs:((⟨b,o0,none⟩:Addr).add o).spot = none:=by rw [ea]
 have hst:=run_storeCellsH C.P ((⟨b,o0,none⟩:Addr).add o) hs nv 0 w (by rw [show ((⟨b,o0,none⟩:Addr).add o).add 0 = (⟨b,o0,none⟩:Addr).add o from rfl]; rw [← hvl] at hw; exact hw.sub o _ (by omega)) h1
 rw [show ((⟨b,o0,none⟩:Addr).add o).add 0 = (⟨b,o0,none⟩:Addr).add o from rfl,putC_field o hat (by omega),ea] at hst
 simp [execOp,hx,Instr.storeAt,Instr.sureAddr,storeVar,hv,Sh.run_sizeOf hT,hst]
theorem rv_p {r:Rid} {b o0 t o:Nat} (h:θ r = some (b,o0,t)):RV θ (.p r o) (.pointer (some ⟨b,o0 + o,none⟩)):=.inl (.inl (.inl ⟨b,o0,t,h,rfl⟩))
theorem rv_m {r:Rid} {b o0 t:Nat} (h:θ r = some (b,o0,t)):RV θ (.m r) (.map (some b)):=.inl (.inl (.inl ⟨b,o0,t,h,rfl⟩))
theorem rv_sl {r:Rid} {b o0 t o n z c:Nat} (h:θ r = some (b,o0,t)) (hz:0 < z) (hc:o + c * z = t) (hn:n≤c):RV θ (.sl r o n z) (.slice (some ⟨b,o0 + o,none⟩) n c):=.inl (.inl (.inl ⟨b,o0,t,c,h,hz,hc,hn,rfl⟩))
theorem st1_atm {G:Ans→Prop} (hG:Gd G):∀ {l:CL AV} {o:Nat} {v:AV} {k:CL AV→Ans},G (st1 l o v k)→Atm v∧v ≠ .er
 | .nil,_,_,_,g=>(hG.er _ g).elim
 | .cons w x tl,o,v,k,g=>by
  have g':G (bz (Nat.ble (Nat.add o 1) w) (st2 x v w o tl k) (st1 tl (Nat.sub o w) v fun tl=>k (.cons w x tl))):=g
  cases c:Nat.ble (Nat.add o 1) w with
  | false=>rw [c] at g'; exact st1_atm hG (l:=tl) g'
  | true=>
   rw [c] at g'
   have g2:G (st2 x v w o tl k):=g'
   cases x <;> (cases v <;> first | exact (hG.er _ g2).elim | exact ⟨trivial,by intro e; cases e⟩)
theorem cSt_ok (hX:CxOk X) (hT:TbOk C.P T) (S:SR X θ hp h) {e:E} (he:RE θ e ρ) {cl:CallT} {t:Nat} {x y:Operand} (hd:okd C.n dst = true) (g:X.G ((cSt T t x y).f cl e hp q)) (hj:Kt X θ hp q fun w h'=>J (upo ρ dst w) h'):
  OpE C Q (.store t x y) ty dst J ρ h:=by
 unfold cSt at g
 cases ca:aggT T t with
 | true=>
  rw [ca] at g
  have g:X.G (stA (szT T t) ((gO x).f e) ((gO y).f e) hp q):=g
  cases hx:(gO x).f e <;> rw [hx] at g <;> first | exact (hX.gd.er _ g).elim | skip
  rename_i r o
  have hxr:=gO_ok he (x:=x) (by rw [hx]; intro e; cases e)
  rw [hx] at hxr
  obtain ⟨b,o0,tt,hr,e1⟩:=hxr.ra (v:=.p r o) trivial
  have g1:X.G (match (motive:=AV→Ans) (gO y).f e with | .a l=>bz (Nat.beq (clen l) (szT T t)) (wrK hp r o (szT T t) l fun h=>q .u h) (.er 23) | _=>.er 23):=by
   revert g; cases (gO y).f e <;> exact id
  cases hy:(gO y).f e <;> rw [hy] at g1 <;> first | exact (hX.gd.er _ g1).elim | skip
  rename_i l
  have hyr:=gO_ok he (x:=y) (by rw [hy]; intro e; cases e)
  rw [hy] at hyr
  obtain ⟨nv,e2,hc⟩:=hyr.agg
  obtain ⟨c1,g2⟩:=bz_ok hX.gd g1
  have c1':=beq_ok c1
  rw [hc.len] at c1'
  unfold wrK at g2
  cases hg:getH hp r <;> rw [hg] at g2 <;> first | exact (hX.gd.er _ g2).elim | skip
  rename_i L cs
  obtain ⟨c2,g3⟩:=bz_ok hX.gd g2
  have c2':=ble_ok c2
  have g4:=frC_ok hX.gd g3
  obtain ⟨hK,g5⟩:=S.K_none hX hr g4
  obtain ⟨vs,hat,hcs,hvl⟩:=rowC_at S hr hg
  have hag:=hT.agg ca
  have c2'':o + nv.length≤L:=by rw [c1']; exact c2'
  refine st_run S hr hg hat hvl (nv:=nv) e1 (by rw [e2]; rfl) (by rw [c1']; exact hag.2) hc.one c2'' hd (hj θ _ _ .u _ (rowC_put S hr hg hK ?_ ?_) (Ext.refl _ _) (Nat.le_refl _) RV.undef g5)
  ·rw [← c1',List.append_assoc]
   refine capp_ok (ctk_ok hcs _ (by omega)) (capp_ok hc ?_)
   have:=cdr_ok hcs (o + nv.length) (by omega)
   exact this
  ·simp; omega
 | false=>
  rw [ca] at g
  simp only [cond_false] at g
  cases c:an (sclT T t) (Nat.beq (szT T t) 1) with
  | false=>rw [c] at g; exact (hX.gd.er _ g).elim
  | true=>
   rw [c] at g
   obtain ⟨_,c2⟩:=an_ok c
   have hsz:=hT.size (beq_ok c2) (by decide)
   have g:X.G (stS ((gO x).f e) ((gO y).f e) hp q):=g
   cases hx:(gO x).f e <;> rw [hx] at g <;> first | exact (hX.gd.er _ g).elim | skip
   rename_i r o
   have hxr:=gO_ok he (x:=x) (by rw [hx]; intro e; cases e)
   rw [hx] at hxr
   obtain ⟨b,o0,tt,hr,e1⟩:=hxr.ra (v:=.p r o) trivial
   cases hg:getH hp r <;> (unfold stS at g; simp only [hg] at g) <;> first | exact (hX.gd.er _ g).elim | skip
   rename_i L cs
   obtain ⟨hat',hne⟩:=st1_atm hX.gd g
   have hv:=(gO_ok he hne).atm hat'
   obtain ⟨vs,hat,hcs,hvl⟩:=rowC_at S hr hg
   obtain ⟨ho,l',hl',g2⟩:=st1_ok hX.gd hcs hv g
   obtain ⟨hK,g5⟩:=S.K_none hX hr g2
   have hset:vs.set o (ev ρ y) = vs.take o ++ [ev ρ y] ++ vs.drop (o + 1):=by
    rw [List.set_eq_take_append_cons_drop,if_pos ho,List.append_assoc]; rfl
   refine st_run S hr hg hat hvl (nv:=[ev ρ y]) e1 (by rw [hv.cells]) hsz (by simp [hv.one]) (by show o + 1≤L; omega) hd (hj θ _ _ .u _ (rowC_put S hr hg hK (cs':=l') ?_ ?_) (Ext.refl _ _) (Nat.le_refl _) RV.undef g5)
   ·show RC θ l' (vs.take o ++ [ev ρ y] ++ vs.drop (o + 1))
    rw [← hset]; exact hl'
   ·show (vs.take o ++ [ev ρ y] ++ vs.drop (o + 1)).length = L
    rw [← hset]; simpa using hvl
theorem new_ok (S:SR X θ hp h) (hX:CxOk X) {E:TypeId} {L:Nat} {cs:CL AV} {vs us:List Value} (hc:RC θ cs vs) (hL:vs.length = L) {k:Rid→Hp→Ans} (g:X.G (hnew hp (.c L cs) k)):
  ∃ θ' hp',θ' hp.nx = some (h.size,0,L + us.length)∧SR X θ' hp' (newC h E (vs ++ us))∧Ext θ θ' (tor hp.nx)∧tor hp.nx≤tor hp'.nx∧X.G (k hp.nx hp'):=by
 obtain ⟨nx',hnx,g1⟩:=hnew_ok S hX g
 refine ⟨_,_,thUp_same _ _ _,S.newC (T:=E) (us:=us) hc hL hnx,S.ext_new _,?_,g1⟩
 show tor hp.nx≤tor nx'
 omega
theorem boxA_ok (hX:CxOk X) (S:SR X θ hp h) {e:E} (he:RE θ e ρ) {t:Nat} {x:Operand} (hd:okd C.n dst = true) (g:X.G (boxA ((gO x).f e) hp q)) (hj:Kt X θ hp q fun w h'=>J (upo ρ dst w) h'):
  OpE C Q (.box t x) ty dst J ρ h:=by
 unfold boxA at g
 have hne:(gO x).f e ≠ .er:=by intro e1; rw [e1] at g; exact hX.gd.er _ g
 obtain ⟨l,vs,hc,hv,g1⟩:=toC_ok hX.gd (gO_ok he hne) g
 have g2:=frC_ok hX.gd g1
 have g3:X.G (hnew hp (.c (clen l) l) fun r h=>q (.p r 0) h):=g2
 obtain ⟨θ',hp',h1,h2,h3,h4,g4⟩:=new_ok S hX (E:=t) (us:=[]) hc hc.len.symm g3
 rw [List.append_nil] at h2
 exact e_box rfl hv hd (hj θ' hp' _ _ _ h2 h3 h4 (rv_p (o:=0) h1) g4)
theorem alA_ok (hX:CxOk X) (hT:TbOk C.P T) (S:SR X θ hp h) {e:E} {cl:CallT} {t:Nat} (hd:okd C.n dst = true) (g:X.G ((alA T t).f cl e hp q)) (hj:Kt X θ hp q fun w h'=>J (upo ρ dst w) h'):
  OpE C Q (.alloc t) ty dst J ρ h:=by
 unfold alA at g
 cases c:zOk T t with
 | false=>rw [c] at g; exact (hX.gd.er _ g).elim
 | true=>
  rw [c] at g
  have g3:X.G (hnew hp (.c (szT T t) (zeroC T t)) fun r h=>q (.p r 0) h):=g
  obtain ⟨vs,hz,hc⟩:=zero_ok hT (θ:=θ) c
  obtain ⟨θ',hp',h1,h2,h3,h4,g4⟩:=new_ok S hX (E:=t) (us:=[]) hc (zero_len c hc) g3
  rw [List.append_nil] at h2
  exact e_alloc hz hd (hj θ' hp' _ _ _ h2 h3 h4 (rv_p (o:=0) h1) g4)
end
section
variable {C:Ctx} {ρ:Env} {h:H} {ty:TypeId} {Q:Exit→Act→World→Prop} {J:Env→H→Prop} {dst:Option Tmp} {X:Cx} {θ:Th} {hp:Hp} {T:Tb} {q:K1} {o:Op}
theorem newO_ok (S:SR X θ hp h) (hX:CxOk X) {row:Row} {obj:Obj} (x2:Nat×Nat) (hrow:∀ θ':Th,(∀ r y,θ r = some y→θ' r = some y)→RowOk θ' (h.size,x2) row (h.push obj)) {k:Rid→Hp→Ans} (g:X.G (hnew hp row k)):
  ∃ θ' hp',θ' hp.nx = some (h.size,x2)∧SR X θ' hp' (h.push obj)∧Ext θ θ' (tor hp.nx)∧tor hp.nx≤tor hp'.nx∧X.G (k hp.nx hp'):=by
 obtain ⟨nx',hnx,g1⟩:=hnew_ok S hX g
 have hsz:(h.push obj).size = h.size + 1:=by simp
 refine ⟨_,_,thUp_same _ _ _,S.add (x:=(h.size,x2)) (row:=row) (h':=h.push obj) hnx (by omega) (by show h.size < _; omega) (fun b hb hn=>?_) S.no_size.1 S.no_size.2 (hrow _ (thUp_ext S.nx_none _)),S.ext_new _,?_,g1⟩
 ·rw [Array.getElem?_push,if_neg (by omega)]
 ·show tor hp.nx≤tor nx'
  omega
theorem push_at {h:H} {obj:Obj}:(h.push obj)[h.size]? = some obj:=by simp
theorem mmA_ok (hX:CxOk X) (hT:TbOk C.P T) (S:SR X θ hp h) {e:E} {cl:CallT} {t:Nat} (hd:okd C.n dst = true) (g:X.G ((mmA T t).f cl e hp q)) (hj:Kt X θ hp q fun w h'=>J (upo ρ dst w) h'):
  OpE C Q (.makeMap t none) ty dst J ρ h:=by
 unfold mmA at g
 split at g
 ·rename_i K e' hk
  split at g
  ·rename_i kk hkk
   obtain ⟨θ',hp',h1,h2,h3,h4,g4⟩:=newO_ok S hX (row:=.m kk 0 []) (obj:=.map #[] 0) (0,0) (fun θ' _=>⟨#[],push_at,rfl,by simp,by simp⟩) (k:=fun r h=>q (.m r) h) g
   refine OpE.of hd (v:=.map (some h.size)) (h.push (.map #[] 0)) (fun w hw pos after g=>⟨{ w with heap:=h.push (.map #[] 0) },?_,rfl,rfl,rfl,rfl⟩) (hj θ' hp' _ _ _ h2 h3 h4 (rv_m h1) g4)
   subst hw
   simp [execOp,Instr.makeMap]
  ·exact (hX.gd.er _ g).elim
 ·exact (hX.gd.er _ g).elim
def Pts (ρ:Env) (sz:Nat):List (Nat×Operand)→List (List Value)→Prop
 | [],l=>l = []
 | p :: ps,l=>∃ v r,l = v :: r∧(ev ρ p.2).cells = v.toArray∧v.length = sz∧Pts ρ sz ps r
theorem cel_ok (hX:CxOk X) {v:AV} {V:Value} {sz:Nat} {l:CL AV} {k:CL AV→Ans} {us:List Value} (hv:RV θ v V) (hl:RC θ l us) (g:X.G (cel v sz l k)):∃ vs l',V.cells = vs.toArray∧vs.length = sz∧RC θ l' (vs ++ us)∧X.G (k l'):=by
 have plain:Atm v→(∀ n,v ≠ .y n)→X.G (bz (Nat.beq sz 1) (k (.cons 1 v l)) (.er 24))→∃ vs l',V.cells = vs.toArray∧vs.length = sz∧RC θ l' (vs ++ us)∧X.G (k l'):=by
  intro ha hy g
  obtain ⟨c,g⟩:=bz_ok hX.gd g
  have h1:=hv.atm ha
  exact ⟨[V],.cons 1 v l,by rw [h1.cells],(beq_ok c).symm,⟨[V],us,rfl,RW.of h1 hy,hl⟩,g⟩
 cases v <;> first
  | exact (hX.gd.er _ g).elim
  | exact plain trivial (by intro n e; cases e) g
  | skip
 ·rename_i n
  obtain ⟨h1,e1⟩:=hv.ra (v:=.y n) trivial
  have h256:n < 256:=h1
  subst e1
  have g:X.G (bz (Nat.beq sz 1) (frC (cc 1 (.bs 1 n) l) k) (.er 24)):=g
  obtain ⟨c,g⟩:=bz_ok hX.gd g
  have g:=frC_ok hX.gd g
  refine ⟨byV 1 n,_,by simp [byV,byL,bV,Value.cells,Nat.mod_eq_of_lt h256],by rw [byV_len]; exact (beq_ok c).symm,?_,g⟩
  exact cc_ok (RW.bs (by decide) (by simpa using h256)) hl
 ·rename_i m
  have g:X.G (bz (Nat.beq (clen m) sz) (frC (capp m l) k) (.er 24)):=g
  obtain ⟨c,g⟩:=bz_ok hX.gd g
  have g:=frC_ok hX.gd g
  obtain ⟨vs,rfl,hc⟩:=hv.agg
  exact ⟨vs,_,rfl,by rw [← hc.len]; exact beq_ok c,capp_ok hc hl,g⟩
theorem celK_ok (hX:CxOk X) {e:E} (he:RE θ e ρ) {sz:Nat}:∀ (ps:List (Nat×Operand)) {k:CL AV→Ans},X.G ((celK sz ps).f e k)→∃ vss l,Pts ρ sz ps vss∧RC θ l vss.flatten∧X.G (k l)
 | [],k,g=>⟨[],.nil,rfl,rfl,g⟩
 | p :: ps,k,g=>by
  have g1:X.G ((celK sz ps).f e fun gg=>frH ((gO p.2).f e) fun v=>cel v sz gg k):=g
  obtain ⟨vss,l,h1,h2,g2⟩:=celK_ok hX he ps g1
  obtain ⟨hne,g3⟩:=frH_ok hX.gd g2
  obtain ⟨vs,l',e1,e2,h3,g4⟩:=cel_ok hX (gO_ok he hne) h2 g3
  exact ⟨vs :: vss,l',⟨vs,vss,rfl,e1,e2,h1⟩,h3,g4⟩
theorem Pts.len {sz:Nat}:∀ {ps:List (Nat×Operand)} {vss:List (List Value)},Pts ρ sz ps vss→vss.flatten.length = ps.length * sz
 | [],_,h=>by rw [show _ = [] from h]; simp
 | p :: ps,_,⟨v,r,e,_,h2,h3⟩=>by subst e; simp [Pts.len h3,h2,Nat.succ_mul]; omega
theorem covr_fill {sz : Nat} {z : List Value} (hz : z.length = sz) : ∀ {ps : List (Nat × Operand)} {vss : List (List Value)} {i n : Nat} {pre : List Value}, Pts ρ sz ps vss → covr ps i n = true → pre.length = i * sz →
    n = i + ps.length ∧ fillL (fun i => some (i * sz, sz)) (pre ++ (List.replicate ps.length z).flatten) (ps.map fun p => (p.1, ev ρ p.2)) = some (pre ++ vss.flatten)
  | [], _, i, n, pre, h, hc, hl => by
    rw [show _ = [] from h]
    have : i = n := beq_ok hc
    exact ⟨by simp [this], by simp [fillL]⟩
  | p :: ps, _, i, n, pre, ⟨v, r, e, h1, h2, h3⟩, hc, hl => by
    subst e
    obtain ⟨c1, c2⟩ := an_ok (show an (Nat.beq p.1 i) (covr ps (Nat.add i 1) n) = true from hc)
    have hpi := beq_ok c1
    have hl2 : (pre ++ v).length = (i + 1) * sz := by rw [List.length_append, hl, h2, Nat.succ_mul]
    obtain ⟨a1, a2⟩ := covr_fill hz h3 c2 hl2
    refine ⟨by have a1 : n = i + 1 + ps.length := a1
               show n = i + (ps.length + 1)
               omega, ?_⟩
    simp only [List.map_cons, fillL]
    have hsz : (ev ρ p.2).cells.size = sz := by rw [h1]; simpa using h2
    rw [if_pos]
    · rw [hpi, h1]
      have e1 : (pre ++ (List.replicate (p :: ps).length z).flatten).take (i * sz) ++ v.toArray.toList ++ (pre ++ (List.replicate (p :: ps).length z).flatten).drop (i * sz + sz) = pre ++ v ++ (List.replicate ps.length z).flatten := by
        rw [List.length_cons, List.replicate_succ, List.flatten_cons]
        rw [← hl, List.take_left' rfl, ← List.drop_drop, List.drop_left' rfl, List.drop_left' hz]
      rw [e1, a2]
      simp
    · rw [Bool.and_eq_true]
      refine ⟨by rw [hsz]; simp, ?_⟩
      rw [hpi]
      apply Nat.ble_eq_true_of_le
      simp only [List.length_append, List.length_cons, List.replicate_succ, List.flatten_cons, hl, hz]
      omega
theorem bsA_ok (hX:CxOk X) (hT:TbOk C.P T) (S:SR X θ hp h) {e:E} (he:RE θ e ρ) {cl:CallT} {t n:Nat} {ps:Array (Nat×Operand)} (hd:okd C.n dst = true) (g:X.G ((bsA T t n ps.toList).f cl e hp q)) (hj:Kt X θ hp q fun w h'=>J (upo ρ dst w) h'):
  OpE C Q (.buildSlice t n ps) ty dst J ρ h:=by
 unfold bsA at g
 split at g
 ·rename_i el sz hk
  obtain ⟨hu,hsz⟩:=tk_sl hT hk
  cases c:an (zOk T el) (an (Nat.ble 1 sz) (an (Nat.ble (Nat.mul n sz) 16777216) (covr ps.toList 0 n))) with
  | false=>rw [c] at g; exact (hX.gd.er _ g).elim
  | true=>
   rw [c] at g
   obtain ⟨c1,c⟩:=an_ok c
   obtain ⟨c2,c⟩:=an_ok c
   obtain ⟨c3,c4⟩:=an_ok c
   have g:X.G ((celK sz ps.toList).f e fun l=>hnew hp (.c (Nat.mul n sz) l) fun r h=>q (.sl r 0 n sz) h):=g
   obtain ⟨vss,l,h1,h2,g1⟩:=celK_ok hX he _ g
   obtain ⟨z,hz,hzc⟩:=zero_ok hT (θ:=θ) c1
   have hzl:z.length = sz:=(zero_len c1 hzc).trans hsz
   obtain ⟨a1,a2⟩:=covr_fill hzl h1 c4 (pre:=[]) (by simp)
   have hn:n = ps.toList.length:=by omega
   have hlen:vss.flatten.length = n * sz:=by rw [h1.len,hn]
   obtain ⟨θ',hp',f1,f2,f3,f4,g4⟩:=new_ok S hX (E:=el) (us:=[]) h2 hlen g1
   rw [List.append_nil] at f2
   rw [List.nil_append,List.nil_append,← hn] at a2
   exact e_buildSlice hz ⟨hu,hT.size hsz (ble_ok c2)⟩ hzl rfl c3 a2 hd (hj θ' hp' _ _ _ f2 f3 f4 (rv_sl (o:=0) (c:=n) f1 (ble_ok c2) (by simp) (Nat.le_refl _)) g4)
 ·exact (hX.gd.er _ g).elim
theorem repl_ok {l:CL AV} {vs:List Value} (hc:RC θ l vs):∀ n,RC θ (repl l n) (List.replicate n vs).flatten
 | 0=>rfl
 | n + 1=>by rw [List.replicate_succ,List.flatten_cons]; exact capp_ok hc (repl_ok hc n)
theorem mods {z:List Value} {sz:Nat} (hz:z.length = sz) (h0:0 < sz):∀ (m j:Nat),j < m * sz→(List.replicate m z).flatten[j]? = z[j % sz]?:=by
 intro m
 induction m with
 | zero=>intro j hj; simp at hj
 | succ m ih=>
  intro j hj
  rw [List.replicate_succ,List.flatten_cons,List.getElem?_append,hz]
  split
  ·rename_i hlt; rw [Nat.mod_eq_of_lt hlt]
  ·rename_i hge
   have e:(m + 1) * sz = m * sz + sz:=Nat.succ_mul m sz
   rw [ih (j - sz) (by omega),Nat.mod_eq_sub_mod (by omega:j ≥ sz)]
theorem made_eq {z:List Value} {sz:Nat} (hz:z.length = sz) (h0:0 < sz) (n:Nat):((Array.range (n * sz)).map fun x=>z.toArray[x % z.toArray.size]!) = (List.replicate n z).flatten.toArray:=by
 have hl:((List.replicate n z).flatten).length = n * sz:=by simp [hz]
 apply Array.ext
 ·simp [hz]
 ·intro j h1 h2
  simp only [Array.size_map,Array.size_range] at h1
  have:=mods hz h0 n j h1
  have hlt:j % sz < z.length:=by rw [hz]; exact Nat.mod_lt _ h0
  rw [List.getElem?_eq_getElem hlt,List.getElem?_eq_some_iff] at this
  obtain ⟨h5,h6⟩:=this
  simp only [Array.getElem_map,Array.getElem_range,List.getElem_toArray,List.size_toArray,hz]
  rw [h6,getElem!_pos _ _ (by simpa [hz] using Nat.mod_lt _ h0)]
  rfl
theorem msA_ok (hX:CxOk X) (hT:TbOk C.P T) (S:SR X θ hp h) {e:E} (he:RE θ e ρ) {cl:CallT} {t:Nat} {no co:Operand} (hd:okd C.n dst = true) (g:X.G ((msA T t no co).f cl e hp q)) (hj:Kt X θ hp q fun w h'=>J (upo ρ dst w) h'):
  OpE C Q (.makeSlice t no co) ty dst J ρ h:=by
 unfold msA at g
 split at g
 ·rename_i el sz hk
  obtain ⟨hu,hsz⟩:=tk_sl hT hk
  cases c:an (zOk T el) (an (Nat.ble 1 sz) (byT T el)) with
  | false=>rw [c] at g; exact (hX.gd.er _ g).elim
  | true=>
   rw [c] at g
   simp only [cond_true] at g
   obtain ⟨c1,c⟩:=an_ok c
   obtain ⟨c2,c3⟩:=an_ok c
   have hi:∃ i,T.info el = some i∧i.bytes≤4096:=by
    unfold byT at c3
    cases hi:T.info el with
    | none=>rw [hi] at c3; cases c3
    | some i=>rw [hi] at c3; exact ⟨i,rfl,ble_ok c3⟩
   obtain ⟨i,hi,hby⟩:=hi
   cases hn:(gO no).f e <;> simp only [hn] at g <;> first | exact (hX.gd.er _ g).elim | skip
   rename_i n
   have hnr:=gO_ok he (x:=no) (by rw [hn]; intro e; cases e)
   rw [hn] at hnr
   obtain ⟨n1,n2⟩:=hnr.ra (v:=.i n) trivial
   cases hc:(gO co).f e <;> simp only [hc] at g <;> first | exact (hX.gd.er _ g).elim | skip
   rename_i c
   have hcr:=gO_ok he (x:=co) (by rw [hc]; intro e; cases e)
   rw [hc] at hcr
   obtain ⟨m1,m2⟩:=hcr.ra (v:=.i c) trivial
   have g:X.G (bz (an (Nat.ble n c) (Nat.ble c 16777216)) (frC (repl (zeroC T el) c) fun l=>frN (Nat.mul c sz) fun L=>hnew hp (.c L l) fun r h=>q (.sl r 0 n sz) h) (.er 25)):=g
   obtain ⟨b,g⟩:=bz_ok hX.gd g
   obtain ⟨b1,b2⟩:=an_ok b
   have b1:=ble_ok b1
   have b2:=ble_ok b2
   have g1:=frC_ok hX.gd g
   have g1:X.G (hnew hp (.c (Nat.mul c sz) (repl (zeroC T el) c)) fun r h=>q (.sl r 0 n sz) h):=g1
   obtain ⟨z,hz,hzc⟩:=zero_ok hT (θ:=θ) c1
   have hzl:z.length = sz:=(zero_len c1 hzc).trans hsz
   have hlen:(List.replicate c z).flatten.length = c * sz:=by simp [hzl]
   obtain ⟨θ',hp',f1,f2,f3,f4,g4⟩:=new_ok S hX (E:=el) (us:=[]) (repl_ok hzc c) hlen g1
   rw [List.append_nil] at f2
   have h0:=ble_ok c2
   rw [wrapi_id (n:=n) (by omega)] at n2
   rw [wrapi_id (n:=c) (by omega)] at m2
   obtain ⟨i',zv,hi',hzv,hzcv⟩:=hz
   have ei:i' = i:=by have:=hT.info _ _ hi; rw [this] at hi'; injection hi' with e; exact e.symm
   subst ei
   refine OpE.of hd (v:=.slice (some ⟨h.size,0,none⟩) n c) (newC h el (List.replicate c z).flatten) (fun w hw pos after g=>⟨{ w with heap:=newC h el (List.replicate c z).flatten },?_,rfl,rfl,rfl,rfl⟩) (hj θ' hp' _ _ _ f2 f3 f4 (rv_sl (o:=0) (c:=c) f1 h0 (by simp) b1) g4)
   subst hw
   have hisz:i'.size = sz:=by unfold szT at hsz; rw [hi] at hsz; exact hsz
   have:=run_make (P:=C.P) w t el i' zv hu hi' hzv .i64 .i64 (n:Int) (c:Int) (by omega) (by omega) (by
    have:i'.bytes * c≤4096 * 16777216:=Nat.mul_le_mul hby b2
    have h3:((i'.bytes * c:Nat):Int)≤((4096 * 16777216:Nat):Int):=by exact_mod_cast this
    rw [Int.natCast_mul] at h3
    omega) (by omega)
   simp only [execOp,n2,m2,Sem.run_bind,this,Result.andThen_ok,Sem.run_pure]
   have em:madeCells zv.cells ((c:Int).toNat * i'.size) = (List.replicate c z).flatten.toArray:=by
    rw [hzcv,hisz,Int.toNat_natCast]; exact made_eq hzl h0 c
   rw [em]
   rfl
 ·exact (hX.gd.er _ g).elim
end
theorem kOk_nt {kk:KK} {k:AV} {l:List AV} (h:kOk kk k = true):k ≠ .t l:=by
 intro e; subst e
 unfold kOk at h
 split at h <;> first | (rename_i e; cases e; done) | cases h
theorem okV_nt {v:AV} (h:okV v = true):∀ l,v ≠ .t l:=by
 intro l e; subst e; cases h
theorem KR.same {P:Program} {T:Tb} (hT:TbOk P T) {K:Nat} {kk:KK} (hkk:kkT T K = some kk) {k:AV} {V:Value} (h:KR kk k V):Instr.sameBits 10000 V V = true:=
 (keyT_of hT hkk).same ⟨V,h.isKey⟩
section
variable {C:Ctx} {ρ:Env} {h:H} {ty:TypeId} {Q:Exit→Act→World→Prop} {J:Env→H→Prop} {dst:Option Tmp} {X:Cx} {θ:Th} {hp:Hp} {T:Tb} {q:K1} {o:Op}
theorem rowM_ok (S:SR X θ hp h) {r:Rid} {b o0 t:Nat} (hr:θ r = some (b,o0,t)) {kk:KK} {clk:Nat} {es:List KV} (hg:getH hp r = .m kk clk es):
  ∃ ms,h[b]? = some (.map ms clk)∧KVs θ kk es ms.toList∧(∀ m ∈ ms.toList,m.born < clk)∧(ms.toList.map (·.born)).Nodup:=by
 have:=S.rows r _ hr
 rw [hg] at this
 exact this
theorem rowM_put (S:SR X θ hp h) {r:Rid} {b o0 t:Nat} (hr:θ r = some (b,o0,t)) {kk:KK} {clk:Nat} {es:List KV} (hg:getH hp r = .m kk clk es) (hK:X.K r = none) {clk':Nat} {es':List KV} {ms':Array MapEntry}
  (h1:KVs θ kk es' ms'.toList) (h2:∀ m ∈ ms'.toList,m.born < clk') (h3:(ms'.toList.map (·.born)).Nodup):
  SR X θ ⟨uR hp.rows r (.m kk clk' es'),hp.nx,hp.ro⟩ (h.setIfInBounds b (.map ms' clk')):=by
 obtain ⟨ms,g1,_⟩:=rowM_ok S hr hg
 have hb:b < h.size:=by rw [Array.getElem?_eq_some_iff] at g1; exact g1.1
 refine S.upd hr (by rw [hg]; trivial) hK (by simp) (fun b' hb'=>by rw [Array.getElem?_setIfInBounds_ne (Ne.symm hb')]) ⟨ms',?_,h1,h2,h3⟩
 show (h.setIfInBounds b _)[b]? = _
 simp [hb]
theorem laid {kk:KK} {es:List KV} {ms:List MapEntry} {clk:Nat} (h1:KVs θ kk es ms) (h2:∀ m ∈ ms,m.born < clk) (h3:(ms.map (·.born)).Nodup) {k v:AV} {V W:Value} (hkv:KVr θ kk ⟨k,v,clk⟩ ⟨V,W,clk⟩):
  KVs θ kk (es ++ [⟨k,v,clk⟩]) (ms ++ [(⟨V,W,clk⟩:MapEntry)])∧(∀ m ∈ ms ++ [(⟨V,W,clk⟩:MapEntry)],m.born < clk + 1)∧((ms ++ [(⟨V,W,clk⟩:MapEntry)]).map (·.born)).Nodup:=by
 refine ⟨h1.app hkv,fun m hm=>?_,?_⟩
 ·rcases List.mem_append.1 hm with hm | hm
  ·have:=h2 m hm; omega
  ·rw [List.mem_singleton] at hm; subst hm; exact Nat.lt_succ_self _
 ·rw [List.map_append,List.map_singleton,List.nodup_append]
  refine ⟨h3,by simp,fun a ha b hb=>?_⟩
  rw [List.mem_map] at ha
  obtain ⟨m,hm,rfl⟩:=ha
  rw [List.mem_singleton] at hb
  subst hb
  exact Nat.ne_of_lt (h2 m hm)
theorem map_set {α β:Type} (f:α→β):∀ (l:List α) (j:Nat) (x y:α),l[j]? = some x→f y = f x→(l.set j y).map f = l.map f
 | [],_,_,_,h,_=>by cases h
 | a :: l,0,x,y,h,e=>by cases h; simp [e]
 | a :: l,j + 1,x,y,h,e=>by simpa using map_set f l j x y h e
theorem turned {kk:KK} {es:List KV} {ms:List MapEntry} {clk j:Nat} (h1:KVs θ kk es ms) (h2:∀ m ∈ ms,m.born < clk) (h3:(ms.map (·.born)).Nodup) {m m':MapEntry} {e':KV} (hj:ms[j]? = some m) (hb:m'.born = m.born) (hkv:KVr θ kk e' m'):
  KVs θ kk (es.set j e') (ms.set j m')∧(∀ m ∈ ms.set j m',m.born < clk)∧((ms.set j m').map (·.born)).Nodup:=by
 refine ⟨h1.set j hkv,fun x hx=>?_,?_⟩
 ·rcases List.mem_or_eq_of_mem_set hx with hx | hx
  ·exact h2 x hx
  ·subst hx; rw [hb]; exact h2 m (List.mem_of_getElem? hj)
 ·rw [map_set _ _ _ _ _ hj hb]; exact h3
theorem modify_set {ms:Array MapEntry} {j:Nat} {m:MapEntry} (f:MapEntry→MapEntry) (hj:ms.toList[j]? = some m):(ms.modify j f).toList = ms.toList.set j (f m):=by
 rw [Array.toList_modify]
 apply List.ext_getElem?
 intro i
 rw [List.getElem?_modify,List.getElem?_set]
 by_cases e:j = i
 ·subst e
  rw [hj]
  have:j < ms.size:=by rw [List.getElem?_eq_some_iff] at hj; simpa using hj.1
  simp [this]
 ·simp [e]
theorem muA_ok (hX:CxOk X) (hT:TbOk C.P T) (S:SR X θ hp h) {e:E} (he:RE θ e ρ) {cl:CallT} {t:Nat} {mo ko vo:Operand} (ho:o = .mapUpdate t mo ko vo∨o = .insert t mo ko vo) (hd:okd C.n dst = true)
  (g:X.G ((muA T t mo ko vo).f cl e hp q)) (hj:Kt X θ hp q fun w h'=>J (upo ρ dst w) h'):OpE C Q o ty dst J ρ h:=by
 have hexec:∀ pos after g w,(execOp (ev ρ) ⟨dst,o,ty,pos,after,g⟩).run C.P w = (execOp (ev ρ) ⟨dst,.mapUpdate t mo ko vo,ty,pos,after,g⟩).run C.P w:=by
  intro pos after g w; rcases ho with rfl | rfl <;> rfl
 unfold muA at g
 split at g
 ·rename_i K el hk
  have hu:=tk_mp hT hk
  cases hm:(gO mo).f e <;> simp only [hm] at g <;> first | exact (hX.gd.er _ g).elim | skip
  rename_i r
  have hmr:=gO_ok he (x:=mo) (by rw [hm]; intro e; cases e)
  rw [hm] at hmr
  obtain ⟨b,o0,tt,hr,e1⟩:=hmr.ra (v:=.m r) trivial
  obtain ⟨nk,g⟩:=frH_ok hX.gd g
  obtain ⟨nv,g⟩:=frH_ok hX.gd g
  obtain ⟨cv,g⟩:=bz_ok hX.gd g
  have hkr:=gO_ok he nk
  have hvr:=(gO_ok he nv).rv1 (okV_nt cv)
  unfold muR at g
  cases hkk:kkT T K with
  | none=>rw [hkk] at g; exact (hX.gd.er _ g).elim
  | some kk=>
   rw [hkk] at g
   simp only at g
   obtain ⟨c1,g⟩:=bz_ok hX.gd g
   have hKR:=KR.of c1 hkr
   have hk1:=hkr.rv1 (fun l=>kOk_nt c1)
   cases hg:getH hp r <;> rw [hg] at g <;> first | exact (hX.gd.er _ g).elim | skip
   rename_i kk2 clk es
   simp only at g
   obtain ⟨c2,g⟩:=bz_ok hX.gd g
   have:=kEq_ok c2
   subst this
   obtain ⟨ms,g1,g2,g3,g4⟩:=rowM_ok S hr hg
   obtain ⟨oo,hf,hrun⟩:=find_ok hT hkk hKR g2
   have hckT:=keyT_of hT hkk
   have hck:∀ e w,(Instr.checkKey e 10000 K (ev ρ ko)).run C.P w = .ok () w:=fun e w=>hckT.ok e ⟨ev ρ ko,hKR.isKey⟩ w
   cases hf with
   | no a1 a2 a3 a4=>
    rw [a3] at g
    have g:X.G (hset hp r (.m kk (clk + 1) (es ++ [⟨(gO ko).f e,(gO vo).f e,clk⟩])) fun h=>q .u h):=g
    obtain ⟨hK,g5⟩:=S.K_none hX hr g
    obtain ⟨l1,l2,l3⟩:=laid g2 g3 g4 (k:=(gO ko).f e) (v:=(gO vo).f e) (V:=ev ρ ko) (W:=ev ρ vo) ⟨c1,hk1,hvr,rfl⟩
    have S':=rowM_put S hr hg hK (clk':=clk + 1) (ms':=ms.push ⟨ev ρ ko,ev ρ vo,clk⟩) (by simpa using l1) (by simpa using l2) (by simpa using l3)
    refine OpE.skipD hd _ (fun w hw pos after g=>⟨{ w with heap:=h.setIfInBounds b (.map (ms.push ⟨ev ρ ko,ev ρ vo,clk⟩) (clk + 1)) },?_,rfl,rfl,rfl,rfl⟩) (hj θ _ _ .u _ S' (Ext.refl _ _) (Nat.le_refl _) RV.undef g5)
    rw [hexec]
    have hb':w.heap[b]? = some (.map ms clk):=by rw [hw]; exact g1
    simp [execOp,e1,Instr.mapUpdate,run_underlying hu,run_getObjH hb',hck,hrun,run_setObjH _ hb',hw]
   | @yes j m x a1 a2 a3 a4 a5 a6 a7=>
    rw [a6] at g
    have g:X.G (hset hp r (.m kk clk (es.set j ⟨(gO ko).f e,(gO vo).f e,x.bn⟩)) fun h=>q .u h):=g
    obtain ⟨hK,g5⟩:=S.K_none hX hr g
    obtain ⟨l1,l2,l3⟩:=turned g2 g3 g4 (m':=⟨ev ρ ko,ev ρ vo,m.born⟩) (e':=⟨(gO ko).f e,(gO vo).f e,x.bn⟩) a1 rfl ⟨c1,hk1,hvr,a4.2.2.2⟩
    have hmod:=modify_set (fun e=>{ e with key:=ev ρ ko,val:=ev ρ vo }) a1
    have S':=rowM_put S hr hg hK (clk':=clk) (ms':=ms.modify j fun e=>{ e with key:=ev ρ ko,val:=ev ρ vo }) (by rw [hmod]; exact l1) (by rw [hmod]; exact l2) (by rw [hmod]; exact l3)
    refine OpE.skipD hd _ (fun w hw pos after g=>⟨{ w with heap:=h.setIfInBounds b (.map (ms.modify j fun e=>{ e with key:=ev ρ ko,val:=ev ρ vo }) clk) },?_,rfl,rfl,rfl,rfl⟩) (hj θ _ _ .u _ S' (Ext.refl _ _) (Nat.le_refl _) RV.undef g5)
    rw [hexec]
    have hb':w.heap[b]? = some (.map ms clk):=by rw [hw]; exact g1
    have a1':ms[j]? = some m:=by simpa using a1
    have hks:∀ w,(Instr.keyThatStays (ev ρ ko) (ev ρ ko)).run C.P w = .ok (ev ρ ko) w:=fun w=>by simp [Instr.keyThatStays,hKR.same hT hkk]
    simp [execOp,e1,Instr.mapUpdate,run_underlying hu,run_getObjH hb',hck,hrun,a1',a3,hks,run_setObjH _ hb',hw]
 ·exact (hX.gd.er _ g).elim
theorem wr_nat {n:Nat} (h:n≤4611686018427387904):RV1 θ (.i n) (goInt (n:Int)):=by
 refine .inl (.inl ⟨by omega,?_⟩)
 rw [wrapi_id (n:=n) (by omega)]; rfl
theorem meA_ok (hX:CxOk X) (hT:TbOk C.P T) (S:SR X θ hp h) {e:E} (he:RE θ e ρ) {cl:CallT} {t:Nat} {mo ko:Operand} (hd:okd C.n dst = true)
  (g:X.G ((meA T t mo ko).f cl e hp q)) (hj:Kt X θ hp q fun w h'=>J (upo ρ dst w) h'):OpE C Q (.mapEntry t mo ko) ty dst J ρ h:=by
 unfold meA at g
 split at g
 ·rename_i K el hk
  have hu:=tk_mp hT hk
  cases hm:(gO mo).f e <;> simp only [hm] at g <;> first | exact (hX.gd.er _ g).elim | skip
  rename_i r
  have hmr:=gO_ok he (x:=mo) (by rw [hm]; intro e; cases e)
  rw [hm] at hmr
  obtain ⟨b,o0,tt,hr,e1⟩:=hmr.ra (v:=.m r) trivial
  obtain ⟨nk,g⟩:=frH_ok hX.gd g
  have hkr:=gO_ok he nk
  unfold meR at g
  cases hkk:kkT T K with
  | none=>rw [hkk] at g; exact (hX.gd.er _ g).elim
  | some kk=>
   rw [hkk] at g
   simp only at g
   obtain ⟨c1,g⟩:=bz_ok hX.gd g
   have hKR:=KR.of c1 hkr
   have hk1:=hkr.rv1 (fun l=>kOk_nt c1)
   cases hg:getH hp r <;> rw [hg] at g <;> first | exact (hX.gd.er _ g).elim | skip
   rename_i kk2 clk es
   simp only at g
   obtain ⟨c2,g⟩:=bz_ok hX.gd g
   have:=kEq_ok c2
   subst this
   obtain ⟨ms,g1,g2,g3,g4⟩:=rowM_ok S hr hg
   obtain ⟨oo,hf,hrun⟩:=find_ok hT hkk hKR g2
   have hckT:=keyT_of hT hkk
   have hck:∀ e w,(Instr.checkKey e 10000 K (ev ρ ko)).run C.P w = .ok () w:=fun e w=>hckT.ok e ⟨ev ρ ko,hKR.isKey⟩ w
   cases hf with
   | no a1 a2 a3 a4=>
    unfold meF at g
    rw [a1] at g
    simp only at g
    obtain ⟨nz,g⟩:=frH_ok hX.gd g
    obtain ⟨cb,g⟩:=bz_ok hX.gd g
    rw [a3] at g
    have g:X.G (hset hp r (.m kk (clk + 1) (es ++ [⟨(gO ko).f e,zeroA T el,clk⟩])) fun h=>q (.t [zeroA T el,.i clk]) h):=g
    obtain ⟨hK,g5⟩:=S.K_none hX hr g
    obtain ⟨z,⟨i,hi,hzv⟩,hzr⟩:=zeroA_ok hT (θ:=θ) nz
    have hz1:=hzr.rv1 (fun l=>zeroA_nt)
    obtain ⟨l1,l2,l3⟩:=laid g2 g3 g4 (k:=(gO ko).f e) (v:=zeroA T el) (V:=ev ρ ko) (W:=z) ⟨c1,hk1,hz1,rfl⟩
    have S':=rowM_put S hr hg hK (clk':=clk + 1) (ms':=ms.push ⟨ev ρ ko,z,clk⟩) (by simpa using l1) (by simpa using l2) (by simpa using l3)
    have hres:RV θ (.t [zeroA T el,.i clk]) (.tuple #[z,goInt (clk:Int)]):=.inr ⟨_,[z,goInt (clk:Int)],rfl,rfl,_,[goInt (clk:Int)],rfl,hz1,_,[],rfl,wr_nat (ble_ok cb),rfl⟩
    refine OpE.of hd (v:=.tuple #[z,goInt (clk:Int)]) _ (fun w hw pos after g=>⟨{ w with heap:=h.setIfInBounds b (.map (ms.push ⟨ev ρ ko,z,clk⟩) (clk + 1)) },?_,rfl,rfl,rfl,rfl⟩) (hj θ _ _ _ _ S' (Ext.refl _ _) (Nat.le_refl _) hres g5)
    have hb':w.heap[b]? = some (.map ms clk):=by rw [hw]; exact g1
    simp [execOp,e1,Instr.mapEntry,run_underlying hu,run_getObjH hb',hck,hrun,zeroValue,typeInfo,hi,hzv,run_setObjH _ hb',hw]
   | @yes j m x a1 a2 a3 a4 a5 a6 a7=>
    unfold meF at g
    rw [a5] at g
    simp only at g
    obtain ⟨cb,g⟩:=bz_ok hX.gd g
    rw [a6] at g
    have g:X.G (hset hp r (.m kk clk (es.set j ⟨(gO ko).f e,x.v,x.bn⟩)) fun h=>frH (.t [x.v,.i x.bn]) fun v=>q v h):=g
    obtain ⟨hK,g5⟩:=S.K_none hX hr g
    obtain ⟨_,g6⟩:=frH_ok hX.gd g5
    have hb:=a4.2.2.2
    obtain ⟨l1,l2,l3⟩:=turned g2 g3 g4 (m':={ m with key:=ev ρ ko }) (e':=⟨(gO ko).f e,x.v,x.bn⟩) a1 rfl ⟨c1,hk1,a4.2.2.1,hb⟩
    have hmod:=modify_set (fun e=>{ e with key:=ev ρ ko }) a1
    have S':=rowM_put S hr hg hK (clk':=clk) (ms':=ms.modify j fun e=>{ e with key:=ev ρ ko }) (by rw [hmod]; exact l1) (by rw [hmod]; exact l2) (by rw [hmod]; exact l3)
    have hres:RV θ (.t [x.v,.i x.bn]) (.tuple #[m.val,goInt (m.born:Int)]):=.inr ⟨_,[m.val,goInt (m.born:Int)],rfl,rfl,_,[goInt (m.born:Int)],rfl,a4.2.2.1,_,[],rfl,by rw [hb]; exact wr_nat (ble_ok cb),rfl⟩
    refine OpE.of hd (v:=.tuple #[m.val,goInt (m.born:Int)]) _ (fun w hw pos after g=>⟨{ w with heap:=h.setIfInBounds b (.map (ms.modify j fun e=>{ e with key:=ev ρ ko }) clk) },?_,rfl,rfl,rfl,rfl⟩) (hj θ _ _ _ _ S' (Ext.refl _ _) (Nat.le_refl _) hres g6)
    have hb':w.heap[b]? = some (.map ms clk):=by rw [hw]; exact g1
    have a1':ms[j]? = some m:=by simpa using a1
    have hks:∀ w,(Instr.keyThatStays (ev ρ ko) (ev ρ ko)).run C.P w = .ok (ev ρ ko) w:=fun w=>by simp [Instr.keyThatStays,hKR.same hT hkk]
    simp [execOp,e1,Instr.mapEntry,run_underlying hu,run_getObjH hb',hck,hrun,a1',a3,hks,run_setObjH _ hb',hw]
 ·exact (hX.gd.er _ g).elim
theorem msto_ok {G:Ans→Prop} (hG:Gd G) {kk:KK} {bn:Nat} {v:AV}:∀ {es:List KV} {ms:List MapEntry} {k:List KV→Ans},KVs θ kk es ms→G (msto bn v es k) →
  ∃ j m x,ms[j]? = some m∧es[j]? = some x∧KVr θ kk x m∧ms.findIdx? (fun e=>(e.born:Int) == (bn:Int)) = some j∧G (k (es.set j ⟨x.k,v,x.bn⟩))
 | [],_,k,_,g=>(hG.er _ g).elim
 | x :: es,_,k,⟨m,r,e1,h1,h2⟩,g=>by
  subst e1
  have g:G (bz (Nat.beq x.bn bn) (k (⟨x.k,v,x.bn⟩ :: es)) (msto bn v es fun l=>k (x :: l))):=g
  cases c:Nat.beq x.bn bn with
  | true=>
   rw [c] at g
   refine ⟨0,m,x,rfl,rfl,h1,?_,g⟩
   have:m.born = bn:=h1.2.2.2.trans (beq_ok c)
   simp [List.findIdx?_cons,this]
  | false=>
   rw [c] at g
   obtain ⟨j,m',x',a1,a2,a3,a4,a5⟩:=msto_ok hG h2 (k:=fun l=>k (x :: l)) g
   refine ⟨j + 1,m',x',a1,a2,a3,?_,a5⟩
   have hne:¬ (m.born:Int) = (bn:Int):=by
    intro e
    have:m.born = bn:=by omega
    exact beq_no c (h1.2.2.2.symm.trans this)
   rw [List.findIdx?_cons,if_neg (by simpa using hne),a4]; rfl
theorem esA_ok (hX:CxOk X) (hT:TbOk C.P T) (S:SR X θ hp h) {e:E} (he:RE θ e ρ) {cl:CallT} {t:Nat} {mo so vo:Operand} (hd:okd C.n dst = true)
  (g:X.G ((esA mo so vo).f cl e hp q)) (hj:Kt X θ hp q fun w h'=>J (upo ρ dst w) h'):OpE C Q (.entryStore t mo so vo) ty dst J ρ h:=by
 unfold esA at g
 simp only at g
 split at g
 ·rename_i r bn hm hs
  have hmr:=gO_ok he (x:=mo) (by rw [hm]; intro e; cases e)
  rw [hm] at hmr
  obtain ⟨b,o0,tt,hr,e1⟩:=hmr.ra (v:=.m r) trivial
  have hsr:=gO_ok he (x:=so) (by rw [hs]; intro e; cases e)
  rw [hs] at hsr
  obtain ⟨n1,e2⟩:=hsr.ra (v:=.i bn) trivial
  obtain ⟨nv,g⟩:=frH_ok hX.gd g
  obtain ⟨cc,g⟩:=bz_ok hX.gd g
  obtain ⟨cv,cb⟩:=an_ok cc
  have hvr:=(gO_ok he nv).rv1 (okV_nt cv)
  rw [wrapi_id (n:=bn) (by have:=ble_ok cb; omega)] at e2
  cases hg:getH hp r <;> rw [hg] at g <;> first | exact (hX.gd.er _ g).elim | skip
  rename_i kk clk es
  obtain ⟨ms,g1,g2,g3,g4⟩:=rowM_ok S hr hg
  obtain ⟨j,m,x,a1,a2,a3,a4,a5⟩:=msto_ok hX.gd g2 g
  obtain ⟨hK,g5⟩:=S.K_none hX hr a5
  obtain ⟨l1,l2,l3⟩:=turned g2 g3 g4 (m':={ m with val:=ev ρ vo }) (e':=⟨x.k,(gO vo).f e,x.bn⟩) a1 rfl ⟨a3.1,a3.2.1,hvr,a3.2.2.2⟩
  have hmod:=modify_set (fun e=>{ e with val:=ev ρ vo }) a1
  have S':=rowM_put S hr hg hK (clk':=clk) (ms':=ms.modify j fun e=>{ e with val:=ev ρ vo }) (by rw [hmod]; exact l1) (by rw [hmod]; exact l2) (by rw [hmod]; exact l3)
  refine OpE.skipD hd _ (fun w hw pos after g=>⟨{ w with heap:=h.setIfInBounds b (.map (ms.modify j fun e=>{ e with val:=ev ρ vo }) clk) },?_,rfl,rfl,rfl,rfl⟩) (hj θ _ _ .u _ S' (Ext.refl _ _) (Nat.le_refl _) RV.undef g5)
  have hb':w.heap[b]? = some (.map ms clk):=by rw [hw]; exact g1
  have hfi:ms.findIdx? (fun e=>(e.born:Int) == (bn:Int)) = some j:=by
   have e0:ms = ms.toList.toArray:=by simp
   rw [e0,List.findIdx?_toArray]; exact a4
  simp [execOp,e1,e2,Instr.entryStore,run_getObjH hb',asInt,asIntOf,hfi,run_setObjH _ hb',hw]
 ·exact (hX.gd.er _ g).elim
theorem dlE_ok (hX:CxOk X) (hT:TbOk C.P T) (S:SR X θ hp h) {e:E} (he:RE θ e ρ) {cl:CallT} {t:Nat} {mo ko:Operand} {ts:Array TypeId} {tl:List TypeId} (hts:ts.toList = t :: tl) (hd:okd C.n dst = true)
  (g:X.G ((dlE T t mo ko).f cl e hp q)) (hj:Kt X θ hp q fun w h'=>J (upo ρ dst w) h'):OpE C Q (.call ⟨.builtin .delete,#[mo,ko],ts⟩) ty dst J ρ h:=by
 have ht0:ts[0]? = some t:=by rw [← Array.getElem?_toList,hts]; rfl
 unfold dlE at g
 split at g
 ·rename_i K el hk
  have hu:=tk_mp hT hk
  simp only at g
  split at g
  ·rename_i r hm
   have hmr:=gO_ok he (x:=mo) (by rw [hm]; intro e; cases e)
   rw [hm] at hmr
   obtain ⟨b,o0,tt,hr,e1⟩:=hmr.ra (v:=.m r) trivial
   obtain ⟨nk,g⟩:=frH_ok hX.gd g
   have hkr:=gO_ok he nk
   cases hkk:kkT T K with
   | none=>rw [hkk] at g; exact (hX.gd.er _ g).elim
   | some kk=>
    rw [hkk] at g
    simp only at g
    obtain ⟨c1,g⟩:=bz_ok hX.gd g
    have hKR:=KR.of c1 hkr
    cases hg:getH hp r <;> rw [hg] at g <;> first | exact (hX.gd.er _ g).elim | skip
    rename_i kk2 clk es
    simp only at g
    obtain ⟨c2,g⟩:=bz_ok hX.gd g
    have:=kEq_ok c2
    subst this
    obtain ⟨ms,g1,g2,g3,g4⟩:=rowM_ok S hr hg
    obtain ⟨oo,hf,hrun⟩:=find_ok hT hkk hKR g2
    have hckT:=keyT_of hT hkk
    have hck:∀ e w,(Instr.checkKey e 10000 K (ev ρ ko)).run C.P w = .ok () w:=fun e w=>hckT.ok e ⟨ev ρ ko,hKR.isKey⟩ w
    have hres:RV θ (.t []) (.tuple #[]):=.inr ⟨[],[],rfl,rfl,rfl⟩
    cases hf with
    | no a1 a2 a3 a4=>
     rw [a4] at g
     obtain ⟨hK,g5⟩:=S.K_none hX hr g
     have S':=rowM_put S hr hg hK (clk':=clk) (ms':=ms) g2 g3 g4
     refine OpE.of hd (v:=.tuple #[]) _ (fun w hw pos after g=>⟨{ w with heap:=h.setIfInBounds b (.map ms clk) },?_,rfl,rfl,rfl,rfl⟩) (hj θ _ _ _ _ S' (Ext.refl _ _) (Nat.le_refl _) hres g5)
     have hb':w.heap[b]? = some (.map ms clk):=by rw [hw]; exact g1
     simp [execOp,resolve,invoke,builtin,Builtin.delete_,ht0,e1,run_underlying hu,run_getObjH hb',hck,hrun,run_setObjH _ hb',hw]
    | @yes j m x a1 a2 a3 a4 a5 a6 a7=>
     rw [a7] at g
     obtain ⟨hK,g5⟩:=S.K_none hX hr g
     have hjl:j < ms.size:=by rw [List.getElem?_eq_some_iff] at a1; simpa using a1.1
     have her:(ms.eraseIdxIfInBounds j).toList = ms.toList.eraseIdx j:=by simp [Array.eraseIdxIfInBounds,hjl]
     have S':=rowM_put S hr hg hK (clk':=clk) (ms':=ms.eraseIdxIfInBounds j) (by rw [her]; exact g2.erase j) (by rw [her]; exact fun m hm=>g3 m (List.mem_of_mem_eraseIdx hm)) (by
      rw [her]; exact ((List.eraseIdx_sublist _ _).map _).nodup g4)
     refine OpE.of hd (v:=.tuple #[]) _ (fun w hw pos after g=>⟨{ w with heap:=h.setIfInBounds b (.map (ms.eraseIdxIfInBounds j) clk) },?_,rfl,rfl,rfl,rfl⟩) (hj θ _ _ _ _ S' (Ext.refl _ _) (Nat.le_refl _) hres g5)
     have hb':w.heap[b]? = some (.map ms clk):=by rw [hw]; exact g1
     simp [execOp,resolve,invoke,builtin,Builtin.delete_,ht0,e1,run_underlying hu,run_getObjH hb',hck,hrun,run_setObjH _ hb',hw]
  ·exact (hX.gd.er _ g).elim
 ·exact (hX.gd.er _ g).elim
end
end Go.Vm
namespace Go.Vm
open Go Go.Sh Go.ChangeMaps
open Go.Sh.Ty (reg)
theorem bns_eq {θ:Th} {kk:KK}:∀ {es:List KV} {ms:List MapEntry},KVs θ kk es ms→bns es = ms.map (·.born)
 | [],_,h=>by rw [show _ = [] from h]; rfl
 | x :: es,_,⟨m,r,e,h1,h2⟩=>by
  subst e
  show x.bn :: bns es = _
  rw [bns_eq h2,List.map_cons,h1.2.2.2]
theorem eqNs_ok:∀ {l m:List Nat},eqNs l m = true→l = m
 | [],[],_=>rfl
 | [],_ :: _,h=>by cases h
 | _ :: _,[],h=>by cases h
 | a :: l,b :: m,h=>by
  obtain ⟨c1,c2⟩:=an_ok (show an (Nat.beq a b) (eqNs l m) = true from h)
  rw [beq_ok c1,eqNs_ok c2]
theorem fBn_ok {θ:Th} {kk:KK} {b:Nat}:∀ {es:List KV} {ms:List MapEntry} {x:KV},KVs θ kk es ms→fBn b es = some x→∃ m ∈ ms,m.born = b∧KVr θ kk x m
 | [],_,_,_,h=>by cases h
 | y :: es,_,x,⟨m,r,e,h1,h2⟩,h=>by
  subst e
  have h:(bif Nat.beq y.bn b then some y else fBn b es) = some x:=h
  cases c:Nat.beq y.bn b with
  | true=>rw [c] at h; cases h; exact ⟨m,List.mem_cons_self,h1.2.2.2.trans (beq_ok c),h1⟩
  | false=>
   rw [c] at h
   obtain ⟨m',a1,a2⟩:=fBn_ok h2 h
   exact ⟨m',List.mem_cons_of_mem _ a1,a2⟩
theorem born_inj:∀ {ms:List MapEntry} {m m':MapEntry},(ms.map (·.born)).Nodup→m ∈ ms→m' ∈ ms→m.born = m'.born→m = m'
 | [],_,_,_,h,_,_=>by cases h
 | a :: ms,m,m',hn,h,h',e=>by
  rw [List.map_cons,List.nodup_cons] at hn
  rcases List.mem_cons.1 h with h1 | h1 <;> rcases List.mem_cons.1 h' with h2 | h2
  ·rw [h1,h2]
  ·exact absurd (List.mem_map.2 ⟨m',h2,by rw [← e,h1]⟩) hn.1
  ·exact absurd (List.mem_map.2 ⟨m,h1,by rw [e,h2]⟩) hn.1
  ·exact born_inj hn.2 h1 h2 e
theorem frk_ok {X:Cx} (hX:CxOk X) (hro:X.ro ≠ none) {g:Nat→List Nat→Ans}:∀ {l pre:List Nat},X.G (frk g l pre)→∀ e ∈ l,∃ l1 l2,l = l1 ++ e :: l2∧X.G (g e (pre ++ l1 ++ l2))
 | [],pre,_,e,he=>by cases he
 | [a],pre,h,e,he=>by
  rw [List.mem_singleton] at he; subst he
  have h:X.G (g e pre):=h
  exact ⟨[],[],rfl,by simpa using h⟩
 | a :: b :: l,pre,h,e,he=>by
  have h:X.G (eqO (g a (pre ++ b :: l)) (frk g (b :: l) (pre ++ [a]))):=h
  obtain ⟨h1,h2⟩:=hX.mg hro _ _ h
  rcases List.mem_cons.1 he with rfl | he
  ·exact ⟨[],b :: l,rfl,by simpa using h1⟩
  ·obtain ⟨l1,l2,e1,e2⟩:=frk_ok hX hro h2 e he
   exact ⟨a :: l1,l2,by rw [e1]; rfl,by simpa using e2⟩
section
variable {C:Ctx} {ρ:Env} {h:H} {ty:TypeId} {Q:Exit→Act→World→Prop} {J:Env→H→Prop} {dst:Option Tmp} {X:Cx} {θ:Th} {hp:Hp} {T:Tb} {q:K1} {o:Op}
theorem rgA_ok (hX:CxOk X) (hT:TbOk C.P T) (S:SR X θ hp h) {e:E} (he:RE θ e ρ) {cl:CallT} {t:Nat} {xo:Operand} (hd:okd C.n dst = true)
  (g:X.G ((rgA T t xo).f cl e hp q)) (hj:Kt X θ hp q fun w h'=>J (upo ρ dst w) h'):OpE C Q (.range t xo) ty dst J ρ h:=by
 unfold rgA at g
 split at g
 ·rename_i K el hk
  have hu:=tk_mp hT hk
  simp only at g
  split at g
  ·rename_i r hm
   have hmr:=gO_ok he (x:=xo) (by rw [hm]; intro e; cases e)
   rw [hm] at hmr
   obtain ⟨b,o0,tt,hr,e1⟩:=hmr.ra (v:=.m r) trivial
   cases hg:getH hp r <;> rw [hg] at g <;> first | exact (hX.gd.er _ g).elim | skip
   rename_i kk clk es
   obtain ⟨ms,g1,g2,g3,g4⟩:=rowM_ok S hr hg
   obtain ⟨θ',hp',h1,h2,h3,h4,g5⟩:=newO_ok S hX (row:=.it (some r) clk (bns es) (bns es) none) (obj:=.mapIter (some b) clk #[] clk) (0,0)
    (fun θ' hh=>⟨some b,#[],push_at,rfl,⟨by rw [bns_eq g2]; exact g4,by simp⟩,rfl,_,_,_,hh _ _ hr,rfl⟩) (k:=fun i h=>q (.p i 0) h) g
   refine OpE.of hd (v:=.pointer (some ⟨h.size,0,none⟩)) (h.push (.mapIter (some b) clk #[] clk)) (fun w hw pos after g=>⟨{ w with heap:=h.push (.mapIter (some b) clk #[] clk) },?_,rfl,rfl,rfl,rfl⟩) (hj θ' hp' _ _ _ h2 h3 h4 (rv_p (o:=0) h1) g5)
   subst hw
   simp [execOp,e1,Instr.range,run_underlying hu,run_getObjH g1]
  ·rename_i hm
   have hmr:=gO_ok he (x:=xo) (by rw [hm]; intro e; cases e)
   rw [hm] at hmr
   have e1:=hmr.ra (v:=.mn) trivial
   obtain ⟨θ',hp',h1,h2,h3,h4,g5⟩:=newO_ok S hX (row:=.it none 0 [] [] none) (obj:=.mapIter none 0 #[] 0) (0,0)
    (fun θ' hh=>⟨none,#[],push_at,rfl,⟨List.nodup_nil,by simp⟩,rfl,rfl⟩) (k:=fun i h=>q (.p i 0) h) g
   refine OpE.of hd (v:=.pointer (some ⟨h.size,0,none⟩)) (h.push (.mapIter none 0 #[] 0)) (fun w hw pos after g=>⟨{ w with heap:=h.push (.mapIter none 0 #[] 0) },?_,rfl,rfl,rfl,rfl⟩) (hj θ' hp' _ _ _ h2 h3 h4 (rv_p (o:=0) h1) g5)
   subst hw
   have e1':ev ρ xo = .map none:=e1
   simp [execOp,e1',Instr.range,run_underlying hu]
  ·exact (hX.gd.er _ g).elim
 ·exact (hX.gd.er _ g).elim
theorem nx1_ok (hX:CxOk X) (S:SR X θ hp h) {i m:Rid} {bi oi ti bm om tm:Nat} (hri:θ i = some (bi,oi,ti)) (hrm:θ m = some (bm,om,tm)) {clk:Nat} {all todo:List Nat} {cur:Option Nat} (hgi:getH hp i = .it (some m) clk all todo cur)
  {kk:KK} {es:List KV} (hgm:getH hp m = .m kk clk es) {seen:Array Nat} (hit:h[bi]? = some (.mapIter (some bm) clk seen clk)) (ho:oi = 0) {ms:Array MapEntry} (g1:h[bm]? = some (.map ms clk)) (g2:KVs θ kk es ms.toList) (g4:(ms.toList.map (·.born)).Nodup)
  {b:Nat} {r:List Nat} (hr:r.Nodup∧∀ b',b' ∈ r ↔ b' ∈ all∧b' ∉ (seen.push b).toList) (g:X.G (nx1 i m clk all es hp q b r)) {me:MapEntry} (hme:me ∈ ms.toList) (hb:me.born = b):
  ∃ hp' a,SR X θ hp' (h.setIfInBounds bi (.mapIter (some bm) clk (seen.push b) clk))∧tor hp.nx≤tor hp'.nx∧RV θ a (.tuple #[.bool true,me.key,me.val])∧X.G (q a hp'):=by
 unfold nx1 at g
 cases hf:fBn b es with
 | none=>rw [hf] at g; exact (hX.gd.er _ g).elim
 | some x=>
  rw [hf] at g
  simp only at g
  obtain ⟨hK,g5⟩:=S.K_none hX hri g
  obtain ⟨_,g6⟩:=frH_ok hX.gd g5
  obtain ⟨m',a1,a2,a3⟩:=fBn_ok g2 hf
  have:m' = me:=born_inj g4 a1 hme (a2.trans hb.symm)
  subst this
  have hbs:bi < h.size:=by rw [Array.getElem?_eq_some_iff] at hit; exact hit.1
  refine ⟨_,_,S.upd hri (row:=.it (some m) clk all r (some b)) (by rw [hgi]; trivial) hK (by simp) (fun b' hb'=>by rw [Array.getElem?_setIfInBounds_ne (Ne.symm hb')]) ?_,Nat.le_refl _,?_,g6⟩
  ·refine ⟨some bm,seen.push b,?_,ho,hr,by simp,_,_,_,hrm,rfl⟩
   show (h.setIfInBounds bi _)[bi]? = _
   simp [hbs]
  ·exact .inr ⟨_,[.bool true,m'.key,m'.val],rfl,rfl,_,[m'.key,m'.val],rfl,.inl (.inl rfl),_,[m'.val],rfl,a3.2.1,_,[],rfl,a3.2.2.1,rfl⟩
theorem nxA_ok (hX:CxOk X) (S:SR X θ hp h) {e:E} (he:RE θ e ρ) {cl:CallT} {xo:Operand} (hd:okd C.n dst = true)
  (g:X.G ((nxA xo).f cl e hp q)) (hj:Kt X θ hp q fun w h'=>J (upo ρ dst w) h'):OpE C Q (.next xo false) ty dst J ρ h:=by
 unfold nxA at g
 simp only at g
 have hfalse:RV θ (.t [.b false]) (.tuple #[.bool false]):=.inr ⟨_,[.bool false],rfl,rfl,_,[],rfl,.inl (.inl rfl),rfl⟩
 split at g
 ·rename_i i hx
  have hxr:=gO_ok he (x:=xo) (by rw [hx]; intro e; cases e)
  rw [hx] at hxr
  obtain ⟨bi,oi,ti,hri,e1⟩:=hxr.ra (v:=.p i 0) trivial
  split at g
  ·rename_i clk all todo cur hgi
   have h1:=S.rows i _ hri
   rw [hgi] at h1
   obtain ⟨mb,seen,f1,f2,f3,f4,f5⟩:=h1
   simp only at f1 f2 f5
   subst f5; subst f2
   refine OpE.of hd (v:=.tuple #[.bool false]) h (fun w hw pos after g=>⟨w,?_,hw,rfl,rfl,rfl⟩) (hj θ _ _ _ _ S (Ext.refl _ _) (Nat.le_refl _) hfalse g)
   subst hw
   simp [execOp,e1,Instr.next,run_getItH f1]
  ·rename_i m clk all todo cur hgi
   have h1:=S.rows i _ hri
   rw [hgi] at h1
   obtain ⟨mb,seen,f1,f2,f3,f4,bm,om,tm,f5,f6⟩:=h1
   simp only at f1 f2
   subst f6
   subst f2
   split at g
   ·rename_i kk clk2 es hgm
    obtain ⟨c,gg⟩:=bz_ok hX.gd g
    obtain ⟨c1,c2⟩:=an_ok c
    have:=beq_ok c1
    subst this
    have hall:=eqNs_ok c2
    obtain ⟨ms,g1,g2,g3,g4⟩:=rowM_ok S f5 hgm
    rw [bns_eq g2] at hall
    have left_iff:∀ x:MapEntry,x ∈ (leftOf ms seen).toList ↔ x ∈ ms.toList∧x.born ∈ todo:=by
     intro x
     unfold leftOf
     have:x.born ∈ todo ↔ x.born ∈ all∧x.born ∉ seen.toList:=f3.2 x.born
     simp only [Array.toList_filter,List.mem_filter,Bool.not_eq_true',Array.contains_eq_mem,decide_eq_false_iff_not,Array.mem_toList_iff]
     constructor
     ·intro ⟨a,b⟩
      exact ⟨a,this.2 ⟨by rw [← hall]; exact List.mem_map.2 ⟨x,by simpa using a,rfl⟩,by simpa using b⟩⟩
     ·intro ⟨a,b⟩
      exact ⟨a,by simpa using (this.1 b).2⟩
    have some_left:∀ b ∈ todo,∃ x ∈ (leftOf ms seen).toList,x.born = b:=by
     intro b hb
     have h2:=((f3.2 b).1 hb).1
     rw [← hall,List.mem_map] at h2
     obtain ⟨x,hx,rfl⟩:=h2
     exact ⟨x,(left_iff x).2 ⟨hx,hb⟩,rfl⟩
    refine OpE.ofAny hd (fun w hw pos after _=>?_)
    have hit':w.heap[bi]? = some (.mapIter (some bm) clk seen clk):=by rw [hw]; exact f1
    have hb':w.heap[bm]? = some (.map ms clk):=by rw [hw]; exact g1
    have e1':ev ρ xo = .pointer (some ⟨bi,0,none⟩):=e1
    rcases run_next_at (P:=C.P) w ty bi bm clk clk seen ms clk hit' hb' g3 (Nat.le_refl _) with ⟨hz,hrun⟩ | ⟨x,hx,w1,hw1,hrun⟩
    ·have htodo:todo = []:=by
      cases todo with
      | nil=>rfl
      | cons b l=>
       obtain ⟨x,hx,_⟩:=some_left b List.mem_cons_self
       have:leftOf ms seen = #[]:=Array.eq_empty_of_size_eq_zero hz
       rw [this] at hx; cases hx
     subst htodo
     exact ⟨_,h,w,by simp [execOp,e1',hrun],hw,rfl,rfl,rfl,hj θ _ _ _ _ S (Ext.refl _ _) (Nat.le_refl _) hfalse gg⟩
    ·obtain ⟨hx1,hx2⟩:=(left_iff x).1 hx
     have hw1h:w1.heap = h:=by rcases hw1 with rfl | rfl <;> exact hw
     have key:∃ r:List Nat,(r.Nodup∧∀ b',b' ∈ r ↔ b' ∈ all∧b' ∉ (seen.push x.born).toList)∧X.G (nx1 i m clk all es hp q x.born r):=by
      have push_iff:∀ b',b' ∉ (seen.push x.born).toList ↔ b' ∉ seen.toList∧b' ≠ x.born:=by
       intro b'
       rw [Array.toList_push,List.mem_append,List.mem_singleton]
       exact ⟨fun h=>⟨fun a=>h (.inl a),fun a=>h (.inr a)⟩,fun h a=>a.elim h.1 h.2⟩
      have gen:∀ l1 l2,todo = l1 ++ x.born :: l2→((l1 ++ l2).Nodup∧∀ b',b' ∈ l1 ++ l2 ↔ b' ∈ all∧b' ∉ (seen.push x.born).toList):=by
       intro l1 l2 e
       have hn:=f3.1
       rw [e] at hn
       have hn2:=(List.perm_middle (a:=x.born) (l₁:=l1) (l₂:=l2)).nodup_iff.1 hn
       rw [List.nodup_cons] at hn2
       refine ⟨hn2.2,fun b'=>?_⟩
       rw [push_iff]
       have:=f3.2 b'
       rw [e] at this
       constructor
       ·intro hb
        have hb2:b' ∈ l1 ++ x.born :: l2:=by
         rcases List.mem_append.1 hb with h | h
         ·exact List.mem_append_left _ h
         ·exact List.mem_append_right _ (List.mem_cons_of_mem _ h)
        obtain ⟨a1,a2⟩:=this.1 hb2
        exact ⟨a1,a2,fun e=>hn2.1 (e ▸ hb)⟩
       ·intro ⟨a1,a2,a3⟩
        rcases List.mem_append.1 (this.2 ⟨a1,a2⟩) with h | h
        ·exact List.mem_append_left _ h
        ·rcases List.mem_cons.1 h with h | h
         ·exact absurd h a3
         ·exact List.mem_append_right _ h
      match todo,gg,hx2,gen with
      | [],_,hx2,_=>cases hx2
      | [b],g,hx2,gen=>
       rw [List.mem_singleton] at hx2
       subst hx2
       exact ⟨[],gen [] [] rfl,g⟩
      | a :: b :: l,g,hx2,gen=>
       have g:X.G (match hp.ro with | none=>.er 33 | some _=>frk (nx1 i m clk all es hp q) (a :: b :: l) []):=g
       have hro:X.ro ≠ none:=by
        rw [← S.ro]
        intro e; rw [e] at g; exact hX.gd.er _ g
       have g':X.G (frk (nx1 i m clk all es hp q) (a :: b :: l) []):=by
        revert g
        cases hro':hp.ro with
        | none=>rw [S.ro] at hro'; exact absurd hro' hro
        | some _=>exact id
       obtain ⟨l1,l2,e1,e2⟩:=frk_ok hX hro g' x.born hx2
       exact ⟨l1 ++ l2,gen l1 l2 e1,by simpa using e2⟩
     obtain ⟨r,hr,gr⟩:=key
     obtain ⟨hp',a,k1,k2,k3,k4⟩:=nx1_ok hX S hri f5 hgi hgm f1 rfl g1 g2 g4 hr gr hx1 rfl
     refine ⟨_,h.setIfInBounds bi (.mapIter (some bm) clk (seen.push x.born) clk),setBlock w1 bi (.mapIter (some bm) clk (seen.push x.born) clk),by simp [execOp,e1',hrun],by simp [setBlock,hw1h],?_,?_,?_,hj θ hp' _ _ _ k1 (Ext.refl _ _) k2 k3 k4⟩
     ·rcases hw1 with rfl | rfl <;> rfl
     ·rcases hw1 with rfl | rfl <;> rfl
     ·rcases hw1 with rfl | rfl <;> rfl
   ·exact (hX.gd.er _ g).elim
  ·exact (hX.gd.er _ g).elim
 ·exact (hX.gd.er _ g).elim
end
end Go.Vm
namespace Go.Vm
open Go Go.Sh
open Go.Sh.Ty (reg)
theorem rvT0 {θ:Th}:RV θ (.t []) (.tuple #[]):=.inr ⟨[],[],rfl,rfl,rfl⟩
theorem rvi {θ:Th} {n:Nat} (h:n≤4611686018427387904):RV θ (.i n) (goInt (n:Int)):=(wr_nat h).toRV
section
variable {C:Ctx} {ρ:Env} {h:H} {ty:TypeId} {Q:Exit→Act→World→Prop} {J:Env→H→Prop} {dst:Option Tmp} {X:Cx} {θ:Th} {hp:Hp} {T:Tb} {q:K1} {o:Op}
def Src (P:Program) (h:H) (V:Value) (sz m:Nat) (ys:List Value):Prop:=
 ys.length = m * sz∧ys.all (·.oneCell') = true∧∀ w:World,w.heap = h→(Builtin.lenOf V).run P w = .ok m w∧∀ c,c≤m→(Builtin.firstCells sz c V).run P w = .ok (ys.take (c * sz)).toArray w
theorem load0 {P:Program} {a:Addr} {w:World}:(loadCells a 0).run P w = .ok #[] w:=by simp [loadCells,loadCellsFrom]
theorem src_nil {P:Program} {V:Value} {sz c:Nat} {a:Option Addr} (e:V = .slice a 0 c):Src P h V sz 0 []:=by
 subst e
 refine ⟨by simp,rfl,fun w _=>⟨by simp [Builtin.lenOf],fun c' hc=>?_⟩⟩
 have:c' = 0:=by omega
 subst this
 cases a with
 | none=>simp [Builtin.firstCells]
 | some a=>simp [Builtin.firstCells,load0]
theorem src_at {P:Program} {V:Value} {sz n c:Nat} {a:Addr} {ys:List Value} (e:V = .slice (some a) n c) (hat:AtH h a ys) (hl:ys.length = n * sz) (h1:ys.all (·.oneCell') = true):Src P h V sz n ys:=by
 subst e
 refine ⟨hl,h1,fun w hw=>⟨by simp [Builtin.lenOf],fun c' hc=>?_⟩⟩
 have hle:c' * sz≤n * sz:=Nat.mul_le_mul_right _ hc
 have h2:AtH h a (ys.take (c' * sz)):=by
  obtain ⟨hs,arr,E,fr,hb,hcc⟩:=hat
  refine ⟨hs,arr,E,fr,hb,fun i v hi=>hcc i v ?_⟩
  rw [List.getElem?_take] at hi
  split at hi
  ·exact hi
  ·cases hi
 have:=run_firstCellsH (P:=P) (s:=⟨some a,c',c⟩) (size:=sz) (cs:=ys.take (c' * sz)) (.inr ⟨a,rfl,h2,by rw [List.length_take,hl]; show min _ _ = c' * sz; omega⟩) hw
 exact this
theorem strC_byS (n x:Nat):strC (byS n x) = byV n x:=by
 unfold strC byS byV
 simp only [List.map_map]
 apply List.map_congr_left
 intro b hb
 show Value.int .u8 ((UInt8.ofNat b).toNat:Int) = bV b
 rw [UInt8.toNat_ofNat',Nat.mod_eq_of_lt (byL_lt hb)]; rfl
theorem src_str {P:Program} {V:Value} {n x:Nat} (e:V = .string (byS n x)):Src P h V 1 n (byV n x):=by
 subst e
 have h1:(byV n x).all (·.oneCell') = true:=by rw [← strC_byS]; exact strC_one _
 refine ⟨by rw [byV_len]; omega,h1,fun w _=>⟨by simp [Builtin.lenOf,byS_size],fun c hc=>?_⟩⟩
 simp only [Builtin.firstCells,Sem.run_pure]
 congr 1
 apply Array.ext'
 rw [← strC_byS]
 simp [strC,reg,List.map_take]
theorem rdK_ok (hX:CxOk X) (S:SR X θ hp h) {r:Rid} {b o0 t:Nat} (hr:θ r = some (b,o0,t)) {o n:Nat} {k:CL AV→Ans} (g:X.G (rdK hp r o n k)):∃ l ys,RC θ l ys∧ys.length = n∧AtH h ⟨b,o0 + o,none⟩ ys∧X.G (k l):=by
 unfold rdK at g
 cases hg:getH hp r <;> rw [hg] at g <;> first | exact (hX.gd.er _ g).elim | skip
 rename_i L cs
 obtain ⟨vs,hat,hc,hl⟩:=rowC_at S hr hg
 have g:X.G (bz (an (Nat.beq o 0) (Nat.beq n L)) (k cs) (bz (Nat.ble (Nat.add o n) L) (frC (ctk (cdr cs o) n) k) (.er 7))):=g
 cases c:an (Nat.beq o 0) (Nat.beq n L) with
 | true=>
  rw [c] at g
  obtain ⟨c1,c2⟩:=an_ok c
  have:=beq_ok c1; subst this
  have:=beq_ok c2; subst this
  exact ⟨cs,vs,hc,hl,hat,g⟩
 | false=>
  rw [c] at g
  obtain ⟨c2,g⟩:=bz_ok hX.gd (show X.G (bz (Nat.ble (Nat.add o n) L) (frC (ctk (cdr cs o) n) k) (.er 7)) from g)
  have c2:=ble_ok c2
  have c2:o + n≤L:=c2
  have g:=frC_ok hX.gd g
  have ea:=addr_add b o0 o
  refine ⟨_,(vs.drop o).take n,ctk_ok (cdr_ok hc o (by omega)) n (by simp; omega),by simp; omega,?_,g⟩
  rw [← ea]; exact hat.sub o n
theorem srcK_ok (hX:CxOk X) (S:SR X θ hp h) {e:E} (he:RE θ e ρ) {x:Operand} {sz:Nat} {k:Nat→CL AV→Ans} (g:X.G (srcK ((gO x).f e) sz hp k)):∃ m ys l,RC θ l ys∧Src C.P h (ev ρ x) sz m ys∧X.G (k m l):=by
 have hne:(gO x).f e ≠ .er:=by intro e1; rw [e1] at g; exact hX.gd.er _ g
 have hx:=gO_ok he hne
 revert g hx
 generalize (gO x).f e = a
 intro g hx
 cases a <;> first | exact (hX.gd.er _ g).elim | skip
 ·rename_i n u
  have g:X.G (bz (Nat.beq sz 1) (bz (Nat.beq n 0) (k 0 .nil) (k n (.cons n (.bs n u) .nil))) (.er 34)):=g
  obtain ⟨c,g⟩:=bz_ok hX.gd g
  have:=beq_ok c; subst this
  obtain ⟨h1,e1⟩:=hx.ra (v:=.s n u) trivial
  cases c:Nat.beq n 0 with
  | true=>
   rw [c] at g
   have:=beq_ok c; subst this
   exact ⟨0,[],.nil,rfl,src_str (x:=u) e1,g⟩
  | false=>
   rw [c] at g
   have:=beq_no c
   exact ⟨n,byV n u,.cons n (.bs n u) .nil,⟨byV n u,[],by simp,RW.bs (by omega) h1,rfl⟩,src_str e1,g⟩
 ·rename_i r o n z
  have g:X.G (bz (Nat.beq z sz) (bz (Nat.beq n 0) (k 0 .nil) (rdK hp r o (Nat.mul n sz) fun l=>k n l)) (.er 34)):=g
  obtain ⟨c,g⟩:=bz_ok hX.gd g
  have:=beq_ok c; subst this
  obtain ⟨b,o0,t,cc,hr,hz,hc,hn,e1⟩:=hx.ra (v:=.sl r o n z) trivial
  cases c:Nat.beq n 0 with
  | true=>
   rw [c] at g
   have:=beq_ok c; subst this
   exact ⟨0,[],.nil,rfl,src_nil e1,g⟩
  | false=>
   rw [c] at g
   obtain ⟨l,ys,a1,a2,a3,g⟩:=rdK_ok hX S hr g
   exact ⟨n,ys,l,a1,src_at e1 a3 a2 a1.one,g⟩
 ·rename_i r o n c z
  have g:X.G (bz (Nat.beq z sz) (bz (Nat.beq n 0) (k 0 .nil) (rdK hp r o (Nat.mul n sz) fun l=>k n l)) (.er 34)):=g
  obtain ⟨c,g⟩:=bz_ok hX.gd g
  have:=beq_ok c; subst this
  obtain ⟨b,o0,t,hr,hz,hn,e1⟩:=hx.ra (v:=.sr r o n _ z) trivial
  cases c:Nat.beq n 0 with
  | true=>
   rw [c] at g
   have:=beq_ok c; subst this
   exact ⟨0,[],.nil,rfl,src_nil e1,g⟩
  | false=>
   rw [c] at g
   obtain ⟨l,ys,a1,a2,a3,g⟩:=rdK_ok hX S hr g
   exact ⟨n,ys,l,a1,src_at e1 a3 a2 a1.one,g⟩
 ·rename_i r o z
  obtain ⟨b,o0,t,cc,hr,hz,hc,hv⟩:=hx.ra (v:=.se r o z) trivial
  rcases hv with ⟨rfl,p,hp',e1⟩ | ⟨hc0,e1⟩
  ·exact ⟨0,[],.nil,rfl,src_nil e1,g⟩
  ·exact ⟨0,[],.nil,rfl,src_nil e1,g⟩
 ·obtain ⟨p,hp',e1⟩:=hx.ra (v:=.sz) trivial
  exact ⟨0,[],.nil,rfl,src_nil e1,g⟩
 ·exact ⟨0,[],.nil,rfl,src_nil (hx.ra (v:=.sn) trivial),g⟩
theorem wrK_ok (hX:CxOk X) (S:SR X θ hp h) {r:Rid} {b o0 t:Nat} (hr:θ r = some (b,o0,t)) {o n:Nat} {l:CL AV} {ys:List Value} (hc:RC θ l ys) (hl:ys.length = n) {k:Hp→Ans} (g:X.G (wrK hp r o n l k)):
  ∃ hp',SR X θ hp' (putC h ⟨b,o0 + o,none⟩ ys)∧WAt h ⟨b,o0 + o,none⟩ ys.length∧tor hp'.nx = tor hp.nx∧X.G (k hp'):=by
 unfold wrK at g
 cases hg:getH hp r <;> rw [hg] at g <;> first | exact (hX.gd.er _ g).elim | skip
 rename_i L cs
 obtain ⟨c2,g3⟩:=bz_ok hX.gd g
 have c2':o + n≤L:=ble_ok c2
 have g4:=frC_ok hX.gd g3
 obtain ⟨hK,g5⟩:=S.K_none hX hr g4
 obtain ⟨vs,hat,hcs,hvl⟩:=rowC_at S hr hg
 have ea:=addr_add b o0 o
 have hw:=rowC_w S hr hg
 have e1:=putC_field (h:=h) (p:=⟨b,o0,none⟩) (cs:=vs) (nv:=ys) o hat (by omega)
 rw [ea] at e1
 refine ⟨⟨uR hp.rows r (.c L (capp (ctk cs o) (capp l (cdr cs (Nat.add o n))))),hp.nx,hp.ro⟩,?_,?_,rfl,g5⟩
 ·rw [e1]
  refine rowC_put S hr hg hK ?_ (by simp; omega)
  rw [List.append_assoc]
  refine capp_ok (ctk_ok hcs _ (by omega)) (capp_ok hc ?_)
  have:=cdr_ok hcs (o + ys.length) (by omega)
  rw [hl] at this ⊢
  exact this
 ·rw [← ea]; exact hw.sub o _ (by omega)
end
section
variable {C:Ctx} {ρ:Env} {h:H} {ty:TypeId} {Q:Exit→Act→World→Prop} {J:Env→H→Prop} {dst:Option Tmp} {X:Cx} {θ:Th} {hp:Hp} {T:Tb} {q:K1} {o:Op}
theorem e_copyG {t u el sz:Nat} {dO xo:Operand} {a:Option Addr} {n c m:Nat} {ys:List Value} (hT:SlT C.P t el sz) (hs:ev ρ dO = .slice a n c) (hx:Src C.P h (ev ρ xo) sz m ys) (hd:okd C.n dst = true)
  (hw:∀ p,a = some p→WAt h p (min m n * sz)) (hj:J (upo ρ dst (goInt ((min m n:Nat):Int))) (match a with | some p=>putC h p (ys.take (min m n * sz)) | none=>h)):OpE C Q (.call ⟨.builtin .copy,#[dO,xo],#[t,u]⟩) ty dst J ρ h:=by
 obtain ⟨hl,h1,hrun⟩:=hx
 have hle:min m n * sz≤m * sz:=Nat.mul_le_mul_right _ (Nat.min_le_left _ _)
 have hlen:(ys.take (min m n * sz)).length = min m n * sz:=by rw [List.length_take,hl]; omega
 have h1':(ys.take (min m n * sz)).all (·.oneCell') = true:=by
  rw [List.all_eq_true] at h1 ⊢; exact fun v hv=>h1 v (List.mem_of_mem_take hv)
 refine OpE.ofAny hd (fun w hw' pos after g=>?_)
 obtain ⟨r1,r2⟩:=hrun w hw'
 have r2:=r2 (min m n) (Nat.min_le_left _ _)
 have hmin:Nat.min m n = min m n:=rfl
 cases a with
 | none=>
  refine ⟨goInt ((min m n:Nat):Int),h,w,?_,hw',rfl,rfl,rfl,hj⟩
  simp only [execOp,resolve,invoke,builtin,hs,Builtin.copy_,List.map_cons,List.map_nil,List.map_toArray]
  simp [run_underlying hT.1,Sh.run_sizeOf hT.2,r1,hmin,r2]
 | some p=>
  have hst:=run_store_list C.P (a:=p) (ys:=ys.take (min m n * sz)) (w:=w) (by rw [hw',hlen]; exact hw p rfl) h1'
  refine ⟨goInt ((min m n:Nat):Int),putC h p (ys.take (min m n * sz)),{ w with heap:=putC w.heap p (ys.take (min m n * sz)) },?_,by rw [hw'],rfl,rfl,rfl,hj⟩
  simp only [execOp,resolve,invoke,builtin,hs,Builtin.copy_,List.map_cons,List.map_nil,List.map_toArray]
  simp [run_underlying hT.1,Sh.run_sizeOf hT.2,r1,hmin,r2,hst]
theorem e_copy0 {t u el sz:Nat} {dO xo:Operand} {a:Option Addr} {n c m:Nat} {ys:List Value} (hT:SlT C.P t el sz) (hs:ev ρ dO = .slice a n c) (hx:Src C.P h (ev ρ xo) sz m ys) (hd:okd C.n dst = true)
  (h0:min m n = 0) (hj:J (upo ρ dst (goInt 0)) h):OpE C Q (.call ⟨.builtin .copy,#[dO,xo],#[t,u]⟩) ty dst J ρ h:=by
 obtain ⟨hl,h1,hrun⟩:=hx
 refine OpE.ofAny hd (fun w hw' pos after g=>?_)
 obtain ⟨r1,r2⟩:=hrun w hw'
 have r2:=r2 (min m n) (Nat.min_le_left _ _)
 have hmin:Nat.min m n = min m n:=rfl
 rw [h0,Nat.zero_mul,List.take_zero] at r2
 rw [h0] at hmin
 refine ⟨goInt 0,h,w,?_,hw',rfl,rfl,rfl,hj⟩
 cases a with
 | none=>
  simp only [execOp,resolve,invoke,builtin,hs,Builtin.copy_,List.map_cons,List.map_nil,List.map_toArray]
  simp [run_underlying hT.1,Sh.run_sizeOf hT.2,r1,hmin,r2]
 | some p=>
  simp only [execOp,resolve,invoke,builtin,hs,Builtin.copy_,List.map_cons,List.map_nil,List.map_toArray]
  simp [run_underlying hT.1,Sh.run_sizeOf hT.2,r1,hmin,r2,storeCells]
theorem cpE_ok (hX:CxOk X) (hT:TbOk C.P T) (S:SR X θ hp h) {e:E} (he:RE θ e ρ) {cl:CallT} {t u:Nat} {dO xo:Operand} (hd:okd C.n dst = true)
  (g:X.G ((cpE T t dO xo).f cl e hp q)) (hj:Kt X θ hp q fun w h'=>J (upo ρ dst w) h'):OpE C Q (.call ⟨.builtin .copy,#[dO,xo],#[t,u]⟩) ty dst J ρ h:=by
 unfold cpE at g
 split at g
 ·rename_i el sz hk
  obtain ⟨hu,hsz⟩:=tk_sl hT hk
  cases c1:Nat.ble 1 sz with
  | false=>rw [c1] at g; exact (hX.gd.er _ g).elim
  | true=>
   rw [c1] at g
   have h0:=ble_ok c1
   have hsl:SlT C.P t el sz:=⟨hu,hT.size hsz h0⟩
   obtain ⟨m,ys,l,hl,hsrc,g⟩:=srcK_ok (C:=C) hX S he (k:=fun m xs=>cp2 ((gO dO).f e) sz m xs hp q) g
   have hne:(gO dO).f e ≠ .er:=by intro e1; rw [e1] at g; exact hX.gd.er _ g
   have hx:=gO_ok he hne
   revert g hx
   generalize (gO dO).f e = a
   intro g hx
   have zero:∀ {a:Option Addr} {c:Nat},ev ρ dO = .slice a 0 c→X.G (q (.i 0) hp)→OpE C Q (.call ⟨.builtin .copy,#[dO,xo],#[t,u]⟩) ty dst J ρ h:=fun e1 g=>
    e_copy0 hsl e1 hsrc hd (Nat.min_zero _) (hj θ _ _ _ _ S (Ext.refl _ _) (Nat.le_refl _) (rvi (by decide)) g)
   have main:∀ {r:Rid} {b o0 tt o n c:Nat},θ r = some (b,o0,tt)→ev ρ dO = .slice (some ⟨b,o0 + o,none⟩) n c→X.G (cp1 r o n sz m l hp q)→OpE C Q (.call ⟨.builtin .copy,#[dO,xo],#[t,u]⟩) ty dst J ρ h:=by
    intro r b o0 tt o n c hr e1 g
    have g:X.G (bz (Nat.ble (min m n) 16777216) (bz (Nat.beq (min m n) 0) (q (.i 0) hp) (wrK hp r o (Nat.mul (min m n) sz) (ctk l (Nat.mul (min m n) sz)) fun h=>q (.i (min m n)) h)) (.er 38)):=g
    obtain ⟨cm,g⟩:=bz_ok hX.gd g
    have cm:=ble_ok cm
    cases c2:Nat.beq (min m n) 0 with
    | true=>
     rw [c2] at g
     exact e_copy0 hsl e1 hsrc hd (beq_ok c2) (hj θ _ _ _ _ S (Ext.refl _ _) (Nat.le_refl _) (rvi (by decide)) g)
    | false=>
     rw [c2] at g
     have hle:min m n * sz≤m * sz:=Nat.mul_le_mul_right _ (Nat.min_le_left _ _)
     have hlen:(ys.take (min m n * sz)).length = min m n * sz:=by rw [List.length_take,hsrc.1]; omega
     obtain ⟨hp',S',hw,hnx,g⟩:=wrK_ok hX S hr (ctk_ok hl (min m n * sz) (by rw [hsrc.1]; exact hle)) hlen g
     exact e_copyG hsl e1 hsrc hd (fun p hp=>by injection hp with hp; subst hp; rw [← hlen]; exact hw) (hj θ _ _ _ _ S' (Ext.refl _ _) (by rw [hnx]; exact Nat.le_refl _) (rvi (by omega)) g)
   cases a <;> first | exact (hX.gd.er _ g).elim | skip
   ·rename_i r o n z
    have g:X.G (bz (Nat.beq z sz) (cp1 r o n sz m l hp q) (.er 38)):=g
    obtain ⟨_,g⟩:=bz_ok hX.gd g
    obtain ⟨b,o0,tt,c,hr,hz,hc,hn,e1⟩:=hx.ra (v:=.sl r o n z) trivial
    exact main hr e1 g
   ·rename_i r o n c z
    have g:X.G (bz (Nat.beq z sz) (cp1 r o n sz m l hp q) (.er 38)):=g
    obtain ⟨_,g⟩:=bz_ok hX.gd g
    obtain ⟨b,o0,tt,hr,hz,hn,e1⟩:=hx.ra (v:=.sr r o n c z) trivial
    exact main hr e1 g
   ·rename_i r o z
    obtain ⟨b,o0,tt,c,hr,hz,hc,hv⟩:=hx.ra (v:=.se r o z) trivial
    rcases hv with ⟨rfl,p,hp',e1⟩ | ⟨hc0,e1⟩
    ·exact zero e1 g
    ·exact zero e1 g
   ·obtain ⟨p,hp',e1⟩:=hx.ra (v:=.sz) trivial
    exact zero e1 g
   ·exact zero (hx.ra (v:=.sn) trivial) g
 ·exact (hX.gd.er _ g).elim
theorem e_clr0 {t el sz:Nat} {dO:Operand} {a:Option Addr} {n c:Nat} (hu:C.P.underlying t = some (.slice el)) (hs:ev ρ dO = .slice a n c) (hd:okd C.n dst = true) (h0:a = none∨n = 0) (hj:J (upo ρ dst (.tuple #[])) h):OpE C Q (.call ⟨.builtin .clear,#[dO],#[t]⟩) ty dst J ρ h:=by
 refine OpE.ofAny hd (fun w hw pos after g=>⟨.tuple #[],h,w,?_,hw,rfl,rfl,rfl,hj⟩)
 rcases h0 with rfl | rfl
 ·simp only [execOp,resolve,invoke,builtin,hs,Builtin.clear_,List.map_cons,List.map_nil,List.map_toArray]
  simp [run_underlying hu]
 ·cases a <;> (simp only [execOp,resolve,invoke,builtin,hs,Builtin.clear_,List.map_cons,List.map_nil,List.map_toArray]; simp [run_underlying hu])
theorem clE_ok (hX:CxOk X) (hT:TbOk C.P T) (S:SR X θ hp h) {e:E} (he:RE θ e ρ) {cl:CallT} {t:Nat} {dO:Operand} (hd:okd C.n dst = true)
  (g:X.G ((clE T t dO).f cl e hp q)) (hj:Kt X θ hp q fun w h'=>J (upo ρ dst w) h'):OpE C Q (.call ⟨.builtin .clear,#[dO],#[t]⟩) ty dst J ρ h:=by
 unfold clE at g
 split at g
 ·rename_i K el hk
  have hu:=tk_mp hT hk
  simp only at g
  split at g
  ·rename_i hx
   have hxr:=gO_ok he (x:=dO) (by rw [hx]; intro e; cases e)
   rw [hx] at hxr
   have e1:ev ρ dO = .map none:=hxr.ra (v:=.mn) trivial
   refine OpE.ofAny hd (fun w hw pos after _=>⟨.tuple #[],h,w,?_,hw,rfl,rfl,rfl,hj θ _ _ _ _ S (Ext.refl _ _) (Nat.le_refl _) rvT0 g⟩)
   simp only [execOp,resolve,invoke,builtin,e1,Builtin.clear_,List.map_cons,List.map_nil,List.map_toArray]
   simp [run_underlying hu]
  ·rename_i r hx
   have hxr:=gO_ok he (x:=dO) (by rw [hx]; intro e; cases e)
   rw [hx] at hxr
   obtain ⟨b,o0,tt,hr,e1⟩:=hxr.ra (v:=.m r) trivial
   cases hg:getH hp r <;> rw [hg] at g <;> first | exact (hX.gd.er _ g).elim | skip
   rename_i kk clk es
   obtain ⟨ms,g1,g2,g3,g4⟩:=rowM_ok S hr hg
   obtain ⟨hK,g5⟩:=S.K_none hX hr g
   have S':=rowM_put S hr hg hK (clk':=clk) (es':=[]) (ms':=#[]) rfl (by simp) (by simp)
   refine OpE.of hd (v:=.tuple #[]) _ (fun w hw pos after _=>⟨{ w with heap:=h.setIfInBounds b (.map #[] clk) },?_,rfl,rfl,rfl,rfl⟩) (hj θ _ _ _ _ S' (Ext.refl _ _) (Nat.le_refl _) rvT0 g5)
   have hb':w.heap[b]? = some (.map ms clk):=by rw [hw]; exact g1
   simp only [execOp,resolve,invoke,builtin,e1,Builtin.clear_,List.map_cons,List.map_nil,List.map_toArray]
   simp [run_underlying hu,run_getObjH hb',run_setObjH _ hb',hw]
  ·exact (hX.gd.er _ g).elim
 ·rename_i el sz hk
  obtain ⟨hu,hsz⟩:=tk_sl hT hk
  cases c:an (zOk T el) (Nat.ble 1 sz) with
  | false=>rw [c] at g; exact (hX.gd.er _ g).elim
  | true=>
   rw [c] at g
   obtain ⟨c1,c2⟩:=an_ok c
   have h0:=ble_ok c2
   obtain ⟨z,hz,hzc⟩:=zero_ok hT (θ:=θ) c1
   have hzl:z.length = sz:=(zero_len c1 hzc).trans hsz
   have main:∀ {r:Rid} {b o0 tt o n c:Nat},θ r = some (b,o0,tt)→ev ρ dO = .slice (some ⟨b,o0 + o,none⟩) n c→X.G (bz (Nat.beq n 0) (q (.t []) hp) (wrK hp r o (Nat.mul n sz) (repl (zeroC T el) n) fun h=>q (.t []) h))→OpE C Q (.call ⟨.builtin .clear,#[dO],#[t]⟩) ty dst J ρ h:=by
    intro r b o0 tt o n c hr e1 g
    cases c3:Nat.beq n 0 with
    | true=>
     rw [c3] at g
     exact e_clr0 (sz:=sz) hu e1 hd (.inr (beq_ok c3)) (hj θ _ _ _ _ S (Ext.refl _ _) (Nat.le_refl _) rvT0 g)
    | false=>
     rw [c3] at g
     have hn:=beq_no c3
     have hlen:(List.replicate n z).flatten.length = n * sz:=by simp [hzl]
     obtain ⟨hp',S',hw,hnx,gg⟩:=wrK_ok hX S hr (repl_ok hzc n) hlen g
     have hone:(List.replicate n z).flatten.all (·.oneCell') = true:=(repl_ok hzc n).one
     obtain ⟨i,zv,hi,hzv,hzcv⟩:=hz
     obtain ⟨n',rfl⟩:∃ n',n = n' + 1:=⟨n - 1,by omega⟩
     have hzf:=zeroCells_flat z (n' + 1)
     refine OpE.ofAny hd (fun w hw' pos after _=>?_)
     have hst:=run_store_list C.P (a:=⟨b,o0 + o,none⟩) (ys:=(List.replicate (n' + 1) z).flatten) (w:=w) (by rw [hw']; exact hw) hone
     refine ⟨.tuple #[],putC h ⟨b,o0 + o,none⟩ (List.replicate (n' + 1) z).flatten,{ w with heap:=putC w.heap ⟨b,o0 + o,none⟩ (List.replicate (n' + 1) z).flatten },?_,by rw [hw'],rfl,rfl,rfl,hj θ _ _ _ _ S' (Ext.refl _ _) (by rw [hnx]; exact Nat.le_refl _) rvT0 gg⟩
     simp only [execOp,resolve,invoke,builtin,e1,Builtin.clear_,List.map_cons,List.map_nil,List.map_toArray]
     simp [run_underlying hu,zeroValue,typeInfo,hi,hzv,hzcv,hzf,hst]
   have zero:∀ {a:Option Addr} {n c:Nat},ev ρ dO = .slice a n c→(a = none∨n = 0)→X.G (q (.t []) hp)→OpE C Q (.call ⟨.builtin .clear,#[dO],#[t]⟩) ty dst J ρ h:=fun e1 h0 g=>
    e_clr0 (sz:=sz) hu e1 hd h0 (hj θ _ _ _ _ S (Ext.refl _ _) (Nat.le_refl _) rvT0 g)
   simp only [cond_true] at g
   have hne:(gO dO).f e ≠ .er:=by intro e1; rw [e1] at g; exact hX.gd.er _ g
   have hx:=gO_ok he hne
   revert g hx
   generalize (gO dO).f e = a
   intro g hx
   cases a <;> first | exact (hX.gd.er _ g).elim | skip
   ·rename_i r o n z
    obtain ⟨_,g⟩:=bz_ok hX.gd g
    obtain ⟨b,o0,tt,c,hr,hz,hc,hn,e1⟩:=hx.ra (v:=.sl r o n z) trivial
    exact main hr e1 g
   ·rename_i r o n c z
    obtain ⟨_,g⟩:=bz_ok hX.gd g
    obtain ⟨b,o0,tt,hr,hz,hn,e1⟩:=hx.ra (v:=.sr r o n c z) trivial
    exact main hr e1 g
   ·rename_i r o z
    obtain ⟨b,o0,tt,c,hr,hz,hc,hv⟩:=hx.ra (v:=.se r o z) trivial
    rcases hv with ⟨rfl,p,hp',e1⟩ | ⟨hc0,e1⟩
    ·exact zero e1 (.inr rfl) g
    ·exact zero e1 (.inr rfl) g
   ·obtain ⟨p,hp',e1⟩:=hx.ra (v:=.sz) trivial
    exact zero e1 (.inr rfl) g
   ·exact zero (hx.ra (v:=.sn) trivial) (.inl rfl) g
 ·exact (hX.gd.er _ g).elim
end
section
variable {C:Ctx} {ρ:Env} {h:H} {ty:TypeId} {Q:Exit→Act→World→Prop} {J:Env→H→Prop} {dst:Option Tmp} {X:Cx} {θ:Th} {hp:Hp} {T:Tb} {q:K1} {o:Op}
theorem cvL_ok (hX:CxOk X) (hT:TbOk C.P T) (S:SR X θ hp h) {e:E} (he:RE θ e ρ) {cl:CallT} {s d el sz:Nat} {xo:Operand} (hk:tkT T d = .sl el sz) (hd:okd C.n dst = true)
  (g:X.G ((cvL T xo (tkT T s) el sz).f cl e hp q)) (hj:Kt X θ hp q fun w h'=>J (upo ρ dst w) h'):OpE C Q (.convert s d xo) ty dst J ρ h:=by
 obtain ⟨hu,_⟩:=tk_sl hT hk
 cases hks:tkT T s with
 | str=>
  rw [hks] at g
  have hus:=tk_str hT hks
  unfold cvL at g
  simp only at g
  cases c:an (Nat.beq sz 1) (u8T T el) with
  | false=>rw [c] at g; exact (hX.gd.er _ g).elim
  | true=>
   rw [c] at g
   obtain ⟨_,c2⟩:=an_ok c
   have he8:=u8T_ok hT c2
   simp only [cond_true] at g
   cases hx:(gO xo).f e <;> simp only [hx] at g <;> first | exact (hX.gd.er _ g).elim | skip
   rename_i n x
   have hxr:=gO_ok he (x:=xo) (by rw [hx]; intro e; cases e)
   rw [hx] at hxr
   obtain ⟨h1,e1⟩:=hxr.ra (v:=.s n x) trivial
   refine OpE.ofAny hd (fun w hw pos after _=>?_)
   have hrun:=run_bytes_of_string (P:=C.P) w s d el (byS n x) hus hu he8
   have hcap:=grownCap_ge w (byS n x).size 0 el
   rw [byS_size] at hrun hcap
   revert hrun hcap
   generalize grownCap w n 0 el = cap
   intro hrun hcap
   have hrow:(bytesRow (byS n x) cap).toList = byV n x ++ List.replicate (cap - n) (.int .u8 0):=by
    unfold bytesRow
    rw [byS_size,Array.toList_append,Array.toList_replicate,← strC_byS]
    simp [strC,reg]
   have hsz:(bytesRow (byS n x) cap).size = cap:=by
    rw [← Array.length_toList,hrow,List.length_append,byV_len,List.length_replicate]; omega
   have hrc:RC θ (bc (Nat.beq n 0) .nil (.cons n (.bs n x) .nil)) (byV n x):=by
    cases c:Nat.beq n 0 with
    | true=>have:=beq_ok c; subst this; rfl
    | false=>have:=beq_no c; exact ⟨byV n x,[],by simp,RW.bs (by omega) h1,rfl⟩
   obtain ⟨θ',hp',f1,f2,f3,f4,f5⟩:=newO_ok S hX (row:=.c n (bc (Nat.beq n 0) .nil (.cons n (.bs n x) .nil))) (obj:=.cells (bytesRow (byS n x) cap) el ((bytesRow (byS n x) cap).size,(bytesRow (byS n x) cap).size + 1)) (0,cap)
    (fun θ' hh=>⟨_,_,_,byV n x,push_at,by rw [hsz]; simp,hcap,.inr (Nat.le_refl _),RC.mono hh hrc,byV_len n x,by
     show ((bytesRow (byS n x) cap).toList.drop 0).take n = byV n x
     rw [hrow,List.drop_zero,List.take_left' (byV_len n x)]⟩) (k:=fun r h=>q (.sl r 0 n 1) h) g
   refine ⟨.slice (some ⟨w.heap.size,0,none⟩) n cap,h.push (.cells (bytesRow (byS n x) cap) el ((bytesRow (byS n x) cap).size,(bytesRow (byS n x) cap).size + 1)),w.drew.alloc (.cells (bytesRow (byS n x) cap) el ((bytesRow (byS n x) cap).size,(bytesRow (byS n x) cap).size + 1)),?_,by rw [← hw]; rfl,rfl,rfl,rfl,?_⟩
   ·simp only [execOp,e1,Sem.run_bind,hrun,Result.andThen_ok,Sem.run_pure]
   rw [hw]
   exact hj θ' hp' _ _ _ f2 f3 f4 (rv_sl (o:=0) (c:=cap) f1 (by decide) (by simp) hcap) f5
 | _=>rw [hks] at g; exact (hX.gd.er _ g).elim
theorem cvM_ok (hX:CxOk X) (hT:TbOk C.P T) (S:SR X θ hp h) {e:E} (he:RE θ e ρ) {cl:CallT} {s d el sz el2 sz2:Nat} {xo:Operand} (hk:tkT T d = .sl el sz) (hks:tkT T s = .sl el2 sz2) (hd:okd C.n dst = true)
  (g:X.G ((cvM T xo s d el sz).f cl e hp q)) (hj:Kt X θ hp q fun w h'=>J (upo ρ dst w) h'):OpE C Q (.convert s d xo) ty dst J ρ h:=by
 obtain ⟨hu,hsz⟩:=tk_sl hT hk
 unfold cvM at g
 cases c:an (Nat.beq s d) (an (Nat.beq sz 1) (u8T T el)) with
 | false=>rw [c] at g; exact (hX.gd.er _ g).elim
 | true=>
  rw [c] at g
  obtain ⟨c1,c2⟩:=an_ok c
  obtain ⟨c3,c4⟩:=an_ok c2
  have:=beq_ok c1
  subst this
  have he8:=u8T_ok hT c4
  have hs1:=beq_ok c3
  subst hs1
  simp only [cond_true] at g
  cases hx:(gO xo).f e <;> simp only [hx] at g <;> first | exact (hX.gd.er _ g).elim | skip
  rename_i r o n z
  have hxr:=gO_ok he (x:=xo) (by rw [hx]; intro e; cases e)
  rw [hx] at hxr
  obtain ⟨b,o0,tt,cc,hr,hz,hc,hn,e1⟩:=hxr.ra (v:=.sl r o n z) trivial
  cases hg:getH hp r <;> simp only [hg] at g <;> first | exact (hX.gd.er _ g).elim | skip
  rename_i L cs
  obtain ⟨arr,E,fr,vs,h1,h2,h3,h4,h5,h6,h7⟩:=rowC_ok S hr hg
  have hb:b < h.size:=by rw [Array.getElem?_eq_some_iff] at h1; exact h1.1
  have efr:frz h b = h.setIfInBounds b (.cells arr E (if fr.1 == fr.2 then (arr.size,arr.size + 1) else (min fr.1 arr.size,max fr.2 (arr.size + 1)))):=by unfold frz; rw [h1]
  have S':SR X θ hp (frz h b):=by
   refine S.heap hr (by rw [hg]; trivial) (by rw [efr]; simp) (fun b' hb'=>by rw [efr,Array.getElem?_setIfInBounds_ne (Ne.symm hb')]) ?_
   rw [hg]
   refine ⟨arr,E,(if fr.1 == fr.2 then (arr.size,arr.size + 1) else (min fr.1 arr.size,max fr.2 (arr.size + 1))),vs,by rw [efr]; show (h.setIfInBounds b _)[b]? = _; simp [hb],h2,h3,.inr ?_,h5,h6,h7⟩
   by_cases e:fr.1 = fr.2
   ·simp [e]
   ·have e2:(fr.1 == fr.2) = false:=by simpa using e
    rw [e2]
    rcases h4 with h4 | h4
    ·exact absurd h4 e
    ·show arr.size≤min fr.1 arr.size
     omega
  have hsl:ev ρ xo = reg (⟨some ⟨b,o0 + o,none⟩,n,cc⟩:Sl):=e1
  refine e_strish (s:=⟨some ⟨b,o0 + o,none⟩,n,cc⟩) (k:=fun s h'=>s = ⟨some ⟨b,o0 + o,none⟩,n,cc⟩∧h' = frz h b) ⟨hu,hT.size hsz (by decide)⟩ he8 hsl hd ⟨_,arr,E,fr,rfl,h1,rfl,rfl⟩ (fun h' r' hh=>?_)
  obtain ⟨rfl,rfl⟩:=hh
  exact hj θ _ _ _ _ S' (Ext.refl _ _) (Nat.le_refl _) (rv_sl hr hz hc hn) g
end
end Go.Vm
namespace Go.Sh
open Go
open Go.Sh.Ty (reg)
structure Fr (S:List Nat) (h h':H):Prop where
 size:h.size≤h'.size
 same:∀ i,i < h.size→i ∉ S→h'[i]? = h[i]?
abbrev Ext (h h':H):Prop:=Fr [] h h'
theorem Fr.refl (S:List Nat) (h:H):Fr S h h:=⟨Nat.le_refl _,fun _ _ _=>rfl⟩
theorem Fr.trans {S S':List Nat} {h h' h'':H} (a:Fr S h h') (b:Fr S' h' h'') (hs:∀ x ∈ S',x ∈ S∨h.size≤x):Fr S h h'':=
 ⟨Nat.le_trans a.size b.size,fun i hi hn=>by
  have h1:=a.same i hi hn
  have h2:=b.same i (Nat.lt_of_lt_of_le hi a.size) (fun hx=>by rcases hs i hx with h | h; exact hn h; omega)
  rw [h2,h1]⟩
theorem Ext.trans {h h' h'':H} (a:Ext h h') (b:Ext h' h''):Ext h h'':=Fr.trans a b (fun _ hx=>by cases hx)
theorem Fr.mono {S S':List Nat} {h h':H} (a:Fr S h h') (hs:∀ x ∈ S,x ∈ S'):Fr S' h h':=⟨a.size,fun i hi hn=>a.same i hi fun hx=>hn (hs i hx)⟩
theorem Fr.push (h:H) (o:Obj):Ext h (h.push o):=⟨by simp,fun i hi _=>by rw [Array.getElem?_push_lt hi]; simp [hi]⟩
theorem Fr.set (h:H) (b:Nat) (o:Obj):Fr [b] h (h.setIfInBounds b o):=⟨by simp,fun i hi hn=>by rw [Array.getElem?_setIfInBounds_ne]; simp at hn; omega⟩
theorem AtH.fr {S:List Nat} {h h':H} (f:Fr S h h') {p:Addr} {cs:List Value} (H:AtH h p cs) (hp:p.block ∉ S):AtH h' p cs:=by
 obtain ⟨hs,arr,T,fr,hb,hc⟩:=H
 refine ⟨hs,arr,T,fr,?_,hc⟩
 rw [f.same _ (by rw [Array.getElem?_eq_some_iff] at hb; exact hb.1) hp,hb]
theorem SlC.fr {S:List Nat} {h h':H} (f:Fr S h h') {s:Sl} {sz:Nat} {cs:List Value} (H:SlC h s sz cs) (hp:∀ a,s.a = some a→a.block ∉ S):SlC h' s sz cs:=by
 rcases H with H | ⟨a,ha,hat,hl⟩
 ·exact .inl H
 ·exact .inr ⟨a,ha,hat.fr f (hp a ha),hl⟩
def Cel (T:Nat) (p:Addr) (cs:List Value) (h:H):Prop:=p = ⟨p.block,0,none⟩∧h[p.block]? = some (.cells cs.toArray T (0,0))
theorem Cel.lt {T:Nat} {p:Addr} {cs:List Value} {h:H} (H:Cel T p cs h):p.block < h.size:=by
 have:=H.2; rw [Array.getElem?_eq_some_iff] at this; exact this.1
theorem Cel.at_ {T:Nat} {p:Addr} {cs:List Value} {h:H} (H:Cel T p cs h):AtH h p cs:=by
 obtain ⟨hp,hb⟩:=H
 rw [hp]
 exact ⟨rfl,_,T,_,hb,fun i v hi=>by simpa using hi⟩
theorem Cel.w {T:Nat} {p:Addr} {cs:List Value} {h:H} (H:Cel T p cs h):WAt h p cs.length:=by
 obtain ⟨hp,hb⟩:=H
 rw [hp]
 exact ⟨rfl,_,T,_,hb,by simp,fun i hi=>by simp⟩
theorem Cel.put {T:Nat} {p:Addr} {cs:List Value} {h:H} (H:Cel T p cs h) (off:Nat) (ys:List Value) (hl:off + ys.length≤cs.length):
  Cel T p (cs.take off ++ ys ++ cs.drop (off + ys.length)) (putC h (p.add off) ys)∧Fr [p.block] h (putC h (p.add off) ys)∧WAt h (p.add off) ys.length:=by
 obtain ⟨hp,hb⟩:=H
 obtain ⟨blk,o,sp⟩:=p
 simp only [Addr.mk.injEq,true_and] at hp
 obtain ⟨rfl,rfl⟩:=hp
 simp only at hb
 have e:(⟨blk,0,none⟩:Addr).add off = ⟨blk,off,none⟩:=by rw [add_spot rfl]; simp
 rw [e]
 have e2:putC h ⟨blk,off,none⟩ ys = h.setIfInBounds blk (.cells (splice cs.toArray off ys) T (0,0)):=by unfold putC; simp only [hb]
 rw [e2]
 refine ⟨⟨rfl,?_⟩,Fr.set _ _ _,rfl,_,T,_,hb,by simpa using hl,fun i hi=>by simp⟩
 rw [Array.getElem?_eq_some_iff] at hb
 obtain ⟨hlt,hb⟩:=hb
 simp [hlt,splice]
theorem Cel.set {T:Nat} {p:Addr} {cs:List Value} {h:H} (H:Cel T p cs h) (ys:List Value) (hl:ys.length = cs.length):
  Cel T p ys (putC h p ys)∧Fr [p.block] h (putC h p ys):=by
 have:=H.put 0 ys (by omega)
 have e:p.add 0 = p:=rfl
 rw [e,Nat.zero_add,hl] at this
 simp at this
 exact ⟨this.1,this.2.1⟩
theorem Cel.new (h:H) (T:Nat) (cs:List Value):Cel T ⟨h.size,0,none⟩ cs (newC h T cs):=⟨rfl,by simp [newC]⟩
structure En where
 F:List Nat
 A:H→Prop
def Loc (e:En):Prop:=∀ h h':H,(∀ b ∈ e.F,h'[b]? = h[b]?)→e.A h→e.A h'
def cel (T:Nat) (p:Addr) (cs:List Value):En:=⟨[p.block],Cel T p cs⟩
theorem cel_loc (T:Nat) (p:Addr) (cs:List Value):Loc (cel T p cs):=fun h h' hb H=>⟨H.1,by rw [hb p.block (by simp [cel])]; exact H.2⟩
structure Sat (h0:H) (S:List Nat) (h:H) (L:List En):Prop where
 fr:Fr S h0 h
 ok:∀ e ∈ L,e.A h∧Loc e∧∀ b ∈ e.F,b < h.size∧(b ∈ S∨h0.size≤b)
 dis:L.Pairwise fun a b=>∀ x ∈ a.F,x ∉ b.F
section
variable {h0 h h':H} {S:List Nat} {L:List En}
theorem Sat.init (h:H):Sat h [] h []:=⟨Fr.refl _ _,by simp,.nil⟩
theorem Sat.init1 {h:H} {e:En} (ha:e.A h) (hl:Loc e) (hb:∀ b ∈ e.F,b < h.size):Sat h e.F h [e]:=
 ⟨Fr.refl _ _,by intro e' he; simp only [List.mem_singleton] at he; subst he; exact ⟨ha,hl,fun b h=>⟨hb b h,.inl h⟩⟩,by simp⟩
theorem Sat.at_ (hs:Sat h0 S h L) {e:En} {i:Nat} (he:L[i]? = some e):e.A h:=(hs.ok e (List.mem_of_getElem? he)).1
theorem Sat.ext (hs:Sat h0 S h L) (f:Ext h h'):Sat h0 S h' L:=
 ⟨hs.fr.trans f (fun _ hx=>by cases hx),fun e he=>by
  obtain ⟨h1,h2,h3⟩:=hs.ok e he
  exact ⟨h2 h h' (fun b hb=>f.same b (h3 b hb).1 (by simp)) h1,h2,fun b hb=>⟨Nat.lt_of_lt_of_le (h3 b hb).1 f.size,(h3 b hb).2⟩⟩,hs.dis⟩
theorem Sat.add (hs:Sat h0 S h L) {e:En} (f:Ext h h') (ha:e.A h') (hl:Loc e) (hb:∀ b ∈ e.F,h.size≤b∧b < h'.size):Sat h0 S h' (e :: L):=by
 have h1:=hs.ext f
 refine ⟨h1.fr,fun e' he=>?_,?_⟩
 ·rcases List.mem_cons.1 he with rfl | he
  ·exact ⟨ha,hl,fun b h=>⟨(hb b h).2,.inr (Nat.le_trans hs.fr.size (hb b h).1)⟩⟩
  ·exact h1.ok e' he
 ·refine List.Pairwise.cons (fun e' he x hx hx'=>?_) hs.dis
  have:=(hb x hx).1
  have:=((hs.ok e' he).2.2 x hx').1
  omega
theorem pairwise_set {α:Type} {R:α→α→Prop} (sym:∀ a b,R a b→R b a):∀ {L:List α} {i:Nat} {e e':α},L.Pairwise R→L[i]? = some e→(∀ (j:Nat) x,j ≠ i→L[j]? = some x→R e x→R e' x)→(L.set i e').Pairwise R
 | [],_,_,_,h,_,_=>by simpa using h
 | a :: L,0,e,e',h,hi,hr=>by
  simp only [List.getElem?_cons_zero,Option.some.injEq] at hi
  subst hi
  rw [List.set_cons_zero]
  rw [List.pairwise_cons] at h ⊢
  refine ⟨fun x hx=>?_,h.2⟩
  obtain ⟨j,hj⟩:=List.mem_iff_getElem?.1 hx
  exact hr (j + 1) x (by omega) (by simpa using hj) (h.1 x hx)
 | a :: L,i + 1,e,e',h,hi,hr=>by
  simp only [List.getElem?_cons_succ] at hi
  rw [List.set_cons_succ]
  rw [List.pairwise_cons] at h ⊢
  refine ⟨fun x hx=>?_,pairwise_set sym h.2 hi (fun j x hj hx=>hr (j + 1) x (by omega) (by simpa using hx))⟩
  rcases List.mem_or_eq_of_mem_set hx with hx | rfl
  ·exact h.1 x hx
  ·exact sym _ _ (hr 0 a (by omega) (by simp) (sym _ _ (h.1 e (List.mem_of_getElem? hi))))
theorem Sat.upd (hs:Sat h0 S h L) {i:Nat} {e e':En} (hi:L[i]? = some e) (f:Fr e.F h h') (ha:e'.A h') (hl:Loc e') (hb:∀ b ∈ e'.F,b < h'.size∧(b ∈ e.F∨h.size≤b)):Sat h0 S h' (L.set i e'):=by
 have hei:=List.mem_of_getElem? hi
 have hdis:∀ (j:Nat) x,j ≠ i→L[j]? = some x→∀ b ∈ x.F,b ∉ e.F:=by
  intro j x hj hx b hb hbe
  obtain ⟨hil,hie⟩:=List.getElem?_eq_some_iff.1 hi
  obtain ⟨hjl,hje⟩:=List.getElem?_eq_some_iff.1 hx
  rcases Nat.lt_or_gt_of_ne hj with h1 | h1
  ·have:=List.pairwise_iff_getElem.1 hs.dis j i hjl hil h1 b (by rw [hje]; exact hb)
   rw [hie] at this; exact this hbe
  ·have:=List.pairwise_iff_getElem.1 hs.dis i j hil hjl h1 b (by rw [hie]; exact hbe)
   rw [hje] at this; exact this hb
 refine ⟨hs.fr.trans f (fun x hx=>((hs.ok e hei).2.2 x hx).2),fun x hx=>?_,?_⟩
 ·obtain ⟨j,hj⟩:=List.mem_iff_getElem?.1 hx
  rw [List.getElem?_set] at hj
  by_cases hij:i = j
  ·subst hij
   split at hj
   ·split at hj
    ·obtain rfl:=Option.some.inj hj
     refine ⟨ha,hl,fun b hb'=>⟨(hb b hb').1,?_⟩⟩
     rcases (hb b hb').2 with h1 | h1
     ·exact ((hs.ok e hei).2.2 b h1).2
     ·exact .inr (Nat.le_trans hs.fr.size h1)
    ·cases hj
   ·rename_i hne; exact absurd rfl hne
  ·rw [if_neg hij] at hj
   obtain ⟨h1,h2,h3⟩:=hs.ok x (List.mem_of_getElem? hj)
   exact ⟨h2 h h' (fun b hb'=>f.same b (h3 b hb').1 (hdis j x (Ne.symm hij) hj b hb')) h1,h2,fun b hb'=>⟨Nat.lt_of_lt_of_le (h3 b hb').1 f.size,(h3 b hb').2⟩⟩
 ·refine pairwise_set (fun a b hab x hx hx'=>hab x hx' hx) hs.dis hi (fun j x hj hx _ b hb' hbx=>?_)
  rcases (hb b hb').2 with h1 | h1
  ·exact hdis j x hj hx b hbx h1
  ·have:=((hs.ok x (List.mem_of_getElem? hx)).2.2 b hbx).1; omega
theorem Sat.drop (hs:Sat h0 S h L) {L':List En} (hl:L'.Sublist L):Sat h0 S h L':=
 ⟨hs.fr,fun e he=>hs.ok e (hl.subset he),hs.dis.sublist hl⟩
theorem Sat.box_ {α:Type} [Ty α] {T:Nat} {x:α} {k:Addr→H→Prop} (hs:Sat h0 S h L) (hk:∀ p h',Sat h0 S h' (cel T p (enc x) :: L)→p.block = h.size→Ext h h'→k p h'):box T x k h:=by
 intro p hp
 subst hp
 exact hk _ _ (hs.add (Fr.push _ _) (Cel.new h T _) (cel_loc _ _ _) (by intro b hb; simp only [cel,List.mem_singleton] at hb; subst hb; simp [newC])) rfl (Fr.push _ _)
theorem Sat.ld_ {σ α:Type} [Ty σ] {T:Nat} {x:σ} {p:Addr} {g:σ→α} {k:α→H→Prop} (i:Nat) (hs:Sat h0 S h L) (hi:L[i]? = some (cel T p (enc x))) (hk:k (g x) h):ld p g k h:=
 ⟨_,⟨x,Cel.at_ (hs.at_ hi),rfl⟩,hk⟩
theorem Sat.chk_ {σ α:Type} [Ty σ] {T:Nat} {x:σ} {p:Addr} {g:σ→α} {y:α} {k:H→Prop} (i:Nat) (hs:Sat h0 S h L) (hi:L[i]? = some (cel T p (enc x))) (hg:g x = y) (hk:k h):chk p g y k h:=
 ⟨⟨x,Cel.at_ (hs.at_ hi),hg⟩,hk⟩
theorem Sat.st_ {σ:Type} [Ty σ] {T n:Nat} {x:σ} {p:Addr} {u:σ→σ} {k:H→Prop} (i:Nat) (hs:Sat h0 S h L) (hi:L[i]? = some (cel T p (enc x))) (hl:∀ y:σ,(enc y).length = n)
  (hk:∀ h',Sat h0 S h' (L.set i (cel T p (enc (u x))))→h'.size = h.size→k h'):st p u k h:=by
 have hc:Cel T p (enc x) h:=hs.at_ hi
 have:=hc.set (enc (u x)) (by rw [hl,hl])
 refine ⟨x,hc.at_,hc.w,hk _ (hs.upd hi this.2 this.1 (cel_loc _ _ _) ?_) ?_⟩
 ·intro b hb
  simp only [cel,List.mem_singleton] at hb
  subst hb
  exact ⟨Nat.lt_of_lt_of_le hc.lt this.2.size,.inl (by simp [cel])⟩
 ·unfold putC; split <;> simp
theorem ld_old {σ α:Type} [Ty σ] {x:σ} {p:Addr} {g:σ→α} {k:α→H→Prop} (H:AtH h p (enc x)) (hk:k (g x) h):ld p g k h:=⟨_,⟨x,H,rfl⟩,hk⟩
theorem nn_i {p:Addr} {k:Addr→H→Prop} (hk:k p h):nn (some p) k h:=⟨p,rfl,hk⟩
theorem ifb_i {b:Bool} {x y:H→Prop} (h1:b = true→x h) (h2:b = false→y h):ifb b x y h:=⟨h1,h2⟩
end
theorem wrap_eq {n:Int} (h1:-9223372036854775808≤n) (h2:n < 9223372036854775808):IntKind.i64.wrap n = n:=by
 simp only [IntKind.wrap,IntKind.signed,IntKind.bits,Bool.true_and]
 split <;> simp_all <;> omega
theorem iadd_eq {a b:Int} (h1:-9223372036854775808≤a + b) (h2:a + b < 9223372036854775808):iadd a b = a + b:=wrap_eq h1 h2
theorem isub_eq {a b:Int} (h1:-9223372036854775808≤a - b) (h2:a - b < 9223372036854775808):isub a b = a - b:=wrap_eq h1 h2
theorem imul_eq {a b:Int} (h1:-9223372036854775808≤a * b) (h2:a * b < 9223372036854775808):imul a b = a * b:=wrap_eq h1 h2
def SV {α:Type} [Ty α] (n:Nat) (h:H) (s:Sl) (l:List α):Prop:=SlC h s n (l.map enc).flatten∧s.len = l.length∧s.len≤s.cap
section
variable {α:Type} [Ty α] {n:Nat} {h h':H} {s:Sl} {l:List α}
theorem SV.fr {S:List Nat} (f:Fr S h h') (hv:SV n h s l) (hp:∀ a,s.a = some a→a.block ∉ S):SV n h' s l:=⟨hv.1.fr f hp,hv.2⟩
theorem SV.ext (f:Ext h h') (hv:SV n h s l):SV n h' s l:=hv.fr f fun _ _ hx=>by cases hx
theorem SV.nil:SV n h Sl.nil ([]:List α):=⟨.inl ⟨rfl,rfl,rfl⟩,rfl,Nat.le_refl _⟩
theorem AtH.elem {sz:Nat} {p:Addr} {L:List (List Value)} (hsz:∀ x ∈ L,x.length = sz) (H:AtH h p L.flatten) {i:Nat} {x:List Value} (hi:L[i]? = some x):AtH h (p.add (i * sz)) x:=by
 have:=H.sub (i * sz) sz
 rwa [flatten_get sz L i x hsz hi] at this
theorem SV.elem (hn:∀ y:α,(enc y).length = n) (hv:SV n h s l) {j:Int} {x:α} (h0:0≤j) (hx:l[j.toNat]? = some x):∃ a,s.a = some a∧AtH h (a.add (j.toNat * n)) (enc x)∧j < s.len:=by
 have hlt:j.toNat < l.length:=by rw [List.getElem?_eq_some_iff] at hx; exact hx.1
 obtain ⟨hc,hl,hcap⟩:=hv
 rcases hc with ⟨ha,h1,h2⟩ | ⟨a,ha,hat,hlen⟩
 ·omega
 ·refine ⟨a,ha,hat.elem (L:=l.map enc) (by intro x hx; simp only [List.mem_map] at hx; obtain ⟨y,_,rfl⟩:=hx; exact hn y) (by simp [hx]),by omega⟩
theorem sidx_ld {β:Type} (hn:∀ y:α,(enc y).length = n) (hv:SV n h s l) {j:Int} {x:α} (h0:0≤j) (hx:l[j.toNat]? = some x) {g:α→β} {K:β→H→Prop} (hk:K (g x) h):sidx s j n (fun t=>ld t g K) h:=by
 obtain ⟨a,ha,hat,hlt⟩:=hv.elem hn h0 hx
 exact ⟨_,⟨⟨a,ha,rfl⟩,h0,hlt⟩,ld_old hat hk⟩
theorem SV.cut (hn:∀ y:α,(enc y).length = n) (hv:SV n h s l) {lo hi mx:Nat} (h1:lo≤hi) (h2:hi≤s.len) (h3:hi≤mx):SV n h (s.cut n lo hi mx) ((l.drop lo).take (hi - lo)):=by
 obtain ⟨hc,hl,hcap⟩:=hv
 have hlen:((l.drop lo).take (hi - lo)).length = hi - lo:=by simp; omega
 refine ⟨?_,by simp only [Sl.cut]; omega,by simp only [Sl.cut]; omega⟩
 have hfl:∀ (L:List α),(L.map enc).flatten.length = L.length * n:=fun L=>by
  rw [flatten_len n]
  ·simp
  ·intro x hx; simp only [List.mem_map] at hx; obtain ⟨y,_,rfl⟩:=hx; exact hn y
 rcases hc with ⟨ha,h6,h4⟩ | ⟨a,ha,hat,hlen2⟩
 ·left
  have:l = []:=List.eq_nil_of_length_eq_zero (by omega)
  subst this
  refine ⟨by simp [Sl.cut,ha],by simp only [Sl.cut]; omega,by simp⟩
 ·right
  by_cases hm:mx = lo
  ·have hd:hi = lo:=by omega
   subst hd
   refine ⟨a,by simp [Sl.cut,hm,ha],?_,by simp [Sl.cut]⟩
   have:=hat.sub 0 0
   rw [show a.add 0 = a from rfl] at this
   simpa using this
  ·refine ⟨a.add (lo * n),by simp [Sl.cut,hm,ha],?_,by rw [hfl,hlen]; simp [Sl.cut]⟩
   have hsub:=hat.sub (lo * n) ((hi - lo) * n)
   have e:((l.map enc).flatten.drop (lo * n)).take ((hi - lo) * n) = (((l.drop lo).take (hi - lo)).map enc).flatten:=by
    have e1:l = l.take lo ++ (l.drop lo).take (hi - lo) ++ l.drop hi:=by
     rw [List.append_assoc]
     conv=>lhs; rw [← List.take_append_drop lo l]
     congr 1
     conv=>lhs; rw [← List.take_append_drop (hi - lo) (l.drop lo)]
     rw [List.drop_drop]
     congr 2
     omega
    have e2:(l.map enc).flatten = ((l.take lo).map enc).flatten ++ (((l.drop lo).take (hi - lo)).map enc).flatten ++ ((l.drop hi).map enc).flatten:=by
     conv=>lhs; rw [e1]
     simp
    rw [e2,List.append_assoc,List.drop_left' (by rw [hfl,List.length_take,Nat.min_eq_left (by omega)]),List.take_left' (by rw [hfl,hlen])]
   rwa [e] at hsub
end
def itF {α:Type} (f:Nat→α→α):Nat→α→α
 | 0,a=>a
 | n + 1,a=>f n (itF f n a)
def updN {n:Nat} {α:Type} (x:Arr n α) (i:Nat) (v:α):Arr n α:=fun j=>if j.val = i then v else x j
def getN {n:Nat} {α:Type} [Inhabited α] (x:Arr n α) (i:Nat):α:=if h:i < n then x ⟨i,h⟩ else default
theorem upd_N {n:Nat} {α:Type} (x:Arr n α) (i:Fin n) (v:α):upd x i v = updN x i.val v:=by
 funext j; simp only [upd,updN,Fin.ext_iff]
theorem bnd_N {n:Nat} {j:Int} {h:H} {k:Fin n→H→Prop} (h0:0≤j) (h1:j < n) (hk:∀ i:Fin n,i.val = j.toNat→k i h):bnd j n k h:=⟨⟨j.toNat,by omega⟩,by simp; omega,hk _ rfl⟩
theorem getN_fin {n:Nat} {α:Type} [Inhabited α] (x:Arr n α) (i:Fin n) (m:Nat) (h:i.val = m):x i = getN x m:=by subst h; simp [getN]
theorem Sat.bld {h0 h:H} {S:List Nat} {L:List En} {n T:Nat} {α:Type} [Ty α] [Inhabited α] {x:Arr n α} {p:Addr} {j:Int} {K:α→H→Prop} (i:Nat) (hs:Sat h0 S h L) (hi:L[i]? = some (cel T p (enc x))) (h0':0≤j) (h1:j < n) (hk:K (getN x j.toNat) h):
  bnd j n (fun f=>ld p (fun (x:Arr n α)=>x f) K) h:=by
 refine bnd_N h0' h1 (fun f hf=>?_)
 refine hs.ld_ i hi ?_
 rw [getN_fin x f _ hf]; exact hk
theorem old_bld {h:H} {n:Nat} {α:Type} [Ty α] [Inhabited α] {x:Arr n α} {p:Addr} {j:Int} {K:α→H→Prop} (hp:AtH h p (enc x)) (h0':0≤j) (h1:j < n) (hk:K (getN x j.toNat) h):
  bnd j n (fun f=>ld p (fun (x:Arr n α)=>x f) K) h:=by
 refine bnd_N h0' h1 (fun f hf=>?_)
 refine ld_old hp ?_
 rw [getN_fin x f _ hf]; exact hk
theorem Sat.bst {h0 h:H} {S:List Nat} {L:List En} {n T m:Nat} {α:Type} [Ty α] {x:Arr n α} {p:Addr} {j:Int} {v:α} {k:H→Prop} (i:Nat) (hs:Sat h0 S h L) (hi:L[i]? = some (cel T p (enc x))) (hl:∀ y:Arr n α,(enc y).length = m) (h0':0≤j) (h1:j < n) (hk:∀ h',Sat h0 S h' (L.set i (cel T p (enc (updN x j.toNat v))))→k h'):
  bnd j n (fun f=>Sh.st p (fun (x:Arr n α)=>Sh.upd x f v) k) h:=by
 refine bnd_N h0' h1 (fun f hf=>?_)
 refine hs.st_ i hi hl (fun h' hs' _=>hk h' ?_)
 rw [upd_N,hf] at hs'
 exact hs'
theorem map_enc8 (l:List UInt8):(l.map enc).flatten = l.map (reg:UInt8→Value):=by
 induction l with
 | nil=>rfl
 | cons a l ih=>simp only [List.map_cons,List.flatten_cons,ih]; rfl
theorem enc_arrOf {n:Nat} (l:List UInt8) (hl:l.length = n):enc (arrOf l:Arr n UInt8) = l.map (reg:UInt8→Value):=by
 have e:enc (arrOf l:Arr n UInt8) = List.ofFn fun i=>reg ((arrOf l:Arr n UInt8) i):=rfl
 rw [e]
 apply List.ext_getElem
 ·simp [hl]
 ·intro i h1 h2
  simp at h1 h2
  simp [arrOf,h2]
theorem arrOf_ofFn {n:Nat} (x:Arr n UInt8):(arrOf (List.ofFn x):Arr n UInt8) = x:=by
 funext i; simp [arrOf]
theorem updN_arrOf {n:Nat} (l:List UInt8) (i:Nat) (v:UInt8) (hi:i < l.length):updN (arrOf l:Arr n UInt8) i v = arrOf (l.set i v):=by
 funext j
 simp only [updN,arrOf,List.getD_eq_getElem?_getD,List.getElem?_set]
 by_cases h:j.val = i
 ·simp [h,hi]
 ·simp [h,Ne.symm h]
theorem one_bytes (l:List UInt8):(l.map (reg:UInt8→Value)).all (·.oneCell') = true:=by
 rw [List.all_eq_true]; intro v hv; simp only [List.mem_map] at hv; obtain ⟨b,_,rfl⟩:=hv; rfl
theorem SV.bytes {h:H} {s:Sl} {l:List UInt8} (hv:SV 1 h s l):SlC h s 1 (l.map reg):=by
 have:=hv.1; rwa [map_enc8] at this
theorem arr_SV {h:H} {p:Addr} {n:Nat} {l:List UInt8} (hl:l.length = n) (H:AtH h p (enc (arrOf l:Arr n UInt8))):SV 1 h ⟨some p,n,n⟩ l:=by
 refine ⟨.inr ⟨p,rfl,?_,?_⟩,hl.symm,Nat.le_refl _⟩
 ·rw [map_enc8,← enc_arrOf l hl]; exact H
 ·rw [map_enc8]; simp [hl]
section
variable {h0 h:H} {S:List Nat} {L:List En} {n T:Nat} {p:Addr} {l:List UInt8}
theorem Sat.arrSV (i:Nat) (hs:Sat h0 S h L) (hi:L[i]? = some (cel T p (enc (arrOf l:Arr n UInt8)))) (hl:l.length = n):SV 1 h ⟨some p,n,n⟩ l:=arr_SV hl (Cel.at_ (hs.at_ hi))
theorem Sat.putB (i:Nat) (hs:Sat h0 S h L) (hi:L[i]? = some (cel T p (enc (arrOf l:Arr n UInt8)))) (hl:l.length = n) (off:Nat) (ys:List UInt8) (ho:off + ys.length≤n):
  Sat h0 S (putC h (p.add off) (ys.map reg)) (L.set i (cel T p (enc (arrOf (l.take off ++ ys ++ l.drop (off + ys.length)):Arr n UInt8))))∧WAt h (p.add off) ys.length:=by
 have hc:Cel T p (enc (arrOf l:Arr n UInt8)) h:=hs.at_ hi
 rw [enc_arrOf l hl] at hc
 obtain ⟨h1,h2,h3⟩:=hc.put off (ys.map reg) (by simp [hl]; omega)
 have hl2:(l.take off ++ ys ++ l.drop (off + ys.length)).length = n:=by simp; omega
 refine ⟨hs.upd hi h2 ?_ (cel_loc _ _ _) ?_,by simpa using h3⟩
 ·show Cel _ _ _ _
  rw [enc_arrOf _ hl2]
  simpa [List.map_take,List.map_drop] using h1
 ·intro b hb
  simp only [cel,List.mem_singleton] at hb
  subst hb
  exact ⟨Nat.lt_of_lt_of_le hc.lt h2.size,.inl (by simp [cel])⟩
theorem Sat.cpy_ {x:Sl} {xs:List UInt8} {k:Int→H→Prop} (i:Nat) (hs:Sat h0 S h L) (hi:L[i]? = some (cel T p (enc (arrOf l:Arr n UInt8)))) (hl:l.length = n) (off:Nat) (ho:off < n) (hx:SV 1 h x xs)
  (hk:∀ h',Sat h0 S h' (L.set i (cel T p (enc (arrOf (l.take off ++ xs.take (n - off) ++ l.drop (off + (xs.take (n - off)).length)):Arr n UInt8))))→k ((min xs.length (n - off):Nat):Int) h'):
  cpy 1 ((⟨some p,n,n⟩:Sl).cut 1 off n n) x k h:=by
 have hput:=hs.putB i hi hl off (xs.take (n - off)) (by simp; omega)
 have hd:((⟨some p,n,n⟩:Sl).cut 1 off n n).a = some (p.add off):=by simp [Sl.cut,show ¬ n = off by omega]
 have hdl:((⟨some p,n,n⟩:Sl).cut 1 off n n).len = n - off:=rfl
 have hmin:min x.len (n - off) = (xs.take (n - off)).length:=by rw [hx.2.1]; simp; omega
 refine ⟨(xs.take (n - off)).map reg,?_,one_bytes _,?_,?_⟩
 ·rw [hdl,hmin]
  rcases hx.bytes with ⟨h1,h2,h3⟩ | ⟨a,ha,hat,hlen⟩
  ·left
   have:xs = []:=by simpa using h3
   subst this
   exact ⟨h1,by simp,by simp⟩
  ·refine .inr ⟨a,ha,?_,by simp⟩
   have:=hat.sub 0 (n - off)
   rw [show a.add 0 = a from rfl] at this
   simpa [List.map_take] using this
 ·intro a ha
  rw [hd] at ha
  obtain rfl:=Option.some.inj ha
  simpa using hput.2
 ·rw [hd,hdl]
  have e:min x.len (n - off) = min xs.length (n - off):=by rw [hx.2.1]
  rw [e]
  exact hk _ hput.1
theorem Sat.clr_ {k:H→Prop} (i:Nat) (hs:Sat h0 S h L) (hi:L[i]? = some (cel T p (enc (arrOf l:Arr n UInt8)))) (hl:l.length = n) (off:Nat) (ho:off≤n)
  (hk:∀ h',Sat h0 S h' (L.set i (cel T p (enc (arrOf (l.take off ++ List.replicate (n - off) 0):Arr n UInt8))))→k h'):
  clr (enc (0:UInt8)) ((⟨some p,n,n⟩:Sl).cut 1 off n n) k h:=by
 have hdl:((⟨some p,n,n⟩:Sl).cut 1 off n n).len = n - off:=rfl
 by_cases h1:off = n
 ·subst h1
  refine ⟨fun _=>hk _ ?_,fun a _ hne=>absurd (by rw [hdl]; omega) hne⟩
  have e:l.take off ++ List.replicate (off - off) 0 = l:=by simp [← hl]
  rw [e]
  have:L.set i (cel T p (enc (arrOf l:Arr off UInt8))) = L:=by
   apply List.ext_getElem?
   intro j
   rw [List.getElem?_set]
   split
   ·rename_i h; subst h; split <;> simp_all
   ·rfl
  rw [this]; exact hs
 ·have hd:((⟨some p,n,n⟩:Sl).cut 1 off n n).a = some (p.add off):=by simp [Sl.cut,show ¬ n = off by omega]
  have hput:=hs.putB i hi hl off (List.replicate (n - off) 0) (by simp; omega)
  refine ⟨fun h=>?_,fun a ha _=>?_⟩
  ·rcases h with h | h
   ·rw [hd] at h; cases h
   ·rw [hdl] at h; omega
  ·rw [hd] at ha
   obtain rfl:=Option.some.inj ha
   refine ⟨by rw [hdl,show (enc (0:UInt8)).length = 1 from rfl,Nat.mul_one]; simpa using hput.2,?_⟩
   have e1:(List.replicate ((⟨some p,n,n⟩:Sl).cut 1 off n n).len (enc (0:UInt8))).flatten = (List.replicate (n - off) (0:UInt8)).map reg:=by
    rw [hdl]
    rw [← map_enc8]; simp
   rw [e1]
   refine hk _ ?_
   have:=hput.1
   rwa [show l.drop (off + (List.replicate (n - off) (0:UInt8)).length) = [] by simp; omega,List.append_nil] at this
end
def b2s (s:Sl) (k:ByteArray→H→Prop):H→Prop:=fun h=>∃ l:List UInt8,SlC h s 1 (l.map fun b=>Value.int .u8 (b.toNat:Int))∧s.len = l.length∧k ⟨l.toArray⟩ h
theorem foldl_u8:∀ (l:List UInt8) (s:ByteArray),(l.map fun b=>((b.toNat:Nat):Int)).foldl (fun r n=>r.push (UInt8.ofNat n.toNat)) s = ⟨s.data ++ l.toArray⟩
 | [],s=>by simp
 | b :: l,s=>by
  rw [List.map_cons,List.foldl_cons,foldl_u8 l]
  simp [ByteArray.push]
def ior (a b:Int):Int:=IntKind.i64.wrap ((BitVec.ofInt 64 a ||| BitVec.ofInt 64 b).toNat:Int)
theorem intBits_or (a b:Int):Op.intBits .or .i64 a b = pure (.int .i64 (ior a b)):=rfl
section
variable {C:Ctx} {Q:Exit→Act→World→Prop} {ρ:Env} {h:H} {dst:Option Nat} {J:Env→H→Prop} {ty:Nat}
theorem v_ior {x y:Operand} {a b:Int} {T T':TypeId} (hx:ev ρ x = .int .i64 a) (hy:ev ρ y = .int .i64 b):OpVal C (.binOp .or T x y T') ty ρ h (reg (ior a b)):=by
 intro w hw pos after g d; simp [execOp,hx,hy,eqGuard,binOp,intBits_or,reg]
theorem e_b2s {s t el:Nat} {sl:Sl} {k:ByteArray→H→Prop} {x:Operand} (hT:SlT C.P s el 1) (he:C.P.underlying el = some (.int .u8)) (ht:C.P.underlying t = some .string) (hx:ev ρ x = reg sl) (hd:okd C.n dst = true)
  (hh:b2s sl k h) (hj:∀ (h':H) (r:ByteArray),k r h'→J (upo ρ dst (reg r)) h'):OpE C Q (.convert s t x) ty dst J ρ h:=by
 obtain ⟨l,hc,hl,hk⟩:=hh
 refine OpE.ofAny hd (fun w hw pos after g=>⟨.string ⟨l.toArray⟩,h,w,?_,hw,rfl,rfl,rfl,hj _ _ hk⟩)
 rcases hc with ⟨ha,h0,e⟩ | ⟨a,ha,hat,_⟩
 ·have hss:ev ρ x = .slice none 0 sl.cap:=by rw [hx]; simp only [reg,ha,h0]
  have h1:=run_convert_bytes_string (P:=C.P) w s t el none 0 sl.cap hT.1 he ht
  have:l = []:=List.map_eq_nil_iff.1 e
  subst this
  simp only [execOp,hss,Sem.run_bind,h1]
  rfl
 ·have hss:ev ρ x = .slice (some a) sl.len sl.cap:=by rw [hx]; simp only [reg,ha]
  have h1:=run_convert_bytes_string (P:=C.P) w s t el (some a) sl.len sl.cap hT.1 he ht
  have h2:=run_loadCells_list (P:=C.P) (w:=w) a (l.map fun b=>Value.int .u8 (b.toNat:Int)) (fun j v hj=>cell?_of hw hat hj)
  rw [List.length_map,← hl] at h2
  have h3:=run_bytesToString (P:=C.P) w a sl.len sl.cap (l.map fun b=>((b.toNat:Nat):Int)) (by rw [h2]; simp)
  rw [foldl_u8] at h3
  simp only [execOp,hss,Sem.run_bind,h1,h3,Result.andThen_ok,Sem.run_pure]
  congr 3
  simp
end
end Go.Sh
namespace Go.Proofs.YtmpmildpioebhaaGreatDoor
open Go Go.Sh
open Go.Sh.Ty (reg)
abbrev Prog:Program:=Tryz.prog
theorem follows_mixed:Prog.follows .mixedOrders = true:=by kernel_rfl
structure api_Key where
 Root:Arr 32 UInt8
 Height:Int
def api_Key.zero:api_Key:={ Root:=(fun _=>0),Height:=0 }
instance:Ty api_Key:=⟨fun x=>.agg (enc x.Root ++ (enc x.Height)).toArray⟩
theorem enc_api_Key (x:api_Key):enc x = enc x.Root ++ (enc x.Height):=rfl
theorem one_api_Key (x:api_Key):(enc x).all (·.oneCell') = true:=one_app (one_arr (n:=32) (fun _=>rfl) _) ((one_i _))
theorem len_api_Key (x:api_Key):(enc x).length = 33:=by
 rw [enc_api_Key]; simp only [List.length_append,arr_len,len_i]
structure api_Change where
 Kind:Int
 Id:Int
 New:Int
 Key:api_Key
def api_Change.zero:api_Change:={ Kind:=0,Id:=0,New:=0,Key:=api_Key.zero }
instance:Ty api_Change:=⟨fun x=>.agg (enc x.Kind ++ (enc x.Id ++ (enc x.New ++ (enc x.Key)))).toArray⟩
theorem enc_api_Change (x:api_Change):enc x = enc x.Kind ++ (enc x.Id ++ (enc x.New ++ (enc x.Key))):=rfl
theorem one_api_Change (x:api_Change):(enc x).all (·.oneCell') = true:=one_app (one_i _) (one_app (one_i _) (one_app (one_i _) ((one_api_Key _))))
theorem len_api_Change (x:api_Change):(enc x).length = 36:=by
 rw [enc_api_Change]; simp only [List.length_append,len_api_Key,len_i]
structure api_Op where
 Kind:Int
 Key:ByteArray
 Val:ByteArray
 Old:ByteArray
 Change:api_Change
def api_Op.zero:api_Op:={ Kind:=0,Key:=.empty,Val:=.empty,Old:=.empty,Change:=api_Change.zero }
instance:Ty api_Op:=⟨fun x=>.agg (enc x.Kind ++ (enc x.Key ++ (enc x.Val ++ (enc x.Old ++ (enc x.Change))))).toArray⟩
theorem enc_api_Op (x:api_Op):enc x = enc x.Kind ++ (enc x.Key ++ (enc x.Val ++ (enc x.Old ++ (enc x.Change)))):=rfl
theorem one_api_Op (x:api_Op):(enc x).all (·.oneCell') = true:=one_app (one_i _) (one_app (one_s _) (one_app (one_s _) (one_app (one_s _) ((one_api_Change _)))))
theorem len_api_Op (x:api_Op):(enc x).length = 40:=by
 rw [enc_api_Op]; simp only [List.length_append,len_api_Change,len_i,len_s]
structure api_Request where
 Client:Int
 Num:Int
 Op:api_Op
def api_Request.zero:api_Request:={ Client:=0,Num:=0,Op:=api_Op.zero }
instance:Ty api_Request:=⟨fun x=>.agg (enc x.Client ++ (enc x.Num ++ (enc x.Op))).toArray⟩
theorem enc_api_Request (x:api_Request):enc x = enc x.Client ++ (enc x.Num ++ (enc x.Op)):=rfl
theorem one_api_Request (x:api_Request):(enc x).all (·.oneCell') = true:=one_app (one_i _) (one_app (one_i _) ((one_api_Op _)))
theorem len_api_Request (x:api_Request):(enc x).length = 42:=by
 rw [enc_api_Request]; simp only [List.length_append,len_api_Op,len_i]
structure api_Block where
 Epoch:Int
 Height:Int
 Prev:Arr 32 UInt8
 State:Arr 32 UInt8
 Next:Arr 32 UInt8
 Requests:Sl
def api_Block.zero:api_Block:={ Epoch:=0,Height:=0,Prev:=(fun _=>0),State:=(fun _=>0),Next:=(fun _=>0),Requests:=Sl.nil }
instance:Ty api_Block:=⟨fun x=>.agg (enc x.Epoch ++ (enc x.Height ++ (enc x.Prev ++ (enc x.State ++ (enc x.Next ++ (enc x.Requests)))))).toArray⟩
theorem enc_api_Block (x:api_Block):enc x = enc x.Epoch ++ (enc x.Height ++ (enc x.Prev ++ (enc x.State ++ (enc x.Next ++ (enc x.Requests))))):=rfl
theorem one_api_Block (x:api_Block):(enc x).all (·.oneCell') = true:=one_app (one_i _) (one_app (one_i _) (one_app (one_arr (n:=32) (fun _=>rfl) _) (one_app (one_arr (n:=32) (fun _=>rfl) _) (one_app (one_arr (n:=32) (fun _=>rfl) _) ((one_sl _))))))
theorem len_api_Block (x:api_Block):(enc x).length = 99:=by
 rw [enc_api_Block]; simp only [List.length_append,arr_len,len_i,len_sl]
structure api_Once where
 Open:Sl
 Shut:Sl
def api_Once.zero:api_Once:={ Open:=Sl.nil,Shut:=Sl.nil }
instance:Ty api_Once:=⟨fun x=>.agg (enc x.Open ++ (enc x.Shut)).toArray⟩
theorem enc_api_Once (x:api_Once):enc x = enc x.Open ++ (enc x.Shut):=rfl
theorem one_api_Once (x:api_Once):(enc x).all (·.oneCell') = true:=one_app (one_sl _) ((one_sl _))
theorem len_api_Once (x:api_Once):(enc x).length = 2:=by
 rw [enc_api_Once]; simp only [List.length_append,len_sl]
structure api_Sig where
 Leaf:Int
 Once:api_Once
 Path:Sl
def api_Sig.zero:api_Sig:={ Leaf:=0,Once:=api_Once.zero,Path:=Sl.nil }
instance:Ty api_Sig:=⟨fun x=>.agg (enc x.Leaf ++ (enc x.Once ++ (enc x.Path))).toArray⟩
theorem enc_api_Sig (x:api_Sig):enc x = enc x.Leaf ++ (enc x.Once ++ (enc x.Path)):=rfl
theorem one_api_Sig (x:api_Sig):(enc x).all (·.oneCell') = true:=one_app (one_i _) (one_app (one_api_Once _) ((one_sl _)))
theorem len_api_Sig (x:api_Sig):(enc x).length = 4:=by
 rw [enc_api_Sig]; simp only [List.length_append,len_api_Once,len_i,len_sl]
structure api_Plan where
 Epoch:Int
 Height:Int
 Round:Int
 Valid:Int
 Block:api_Block
 From:Int
 Sig:api_Sig
def api_Plan.zero:api_Plan:={ Epoch:=0,Height:=0,Round:=0,Valid:=0,Block:=api_Block.zero,From:=0,Sig:=api_Sig.zero }
instance:Ty api_Plan:=⟨fun x=>.agg (enc x.Epoch ++ (enc x.Height ++ (enc x.Round ++ (enc x.Valid ++ (enc x.Block ++ (enc x.From ++ (enc x.Sig))))))).toArray⟩
theorem enc_api_Plan (x:api_Plan):enc x = enc x.Epoch ++ (enc x.Height ++ (enc x.Round ++ (enc x.Valid ++ (enc x.Block ++ (enc x.From ++ (enc x.Sig)))))):=rfl
theorem one_api_Plan (x:api_Plan):(enc x).all (·.oneCell') = true:=one_app (one_i _) (one_app (one_i _) (one_app (one_i _) (one_app (one_i _) (one_app (one_api_Block _) (one_app (one_i _) ((one_api_Sig _)))))))
theorem len_api_Plan (x:api_Plan):(enc x).length = 108:=by
 rw [enc_api_Plan]; simp only [List.length_append,len_api_Block,len_api_Sig,len_i]
structure api_Vote where
 Kind:Int
 Epoch:Int
 Height:Int
 Round:Int
 Digest:Arr 32 UInt8
 From:Int
 Sig:api_Sig
def api_Vote.zero:api_Vote:={ Kind:=0,Epoch:=0,Height:=0,Round:=0,Digest:=(fun _=>0),From:=0,Sig:=api_Sig.zero }
instance:Ty api_Vote:=⟨fun x=>.agg (enc x.Kind ++ (enc x.Epoch ++ (enc x.Height ++ (enc x.Round ++ (enc x.Digest ++ (enc x.From ++ (enc x.Sig))))))).toArray⟩
theorem enc_api_Vote (x:api_Vote):enc x = enc x.Kind ++ (enc x.Epoch ++ (enc x.Height ++ (enc x.Round ++ (enc x.Digest ++ (enc x.From ++ (enc x.Sig)))))):=rfl
theorem one_api_Vote (x:api_Vote):(enc x).all (·.oneCell') = true:=one_app (one_i _) (one_app (one_i _) (one_app (one_i _) (one_app (one_i _) (one_app (one_arr (n:=32) (fun _=>rfl) _) (one_app (one_i _) ((one_api_Sig _)))))))
theorem len_api_Vote (x:api_Vote):(enc x).length = 41:=by
 rw [enc_api_Vote]; simp only [List.length_append,arr_len,len_api_Sig,len_i]
structure api_Cert where
 Round:Int
 Votes:Sl
def api_Cert.zero:api_Cert:={ Round:=0,Votes:=Sl.nil }
instance:Ty api_Cert:=⟨fun x=>.agg (enc x.Round ++ (enc x.Votes)).toArray⟩
theorem enc_api_Cert (x:api_Cert):enc x = enc x.Round ++ (enc x.Votes):=rfl
theorem one_api_Cert (x:api_Cert):(enc x).all (·.oneCell') = true:=one_app (one_i _) ((one_sl _))
theorem len_api_Cert (x:api_Cert):(enc x).length = 2:=by
 rw [enc_api_Cert]; simp only [List.length_append,len_i,len_sl]
structure api_Reply where
 Client:Int
 Num:Int
 Code:Int
 Vals:Sl
def api_Reply.zero:api_Reply:={ Client:=0,Num:=0,Code:=0,Vals:=Sl.nil }
instance:Ty api_Reply:=⟨fun x=>.agg (enc x.Client ++ (enc x.Num ++ (enc x.Code ++ (enc x.Vals)))).toArray⟩
theorem enc_api_Reply (x:api_Reply):enc x = enc x.Client ++ (enc x.Num ++ (enc x.Code ++ (enc x.Vals))):=rfl
theorem one_api_Reply (x:api_Reply):(enc x).all (·.oneCell') = true:=one_app (one_i _) (one_app (one_i _) (one_app (one_i _) ((one_sl _))))
theorem len_api_Reply (x:api_Reply):(enc x).length = 4:=by
 rw [enc_api_Reply]; simp only [List.length_append,len_i,len_sl]
structure api_Mail where
 Kind:Int
 Plan:api_Plan
 Vote:api_Vote
 Request:api_Request
 Reply:api_Reply
 Height:Int
 Block:api_Block
 Cert:api_Cert
 Links:Sl
 Pieces:Sl
def api_Mail.zero:api_Mail:={ Kind:=0,Plan:=api_Plan.zero,Vote:=api_Vote.zero,Request:=api_Request.zero,Reply:=api_Reply.zero,Height:=0,Block:=api_Block.zero,Cert:=api_Cert.zero,Links:=Sl.nil,Pieces:=Sl.nil }
instance:Ty api_Mail:=⟨fun x=>.agg (enc x.Kind ++ (enc x.Plan ++ (enc x.Vote ++ (enc x.Request ++ (enc x.Reply ++ (enc x.Height ++ (enc x.Block ++ (enc x.Cert ++ (enc x.Links ++ (enc x.Pieces)))))))))).toArray⟩
theorem enc_api_Mail (x:api_Mail):enc x = enc x.Kind ++ (enc x.Plan ++ (enc x.Vote ++ (enc x.Request ++ (enc x.Reply ++ (enc x.Height ++ (enc x.Block ++ (enc x.Cert ++ (enc x.Links ++ (enc x.Pieces))))))))):=rfl
theorem one_api_Mail (x:api_Mail):(enc x).all (·.oneCell') = true:=one_app (one_i _) (one_app (one_api_Plan _) (one_app (one_api_Vote _) (one_app (one_api_Request _) (one_app (one_api_Reply _) (one_app (one_i _) (one_app (one_api_Block _) (one_app (one_api_Cert _) (one_app (one_sl _) ((one_sl _))))))))))
theorem len_api_Mail (x:api_Mail):(enc x).length = 300:=by
 rw [enc_api_Mail]; simp only [List.length_append,len_api_Block,len_api_Cert,len_api_Plan,len_api_Reply,len_api_Request,len_api_Vote,len_i,len_sl]
structure code_Writer where
 b:Sl
def code_Writer.zero:code_Writer:={ b:=Sl.nil }
instance:Ty code_Writer:=⟨fun x=>.agg (enc x.b).toArray⟩
theorem enc_code_Writer (x:code_Writer):enc x = enc x.b:=rfl
theorem len_code_Writer (x:code_Writer):(enc x).length = 1:=by
 rw [enc_code_Writer]; simp only [List.length_append,len_sl]
structure code_Reader where
 b:Sl
 bad:Bool
def code_Reader.zero:code_Reader:={ b:=Sl.nil,bad:=false }
instance:Ty code_Reader:=⟨fun x=>.agg (enc x.b ++ (enc x.bad)).toArray⟩
theorem enc_code_Reader (x:code_Reader):enc x = enc x.b ++ (enc x.bad):=rfl
theorem len_code_Reader (x:code_Reader):(enc x).length = 2:=by
 rw [enc_code_Reader]; simp only [List.length_append,len_b,len_sl]
structure api_Post where
 To:Int
 Frame:ByteArray
def api_Post.zero:api_Post:={ To:=0,Frame:=.empty }
instance:Ty api_Post:=⟨fun x=>.agg (enc x.To ++ (enc x.Frame)).toArray⟩
theorem enc_api_Post (x:api_Post):enc x = enc x.To ++ (enc x.Frame):=rfl
theorem len_api_Post (x:api_Post):(enc x).length = 2:=by
 rw [enc_api_Post]; simp only [List.length_append,len_i,len_s]
structure api_Config where
 Epoch:Int
 Members:Sl
def api_Config.zero:api_Config:={ Epoch:=0,Members:=Sl.nil }
instance:Ty api_Config:=⟨fun x=>.agg (enc x.Epoch ++ (enc x.Members)).toArray⟩
theorem enc_api_Config (x:api_Config):enc x = enc x.Epoch ++ (enc x.Members):=rfl
theorem one_api_Config (x:api_Config):(enc x).all (·.oneCell') = true:=one_app (one_i _) ((one_sl _))
theorem len_api_Config (x:api_Config):(enc x).length = 2:=by
 rw [enc_api_Config]; simp only [List.length_append,len_i,len_sl]
structure api_Link where
 Block:api_Block
 Cert:api_Cert
 Config:api_Config
def api_Link.zero:api_Link:={ Block:=api_Block.zero,Cert:=api_Cert.zero,Config:=api_Config.zero }
instance:Ty api_Link:=⟨fun x=>.agg (enc x.Block ++ (enc x.Cert ++ (enc x.Config))).toArray⟩
structure api_Piece where
 At:Int
 Count:Int
 Tree:Arr 32 UInt8
 Data:ByteArray
 Path:Sl
def api_Piece.zero:api_Piece:={ At:=0,Count:=0,Tree:=(fun _=>0),Data:=.empty,Path:=Sl.nil }
instance:Ty api_Piece:=⟨fun x=>.agg (enc x.At ++ (enc x.Count ++ (enc x.Tree ++ (enc x.Data ++ (enc x.Path))))).toArray⟩
theorem ag_128:IsAgg Prog 128 42:=IsAgg.of (by kernel_rfl) (by kernel_rfl)
theorem ag_144:IsAgg Prog 144 99:=IsAgg.of (by kernel_rfl) (by kernel_rfl)
theorem ag_150:IsAgg Prog 150 108:=IsAgg.of (by kernel_rfl) (by kernel_rfl)
theorem ag_152:IsAgg Prog 152 41:=IsAgg.of (by kernel_rfl) (by kernel_rfl)
theorem ag_155:IsAgg Prog 155 2:=IsAgg.of (by kernel_rfl) (by kernel_rfl)
theorem ag_158:IsAgg Prog 158 300:=IsAgg.of (by kernel_rfl) (by kernel_rfl)
theorem ag_31:IsAgg Prog 31 32:=IsAgg.of (by kernel_rfl) (by kernel_rfl)
theorem ag_35:IsAgg Prog 35 36:=IsAgg.of (by kernel_rfl) (by kernel_rfl)
theorem ag_350:IsAgg Prog 350 64:=IsAgg.of (by kernel_rfl) (by kernel_rfl)
theorem ag_37:IsAgg Prog 37 40:=IsAgg.of (by kernel_rfl) (by kernel_rfl)
theorem ag_71:IsAgg Prog 71 4:=IsAgg.of (by kernel_rfl) (by kernel_rfl)
theorem ar_250:ArrT Prog 250 8 249 1:=⟨by kernel_rfl,SizeOf.of (by kernel_rfl)⟩
theorem ar_251:ArrT Prog 251 8 249 1:=⟨by kernel_rfl,SizeOf.of (by kernel_rfl)⟩
theorem ar_252:ArrT Prog 252 64 5 1:=⟨by kernel_rfl,SizeOf.of (by kernel_rfl)⟩
theorem ar_31:ArrT Prog 31 32 5 1:=⟨by kernel_rfl,SizeOf.of (by kernel_rfl)⟩
theorem ar_350:ArrT Prog 350 64 249 1:=⟨by kernel_rfl,SizeOf.of (by kernel_rfl)⟩
theorem by_269:(Prog.info? 269).map (·.bytes) = some 200:=by kernel_rfl
theorem by_329:(Prog.info? 329).map (·.bytes) = some 88:=by kernel_rfl
theorem by_5:(Prog.info? 5).map (·.bytes) = some 1:=by kernel_rfl
theorem fl_128_0:FldAt Prog 128 0 0:=FldAt.of 0 (by kernel_rfl)
theorem fl_128_1:FldAt Prog 128 1 1:=FldAt.of 0 (by kernel_rfl)
theorem fl_128_2:FldAt Prog 128 2 2:=FldAt.of 39 (by kernel_rfl)
theorem fl_158_0:FldAt Prog 158 0 0:=FldAt.of 0 (by kernel_rfl)
theorem fl_158_1:FldAt Prog 158 1 1:=FldAt.of 107 (by kernel_rfl)
theorem fl_158_2:FldAt Prog 158 2 109:=FldAt.of 40 (by kernel_rfl)
theorem fl_158_3:FldAt Prog 158 3 150:=FldAt.of 41 (by kernel_rfl)
theorem fl_158_4:FldAt Prog 158 4 192:=FldAt.of 3 (by kernel_rfl)
theorem fl_158_5:FldAt Prog 158 5 196:=FldAt.of 0 (by kernel_rfl)
theorem fl_158_6:FldAt Prog 158 6 197:=FldAt.of 98 (by kernel_rfl)
theorem fl_158_7:FldAt Prog 158 7 296:=FldAt.of 1 (by kernel_rfl)
theorem fl_158_8:FldAt Prog 158 8 298:=FldAt.of 0 (by kernel_rfl)
theorem fl_158_9:FldAt Prog 158 9 299:=FldAt.of 0 (by kernel_rfl)
theorem fl_246_0:FldAt Prog 246 0 0:=FldAt.of 0 (by kernel_rfl)
theorem fl_33_0:FldAt Prog 33 0 0:=FldAt.of 31 (by kernel_rfl)
theorem fl_33_1:FldAt Prog 33 1 32:=FldAt.of 0 (by kernel_rfl)
theorem fl_35_0:FldAt Prog 35 0 0:=FldAt.of 0 (by kernel_rfl)
theorem fl_35_1:FldAt Prog 35 1 1:=FldAt.of 0 (by kernel_rfl)
theorem fl_35_2:FldAt Prog 35 2 2:=FldAt.of 0 (by kernel_rfl)
theorem fl_35_3:FldAt Prog 35 3 3:=FldAt.of 32 (by kernel_rfl)
theorem fl_37_0:FldAt Prog 37 0 0:=FldAt.of 0 (by kernel_rfl)
theorem fl_37_1:FldAt Prog 37 1 1:=FldAt.of 0 (by kernel_rfl)
theorem fl_37_2:FldAt Prog 37 2 2:=FldAt.of 0 (by kernel_rfl)
theorem fl_37_3:FldAt Prog 37 3 3:=FldAt.of 0 (by kernel_rfl)
theorem fl_37_4:FldAt Prog 37 4 4:=FldAt.of 35 (by kernel_rfl)
theorem fl_408_0:FldAt Prog 408 0 0:=FldAt.of 0 (by kernel_rfl)
theorem fl_408_1:FldAt Prog 408 1 1:=FldAt.of 0 (by kernel_rfl)
theorem fn_103:FnOk Prog 103:=⟨_,Tryz.func103,by kernel_rfl,by kernel_rfl⟩
theorem fn_112:FnOk Prog 112:=⟨_,Tryz.func112,by kernel_rfl,by kernel_rfl⟩
theorem fn_113:FnOk Prog 113:=⟨_,Tryz.func113,by kernel_rfl,by kernel_rfl⟩
theorem fn_114:FnOk Prog 114:=⟨_,Tryz.func114,by kernel_rfl,by kernel_rfl⟩
theorem fn_116:FnOk Prog 116:=⟨_,Tryz.func116,by kernel_rfl,by kernel_rfl⟩
theorem fn_117:FnOk Prog 117:=⟨_,Tryz.func117,by kernel_rfl,by kernel_rfl⟩
theorem fn_138:FnOk Prog 138:=⟨_,Tryz.func138,by kernel_rfl,by kernel_rfl⟩
theorem fn_163:FnOk Prog 163:=⟨_,Tryz.func163,by kernel_rfl,by kernel_rfl⟩
theorem fn_164:FnOk Prog 164:=⟨_,Tryz.func164,by kernel_rfl,by kernel_rfl⟩
theorem fn_165:FnOk Prog 165:=⟨_,Tryz.func165,by kernel_rfl,by kernel_rfl⟩
theorem fn_166:FnOk Prog 166:=⟨_,Tryz.func166,by kernel_rfl,by kernel_rfl⟩
theorem fn_167:FnOk Prog 167:=⟨_,Tryz.func167,by kernel_rfl,by kernel_rfl⟩
theorem fn_168:FnOk Prog 168:=⟨_,Tryz.func168,by kernel_rfl,by kernel_rfl⟩
theorem fn_169:FnOk Prog 169:=⟨_,Tryz.func169,by kernel_rfl,by kernel_rfl⟩
theorem fn_170:FnOk Prog 170:=⟨_,Tryz.func170,by kernel_rfl,by kernel_rfl⟩
theorem fn_171:FnOk Prog 171:=⟨_,Tryz.func171,by kernel_rfl,by kernel_rfl⟩
theorem fn_172:FnOk Prog 172:=⟨_,Tryz.func172,by kernel_rfl,by kernel_rfl⟩
theorem fn_173:FnOk Prog 173:=⟨_,Tryz.func173,by kernel_rfl,by kernel_rfl⟩
theorem fn_174:FnOk Prog 174:=⟨_,Tryz.func174,by kernel_rfl,by kernel_rfl⟩
theorem fn_198:FnOk Prog 198:=⟨_,Tryz.func198,by kernel_rfl,by kernel_rfl⟩
theorem fn_199:FnOk Prog 199:=⟨_,Tryz.func199,by kernel_rfl,by kernel_rfl⟩
theorem fn_200:FnOk Prog 200:=⟨_,Tryz.func200,by kernel_rfl,by kernel_rfl⟩
theorem fn_201:FnOk Prog 201:=⟨_,Tryz.func201,by kernel_rfl,by kernel_rfl⟩
theorem fn_202:FnOk Prog 202:=⟨_,Tryz.func202,by kernel_rfl,by kernel_rfl⟩
theorem fn_203:FnOk Prog 203:=⟨_,Tryz.func203,by kernel_rfl,by kernel_rfl⟩
theorem fn_204:FnOk Prog 204:=⟨_,Tryz.func204,by kernel_rfl,by kernel_rfl⟩
theorem fn_205:FnOk Prog 205:=⟨_,Tryz.func205,by kernel_rfl,by kernel_rfl⟩
theorem fn_206:FnOk Prog 206:=⟨_,Tryz.func206,by kernel_rfl,by kernel_rfl⟩
theorem fn_231:FnOk Prog 231:=⟨_,Tryz.func231,by kernel_rfl,by kernel_rfl⟩
theorem fn_238:FnOk Prog 238:=⟨_,Tryz.func238,by kernel_rfl,by kernel_rfl⟩
theorem fn_239:FnOk Prog 239:=⟨_,Tryz.func239,by kernel_rfl,by kernel_rfl⟩
theorem fn_244:FnOk Prog 244:=⟨_,Tryz.func244,by kernel_rfl,by kernel_rfl⟩
theorem fn_280:FnOk Prog 280:=⟨_,Tryz.func280,by kernel_rfl,by kernel_rfl⟩
theorem fn_297:FnOk Prog 297:=⟨_,Tryz.func297,by kernel_rfl,by kernel_rfl⟩
theorem fn_78:FnOk Prog 78:=⟨_,Tryz.func78,by kernel_rfl,by kernel_rfl⟩
theorem fn_79:FnOk Prog 79:=⟨_,Tryz.func79,by kernel_rfl,by kernel_rfl⟩
theorem get_128_Client (x:api_Request):(enc x)[0]? = some (reg x.Client):=get_one (get_here (len_i _))
theorem get_128_Num (x:api_Request):(enc x)[1]? = some (reg x.Num):=get_one (get_skip (len_i _) (get_here (len_i _)))
theorem get_128_Op_Change (x:api_Request):((enc x).drop 6).take 36 = enc x.Op.Change:=get_sub (n:=40) (M:=enc x.Op) (get_skip (len_i _) (get_skip (len_i _) (get_last (len_api_Op _)))) (get_skip (len_i _) (get_skip (len_s _) (get_skip (len_s _) (get_skip (len_s _) (get_last (len_api_Change _)))))) rfl
theorem get_128_Op_Key (x:api_Request):(enc x)[3]? = some (reg x.Op.Key):=get_one (get_sub (n:=40) (M:=enc x.Op) (get_skip (len_i _) (get_skip (len_i _) (get_last (len_api_Op _)))) (get_skip (len_i _) (get_here (len_s _))) rfl)
theorem get_128_Op_Kind (x:api_Request):(enc x)[2]? = some (reg x.Op.Kind):=get_one (get_sub (n:=40) (M:=enc x.Op) (get_skip (len_i _) (get_skip (len_i _) (get_last (len_api_Op _)))) (get_here (len_i _)) rfl)
theorem get_128_Op_Old (x:api_Request):(enc x)[5]? = some (reg x.Op.Old):=get_one (get_sub (n:=40) (M:=enc x.Op) (get_skip (len_i _) (get_skip (len_i _) (get_last (len_api_Op _)))) (get_skip (len_i _) (get_skip (len_s _) (get_skip (len_s _) (get_here (len_s _))))) rfl)
theorem get_128_Op_Val (x:api_Request):(enc x)[4]? = some (reg x.Op.Val):=get_one (get_sub (n:=40) (M:=enc x.Op) (get_skip (len_i _) (get_skip (len_i _) (get_last (len_api_Op _)))) (get_skip (len_i _) (get_skip (len_s _) (get_here (len_s _)))) rfl)
theorem get_128_Op (x:api_Request):((enc x).drop 2).take 40 = enc x.Op:=get_skip (len_i _) (get_skip (len_i _) (get_last (len_api_Op _)))
theorem get_128_all (x:api_Request):((enc x).drop 0).take 42 = enc x:=get_last (len_api_Request x)
theorem get_158_Block (x:api_Mail):((enc x).drop 197).take 99 = enc x.Block:=get_skip (len_i _) (get_skip (len_api_Plan _) (get_skip (len_api_Vote _) (get_skip (len_api_Request _) (get_skip (len_api_Reply _) (get_skip (len_i _) (get_here (len_api_Block _)))))))
theorem get_158_Cert (x:api_Mail):((enc x).drop 296).take 2 = enc x.Cert:=get_skip (len_i _) (get_skip (len_api_Plan _) (get_skip (len_api_Vote _) (get_skip (len_api_Request _) (get_skip (len_api_Reply _) (get_skip (len_i _) (get_skip (len_api_Block _) (get_here (len_api_Cert _))))))))
theorem get_158_Height (x:api_Mail):(enc x)[196]? = some (reg x.Height):=get_one (get_skip (len_i _) (get_skip (len_api_Plan _) (get_skip (len_api_Vote _) (get_skip (len_api_Request _) (get_skip (len_api_Reply _) (get_here (len_i _)))))))
theorem get_158_Kind (x:api_Mail):(enc x)[0]? = some (reg x.Kind):=get_one (get_here (len_i _))
theorem get_158_Links (x:api_Mail):(enc x)[298]? = some (reg x.Links):=get_one (get_skip (len_i _) (get_skip (len_api_Plan _) (get_skip (len_api_Vote _) (get_skip (len_api_Request _) (get_skip (len_api_Reply _) (get_skip (len_i _) (get_skip (len_api_Block _) (get_skip (len_api_Cert _) (get_here (len_sl _))))))))))
theorem get_158_Pieces (x:api_Mail):(enc x)[299]? = some (reg x.Pieces):=get_one (get_skip (len_i _) (get_skip (len_api_Plan _) (get_skip (len_api_Vote _) (get_skip (len_api_Request _) (get_skip (len_api_Reply _) (get_skip (len_i _) (get_skip (len_api_Block _) (get_skip (len_api_Cert _) (get_skip (len_sl _) (get_last (len_sl _)))))))))))
theorem get_158_Plan (x:api_Mail):((enc x).drop 1).take 108 = enc x.Plan:=get_skip (len_i _) (get_here (len_api_Plan _))
theorem get_158_Reply (x:api_Mail):((enc x).drop 192).take 4 = enc x.Reply:=get_skip (len_i _) (get_skip (len_api_Plan _) (get_skip (len_api_Vote _) (get_skip (len_api_Request _) (get_here (len_api_Reply _)))))
theorem get_158_Request (x:api_Mail):((enc x).drop 150).take 42 = enc x.Request:=get_skip (len_i _) (get_skip (len_api_Plan _) (get_skip (len_api_Vote _) (get_here (len_api_Request _))))
theorem get_158_Vote (x:api_Mail):((enc x).drop 109).take 41 = enc x.Vote:=get_skip (len_i _) (get_skip (len_api_Plan _) (get_here (len_api_Vote _)))
theorem get_158_all (x:api_Mail):((enc x).drop 0).take 300 = enc x:=get_last (len_api_Mail x)
theorem get_173_all (x:Sl):(enc x)[0]? = some (reg x):=get_one (get_last (len_sl x))
theorem get_246_b (x:code_Writer):(enc x)[0]? = some (reg x.b):=get_one (get_last (len_sl _))
theorem get_3_all (x:Int):(enc x)[0]? = some (reg x):=get_one (get_last (len_i x))
theorem get_31_all (x:Arr 32 UInt8):((enc x).drop 0).take 32 = enc x:=get_last (arr_len (n:=32) x)
theorem get_35_Id (x:api_Change):(enc x)[1]? = some (reg x.Id):=get_one (get_skip (len_i _) (get_here (len_i _)))
theorem get_35_Key_Height (x:api_Change):(enc x)[35]? = some (reg x.Key.Height):=get_one (get_sub (n:=33) (M:=enc x.Key) (get_skip (len_i _) (get_skip (len_i _) (get_skip (len_i _) (get_last (len_api_Key _))))) (get_skip (arr_len (n:=32) _) (get_last (len_i _))) rfl)
theorem get_35_Key_Root (x:api_Change):((enc x).drop 3).take 32 = enc x.Key.Root:=get_sub (n:=33) (M:=enc x.Key) (get_skip (len_i _) (get_skip (len_i _) (get_skip (len_i _) (get_last (len_api_Key _))))) (get_here (arr_len (n:=32) _)) rfl
theorem get_35_Kind (x:api_Change):(enc x)[0]? = some (reg x.Kind):=get_one (get_here (len_i _))
theorem get_35_New (x:api_Change):(enc x)[2]? = some (reg x.New):=get_one (get_skip (len_i _) (get_skip (len_i _) (get_here (len_i _))))
theorem get_350_all (x:Arr 64 UInt32):((enc x).drop 0).take 64 = enc x:=get_last (arr_len (n:=64) x)
theorem get_37_Key (x:api_Op):(enc x)[1]? = some (reg x.Key):=get_one (get_skip (len_i _) (get_here (len_s _)))
theorem get_37_Kind (x:api_Op):(enc x)[0]? = some (reg x.Kind):=get_one (get_here (len_i _))
theorem get_37_Old (x:api_Op):(enc x)[3]? = some (reg x.Old):=get_one (get_skip (len_i _) (get_skip (len_s _) (get_skip (len_s _) (get_here (len_s _)))))
theorem get_37_Val (x:api_Op):(enc x)[2]? = some (reg x.Val):=get_one (get_skip (len_i _) (get_skip (len_s _) (get_here (len_s _))))
theorem get_408_b (x:code_Reader):(enc x)[0]? = some (reg x.b):=get_one (get_here (len_sl _))
theorem get_408_bad (x:code_Reader):(enc x)[1]? = some (reg x.bad):=get_one (get_skip (len_sl _) (get_last (len_b _)))
theorem get_5_all (x:UInt8):(enc x)[0]? = some (reg x):=get_one (get_last (len_u8 x))
theorem get_9_all (x:ByteArray):(enc x)[0]? = some (reg x):=get_one (get_last (len_s x))
theorem na_103:NotAgg Prog 103:=NotAgg.of (by kernel_rfl)
theorem na_156:NotAgg Prog 156:=NotAgg.of (by kernel_rfl)
theorem na_173:NotAgg Prog 173:=NotAgg.of (by kernel_rfl)
theorem na_249:NotAgg Prog 249:=NotAgg.of (by kernel_rfl)
theorem na_3:NotAgg Prog 3:=NotAgg.of (by kernel_rfl)
theorem na_4:NotAgg Prog 4:=NotAgg.of (by kernel_rfl)
theorem na_5:NotAgg Prog 5:=NotAgg.of (by kernel_rfl)
theorem na_9:NotAgg Prog 9:=NotAgg.of (by kernel_rfl)
theorem pl_128:PlacesT Prog 128 [(0,1),(1,1),(2,40)]:=PlacesT.of (by kernel_rfl)
theorem pl_158:PlacesT Prog 158 [(0,1),(1,108),(109,41),(150,42),(192,4),(196,1),(197,99),(296,2),(298,1),(299,1)]:=PlacesT.of (by kernel_rfl)
theorem pl_160:PlacesT Prog 160 [(0,1),(1,1)]:=PlacesT.of (by kernel_rfl)
theorem pl_246:PlacesT Prog 246 [(0,1)]:=PlacesT.of (by kernel_rfl)
theorem pl_33:PlacesT Prog 33 [(0,32),(32,1)]:=PlacesT.of (by kernel_rfl)
theorem pl_35:PlacesT Prog 35 [(0,1),(1,1),(2,1),(3,33)]:=PlacesT.of (by kernel_rfl)
theorem pl_408:PlacesT Prog 408 [(0,1),(1,1)]:=PlacesT.of (by kernel_rfl)
theorem pt_244:PtT Prog 244:=⟨246,by kernel_rfl⟩
theorem pt_318:PtT Prog 318:=⟨408,by kernel_rfl⟩
theorem set_128_Client (x:api_Request) (v:Int):(enc x).take 0 ++ enc v ++ (enc x).drop (0 + (enc v).length) = enc ({ x with Client:=v }:api_Request):=set_here (((len_i _)).trans ((len_i _)).symm)
theorem set_128_Num (x:api_Request) (v:Int):(enc x).take 1 ++ enc v ++ (enc x).drop (1 + (enc v).length) = enc ({ x with Num:=v }:api_Request):=set_skip (len_i _) (set_here (((len_i _)).trans ((len_i _)).symm))
theorem set_128_Op_Change (x:api_Request) (v:api_Change):(enc x).take 6 ++ enc v ++ (enc x).drop (6 + (enc v).length) = enc ({ x with Op.Change:=v }:api_Request):=set_nest (n:=40) (M:=enc x.Op) (M':=enc ({ x.Op with Change:=v }:api_Op)) (get_skip (len_i _) (get_skip (len_i _) (get_last (len_api_Op _)))) (set_skip (len_i _) (set_skip (len_s _) (set_skip (len_s _) (set_skip (len_s _) (set_last (((len_api_Change _)).trans ((len_api_Change _)).symm)))))) (set_skip (len_i _) (set_skip (len_i _) (set_last (((len_api_Op _)).trans ((len_api_Op _)).symm)))) (len_api_Op _) rfl
theorem set_128_Op_Change_Key_Root (x:api_Request) (v:Arr 32 UInt8):(enc x).take 9 ++ enc v ++ (enc x).drop (9 + (enc v).length) = enc ({ x with Op.Change.Key.Root:=v }:api_Request):=set_nest (n:=40) (M:=enc x.Op) (M':=enc ({ x.Op with Change.Key.Root:=v }:api_Op)) (get_skip (len_i _) (get_skip (len_i _) (get_last (len_api_Op _)))) (set_nest (n:=36) (M:=enc x.Op.Change) (M':=enc ({ x.Op.Change with Key.Root:=v }:api_Change)) (get_skip (len_i _) (get_skip (len_s _) (get_skip (len_s _) (get_skip (len_s _) (get_last (len_api_Change _)))))) (set_nest (n:=33) (M:=enc x.Op.Change.Key) (M':=enc ({ x.Op.Change.Key with Root:=v }:api_Key)) (get_skip (len_i _) (get_skip (len_i _) (get_skip (len_i _) (get_last (len_api_Key _))))) (set_here (((arr_len (n:=32) _)).trans ((arr_len (n:=32) _)).symm)) (set_skip (len_i _) (set_skip (len_i _) (set_skip (len_i _) (set_last (((len_api_Key _)).trans ((len_api_Key _)).symm))))) (len_api_Key _) rfl) (set_skip (len_i _) (set_skip (len_s _) (set_skip (len_s _) (set_skip (len_s _) (set_last (((len_api_Change _)).trans ((len_api_Change _)).symm)))))) (len_api_Change _) rfl) (set_skip (len_i _) (set_skip (len_i _) (set_last (((len_api_Op _)).trans ((len_api_Op _)).symm)))) (len_api_Op _) rfl
theorem set_128_Op_Key (x:api_Request) (v:ByteArray):(enc x).take 3 ++ enc v ++ (enc x).drop (3 + (enc v).length) = enc ({ x with Op.Key:=v }:api_Request):=set_nest (n:=40) (M:=enc x.Op) (M':=enc ({ x.Op with Key:=v }:api_Op)) (get_skip (len_i _) (get_skip (len_i _) (get_last (len_api_Op _)))) (set_skip (len_i _) (set_here (((len_s _)).trans ((len_s _)).symm))) (set_skip (len_i _) (set_skip (len_i _) (set_last (((len_api_Op _)).trans ((len_api_Op _)).symm)))) (len_api_Op _) rfl
theorem set_128_Op_Kind (x:api_Request) (v:Int):(enc x).take 2 ++ enc v ++ (enc x).drop (2 + (enc v).length) = enc ({ x with Op.Kind:=v }:api_Request):=set_nest (n:=40) (M:=enc x.Op) (M':=enc ({ x.Op with Kind:=v }:api_Op)) (get_skip (len_i _) (get_skip (len_i _) (get_last (len_api_Op _)))) (set_here (((len_i _)).trans ((len_i _)).symm)) (set_skip (len_i _) (set_skip (len_i _) (set_last (((len_api_Op _)).trans ((len_api_Op _)).symm)))) (len_api_Op _) rfl
theorem set_128_Op_Old (x:api_Request) (v:ByteArray):(enc x).take 5 ++ enc v ++ (enc x).drop (5 + (enc v).length) = enc ({ x with Op.Old:=v }:api_Request):=set_nest (n:=40) (M:=enc x.Op) (M':=enc ({ x.Op with Old:=v }:api_Op)) (get_skip (len_i _) (get_skip (len_i _) (get_last (len_api_Op _)))) (set_skip (len_i _) (set_skip (len_s _) (set_skip (len_s _) (set_here (((len_s _)).trans ((len_s _)).symm))))) (set_skip (len_i _) (set_skip (len_i _) (set_last (((len_api_Op _)).trans ((len_api_Op _)).symm)))) (len_api_Op _) rfl
theorem set_128_Op_Val (x:api_Request) (v:ByteArray):(enc x).take 4 ++ enc v ++ (enc x).drop (4 + (enc v).length) = enc ({ x with Op.Val:=v }:api_Request):=set_nest (n:=40) (M:=enc x.Op) (M':=enc ({ x.Op with Val:=v }:api_Op)) (get_skip (len_i _) (get_skip (len_i _) (get_last (len_api_Op _)))) (set_skip (len_i _) (set_skip (len_s _) (set_here (((len_s _)).trans ((len_s _)).symm)))) (set_skip (len_i _) (set_skip (len_i _) (set_last (((len_api_Op _)).trans ((len_api_Op _)).symm)))) (len_api_Op _) rfl
theorem set_128_all (x:api_Request) (v:api_Request):(enc x).take 0 ++ enc v ++ (enc x).drop (0 + (enc v).length) = enc v:=set_last (((len_api_Request _)).trans ((len_api_Request _)).symm)
theorem set_158_Block (x:api_Mail) (v:api_Block):(enc x).take 197 ++ enc v ++ (enc x).drop (197 + (enc v).length) = enc ({ x with Block:=v }:api_Mail):=set_skip (len_i _) (set_skip (len_api_Plan _) (set_skip (len_api_Vote _) (set_skip (len_api_Request _) (set_skip (len_api_Reply _) (set_skip (len_i _) (set_here (((len_api_Block _)).trans ((len_api_Block _)).symm)))))))
theorem set_158_Cert (x:api_Mail) (v:api_Cert):(enc x).take 296 ++ enc v ++ (enc x).drop (296 + (enc v).length) = enc ({ x with Cert:=v }:api_Mail):=set_skip (len_i _) (set_skip (len_api_Plan _) (set_skip (len_api_Vote _) (set_skip (len_api_Request _) (set_skip (len_api_Reply _) (set_skip (len_i _) (set_skip (len_api_Block _) (set_here (((len_api_Cert _)).trans ((len_api_Cert _)).symm))))))))
theorem set_158_Height (x:api_Mail) (v:Int):(enc x).take 196 ++ enc v ++ (enc x).drop (196 + (enc v).length) = enc ({ x with Height:=v }:api_Mail):=set_skip (len_i _) (set_skip (len_api_Plan _) (set_skip (len_api_Vote _) (set_skip (len_api_Request _) (set_skip (len_api_Reply _) (set_here (((len_i _)).trans ((len_i _)).symm))))))
theorem set_158_Kind (x:api_Mail) (v:Int):(enc x).take 0 ++ enc v ++ (enc x).drop (0 + (enc v).length) = enc ({ x with Kind:=v }:api_Mail):=set_here (((len_i _)).trans ((len_i _)).symm)
theorem set_158_Links (x:api_Mail) (v:Sl):(enc x).take 298 ++ enc v ++ (enc x).drop (298 + (enc v).length) = enc ({ x with Links:=v }:api_Mail):=set_skip (len_i _) (set_skip (len_api_Plan _) (set_skip (len_api_Vote _) (set_skip (len_api_Request _) (set_skip (len_api_Reply _) (set_skip (len_i _) (set_skip (len_api_Block _) (set_skip (len_api_Cert _) (set_here (((len_sl _)).trans ((len_sl _)).symm)))))))))
theorem set_158_Pieces (x:api_Mail) (v:Sl):(enc x).take 299 ++ enc v ++ (enc x).drop (299 + (enc v).length) = enc ({ x with Pieces:=v }:api_Mail):=set_skip (len_i _) (set_skip (len_api_Plan _) (set_skip (len_api_Vote _) (set_skip (len_api_Request _) (set_skip (len_api_Reply _) (set_skip (len_i _) (set_skip (len_api_Block _) (set_skip (len_api_Cert _) (set_skip (len_sl _) (set_last (((len_sl _)).trans ((len_sl _)).symm))))))))))
theorem set_158_Plan (x:api_Mail) (v:api_Plan):(enc x).take 1 ++ enc v ++ (enc x).drop (1 + (enc v).length) = enc ({ x with Plan:=v }:api_Mail):=set_skip (len_i _) (set_here (((len_api_Plan _)).trans ((len_api_Plan _)).symm))
theorem set_158_Reply (x:api_Mail) (v:api_Reply):(enc x).take 192 ++ enc v ++ (enc x).drop (192 + (enc v).length) = enc ({ x with Reply:=v }:api_Mail):=set_skip (len_i _) (set_skip (len_api_Plan _) (set_skip (len_api_Vote _) (set_skip (len_api_Request _) (set_here (((len_api_Reply _)).trans ((len_api_Reply _)).symm)))))
theorem set_158_Request (x:api_Mail) (v:api_Request):(enc x).take 150 ++ enc v ++ (enc x).drop (150 + (enc v).length) = enc ({ x with Request:=v }:api_Mail):=set_skip (len_i _) (set_skip (len_api_Plan _) (set_skip (len_api_Vote _) (set_here (((len_api_Request _)).trans ((len_api_Request _)).symm))))
theorem set_158_Vote (x:api_Mail) (v:api_Vote):(enc x).take 109 ++ enc v ++ (enc x).drop (109 + (enc v).length) = enc ({ x with Vote:=v }:api_Mail):=set_skip (len_i _) (set_skip (len_api_Plan _) (set_here (((len_api_Vote _)).trans ((len_api_Vote _)).symm)))
theorem set_158_all (x:api_Mail) (v:api_Mail):(enc x).take 0 ++ enc v ++ (enc x).drop (0 + (enc v).length) = enc v:=set_last (((len_api_Mail _)).trans ((len_api_Mail _)).symm)
theorem set_160_Frame (x:api_Post) (v:ByteArray):(enc x).take 1 ++ enc v ++ (enc x).drop (1 + (enc v).length) = enc ({ x with Frame:=v }:api_Post):=set_skip (len_i _) (set_last (((len_s _)).trans ((len_s _)).symm))
theorem set_246_b (x:code_Writer) (v:Sl):(enc x).take 0 ++ enc v ++ (enc x).drop (0 + (enc v).length) = enc ({ x with b:=v }:code_Writer):=set_last (((len_sl _)).trans ((len_sl _)).symm)
theorem set_251_all (x:Arr 8 UInt32) (v:Arr 8 UInt32):(enc x).take 0 ++ enc v ++ (enc x).drop (0 + (enc v).length) = enc v:=set_last (((arr_len (n:=8) _)).trans ((arr_len (n:=8) _)).symm)
theorem set_31_all (x:Arr 32 UInt8) (v:Arr 32 UInt8):(enc x).take 0 ++ enc v ++ (enc x).drop (0 + (enc v).length) = enc v:=set_last (((arr_len (n:=32) _)).trans ((arr_len (n:=32) _)).symm)
theorem set_33_Height (x:api_Key) (v:Int):(enc x).take 32 ++ enc v ++ (enc x).drop (32 + (enc v).length) = enc ({ x with Height:=v }:api_Key):=set_skip (arr_len (n:=32) _) (set_last (((len_i _)).trans ((len_i _)).symm))
theorem set_35_Id (x:api_Change) (v:Int):(enc x).take 1 ++ enc v ++ (enc x).drop (1 + (enc v).length) = enc ({ x with Id:=v }:api_Change):=set_skip (len_i _) (set_here (((len_i _)).trans ((len_i _)).symm))
theorem set_35_Key (x:api_Change) (v:api_Key):(enc x).take 3 ++ enc v ++ (enc x).drop (3 + (enc v).length) = enc ({ x with Key:=v }:api_Change):=set_skip (len_i _) (set_skip (len_i _) (set_skip (len_i _) (set_last (((len_api_Key _)).trans ((len_api_Key _)).symm))))
theorem set_35_Kind (x:api_Change) (v:Int):(enc x).take 0 ++ enc v ++ (enc x).drop (0 + (enc v).length) = enc ({ x with Kind:=v }:api_Change):=set_here (((len_i _)).trans ((len_i _)).symm)
theorem set_35_New (x:api_Change) (v:Int):(enc x).take 2 ++ enc v ++ (enc x).drop (2 + (enc v).length) = enc ({ x with New:=v }:api_Change):=set_skip (len_i _) (set_skip (len_i _) (set_here (((len_i _)).trans ((len_i _)).symm)))
theorem set_35_all (x:api_Change) (v:api_Change):(enc x).take 0 ++ enc v ++ (enc x).drop (0 + (enc v).length) = enc v:=set_last (((len_api_Change _)).trans ((len_api_Change _)).symm)
theorem set_37_all (x:api_Op) (v:api_Op):(enc x).take 0 ++ enc v ++ (enc x).drop (0 + (enc v).length) = enc v:=set_last (((len_api_Op _)).trans ((len_api_Op _)).symm)
theorem set_408_b (x:code_Reader) (v:Sl):(enc x).take 0 ++ enc v ++ (enc x).drop (0 + (enc v).length) = enc ({ x with b:=v }:code_Reader):=set_here (((len_sl _)).trans ((len_sl _)).symm)
theorem set_408_bad (x:code_Reader) (v:Bool):(enc x).take 1 ++ enc v ++ (enc x).drop (1 + (enc v).length) = enc ({ x with bad:=v }:code_Reader):=set_skip (len_sl _) (set_last (((len_b _)).trans ((len_b _)).symm))
theorem sl_103:SlT Prog 103 269 103:=⟨by kernel_rfl,SizeOf.of (by kernel_rfl)⟩
theorem sl_133:SlT Prog 133 31 32:=⟨by kernel_rfl,SizeOf.of (by kernel_rfl)⟩
theorem sl_156:SlT Prog 156 329 36:=⟨by kernel_rfl,SizeOf.of (by kernel_rfl)⟩
theorem sl_173:SlT Prog 173 5 1:=⟨by kernel_rfl,SizeOf.of (by kernel_rfl)⟩
theorem sl_220:SlT Prog 220 173 1:=⟨by kernel_rfl,SizeOf.of (by kernel_rfl)⟩
theorem sl_48:SlT Prog 48 3 1:=⟨by kernel_rfl,SizeOf.of (by kernel_rfl)⟩
theorem sl_69:SlT Prog 69 9 1:=⟨by kernel_rfl,SizeOf.of (by kernel_rfl)⟩
theorem sl_83:SlT Prog 83 160 2:=⟨by kernel_rfl,SizeOf.of (by kernel_rfl)⟩
theorem sz_103:SizeOf Prog 103 1:=SizeOf.of (by kernel_rfl)
theorem sz_128:SizeOf Prog 128 42:=SizeOf.of (by kernel_rfl)
theorem sz_144:SizeOf Prog 144 99:=SizeOf.of (by kernel_rfl)
theorem sz_150:SizeOf Prog 150 108:=SizeOf.of (by kernel_rfl)
theorem sz_152:SizeOf Prog 152 41:=SizeOf.of (by kernel_rfl)
theorem sz_155:SizeOf Prog 155 2:=SizeOf.of (by kernel_rfl)
theorem sz_156:SizeOf Prog 156 1:=SizeOf.of (by kernel_rfl)
theorem sz_158:SizeOf Prog 158 300:=SizeOf.of (by kernel_rfl)
theorem sz_173:SizeOf Prog 173 1:=SizeOf.of (by kernel_rfl)
theorem sz_249:SizeOf Prog 249 1:=SizeOf.of (by kernel_rfl)
theorem sz_251:SizeOf Prog 251 8:=SizeOf.of (by kernel_rfl)
theorem sz_3:SizeOf Prog 3 1:=SizeOf.of (by kernel_rfl)
theorem sz_31:SizeOf Prog 31 32:=SizeOf.of (by kernel_rfl)
theorem sz_35:SizeOf Prog 35 36:=SizeOf.of (by kernel_rfl)
theorem sz_37:SizeOf Prog 37 40:=SizeOf.of (by kernel_rfl)
theorem sz_4:SizeOf Prog 4 1:=SizeOf.of (by kernel_rfl)
theorem sz_5:SizeOf Prog 5 1:=SizeOf.of (by kernel_rfl)
theorem sz_71:SizeOf Prog 71 4:=SizeOf.of (by kernel_rfl)
theorem sz_9:SizeOf Prog 9 1:=SizeOf.of (by kernel_rfl)
theorem un_241:Prog.underlying 241 = some (.int .u64):=by kernel_rfl
theorem un_243:Prog.underlying 243 = some (.int .u64):=by kernel_rfl
theorem un_249:Prog.underlying 249 = some (.int .u32):=by kernel_rfl
theorem un_284:Prog.underlying 284 = some (.float .f64):=by kernel_rfl
theorem un_3:Prog.underlying 3 = some (.int .i64):=by kernel_rfl
theorem un_5:Prog.underlying 5 = some (.int .u8):=by kernel_rfl
theorem un_9:Prog.underlying 9 = some (.string):=by kernel_rfl
theorem zo_128:ZeroOf Prog 128 (enc (api_Request.zero:api_Request)):=ZeroOf.of (by kernel_rfl)
theorem zo_158:ZeroOf Prog 158 (enc (api_Mail.zero:api_Mail)):=ZeroOf.of (by kernel_rfl)
theorem zo_160:ZeroOf Prog 160 (enc (api_Post.zero:api_Post)):=ZeroOf.of (by kernel_rfl)
theorem zo_246:ZeroOf Prog 246 (enc (code_Writer.zero:code_Writer)):=ZeroOf.of (by kernel_rfl)
theorem zo_250:ZeroOf Prog 250 (enc ((fun _=>0):Arr 8 UInt32)):=ZeroOf.of (by kernel_rfl)
theorem zo_251:ZeroOf Prog 251 (enc ((fun _=>0):Arr 8 UInt32)):=ZeroOf.of (by kernel_rfl)
theorem zo_252:ZeroOf Prog 252 (enc ((fun _=>0):Arr 64 UInt8)):=ZeroOf.of (by kernel_rfl)
theorem zo_269:ZeroOf Prog 269 (enc (api_Link.zero:api_Link)):=ZeroOf.of (by kernel_rfl)
theorem zo_3:ZeroOf Prog 3 (enc (0:Int)):=ZeroOf.of (by kernel_rfl)
theorem zo_31:ZeroOf Prog 31 (enc ((fun _=>0):Arr 32 UInt8)):=ZeroOf.of (by kernel_rfl)
theorem zo_329:ZeroOf Prog 329 (enc (api_Piece.zero:api_Piece)):=ZeroOf.of (by kernel_rfl)
theorem zo_33:ZeroOf Prog 33 (enc (api_Key.zero:api_Key)):=ZeroOf.of (by kernel_rfl)
theorem zo_35:ZeroOf Prog 35 (enc (api_Change.zero:api_Change)):=ZeroOf.of (by kernel_rfl)
theorem zo_350:ZeroOf Prog 350 (enc ((fun _=>0):Arr 64 UInt32)):=ZeroOf.of (by kernel_rfl)
theorem zo_37:ZeroOf Prog 37 (enc (api_Op.zero:api_Op)):=ZeroOf.of (by kernel_rfl)
theorem zo_408:ZeroOf Prog 408 (enc (code_Reader.zero:code_Reader)):=ZeroOf.of (by kernel_rfl)
theorem zo_5:ZeroOf Prog 5 (enc (0:UInt8)):=ZeroOf.of (by kernel_rfl)
theorem zo_9:ZeroOf Prog 9 (enc (.empty:ByteArray)):=ZeroOf.of (by kernel_rfl)
end Go.Proofs.YtmpmildpioebhaaGreatDoor
namespace Go.Sh
open Go
open Go.Sh.Ty (reg)
class NP (C:Ctx) (Q:Exit→Act→World→Prop):Prop where
 np:NoPanic C Q
instance {P:Program} {w0:World} {n:Nat} {fn:Func} {R:Value→H→Prop}:NP ⟨P,w0,n⟩ (bodyPost P fn (RetOk w0 R)):=⟨.body⟩
instance {C:Ctx} {Q:Exit→Act→World→Prop} {K:Act→World→Prop} [hq:NP C Q]:NP C (Exit.then K Q):=⟨.then_ hq.np⟩
instance {C:Ctx} {Q:Exit→Act→World→Prop} {id:Nat} [hq:NP C Q]:NP C (Exit.inBlock id Q):=⟨.block hq.np⟩
theorem cb {a b:Bool} (h:a = b):Value.bool a = Value.bool b:=congrArg Value.bool h
section
variable {C:Ctx} {ops:Array Oper} {Q:Exit→Act→World→Prop} {J:Env→H→Prop} {ρ:Env} {h:H} {os:List Oper} {o:Op} {ty:TypeId} {dst:Option Tmp} {pos:String} {after:Array Edge} {R:List Nat} {T:Nat→H→Prop} {fuel:Nat} {listed:Array Bool} {v:Value}
theorem AW.P (i:Nat) (hi:ops[i]? = some ⟨dst,o,ty,pos,after,none⟩) (hy:∀ {h'},OpVal C o ty ρ h' v) (hh:AW C ops Q R T fuel (listed.setIfInBounds i true) (upo ρ dst v) h) [hQ:NP C Q] (hk:takeOk ops R listed C.n i dst = true:=by kernel_rfl):
  AW C ops Q R T (fuel + 1) listed ρ h:=.p i hi hk hQ.np (fun _=>hy) hh
theorem RLK.V (hv:OpVal C o ty ρ h v) (hj:RLK C ops Q J os (upo ρ dst v) h) (hd:okd C.n dst = true:=by rfl):RLK C ops Q J (⟨dst,o,ty,pos,after,none⟩ :: os) ρ h:=.val hv hd hj
theorem RLK.M {x:Operand} (v:Value) (hj:RLK C ops Q J os (upo ρ dst v) h) (hv:ev ρ x = v:=by rfl) (hd:okd C.n dst = true:=by rfl):RLK C ops Q J (⟨dst,.move x,ty,pos,after,none⟩ :: os) ρ h:=.val (v_move hv) hd hj
theorem RLK.A {x:Operand} (v:Value) (hj:RLK C ops Q J os (upo ρ dst v) h) (hv:ev ρ x = v:=by rfl) (hd:okd C.n dst = true:=by rfl):RLK C ops Q J (⟨dst,.assign x,ty,pos,after,none⟩ :: os) ρ h:=.val (v_assign hv) hd hj
section
variable {σ α:Type} [Ty σ] [Ty α] {p:Addr} {g:σ→α} {k:α→H→Prop} {x:Operand} {U:TypeId} {n:Nat}
theorem RLK.L (off:Nat) (na:NotAgg C.P U) (hf:∀ s:σ,(enc s)[off]? = some (reg (g s))) (hh:ld p g k h) (hx:ev ρ x = .pointer (some (p.add off))) (hj:∀ y,k y h→RLK C ops Q J os (upo ρ dst (reg y)) h) (hd:okd C.n dst = true:=by rfl):
  RLK C ops Q J (⟨dst,.load U x,ty,pos,after,none⟩ :: os) ρ h:=by
 obtain ⟨y,⟨s,hs,hg⟩,hh⟩:=hh
 exact .val (v_ld1 off na hx hs hg hf) hd (hj y hh)
theorem RLK.LA (off:Nat) (ag:IsAgg C.P U n) (hf:∀ s:σ,((enc s).drop off).take n = enc (g s)) (hl:∀ y:α,(enc y).length = n) (hh:ld p g k h) (hx:ev ρ x = .pointer (some (p.add off))) (hj:∀ y,k y h→RLK C ops Q J os (upo ρ dst (reg y)) h) (hr:∀ y:α,reg y = .agg (enc y).toArray:=by exact fun _=>rfl) (hd:okd C.n dst = true:=by rfl):
  RLK C ops Q J (⟨dst,.load U x,ty,pos,after,none⟩ :: os) ρ h:=by
 obtain ⟨y,⟨s,hs,hg⟩,hh⟩:=hh
 exact .val (v_ldA off ag hx hs hg hf hl hr) hd (hj y hh)
theorem AW.KL (i off:Nat) (na:NotAgg C.P U) (hf:∀ s:σ,(enc s)[off]? = some (reg (g s))) (hi:ops[i]? = some ⟨dst,.load U x,ty,pos,after,none⟩) (hh:ld p g k h) (hx:ev ρ x = .pointer (some (p.add off)))
  (hj:∀ y,k y h→AW C ops Q R (fun j h'=>T j h'∧(reachB ops ops.size i j = true∨∃ s:σ,AtH h' p (enc s)∧g s = y)) fuel (listed.setIfInBounds i true) (upo ρ dst (reg y)) h) [hQ:NP C Q] (hk:takeOk ops R listed C.n i dst = true:=by kernel_rfl):AW C ops Q R T (fuel + 1) listed ρ h:=by
 obtain ⟨y,hs,hh⟩:=hh
 exact .r i (fun h'=>∃ s:σ,AtH h' p (enc s)∧g s = y) hi hk hQ.np hs (fun h' hS=>hS.elim fun _ hS=>v_ld1 off na hx hS.1 hS.2 hf) (hj y hh)
theorem RLK.S {u:σ→σ} {k:H→Prop} {y:Operand} {c m:Nat} (w:α) (off:Nat) (hT:SizeOf C.P U m) (h1:(enc w).all (·.oneCell') = true) (hc:∀ s:σ,(enc s).length = c) (hm:(enc w).length = m) (hu:∀ s:σ,(enc s).take off ++ enc w ++ (enc s).drop (off + (enc w).length) = enc (u s)) (hh:st p u k h)
  (hx:ev ρ x = .pointer (some (p.add off))) (hy:ev ρ y = reg w) (hj:∀ s:σ,k (putC h p (enc (u s)))→RLK C ops Q J os ρ (putC h p (enc (u s)))) (hl:Nat.ble (off + m) c = true:=by rfl):
  RLK C ops Q J (⟨none,.store U x y,ty,pos,after,none⟩ :: os) ρ h:=by
 obtain ⟨s,hs,hw,hh⟩:=hh
 exact .e (e_storeN (p:=p) (nv:=enc w) off hx hy (by simp [enc]) hT h1 hs hw (hc s) hm hl (hu s) (hj s hh))
end
theorem RLK.nx {y:Code} (hh:CW C y Q ρ h):RLK C ops (Exit.then (y.wp C.P Q) Q) (QN C (Exit.then (y.wp C.P Q) Q) .normal) [] ρ h:=.nil (QN.then_ hh)
theorem CW.sr {id:Nat} {y:Code} (hh:RLK C ops (Exit.then (y.wp C.P Q) Q) (QN C (Exit.then (y.wp C.P Q) Q) .normal) ops.toList ρ h):CW C (.seq (.region id ops false) y) Q ρ h:=.seq (.region hh)
end
end Go.Sh

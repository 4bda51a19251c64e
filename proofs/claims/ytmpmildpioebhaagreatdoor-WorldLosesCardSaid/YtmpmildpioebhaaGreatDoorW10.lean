/-
  The statement WorldLoses (law 23): where all letters are lost nobody decides anything. Part 10 of 30. No condition stands ahead of the statement. Parts of this text were printed by a program of ours.
-/
import Derived.Test.YtmpmildpioebhaaGreatDoorW08
import Derived.Test.YtmpmildpioebhaaGreatDoorW09
import Derived.LoopN
import Derived.Scope
set_option linter.all false
set_option maxRecDepth 100000
set_option maxHeartbeats 4000000
noncomputable section
namespace Go.Vm
open Go Go.Sh
open Go.Sh.Ty (reg)
section
variable {C:Ctx} {ρ:Env} {h:H} {ty:TypeId} {Q:Exit→Act→World→Prop} {J:Env→H→Prop} {dst:Option Tmp} {X:Cx} {θ:Th} {hp:Hp} {T:Tb} {q:K1} {o:Op}
theorem rv_sr {r:Rid} {b o0 t o n c z:Nat} (h:θ r = some (b,o0,t)) (hz:0 < z) (hn:n≤c):RV θ (.sr r o n c z) (.slice (some ⟨b,o0 + o,none⟩) n c):=.inl (.inl (.inl ⟨b,o0,t,h,hz,hn,rfl⟩))
theorem apA_ok (hX:CxOk X) (hT:TbOk C.P T) (S:SR X θ hp h) {e:E} (he:RE θ e ρ) {cl:CallT} {t u:Nat} {so xo:Operand} (hd:okd C.n dst = true)
  (g:X.G ((apA T t u so xo).f cl e hp q)) (hj:Kt X θ hp q fun w h'=>J (upo ρ dst w) h'):OpE C Q (.call ⟨.builtin .append,#[so,xo],#[t,u]⟩) ty dst J ρ h:=by
 unfold apA at g
 split at g
 ·rename_i el sz hk
  obtain ⟨hu,hsz⟩:=tk_sl hT hk
  cases c:an (zOk T el) (an (Nat.ble 1 sz) (an (byT T el) (apT (tkT T u)))) with
  | false=>rw [c] at g; exact (hX.gd.er _ g).elim
  | true=>
   rw [c] at g
   obtain ⟨c1,c⟩:=an_ok c
   obtain ⟨c2,c⟩:=an_ok c
   obtain ⟨c3,c4⟩:=an_ok c
   have h0:=ble_ok c2
   have hslT:SlT C.P t el sz:=⟨hu,hT.size hsz h0⟩
   obtain ⟨z,hz,hzc⟩:=zero_ok hT (θ:=θ) c1
   have hzl:z.length = sz:=(zero_len c1 hzc).trans hsz
   have hi:∃ i,T.info el = some i∧i.bytes≤4096:=by
    unfold byT at c3
    cases hi:T.info el with
    | none=>rw [hi] at c3; cases c3
    | some i=>rw [hi] at c3; exact ⟨i,rfl,ble_ok c3⟩
   obtain ⟨i,hi,hby⟩:=hi
   have hbs:(C.P.info? el).map (·.bytes) = some i.bytes:=by rw [hT.info _ _ hi]; rfl
   have hU:∃ d,C.P.underlying u = some d∧((∃ e',d = .slice e')∨d = .string):=by
    cases hku:tkT T u with
    | sl e' s'=>exact ⟨_,(tk_sl hT hku).1,.inl ⟨_,rfl⟩⟩
    | str=>exact ⟨_,tk_str hT hku,.inr rfl⟩
    | _=>rw [hku] at c4; cases c4
   obtain ⟨d,hU,hd'⟩:=hU
   have g:X.G (frH ((gO so).f e) fun s=>srcK ((gO xo).f e) sz hp fun m xs=>bz (Nat.ble m 1048576) (bz (Nat.beq m 0) (ap0 s hp q) (ap1 s sz m xs hp q)) (.er 37)):=g
   obtain ⟨ns,g⟩:=frH_ok hX.gd g
   obtain ⟨m,ys,l,hl,hsrc,g⟩:=srcK_ok (C:=C) hX S he (k:=fun m xs=>bz (Nat.ble m 1048576) (bz (Nat.beq m 0) (ap0 ((gO so).f e) hp q) (ap1 ((gO so).f e) sz m xs hp q)) (.er 37)) g
   obtain ⟨cm,g⟩:=bz_ok hX.gd g
   have cm:=ble_ok cm
   have hx:=gO_ok he ns
   revert g hx
   generalize (gO so).f e = a
   intro g hx
   have e2U:=hU
   cases c5:Nat.beq m 0 with
   | true=>
    rw [c5] at g
    have hm:=beq_ok c5
    subst hm
    replace g:X.G (ap0 a hp q):=g
    have zero:∀ {p:Option Addr} {n k:Nat},n≤k→ev ρ so = .slice p n k→X.G (q a hp)→OpE C Q (.call ⟨.builtin .append,#[so,xo],#[t,u]⟩) ty dst J ρ h:=by
     intro p n k hnk e1 g
     exact e_app0 hslT hU hd' e1 hsrc hd hnk (hj θ _ _ _ _ S (Ext.refl _ _) (Nat.le_refl _) (by rw [← e1]; exact hx) g)
    cases a <;> first | exact (hX.gd.er _ g).elim | skip
    ·obtain ⟨b,o0,tt,c,hr,hz,hc,hn,e1⟩:=hx.ra (v:=.sl _ _ _ _) trivial
     exact zero hn e1 g
    ·obtain ⟨b,o0,tt,hr,hz,hn,e1⟩:=hx.ra (v:=.sr _ _ _ _ _) trivial
     exact zero hn e1 g
    ·obtain ⟨b,o0,tt,c,hr,hz,hc,hv⟩:=hx.ra (v:=.se _ _ _) trivial
     rcases hv with ⟨rfl,p,hp',e1⟩ | ⟨hc0,e1⟩
     ·exact zero (Nat.le_refl _) e1 g
     ·exact zero (Nat.zero_le _) e1 g
    ·obtain ⟨p,hp',e1⟩:=hx.ra (v:=.sz) trivial
     exact zero (Nat.le_refl _) e1 g
    ·exact zero (Nat.le_refl _) (hx.ra (v:=.sn) trivial) g
   | false=>
    rw [c5] at g
    have hm:=beq_no c5
    replace g:X.G (ap1 a sz m l hp q):=g
    have hylen:=hsrc.1
    have big:∀ n,n + m≤16777216→(n + m) * i.bytes≤maxBytes∧n + m≤9223372036854775807:=by
     intro n hn
     have:(n + m) * i.bytes≤16777216 * 4096:=Nat.mul_le_mul hn hby
     unfold maxBytes; omega
    have nsz:∀ {cs:CL AV} {n:Nat} {hp:Hp},X.G (newS cs n sz hp q)→n≤16777216:=by
     intro cs n hp g
     unfold newS at g
     exact ble_ok (bz_ok hX.gd g).1
    have fresh:∀ {S1:Hp} {n c:Nat} {p:Option Addr} {xs:List Value} {cs:CL AV},SR X θ S1 h→S1.nx = hp.nx→ev ρ so = .slice p n c→c < n + m→(∀ w:World,w.heap = h→(Builtin.firstCells sz n (.slice p n c)).run C.P w = .ok xs.toArray w) →
      RC θ cs (xs ++ ys)→xs.length = n * sz→X.G (newS cs (n + m) sz S1 q)→OpE C Q (.call ⟨.builtin .append,#[so,xo],#[t,u]⟩) ty dst J ρ h:=by
     intro S1 n c p xs cs SS hnx e1 hlt hfc hcs hxl g
     have hle:=nsz g
     refine e_appG hslT hU hd' hz hbs e1 hsrc hd (fun h=>by omega) (fun _=>⟨xs,hfc,(big n hle).1,(big n hle).2,fun cap hcap=>?_⟩)
     have hlen:(xs ++ ys).length = (n + m) * sz:=by rw [List.length_append,hxl,hylen,Nat.add_mul]
     obtain ⟨θ',hp',a',f1,f2,f3,f4,f5⟩:=newS_ok hX SS (el:=el) (n0:=0) (us:=(List.replicate (cap - (n + m)) z).flatten) (z:=z) h0 hcs hlen hcap (by simp [hzl]) g
     rw [hnx] at f2 f3
     exact hj θ' hp' _ _ _ f1 f2 f3 f4 f5
    have empty:∀ {p:Option Addr} {c:Nat} (w:World),w.heap = h→(Builtin.firstCells sz 0 (.slice p 0 c)).run C.P w = .ok ([]:List Value).toArray w:=by
     intro p c w _
     cases p with
     | none=>simp [Builtin.firstCells]
     | some p=>simp [Builtin.firstCells,load0]
    have l0:RC θ l ([] ++ ys):=hl
    have drop:∀ {r:Rid} {b o0 tt L o n c:Nat} {cs0 cs:CL AV} {xs:List Value},θ r = some (b,o0,tt)→getH hp r = .c L cs0→o + c * sz = tt→ev ρ so = .slice (some ⟨b,o0 + o,none⟩) n c→RC θ cs (xs ++ ys)→xs.length = n * sz→(n = 0∨AtH h ⟨b,o0 + o,none⟩ xs) →
      X.G (hset hp r .no fun h=>newS cs (n + m) sz h q)→OpE C Q (.call ⟨.builtin .append,#[so,xo],#[t,u]⟩) ty dst J ρ h:=by
     intro r b o0 tt L o n c cs0 cs xs hr hg hc e1 hcs hxl hat g
     obtain ⟨hK,g⟩:=S.K_none hX hr g
     have hle:=nsz g
     have hfc:∀ w:World,w.heap = h→(Builtin.firstCells sz n (.slice (some ⟨b,o0 + o,none⟩) n c)).run C.P w = .ok xs.toArray w:=by
      intro w hw
      rcases hat with rfl | hat
      ·have:xs = []:=List.eq_nil_of_length_eq_zero (by omega)
       subst this; exact empty w hw
      ·exact run_firstCellsH (s:=⟨some ⟨b,o0 + o,none⟩,n,c⟩) (.inr ⟨_,rfl,hat,hxl⟩) hw
     by_cases hfit:n + m≤c
     ·obtain ⟨hw,θ',hp',a',f1,f2,f3,f4,f5⟩:=moved_ok hX S hr hg h0 hc hfit hcs hxl hylen hat hK g
      have ea:=addr_add b (o0 + o) (n * sz)
      refine e_appG hslT hU hd' hz hbs e1 hsrc hd (fun _=>⟨fun p hp=>?_,?_⟩) (fun h=>by omega)
      ·injection hp with hp; subst hp; rw [ea]; exact hw
      ·show J _ (putC h ((⟨b,o0 + o,none⟩:Addr).add (n * sz)) ys)
       rw [ea]
       exact hj θ' hp' _ _ _ f1 f2 f3 f4 f5
     ·exact fresh (S1:=⟨uR hp.rows r .no,hp.nx,hp.ro⟩) (S.drop hr hK) rfl e1 (by omega) hfc hcs hxl g
    cases a <;> first | exact (hX.gd.er _ g).elim | skip
    ·rename_i r o n z'
     obtain ⟨b,o0,tt,kc,hr,hz',hc,hn,e1⟩:=hx.ra (v:=.sl r o n z') trivial
     unfold ap1 at g
     obtain ⟨cz,g⟩:=bz_ok hX.gd g
     have:=beq_ok cz
     subst this
     cases hg:getH hp r <;> simp only [hg] at g <;> first | exact (hX.gd.er _ g).elim | skip
     rename_i L cs
     obtain ⟨arr,E,fr,vs,k1,k2,k3,k4,k5,k6,k7⟩:=rowC_ok S hr hg
     obtain ⟨vs',hat',hcs',hvl'⟩:=rowC_at S hr hg
     have ea:=addr_add b o0 o
     cases cA:Nat.ble (Nat.add o (Nat.mul (Nat.add n m) z')) L with
     | true=>
      rw [cA] at g
      have cA':o + (n + m) * z'≤L:=ble_ok cA
      have hfit:n + m≤kc:=by
       have:(n + m) * z'≤kc * z':=by omega
       exact Nat.le_of_mul_le_mul_right this h0
      obtain ⟨hp',S',hw,hnx,g⟩:=wrK_ok hX S hr hl hylen g
      have ea2:=addr_add b (o0 + o) (n * z')
      rw [Nat.add_assoc] at ea2
      refine e_appG hslT hU hd' hz hbs e1 hsrc hd (fun _=>⟨fun p hp=>?_,?_⟩) (fun h=>by omega)
      ·injection hp with hp; subst hp; rw [ea2]; exact hw
      ·show J _ (putC h ((⟨b,o0 + o,none⟩:Addr).add (n * z')) ys)
       rw [ea2]
       exact hj θ _ _ _ _ S' (Ext.refl _ _) (by rw [hnx]; exact Nat.le_refl _) (rv_sl hr hz' hc hfit) g
     | false=>
      rw [cA] at g
      cases cB:an (Nat.beq o 0) (Nat.beq (Nat.mul n z') L) with
      | true=>
       rw [cB] at g
       obtain ⟨b1,b2⟩:=an_ok cB
       have b1:=beq_ok b1
       have b2:=beq_ok b2
       have b2:n * z' = L:=b2
       exact drop hr hg hc e1 (xs:=vs') (capp_ok hcs' hl) (by omega) (.inr (by rw [b1]; exact hat')) g
      | false=>
       rw [cB] at g
       obtain ⟨b3,g⟩:=bz_ok hX.gd (show X.G (bz (Nat.ble (Nat.add o (Nat.mul n z')) L) (hset hp r .no fun h=>newS (capp (ctk (cdr cs o) (Nat.mul n z')) l) (Nat.add n m) z' h q) (.er 36)) from g)
       have b3:o + n * z'≤L:=ble_ok b3
       refine drop hr hg hc e1 (xs:=(vs'.drop o).take (n * z')) (capp_ok (ctk_ok (cdr_ok hcs' o (by omega)) _ (by simp; omega)) hl) (by simp; omega) (.inr ?_) g
       rw [← ea]; exact hat'.sub o _
    ·rename_i r o n kc z'
     obtain ⟨b,o0,tt,hr,hz',hn,e1⟩:=hx.ra (v:=.sr r o n kc z') trivial
     unfold ap1 at g
     obtain ⟨cz,g⟩:=bz_ok hX.gd g
     have:=beq_ok cz
     subst this
     cases cA:Nat.ble (Nat.add n m) kc with
     | true=>
      rw [cA] at g
      have hfit:n + m≤kc:=ble_ok cA
      obtain ⟨hp',S',hw,hnx,g⟩:=wrK_ok hX S hr hl hylen g
      have ea2:=addr_add b (o0 + o) (n * z')
      rw [Nat.add_assoc] at ea2
      refine e_appG hslT hU hd' hz hbs e1 hsrc hd (fun _=>⟨fun p hp=>?_,?_⟩) (fun h=>by omega)
      ·injection hp with hp; subst hp; rw [ea2]; exact hw
      ·show J _ (putC h ((⟨b,o0 + o,none⟩:Addr).add (n * z')) ys)
       rw [ea2]
       exact hj θ _ _ _ _ S' (Ext.refl _ _) (by rw [hnx]; exact Nat.le_refl _) (rv_sr hr hz' hfit) g
     | false=>
      rw [cA] at g
      obtain ⟨l',xs,a1,a2,a3,g⟩:=rdK_ok hX S hr g
      have hlt:kc < n + m:=by
       rcases Nat.lt_or_ge kc (n + m) with h | h
       ·exact h
       ·rw [show Nat.ble (Nat.add n m) kc = true from Nat.ble_eq_true_of_le h] at cA; cases cA
      exact fresh S rfl e1 hlt (fun w hw=>run_firstCellsH (s:=⟨some ⟨b,o0 + o,none⟩,n,kc⟩) (.inr ⟨_,rfl,a3,a2⟩) hw) (capp_ok a1 hl) a2 g
    ·rename_i r o z'
     obtain ⟨b,o0,tt,kc,hr,hz',hc,hv⟩:=hx.ra (v:=.se r o z') trivial
     unfold ap1 at g
     obtain ⟨cz,g⟩:=bz_ok hX.gd g
     have:=beq_ok cz
     subst this
     cases hg:getH hp r <;> simp only [hg] at g <;> first | exact (hX.gd.er _ g).elim | skip
     rename_i L cs
     rcases hv with ⟨rfl,p,hp',e1⟩ | ⟨hc0,e1⟩
     ·obtain ⟨hK,g⟩:=S.K_none hX hr g
      exact fresh (S1:=⟨uR hp.rows r .no,hp.nx,hp.ro⟩) (S.drop hr hK) rfl e1 (by omega) empty l0 (by simp) (by rw [Nat.zero_add]; exact g)
     ·exact drop (n:=0) hr hg hc e1 l0 (by simp) (.inl rfl) (by simp only [Nat.zero_add]; exact g)
    ·obtain ⟨p,hp',e1⟩:=hx.ra (v:=.sz) trivial
     have g:X.G (newS l m sz hp q):=g
     exact fresh S rfl e1 (by omega) empty l0 (by simp) (by rw [Nat.zero_add]; exact g)
    ·have e1:=hx.ra (v:=.sn) trivial
     have g:X.G (newS l m sz hp q):=g
     exact fresh S rfl e1 (by omega) empty l0 (by simp) (by rw [Nat.zero_add]; exact g)
 ·exact (hX.gd.er _ g).elim
end
def CallOk (P:Program) (cl:CallT):Prop:=
 ∀ (X:Cx),CxOk X→∀ (θ:Th) (hp:Hp) (h:H) (f:Nat) (args:List AV) (vals:List Value) (q:K1),SR X θ hp h→RVs θ args vals→X.G (cl f args hp q) →
  FnOk P f∧CallsH P f vals.toArray h fun w h'=>∃ θ' hp' a,SR X θ' hp' h'∧Ext θ θ' (tor hp.nx)∧tor hp.nx≤tor hp'.nx∧RV θ' a w∧X.G (q a hp')
theorem okA_rv1 {θ:Th} {v:AV} {V:Value} (h:RV θ v V) (ho:okA v = true):RV1 θ v V:=by
 refine h.rv1 fun l e=>?_
 subst e; cases ho
theorem okAs_cons {v:AV} {l:List AV} (h:okAs (v :: l) = true):okA v = true∧okAs l = true:=an_ok h
theorem okAs_append:∀ {l m:List AV},okAs (l ++ m) = true→okAs l = true∧okAs m = true
 | [],m,h=>⟨rfl,h⟩
 | v :: l,m,h=>by
  obtain ⟨h1,h2⟩:=okAs_cons h
  obtain ⟨h3,h4⟩:=okAs_append h2
  exact ⟨show an (okA v) (okAs l) = true by rw [an_eq,h1,h3]; rfl,h4⟩
theorem RVs.append {θ:Th}:∀ {l m:List AV} {vs us:List Value},RVs θ l vs→RVs θ m us→RVs θ (l ++ m) (vs ++ us)
 | [],_,_,_,h,h'=>by rw [show _ = [] from h]; exact h'
 | a :: l,_,_,_,⟨V,r,e,h1,h2⟩,h'=>by subst e; exact ⟨V,_,rfl,h1,RVs.append h2 h'⟩
theorem RAs.rvs {θ:Th}:∀ {l:List AV} {vs:List Value},RAs θ l vs→RVs θ l vs
 | [],_,h=>h
 | a :: l,_,⟨V,r,e,h1,h2⟩=>⟨V,r,e,.inl (.inl h1),RAs.rvs h2⟩
theorem gL_rvs {θ:Th} {e:E} {ρ:Env} (he:RE θ e ρ):∀ {l:List Operand},okAs ((gL l).f e) = true→RVs θ ((gL l).f e) (l.map (ev ρ))
 | [],_=>rfl
 | x :: l,h=>by
  obtain ⟨h1,h2⟩:=okAs_cons (v:=(gO x).f e) (l:=(gL l).f e) h
  have hne:(gO x).f e ≠ .er:=by intro e1; rw [e1] at h1; cases h1
  exact ⟨_,_,rfl,okA_rv1 (gO_ok he hne) h1,gL_rvs he h2⟩
section
variable {C:Ctx} {ρ:Env} {h:H} {ty:TypeId} {Q:Exit→Act→World→Prop} {J:Env→H→Prop} {dst:Option Tmp} {X:Cx} {θ:Th} {hp:Hp} {T:Tb} {q:K1} {o:Op}
theorem e_callF {f:FuncId} {fo:Operand} {xs:Array Operand} {ts:Array TypeId} {F K:List Value} {vs:Array Value} (hf:ev ρ fo = .func (.func f) (Array.mk F) (Array.mk K)) (hok:FnOk C.P f) (hx:(F ++ (xs.toList.map (ev ρ) ++ K)).toArray = vs) (hd:okd C.n dst = true)
  (hc:CallsH C.P f vs h fun v h'=>J (upo ρ dst v) h'):OpE C Q (.call ⟨.value fo,xs,ts⟩) ty dst J ρ h:=by
 intro a w s pos after g
 unfold Oper.wp
 rw [s.evals]
 have hxx:Array.mk F ++ xs.map (ev ρ) ++ Array.mk K = vs:=by subst hx; apply Array.toList_inj.1; simp
 have hr:(execOp (ev ρ) ⟨dst,.call ⟨.value fo,xs,ts⟩,ty,pos,after,g⟩).run C.P w = .ok (.enter f vs) w:=by
  simp only [execOp,resolve,hf,Deferred.ofValue,invoke]
  rw [← hxx]
  simp [run_callFunc hok]
 rw [hr]
 show Calls C.P f vs w _
 refine (hc w s.heap).mono ?_
 rintro e w' ⟨v,rfl,ht,ho,hu,hJ⟩
 exact ⟨_,_,(s.put hd _).world ht ho hu,hJ⟩
theorem clA_ok {cl:CallT} (hcl:CallOk C.P cl) (hX:CxOk X) (S:SR X θ hp h) {f:Nat} {args:List AV} {vals:List Value} (hr:okAs args = true→RVs θ args vals) (g:X.G (clA cl f args hp q)) (hj:Kt X θ hp q fun w h'=>J (upo ρ dst w) h'):
  FnOk C.P f∧CallsH C.P f vals.toArray h fun v h'=>J (upo ρ dst v) h':=by
 unfold clA at g
 obtain ⟨c,g⟩:=bz_ok hX.gd g
 obtain ⟨h1,h2⟩:=hcl X hX θ hp h f args vals q S (hr c) g
 refine ⟨h1,h2.mono ?_⟩
 rintro v h' ⟨θ',hp',a,a1,a2,a3,a4,a5⟩
 exact hj θ' hp' h' a v a1 a2 a3 a4 a5
theorem cE_ok {cl:CallT} (hcl:CallOk C.P cl) (hX:CxOk X) (hT:TbOk C.P T) (S:SR X θ hp h) {e:E} (he:RE θ e ρ) (hd:okd C.n dst = true) (g:X.G ((cE T o).f cl e hp q)) (hj:Kt X θ hp q fun w h'=>J (upo ρ dst w) h'):OpE C Q o ty dst J ρ h:=by
 unfold cE at g
 split at g
 ·exact cSt_ok hX hT S he hd g hj
 ·exact boxA_ok hX S he hd g hj
 ·exact alA_ok hX hT S (e:=e) hd g hj
 ·exact bsA_ok hX hT S he hd g hj
 ·exact mmA_ok hX hT S (e:=e) hd g hj
 ·exact msA_ok hX hT S he hd g hj
 ·exact muA_ok hX hT S he (.inl rfl) hd g hj
 ·exact muA_ok hX hT S he (.inr rfl) hd g hj
 ·exact meA_ok hX hT S he hd g hj
 ·exact esA_ok hX hT S he hd g hj
 ·exact rgA_ok hX hT S he hd g hj
 ·exact nxA_ok hX S he hd g hj
 ·split at g
  ·rename_i hk
   split at g
   ·rename_i hks
    exact cvM_ok hX hT S he hk hks hd g hj
   ·exact cvL_ok hX hT S he hk hd g hj
  ·exact (hX.gd.er _ g).elim
 ·rename_i f xs ts
  obtain ⟨h1,h2⟩:=clA_ok hcl hX S (vals:=xs.toList.map (ev ρ)) (gL_rvs he) g hj
  exact e_call h1 (by apply Array.toList_inj.1; simp) hd h2
 ·rename_i fo xs ts hne
  cases hg:(gO fo).f e <;> simp only [hg] at g <;> first | exact (hX.gd.er _ g).elim | skip
  rename_i f fs cs
  have hfr:=gO_ok he (x:=fo) (by rw [hg]; intro e; cases e)
  rw [hg] at hfr
  obtain ⟨F,K,e1,r1,r2⟩:∃ F K,ev ρ fo = .func (.func f) (Array.mk F) (Array.mk K)∧RAs θ fs F∧RAs θ cs K:=by
   rcases hfr with (hfr | ⟨_,_,e,_⟩ | ⟨e,_⟩) | ⟨_,_,e,_⟩
   ·rcases hfr with hfr | ⟨_,_,_,xs',ys',e,e2,a1,a2⟩
    ·exact hfr.elim
    ·cases e; exact ⟨_,_,e2,a1,a2⟩
   ·cases e
   ·cases e
   ·cases e
  obtain ⟨h1,h2⟩:=clA_ok hcl hX S (vals:=F ++ (xs.toList.map (ev ρ) ++ K)) (fun ho=>by
   obtain ⟨_,o2⟩:=okAs_append ho
   obtain ⟨o3,_⟩:=okAs_append o2
   exact r1.rvs.append ((gL_rvs he o3).append r2.rvs)) g hj
  exact e_callF e1 h1 rfl hd h2
 ·split at g
  ·rename_i hxs hts
   rw [list2 hxs,list2 hts]
   exact apA_ok hX hT S he hd g hj
  ·exact (hX.gd.er _ g).elim
 ·split at g
  ·rename_i hxs hts
   rw [list2 hxs,list2 hts]
   exact cpE_ok hX hT S he hd g hj
  ·exact (hX.gd.er _ g).elim
 ·split at g
  ·rename_i hxs hts
   rw [list1 hxs,list1 hts]
   exact clE_ok hX hT S he hd g hj
  ·exact (hX.gd.er _ g).elim
 ·split at g
  ·rename_i hxs hts
   rw [list2 hxs]
   exact dlE_ok hX hT S he hts hd g hj
  ·exact (hX.gd.er _ g).elim
 ·exact (hX.gd.er _ g).elim
end
def upE (e:E) (d:Option Nat) (v:AV):E:=match d with | none=>e | some t=>eSet e t v
theorem upD_eq (e:E) (d:Option Nat) (v:AV) (k:E→Ans):(upD d).f e v k = k (upE e d v):=by
 cases d with
 | none=>rfl
 | some t=>exact sE_eq t e v k
theorem rv_u {θ:Th} {V:Value} (h:RV θ .u V):V = undef:=by
 rcases h with (h | ⟨_,_,e,_⟩ | ⟨_,h⟩) | ⟨_,_,e,_⟩
 ·exact h.noU.elim
 ·cases e
 ·exact h
 ·cases e
theorem xb_eq (a b:Bool):xb a b = (a == b):=by cases a <;> cases b <;> rfl
theorem okD_ok {nt:Nat} {d:Option Nat} (h:okD nt d = true):okd nt d = true:=by
 cases d with
 | none=>rfl
 | some t=>have:=ble_ok h; simp only [okd,Nat.blt_eq]; exact this
theorem RE.upE {θ:Th} {e:E} {ρ:Env} (he:RE θ e ρ) {nt:Nat} (hnt:nt≤256) {d:Option Nat} (hd:okD nt d = true) {v:AV} {V:Value} (hv:RV θ v V):RE θ (upE e d v) (upo ρ d V):=by
 cases d with
 | none=>exact he
 | some t=>have:=ble_ok hd; exact he.set (by have:t + 1≤nt:=this; omega) hv
theorem frX_ok {G:Ans→Prop} (hG:Gd G) (mv:Nat) (q:Qf) (d:Option Nat) {cl:CallT} {e:E} {hp:Hp} {k:E→Hp→Ans} (g:G ((cOq mv q (upD d)).f cl e hp k)):q.f e hp ≠ .er∧G (k (upE e d (q.f e hp)) hp):=by
 match mv with
 | 0=>
  have g:G (frV (q.f e hp) fun v=>(upD d).f e v fun e=>k e hp):=g
  obtain ⟨h1,h2⟩:=frV_ok hG g
  rw [upD_eq] at h2; exact ⟨h1,h2⟩
 | 1=>
  have g:G (frH (q.f e hp) fun v=>(upD d).f e v fun e=>k e hp):=g
  obtain ⟨h1,h2⟩:=frH_ok hG g
  rw [upD_eq] at h2; exact ⟨h1,h2⟩
 | n + 2=>
  have g:G (frA (q.f e hp) fun v=>(upD d).f e v fun e=>k e hp):=g
  obtain ⟨h1,h2⟩:=frA_ok hG g
  rw [upD_eq] at h2; exact ⟨h1,h2⟩
section
variable {C:Ctx} {ρ:Env} {h:H} {ty:TypeId} {Q:Exit→Act→World→Prop} {J:Env→H→Prop} {dst:Option Tmp} {X:Cx} {θ:Th} {hp:Hp} {T:Tb} {ops:Array Oper}
theorem lt_of_env {a:Act} {w:World} (s:St C ρ h a w) {t:Nat} (hne:ρ t ≠ undef):t < C.n:=by
 rcases Nat.lt_or_ge t C.n with h | h
 ·exact h
 ·exfalso
  apply hne
  rw [← s.env t,Array.getD_eq_getD_getElem?,Array.getElem?_eq_none (by rw [s.size]; exact h)]
  rfl
theorem wanted_undef {a:Act} {w:World} (s:St C ρ h a w) {o:Op} {pos:String} {after:Array Edge} {g:Nat×Bool} {t:Nat} (ht:(ops[g.1]?).bind (·.dst) = some t) (hg:ρ t = undef):
  Region.wanted ⟨dst,o,ty,pos,after,some g⟩ (yielded ops a.tmps) = false:=by
 obtain ⟨g1,g2⟩:=g
 have:=s.env t
 simp only [Region.wanted,yielded,ht,Option.bind_some]
 rcases Nat.lt_or_ge t a.tmps.size with hlt | hge
 ·simp only [Array.getD_eq_getD_getElem?,Array.getElem?_eq_getElem hlt,Option.getD_some] at this
  simp only [Array.getElem?_eq_getElem hlt,this,hg,undef]
  cases g2 <;> rfl
 ·rw [Array.getElem?_eq_none hge]
  cases g2 <;> rfl
theorem gTmp_ok {g:Nat×Bool} {t:Nat} (h:gTmp ops g = some t):(ops[g.1]?).bind (·.dst) = some t:=by
 unfold gTmp at h
 cases e:ops[g.1]? with
 | none=>rw [e] at h; cases h
 | some o=>rw [e] at h; exact h
def Ke (X:Cx) (θ:Th) (hp:Hp) (k:E→Hp→Ans) (J:Env→H→Prop):Prop:=
 ∀ θ' hp' h' e' ρ',SR X θ' hp' h'→Ext θ θ' (tor hp.nx)→tor hp.nx≤tor hp'.nx→RE θ' e' ρ'→X.G (k e' hp')→J ρ' h'
theorem cOp_ok {cl:CallT} (hcl:CallOk C.P cl) (hX:CxOk X) (hT:TbOk C.P T) (hnt:C.n≤256) (S:SR X θ hp h) {e:E} (he:RE θ e ρ) {o:Oper} {k:E→Hp→Ans} (g:X.G ((cOp T C.n ops o).f cl e hp k)) (hj:Ke X θ hp k J):OpW C ops Q o J ρ h:=by
 obtain ⟨dst,op,ty,pos,after,gd⟩:=o
 unfold cOp at g
 cases hd:okD C.n dst with
 | false=>simp only [hd] at g; exact (hX.gd.er _ g).elim
 | true=>
  simp only [hd,cond_true] at g
  have hok:=okD_ok hd
  have undefd:X.G (k (upE e dst .u) hp)→J (upo ρ dst undef) h:=fun g=>hj θ hp h _ _ S (Ext.refl _ _) (Nat.le_refl _) (he.upE hnt hd RV.undef) g
  cases hq:cQ T op with
  | some q=>
   simp only [hq] at g
   obtain ⟨hne,g⟩:=frX_ok hX.gd _ _ _ g
   have val:(qG ops gd q).f e hp = q.f e hp→q.f e hp ≠ .er∧∃ V,OpVal C op ty ρ h V∧J (upo ρ dst V) h:=by
    intro e1
    rw [e1] at hne g
    obtain ⟨V,h1,h2⟩:=cQ_ok (ty:=ty) hT S he hq hne
    exact ⟨hne,V,h1,hj θ hp h _ _ S (Ext.refl _ _) (Nat.le_refl _) (he.upE hnt hd h2) g⟩
   cases gd with
   | none=>
    obtain ⟨_,V,h1,h2⟩:=val rfl
    exact OpW.val hok h1 h2
   | some gg=>
    unfold qG at hne g val
    cases ht:gTmp ops gg with
    | none=>simp only [ht] at hne; exact absurd rfl hne
    | some t=>
     simp only [ht] at hne g val
     have ht':=gTmp_ok ht
     cases hv:(gT t).f e <;> simp only [hv] at hne g val <;> first | exact absurd rfl hne | skip
     ·have hr:=gT_ok he (t:=t) (by rw [hv]; intro e; cases e)
      rw [hv] at hr
      have hu:=rv_u hr
      intro a w s
      rw [if_neg (by rw [wanted_undef s ht' hu]; simp)]
      exact ⟨_,_,s.put hok undef,undefd g⟩
     ·rename_i x
      have hr:=gT_ok he (t:=t) (by rw [hv]; intro e; cases e)
      rw [hv] at hr
      have hb:ρ t = .bool x:=hr.ra (v:=.b x) trivial
      cases hx:xb x gg.2 with
      | true=>
       rw [hx] at hne g val
       obtain ⟨_,V,h1,h2⟩:=val rfl
       rw [xb_eq] at hx
       have hx:=eq_of_beq hx
       intro a w s
       exact OpW.yv t ht' (by rw [hb,hx]) (by rw [Nat.blt_eq]; exact lt_of_env s (by rw [hb]; intro e; cases e)) hok h1 h2 a w s
      | false=>
       rw [hx] at hne g
       rw [xb_eq] at hx
       have hx:x = !gg.2:=by cases x <;> cases h:gg.2 <;> simp_all
       intro a w s
       exact OpW.no t ht' (by rw [hb,hx]) (by rw [Nat.blt_eq]; exact lt_of_env s (by rw [hb]; intro e; cases e)) hok (undefd g) a w s
  | none=>
   simp only [hq] at g
   have g:X.G ((eG ops gd (cE T op)).f cl e hp fun v h=>(upD dst).f e v fun e=>k e h):=g
   have hK:Kt X θ hp (fun v h=>(upD dst).f e v fun e=>k e h) fun w h'=>J (upo ρ dst w) h':=by
    intro θ' hp' h' a w S' hE hle hv g
    have g:X.G ((upD dst).f e a fun e=>k e hp'):=g
    rw [upD_eq] at g
    exact hj θ' hp' h' _ _ S' hE hle ((he.mono hE.1).upE hnt hd hv) g
   cases gd with
   | none=>exact OpW.e (cE_ok hcl hX hT S he hok g hK)
   | some gg=>
    unfold eG at g
    cases ht:gTmp ops gg with
    | none=>simp only [ht] at g; exact (hX.gd.er _ g).elim
    | some t=>
     simp only [ht] at g
     have ht':=gTmp_ok ht
     cases hv:(gT t).f e <;> simp only [hv] at g <;> first | exact (hX.gd.er _ g).elim | skip
     ·have hr:=gT_ok he (t:=t) (by rw [hv]; intro e; cases e)
      rw [hv] at hr
      have hu:=rv_u hr
      intro a w s
      rw [if_neg (by rw [wanted_undef s ht' hu]; simp)]
      rw [upD_eq] at g
      exact ⟨_,_,s.put hok undef,undefd g⟩
     ·rename_i x
      have hr:=gT_ok he (t:=t) (by rw [hv]; intro e; cases e)
      rw [hv] at hr
      have hb:ρ t = .bool x:=hr.ra (v:=.b x) trivial
      cases hx:xb x gg.2 with
      | true=>
       rw [hx] at g
       rw [xb_eq] at hx
       have hx:=eq_of_beq hx
       intro a w s
       exact OpW.ye t ht' (by rw [hb,hx]) (by rw [Nat.blt_eq]; exact lt_of_env s (by rw [hb]; intro e; cases e)) (cE_ok hcl hX hT S he hok g hK) a w s
      | false=>
       rw [hx] at g
       rw [xb_eq] at hx
       have hx:x = !gg.2:=by cases x <;> cases h:gg.2 <;> simp_all
       intro a w s
       have g:X.G ((upD dst).f e .u fun e=>k e hp):=g
       rw [upD_eq] at g
       exact OpW.no t ht' (by rw [hb,hx]) (by rw [Nat.blt_eq]; exact lt_of_env s (by rw [hb]; intro e; cases e)) hok (undefd g) a w s
theorem cOps_ok {cl:CallT} (hcl:CallOk C.P cl) (hX:CxOk X) (hT:TbOk C.P T) (hnt:C.n≤256):∀ (l:List Oper) {θ:Th} {hp:Hp} {h:H} {e:E} {ρ:Env} {k:E→Hp→Ans},SR X θ hp h→RE θ e ρ→X.G ((cOps T C.n ops l).f cl e hp k)→Ke X θ hp k J→RLK C ops Q J l ρ h
 | [],θ,hp,h,e,ρ,k,S,he,g,hj=>RLK.nil (hj θ hp h e ρ S (Ext.refl _ _) (Nat.le_refl _) he g)
 | o :: l,θ,hp,h,e,ρ,k,S,he,g,hj=>by
  have g:X.G ((cOp T C.n ops o).f cl e hp fun e h=>(cOps T C.n ops l).f cl e h k):=g
  refine RLK.s (cOp_ok hcl hX hT hnt S he g fun θ' hp' h' e' ρ' S' hE hle he' g'=>?_)
  refine cOps_ok hcl hX hT hnt l S' he' g' fun θ2 hp2 h2 e2 ρ2 S2 hE2 hle2 he2 g2=>?_
  exact hj θ2 hp2 h2 e2 ρ2 S2 (hE.trans hE2 hle) (Nat.le_trans hle hle2) he2 g2
end
def SJ (P:Program) (c:Code) (Q:Exit→Act→World→Prop):Nat→Code→Act→World→Prop
 | 0,_,_,_=>False
 | n + 1,d,a,w=>d.wp P (fun ex a w=>match ex with | .goto l=>∃ r,findLabel c l = some r∧SJ P c Q n r a w | e=>Q e a w) a w
theorem wp_scope_n {P:Program} {c:Code} {Q:Exit→Act→World→Prop} (n:Nat) {a:Act} {w:World} (h:SJ P c Q n c a w):(Code.scope c).wp P Q a w:=by
 intro b k cs
 have key:∀ n d a w,SJ P c Q n d a w→∃ e a' w',Q e a' w'∧Arrives P (lone (b.at a (.code d :: .inScope c :: k)) cs w) b k cs e a' w':=by
  intro n
  induction n with
  | zero=>intro d a w h; exact h.elim
  | succ n ih=>
   intro d a w h
   obtain ⟨e,a₁,w₁,hq,harr⟩:=h b (.inScope c :: k) cs
   cases e with
   | normal=>exact ⟨.normal,a₁,w₁,hq,Steps.trans harr (.one step_inScope)⟩
   | exit id=>exact ⟨.exit id,a₁,w₁,hq,fun k' hk=>harr k' (by simp [exitTo,hk])⟩
   | goto l=>
    obtain ⟨r,hf,hq⟩:=hq
    obtain ⟨e₂,a₂,w₂,hq₂,harr₂⟩:=ih r a₁ w₁ hq
    have hg:gotoIn l (.inScope c :: k) = some (.code r :: .inScope c :: k):=by simp [gotoIn,hf]
    exact ⟨e₂,a₂,w₂,hq₂,.of_steps (harr _ hg) harr₂⟩
   | ret=>exact ⟨_,a₁,w₁,hq,harr⟩
   | panic ch=>exact ⟨_,a₁,w₁,hq,harr⟩
   | outgrown=>exact ⟨_,a₁,w₁,hq,harr⟩
 obtain ⟨e,a₁,w₁,hq,harr⟩:=key n c a w h
 exact ⟨e,a₁,w₁,hq,.of_steps (.one step_scope) harr⟩
def exX:Ex→Exit
 | .n=>.normal
 | .r=>.ret
 | .x id=>.exit id
 | .g l=>.goto l
section
variable {C:Ctx} {X:Cx} {T:Tb}
def Kx (C:Ctx) (X:Cx) (θ:Th) (hp:Hp) (k:K2) (Q:Exit→Act→World→Prop):Prop:=
 ∀ ex θ' hp' h' e' ρ',SR X θ' hp' h'→Ext θ θ' (tor hp.nx)→tor hp.nx≤tor hp'.nx→RE θ' e' ρ'→X.G (k ex e' hp')→QN C Q (exX ex) ρ' h'
theorem Kx.step {θ θ':Th} {hp hp':Hp} {k:K2} {Q:Exit→Act→World→Prop} (hk:Kx C X θ hp k Q) (hE:Ext θ θ' (tor hp.nx)) (hle:tor hp.nx≤tor hp'.nx):Kx C X θ' hp' k Q:=
 fun ex θ2 hp2 h2 e2 ρ2 S2 hE2 hle2 he2 g2=>hk ex θ2 hp2 h2 e2 ρ2 S2 (hE.trans hE2 hle) (Nat.le_trans hle hle2) he2 g2
def DrawOk (C:Ctx) (T:Tb) (cl:CallT):Prop:=
 ∀ (X:Cx),CxOk X→∀ {θ:Th} {hp:Hp} {h:H} {e:E} {ρ:Env} {id:Nat} {ops:Array Oper} {k:E→Hp→Ans} {Q:Exit→Act→World→Prop},SR X θ hp h→RE θ e ρ→X.G ((cRg T C.n ops true).f cl e hp k)→Ke X θ hp k (QN C Q .normal)→CW C (.region id ops true) Q ρ h
theorem cC_ok {cl:CallT} (hcl:CallOk C.P cl) (hdr:DrawOk C T cl) (hX:CxOk X) (hT:TbOk C.P T) (hnt:C.n≤256):∀ (n:Nat) (c:Code) {θ:Th} {hp:Hp} {h:H} {e:E} {ρ:Env} {k:K2} {Q:Exit→Act→World→Prop},
  SR X θ hp h→RE θ e ρ→X.G ((cC T C.n n c).f cl e hp k)→Kx C X θ hp k Q→CW C c Q ρ h
 | 0,c,θ,hp,h,e,ρ,k,Q,S,he,g,hk=>(hX.gd.er _ g).elim
 | n + 1,c,θ,hp,h,e,ρ,k,Q,S,he,g,hk=>by
  have ih:=fun c {θ} {hp} {h} {e} {ρ} {k} {Q}=>cC_ok hcl hdr hX hT hnt n c (θ:=θ) (hp:=hp) (h:=h) (e:=e) (ρ:=ρ) (k:=k) (Q:=Q)
  replace g:X.G ((stepC T C.n (cC T C.n n) c).f cl e hp k):=g
  have here:∀ ex,X.G (k ex e hp)→QN C Q (exX ex) ρ h:=fun ex g=>hk ex θ hp h e ρ S (Ext.refl _ _) (Nat.le_refl _) he g
  unfold stepC at g
  split at g
  ·exact CW.skip (here .n g)
  ·rename_i id ops draw
   replace g:X.G ((cRg T C.n ops draw).f cl e hp fun e h=>k .n e h):=g
   have hK:Ke X θ hp (fun e h=>k .n e h) (QN C Q .normal):=fun θ' hp' h' e' ρ' S' hE hle he' g'=>hk .n θ' hp' h' e' ρ' S' hE hle he' g'
   cases draw with
   | false=>exact CW.region (cOps_ok hcl hX hT hnt ops.toList S he g hK)
   | true=>exact hdr X hX S he g hK
  ·rename_i x y
   refine CW.seq (ih x S he g ?_)
   intro ex θ' hp' h' e' ρ' S' hE hle he' g'
   cases ex with
   | n=>exact fun a w s=>ih y S' he' g' (hk.step hE hle) a w s
   | r=>exact hk .r θ' hp' h' e' ρ' S' hE hle he' g'
   | x id=>exact hk (.x id) θ' hp' h' e' ρ' S' hE hle he' g'
   | g l=>exact hk (.g l) θ' hp' h' e' ρ' S' hE hle he' g'
  ·rename_i c x y
   cases hc:(gO c).f e <;> simp only [hc] at g <;> first | exact (hX.gd.er _ g).elim | skip
   ·rename_i b
    have hr:=gO_ok he (x:=c) (by rw [hc]; intro e; cases e)
    rw [hc] at hr
    have hb:ev ρ c = .bool b:=hr.ra (v:=.b b) trivial
    cases b with
    | true=>exact CW.cond true hb (fun _=>ih x S he g hk) (fun e=>by cases e)
    | false=>exact CW.cond false hb (fun e=>by cases e) (fun _=>ih y S he g hk)
   ·rename_i j
    have hr:=gO_ok he (x:=c) (by rw [hc]; intro e; cases e)
    rw [hc] at hr
    obtain ⟨cj,g⟩:=bz_ok hX.gd g
    have hj:=beq_ok cj
    subst hj
    obtain ⟨g1,g2⟩:=hX.br _ _ g
    obtain ⟨b,hb⟩:=hr.ra (v:=.o 2) trivial
    cases b with
    | true=>exact CW.cond true hb (fun _=>ih x S he g1 hk) (fun e=>by cases e)
    | false=>exact CW.cond false hb (fun e=>by cases e) (fun _=>ih y S he g2 hk)
  ·rename_i id b
   refine CW.block (ih b S he g ?_)
   intro ex θ' hp' h' e' ρ' S' hE hle he' g'
   cases ex with
   | n=>exact hk .n θ' hp' h' e' ρ' S' hE hle he' g'
   | r=>exact hk .r θ' hp' h' e' ρ' S' hE hle he' g'
   | g l=>exact hk (.g l) θ' hp' h' e' ρ' S' hE hle he' g'
   | x j=>
    have g':X.G (bz (Nat.beq j id) (k .n e' hp') (k (.x j) e' hp')):=g'
    intro a w s
    show if j = id then Q .normal a w else Q (.exit j) a w
    cases hji:Nat.beq j id with
    | true=>
     rw [hji] at g'
     rw [if_pos (beq_ok hji)]
     exact hk .n θ' hp' h' e' ρ' S' hE hle he' g' a w s
    | false=>
     rw [hji] at g'
     rw [if_neg (beq_no hji)]
     exact hk (.x j) θ' hp' h' e' ρ' S' hE hle he' g' a w s
  ·rename_i b
   replace g:X.G (lpN (fun cl e h k=>(cC T C.n n b).f cl e h k) cl k 1000000 e hp):=g
   revert g
   generalize (1000000:Nat) = N
   intro g
   have key:∀ (m:Nat) {θ':Th} {hp':Hp} {h':H} {e':E} {ρ':Env},SR X θ' hp' h'→Ext θ θ' (tor hp.nx)→tor hp.nx≤tor hp'.nx→RE θ' e' ρ'→X.G (lpN (fun cl e h k=>(cC T C.n n b).f cl e h k) cl k m e' hp') →
     ∀ a w,St C ρ' h' a w→Code.rounds C.P b Q m a w:=by
    intro m
    induction m with
    | zero=>intro θ' hp' h' e' ρ' S' hE hle he' g'; exact (hX.gd.er _ g').elim
    | succ m ihm=>
     intro θ' hp' h' e' ρ' S' hE hle he' g' a w s
     rw [rounds_succ]
     refine ih b S' he' g' ?_ a w s
     intro ex θ2 hp2 h2 e2 ρ2 S2 hE2 hle2 he2 g2
     cases ex with
     | n=>exact fun a w s=>ihm S2 (hE.trans hE2 hle) (Nat.le_trans hle hle2) he2 g2 a w s
     | r=>exact hk .r θ2 hp2 h2 e2 ρ2 S2 (hE.trans hE2 hle) (Nat.le_trans hle hle2) he2 g2
     | x id=>exact hk (.x id) θ2 hp2 h2 e2 ρ2 S2 (hE.trans hE2 hle) (Nat.le_trans hle hle2) he2 g2
     | g l=>exact hk (.g l) θ2 hp2 h2 e2 ρ2 S2 (hE.trans hE2 hle) (Nat.le_trans hle hle2) he2 g2
   exact fun a w s=>wp_loop_rounds N (key N S (Ext.refl _ _) (Nat.le_refl _) he g a w s)
  ·exact CW.exit (here (.x _) g)
  ·rename_i b
   replace g:X.G (scN (cC T C.n n) b cl k 1000000 b e hp):=g
   revert g
   generalize (1000000:Nat) = N
   intro g
   have key:∀ (m:Nat) (d:Code) {θ':Th} {hp':Hp} {h':H} {e':E} {ρ':Env},SR X θ' hp' h'→Ext θ θ' (tor hp.nx)→tor hp.nx≤tor hp'.nx→RE θ' e' ρ'→X.G (scN (cC T C.n n) b cl k m d e' hp') →
     ∀ a w,St C ρ' h' a w→SJ C.P b Q m d a w:=by
    intro m
    induction m with
    | zero=>intro d θ' hp' h' e' ρ' S' hE hle he' g'; exact (hX.gd.er _ g').elim
    | succ m ihm=>
     intro d θ' hp' h' e' ρ' S' hE hle he' g' a w s
     refine ih d S' he' g' ?_ a w s
     intro ex θ2 hp2 h2 e2 ρ2 S2 hE2 hle2 he2 g2
     cases ex with
     | n=>exact hk .n θ2 hp2 h2 e2 ρ2 S2 (hE.trans hE2 hle) (Nat.le_trans hle hle2) he2 g2
     | r=>exact hk .r θ2 hp2 h2 e2 ρ2 S2 (hE.trans hE2 hle) (Nat.le_trans hle hle2) he2 g2
     | x id=>exact hk (.x id) θ2 hp2 h2 e2 ρ2 S2 (hE.trans hE2 hle) (Nat.le_trans hle hle2) he2 g2
     | g l=>
      have g2:X.G (match findLabel b l with | some r=>scN (cC T C.n n) b cl k m r e2 hp2 | none=>.er 52):=g2
      cases hf:findLabel b l with
      | none=>rw [hf] at g2; exact (hX.gd.er _ g2).elim
      | some r=>
       rw [hf] at g2
       exact fun a w s=>⟨r,hf,ihm r S2 (hE.trans hE2 hle) (Nat.le_trans hle hle2) he2 g2 a w s⟩
   exact fun a w s=>wp_scope_n N (key N b S (Ext.refl _ _) (Nat.le_refl _) he g a w s)
  ·exact fun a w s=>wp_label (here .n g a w s)
  ·exact fun a w s=>wp_goto (here (.g _) g a w s)
  ·exact CW.ret (here .r g)
  ·exact (hX.gd.er _ g).elim
end
section
variable {P:Program} {w0:World} {nt:Nat} {X:Cx} {T:Tb} {θ:Th} {hp:Hp} {h:H} {ρ:Env}
def res1 (tmps:Array Value):ResultVar→Sem Value
 | .tmp t=>pure (tmps.getD t undef)
 | .cell c t=>do loadVar t (← asAddr (tmps.getD c undef))
def RsRun (P:Program) (w0:World) (nt:Nat) (ρ:Env) (h:H) (rs:List ResultVar) (vs:List Value):Prop:=
 ∀ a w,St ⟨P,w0,nt⟩ ρ h a w→(rs.mapM (res1 a.tmps)).run P w = .ok vs w
theorem loadVar_run (hT : TbOk P T) (S : SR X θ hp h) {t : Nat} {ty : TypeId} {a : AV} (ha : RV θ a (ρ t)) (hn : (ldQ T ty).f a hp ≠ .er) :
    ∃ V p, ρ t = .pointer (some p) ∧ RV θ ((ldQ T ty).f a hp) V ∧ ∀ w : World, w.heap = h → (loadVar ty p).run P w = .ok V w := by
  obtain ⟨V, h1, h2⟩ := ldQ_ok (C := ⟨P, default, 0⟩) (ρ := ρ) (ty := 0) (x := .tmp t) hT S ha hn
  have hp' : ∃ p, ρ t = .pointer (some p) := by
    cases a <;> first
      | (exfalso; apply hn; unfold ldQ; cases aggT T ty <;> cases sclT T ty <;> rfl)
      | skip
    obtain ⟨b, o0, tt, hr, e⟩ := ha.ra (v := .p _ _) trivial
    exact ⟨_, e⟩
  obtain ⟨p, hp'⟩ := hp'
  refine ⟨V, p, hp', h2, fun w hw => ?_⟩
  have := h1 w hw "" #[] none none
  have e1 : ev ρ (.tmp t) = .pointer (some p) := hp'
  simp only [execOp, e1, Instr.loadAt, Instr.sureAddr, Sem.run_bind, Sem.run_pure, Result.andThen_ok] at this
  revert this
  cases hl : (loadVar ty p).run P w with
  | ok v w' => intro this; simp only [Result.andThen_ok] at this; injection this with e1 e2; injection e1 with e1; subst e1; subst e2; rfl
  | _ => intro this; cases this
def RVl (θ:Th):List AV→List Value→Prop
 | [],vs=>vs = []
 | a :: l,vs=>∃ V r,vs = V :: r∧RV θ a V∧RVl θ l r
theorem RVl.rvs:∀ {l:List AV} {vs:List Value},RVl θ l vs→okAs l = true→RVs θ l vs
 | [],_,h,_=>h
 | a :: l,_,⟨V,r,e,h1,h2⟩,ho=>by
  obtain ⟨o1,o2⟩:=okAs_cons ho
  exact ⟨V,r,e,okA_rv1 h1 o1,RVl.rvs h2 o2⟩
theorem RVl.cons {a:AV} {l:List AV} {V:Value} {vs:List Value} (h:RV θ a V) (h':RVl θ l vs):RVl θ (a :: l) (V :: vs):=⟨V,vs,rfl,h,h'⟩
theorem RsRun.cons {r:ResultVar} {rs:List ResultVar} {V:Value} {vs:List Value} (h1:∀ a w,St ⟨P,w0,nt⟩ ρ h a w→(res1 a.tmps r).run P w = .ok V w) (h2:RsRun P w0 nt ρ h rs vs):RsRun P w0 nt ρ h (r :: rs) (V :: vs):=by
 intro a w s
 have e1:=h1 a w s
 have e2:=h2 a w s
 rw [List.mapM_cons]
 simp only [Sem.run_bind,e1,Result.andThen_ok,e2,Sem.run_pure]
theorem kR_ok (hX:CxOk X) (hT:TbOk P T) (S:SR X θ hp h) {e:E} (he:RE θ e ρ):∀ (rs:List ResultVar) {k:List AV→Ans},X.G ((kR T rs).f e hp k)→∃ l vs,RVl θ l vs∧RsRun P w0 nt ρ h rs vs∧X.G (k l)
 | [],k,g=>⟨[],[],rfl,fun a w s=>rfl,g⟩
 | .tmp t :: rs,k,g=>by
  have g:X.G (frH ((gT t).f e) fun v=>(kR T rs).f e hp fun l=>k (v :: l)):=g
  obtain ⟨hn,g⟩:=frH_ok hX.gd g
  obtain ⟨l,vs,h1,h2,g⟩:=kR_ok hX hT S he rs g
  exact ⟨_,ρ t :: vs,(gT_ok he hn).elim (fun h=>RVl.cons (.inl h) h1) (fun h=>RVl.cons (.inr h) h1),RsRun.cons (fun a w s=>by simp only [res1,Sem.run_pure,s.env t]) h2,g⟩
 | .cell c t :: rs,k,g=>by
  have g:X.G (frV ((ldQ T t).f ((gT c).f e) hp) fun v=>(kR T rs).f e hp fun l=>k (v :: l)):=g
  obtain ⟨hn,g⟩:=frV_ok hX.gd g
  obtain ⟨l,vs,h1,h2,g⟩:=kR_ok hX hT S he rs g
  have hne:(gT c).f e ≠ .er:=by intro e1; rw [e1,ldQ_er] at hn; exact hn rfl
  obtain ⟨V,p,e0,hv,hrun⟩:=loadVar_run hT S (gT_ok he hne) hn
  refine ⟨_,V :: vs,RVl.cons hv h1,RsRun.cons (fun a w s=>?_) h2,g⟩
  have e2:=hrun w s.heap
  simp only [res1,Sem.run_bind,s.env c,e0,asAddr,Sem.run_pure,Result.andThen_ok,e2]
theorem results_run {fn:Func} {vs:List Value} (h2:RsRun P w0 nt ρ h fn.results.toList vs) {a:Act} {w:World} (s:St ⟨P,w0,nt⟩ ρ h a w):
  (results fn a.tmps).run P w = .ok (if hh:vs.toArray.size = 1 then vs.toArray[0] else .tuple vs.toArray) w:=by
 have e:=h2 a w s
 have ef:results fn a.tmps = (do
  let vs ← fn.results.mapM (res1 a.tmps)
  pure (if h:vs.size = 1 then vs[0] else .tuple vs)):=by
  unfold results
  congr 1
 rw [ef,Array.mapM_eq_mapM_toList]
 simp only [Sem.run_bind,Sem.run_map,e,Result.andThen_ok,Sem.run_pure]
theorem reK_ok (hX:CxOk X) (hT:TbOk P T) {fn:Func} {R:Value→H→Prop} {q:K1} (S:SR X θ hp h) {e:E} (he:RE θ e ρ) {ex:Ex} (g:X.G (reK T fn.results.toList q ex e hp)) (hR:∀ a w,RV θ a w→X.G (q a hp)→R w h):
  QN ⟨P,w0,nt⟩ (bodyPost P fn (RetOk w0 R)) (exX ex) ρ h:=by
 have main:X.G ((kR T fn.results.toList).f e hp fun l=>tupK l fun v=>q v hp)→∀ a w,St ⟨P,w0,nt⟩ ρ h a w→a.defers = []∧∃ v,(results fn a.tmps).run P w = .ok v w∧RetOk w0 R (.returned v) w:=by
  intro g a w s
  obtain ⟨l,vs,h1,h2,g⟩:=kR_ok (w0:=w0) (nt:=nt) hX hT S he _ g
  refine ⟨s.defers,_,results_run h2 s,_,rfl,s.tape,s.os,s.output,?_⟩
  rw [s.heap]
  have multi:l.length ≠ 1→X.G (bz (okAs l) (q (.t l) hp) (.er 63))→R (if hh:vs.toArray.size = 1 then vs.toArray[0] else .tuple vs.toArray) h:=by
   intro hl g
   obtain ⟨c,g⟩:=bz_ok hX.gd g
   have hr:=h1.rvs c
   have hlen:∀ {l:List AV} {vs:List Value},RVs θ l vs→vs.length = l.length:=by
    intro l
    induction l with
    | nil=>intro vs h; rw [show vs = [] from h]; rfl
    | cons a l ih=>intro vs ⟨V,r,e,_,h2⟩; subst e; simp [ih h2]
   rw [dif_neg (by rw [List.size_toArray,hlen hr]; exact hl)]
   exact hR _ _ (.inr ⟨l,vs,rfl,rfl,hr⟩) g
  match l,h1,g,multi with
  | [],h1,g,multi=>exact multi (by simp) g
  | [v],⟨V,r,e1,hv,hr⟩,g,_=>
   have hr:r = []:=hr
   subst hr; subst e1
   obtain ⟨_,g⟩:=frH_ok hX.gd (show X.G (frH v fun v=>q v hp) from g)
   exact hR _ _ hv g
  | a :: b :: l,h1,g,multi=>exact multi (by simp) g
 cases ex with
 | n=>exact fun a w s=>main g a w s
 | r=>exact fun a w s=>main g a w s
 | x id=>exact (hX.gd.er _ g).elim
 | g l=>exact (hX.gd.er _ g).elim
end
section
variable {P:Program} {X:Cx} {T:Tb} {θ:Th} {hp:Hp} {h:H}
theorem env0_snoc (pre:List Value) (V:Value):Go.Sh.env0 (pre ++ [V]) = up (Go.Sh.env0 pre) pre.length V:=by
 funext i
 unfold Go.Sh.env0 up
 by_cases hi:i = pre.length
 ·subst hi; simp
 ·have hb:Nat.beq i pre.length = false:=by
   cases c:Nat.beq i pre.length with
   | true=>exact absurd (beq_ok c) hi
   | false=>rfl
  simp only [List.getD_eq_getElem?_getD,hb,cond_false]
  rcases Nat.lt_or_ge i pre.length with h | h
  ·rw [List.getElem?_append_left h]
  ·rw [List.getElem?_eq_none (by simp; omega),List.getElem?_eq_none h]
theorem setA_ok (hX:CxOk X) {nt:Nat} (hnt:nt≤256) {k:E→Ans}:∀ {l:List AV} {vs pre:List Value} {e:E},RVs θ l vs→RE θ e (Go.Sh.env0 pre)→pre.length≤nt→X.G (setA l pre.length nt e k) →
  (pre ++ vs).length≤nt∧∃ e',RE θ e' (Go.Sh.env0 (pre ++ vs))∧X.G (k e')
 | [],vs,pre,e,hv,he,hl,g=>by
  have:vs = []:=hv
  subst this
  rw [List.append_nil]
  exact ⟨hl,e,he,g⟩
 | a :: l,_,pre,e,⟨V,r,e1,h1,h2⟩,he,hl,g=>by
  subst e1
  have g:X.G (bz (Nat.ble (Nat.add pre.length 1) nt) (frH a fun v=>(sE pre.length).f e v fun e=>setA l (Nat.add pre.length 1) nt e k) (.er 55)):=g
  obtain ⟨c,g⟩:=bz_ok hX.gd g
  have c:pre.length + 1≤nt:=ble_ok c
  obtain ⟨_,g⟩:=frH_ok hX.gd g
  rw [sE_eq] at g
  have he':=he.set (d:=pre.length) (by omega) h1.toRV
  rw [← env0_snoc] at he'
  have hlen:(pre ++ [V]).length = pre.length + 1:=by simp
  have g:X.G (setA l (pre ++ [V]).length nt (eSet e pre.length a) k):=by rw [hlen]; exact g
  have:=setA_ok hX hnt h2 he' (by rw [hlen]; exact c) g
  rwa [List.append_assoc] at this
theorem re0:RE θ Vm.env0 (Go.Sh.env0 []):=fun t _ _=>by
 rw [eGet_env0]; exact RV.undef
def Res (X:Cx) (θ:Th) (hp:Hp) (q:K1) (w:Value) (h':H):Prop:=∃ θ' hp' a,SR X θ' hp' h'∧Ext θ θ' (tor hp.nx)∧tor hp.nx≤tor hp'.nx∧RV θ' a w∧X.G (q a hp')
theorem body_ok {cl:CallT} (hcl:CallOk P cl) (hT:TbOk P T) (hX:CxOk X) {f:Nat} {fn:Func} {c:Code} (hdr:∀ w0,DrawOk ⟨P,w0,fn.ntmps⟩ T cl) (hf:T.func f = some fn) (hb:fn.body = some c) (hnt:fn.ntmps≤256) {args:List AV} {vals:List Value} {q:K1} {hp0:Hp}
  (S:SR X θ hp h) (hv:RVs θ args vals) (g:X.G (setA args 0 fn.ntmps Vm.env0 fun e=>(cC T fn.ntmps 400 c).f cl e hp (reK T fn.results.toList q))):
  FnOk P f∧CallsH P f vals.toArray h (Res X θ hp q):=by
 have hfn:=hT.func _ _ hf
 refine ⟨⟨fn,hfn,hT.name _ _ hf,by rw [hb]; rfl⟩,?_⟩
 obtain ⟨hl,e',he',g⟩:=setA_ok (pre:=[]) hX hnt hv re0 (Nat.zero_le _) g
 refine CallsH.of fn.ntmps hfn hb rfl (Nat.ble_eq_true_of_le hl) fun w0=>?_
 refine cC_ok (C:=⟨P,w0,fn.ntmps⟩) hcl (hdr w0) hX hT hnt 400 c S he' g ?_
 intro ex θ' hp' h' e2 ρ' S' hE hle he2 g2
 exact reK_ok hX hT S' he2 g2 fun a w ha ga=>⟨θ',hp',a,S',hE,hle,ha,ga⟩
end
theorem beqX_ok {x y:AV} (h:beqX x y = true):x = y:=by
 unfold beqX at h
 split at h <;> first
  | rfl
  | (cases h; done)
  | (rw [xb_eq] at h; rw [eq_of_beq h])
  | (rw [beq_ok h])
  | (rw [tor_inj (beq_ok h)])
  | (obtain ⟨a,b⟩:=an_ok h; first
    | (rw [beq_ok a,beq_ok b])
    | (rw [tor_inj (beq_ok a),beq_ok b])
    | (obtain ⟨c,d⟩:=an_ok a; first
      | (rw [tor_inj (beq_ok c),beq_ok d,beq_ok b])
      | (obtain ⟨e,f⟩:=an_ok b; first
        | (rw [tor_inj (beq_ok c),beq_ok d,beq_ok e,beq_ok f])
        | (obtain ⟨i,j⟩:=an_ok f; rw [tor_inj (beq_ok c),beq_ok d,beq_ok e,beq_ok i,beq_ok j]))))
theorem beqC_ok:∀ {l m:CL AV},beqC l m = true→l = m
 | .nil,.nil,_=>rfl
 | .nil,.cons _ _ _,h=>by cases h
 | .cons _ _ _,.nil,h=>by cases h
 | .cons w v l,.cons w2 v2 m,h=>by
  obtain ⟨a,b⟩:=an_ok (show an (Nat.beq w w2) (an (beqX v v2) (beqC l m)) = true from h)
  obtain ⟨c,d⟩:=an_ok b
  rw [beq_ok a,beqX_ok c,beqC_ok d]
theorem beqV1_ok {x y:AV} (h:beqV1 x y = true):x = y:=by
 unfold beqV1 at h
 split at h
 ·rw [beqC_ok h]
 ·exact beqX_ok h
theorem beqL_ok:∀ {l m:List AV},beqL l m = true→l = m
 | [],[],_=>rfl
 | [],_ :: _,h=>by cases h
 | _ :: _,[],h=>by cases h
 | v :: l,v2 :: m,h=>by
  obtain ⟨a,b⟩:=an_ok (show an (beqV1 v v2) (beqL l m) = true from h)
  rw [beqV1_ok a,beqL_ok b]
theorem beqV_ok {x y:AV} (h:beqV x y = true):x = y:=by
 unfold beqV at h
 split at h
 ·rw [beqL_ok h]
 ·exact beqV1_ok h
def PX (X:Cx) (hp:Hp) (v:AV):Cx:=⟨X.U,X.h0,fun r=>if tor r < tor hp.nx then some (getH hp r) else none,some (tor hp.nx),fun a=>∃ hf,a = .ok v hf⟩
theorem PX_ok {X:Cx} (hX:CxOk X) (hp:Hp) (v:AV):CxOk (PX X hp v):=by
 refine ⟨⟨fun n h=>by obtain ⟨hf,h⟩:=h; cases h⟩,fun _ a b h=>?_,fun a b h=>(by obtain ⟨hf,h⟩:=h; cases h),hX.gl⟩
 obtain ⟨hf,h⟩:=h
 cases a with
 | er n=>cases b <;> cases h
 | br _ _=>cases b <;> cases h
 | ok x h1=>
  cases b with
  | er n=>cases h
  | br _ _=>cases h
  | ok y h2=>
   have h:bz (beqV x y) (.ok x h1) (.er 31) = .ok v hf:=h
   cases c:beqV x y with
   | false=>rw [c] at h; cases h
   | true=>
    rw [c] at h
    have h:Ans.ok x h1 = .ok v hf:=h
    injection h with e1 e2
    have:=beqV_ok c
    subst this; subst e1; subst e2
    exact ⟨⟨_,rfl⟩,⟨_,rfl⟩⟩
theorem PX_in {X:Cx} {θ:Th} {hp:Hp} {h:H} (S:SR X θ hp h) (v:AV):SR (PX X hp v) θ ⟨hp.rows,hp.nx,some (tor hp.nx)⟩ h:=by
 refine ⟨S.rows,S.dist,S.fresh,S.own,S.keepU,fun r row hr=>?_,rfl,S.blk⟩
 have hr:(if tor r < tor hp.nx then some (getH hp r) else none) = some row:=hr
 split at hr
 ·rename_i hlt; injection hr with hr; exact ⟨hr,hlt,.inr ⟨_,rfl,hlt⟩⟩
 ·cases hr
theorem PX_out {X:Cx} {θ θ':Th} {hp hp':Hp} {h h':H} {v:AV} (S:SR X θ hp h) (S':SR (PX X hp v) θ' hp' h') (hE:Ext θ θ' (tor hp.nx)):SR X θ hp h':=by
 have hrow:∀ r x,θ r = some x→getH hp' r = getH hp r:=fun r x hr=>by
  have:=S.fresh r x hr
  exact (S'.kept r (getH hp r) (by show (if tor r < tor hp.nx then some (getH hp r) else none) = _; rw [if_pos this])).1
 refine ⟨fun r x hr=>?_,S.dist,S.fresh,S.own,S'.keepU,S.kept,S.ro,fun r x hr=>S'.blk r x (hE.1 r x hr)⟩
 have h1:=S.rows r x hr
 have h2:=S'.rows r x (hE.1 r x hr)
 rw [hrow r x hr] at h2
 exact h1.back hE.1 h2
theorem fr1_ok {θ θ':Th} {v:AV} {w:Value} (hf:fr1 v = true) (h:RV1 θ' v w):RV1 θ v w:=by
 have at_:Atm' v→(RA θ' v w→RA θ v w)→RV1 θ v w:=fun ha hh=>.inl (.inl (hh (RV.ra h.toRV ha)))
 unfold fr1 at hf
 split at hf <;> first | (cases hf; done) | (exact at_ trivial id) | skip
 ·rename_i n m x
  obtain ⟨vs,e,hc⟩:=(RV1.toRV h).agg
  subst e
  refine .inr (.inl ⟨_,vs,rfl,rfl,?_⟩)
  obtain ⟨v1,v2,e,h1,h2⟩:=hc
  refine ⟨v1,v2,e,?_,h2⟩
  rcases h1 with h1 | ⟨_,_,U,_,hU⟩
  ·exact .inl h1
  ·exact hU.noB.elim
 ·obtain ⟨vs,e,hc⟩:=(RV1.toRV h).agg
  subst e
  exact .inr (.inl ⟨_,vs,rfl,rfl,hc⟩)
theorem free_ok {θ θ':Th} {v:AV} {w:Value} (hf:free v = true) (h:RV θ' v w):RV θ v w:=by
 unfold free at hf
 split at hf
 ·rename_i l
  obtain ⟨vs,e,hr⟩:=h.tup
  subst e
  refine .inr ⟨l,vs,rfl,rfl,?_⟩
  have go:∀ {l:List AV} {vs:List Value},l.all fr1 = true→RVs θ' l vs→RVs θ l vs:=by
   intro l
   induction l with
   | nil=>intro vs _ h; exact h
   | cons a l ih=>
    intro vs ha ⟨V,r,e,h1,h2⟩
    rw [List.all_cons,Bool.and_eq_true] at ha
    exact ⟨V,r,e,fr1_ok ha.1 h1,ih ha.2 h2⟩
  exact go hf hr
 ·rename_i hn
  exact (fr1_ok hf (h.rv1 fun l e=>hn l e)).toRV
section
variable {P:Program} {T:Tb}
theorem cFn_ok {cl:CallT} (hcl:CallOk P cl) (hdr:∀ w0 nt,nt≤256→DrawOk ⟨P,w0,nt⟩ T cl) (hT:TbOk P T) {pu:Bool} {f:Nat} {fn:Func} (hf:T.func f = some fn) {X:Cx} (hX:CxOk X) {θ:Th} {hp:Hp} {h:H} {args:List AV} {vals:List Value} {q:K1}
  (S:SR X θ hp h) (hv:RVs θ args vals) (g:X.G ((cFn T pu fn).f cl args hp q)):FnOk P f∧CallsH P f vals.toArray h (Res X θ hp q):=by
 unfold cFn at g
 cases hb:fn.body with
 | none=>simp only [hb] at g; exact (hX.gd.er _ g).elim
 | some c=>
  simp only [hb] at g
  cases hn:Nat.ble fn.ntmps 256 with
  | false=>simp only [hn] at g; exact (hX.gd.er _ g).elim
  | true=>
   simp only [hn,cond_true] at g
   have hnt:=ble_ok hn
   cases pu with
   | false=>exact body_ok (hp0:=hp) hcl hT hX (fun w0=>hdr w0 _ hnt) hf hb hnt S hv g
   | true=>
    have g:X.G (puK (setA args 0 fn.ntmps Vm.env0 fun e=>(cC T fn.ntmps 400 c).f cl e ⟨hp.rows,hp.nx,some (tor hp.nx)⟩ (reK T fn.results.toList fun v h=>.ok v h)) hp q):=g
    revert g
    cases ha:setA args 0 fn.ntmps Vm.env0 fun e=>(cC T fn.ntmps 400 c).f cl e ⟨hp.rows,hp.nx,some (tor hp.nx)⟩ (reK T fn.results.toList fun v h=>.ok v h) with
    | er n=>intro g; exact (hX.gd.er _ g).elim
    | br _ _=>intro g; exact (hX.gd.er _ g).elim
    | ok v hf'=>
     intro g
     have g:X.G (bz (free v) (frH v fun v=>q v hp) (.er 57)):=g
     obtain ⟨c1,g⟩:=bz_ok hX.gd g
     obtain ⟨_,g⟩:=frH_ok hX.gd g
     obtain ⟨h1,h2⟩:=body_ok (hp0:=hp) hcl hT (PX_ok hX hp v) (fun w0=>hdr w0 _ hnt) hf hb hnt (PX_in S v) hv (q:=fun v h=>.ok v h) ⟨hf',ha⟩
     refine ⟨h1,h2.mono ?_⟩
     rintro w h' ⟨θ',hp',a,S',hE,hle,hv',hg⟩
     obtain ⟨hf2,hg⟩:=hg
     have hg:Ans.ok a hp' = .ok v hf2:=hg
     injection hg with e1 e2
     subst e1
     exact ⟨θ,hp,a,PX_out S S' hE,Ext.refl _ _,Nat.le_refl _,free_ok c1 hv',g⟩
def HookOk (P:Program) (f:Nat) (hk:Hook):Prop:=
 ∀ (X:Cx),CxOk X→∀ (θ:Th) (hp:Hp) (h:H) (args:List AV) (vals:List Value) (q:K1),SR X θ hp h→RVs θ args vals→X.G (hk args hp q)→FnOk P f∧CallsH P f vals.toArray h (Res X θ hp q)
theorem rn_ok {G:Cfg} (hT:TbOk P G.P) (hh:∀ f hk,G.hook f = some hk→HookOk P f hk) (hdr:∀ cl,CallOk P cl→∀ w0 nt,nt≤256→DrawOk ⟨P,w0,nt⟩ G.P cl):∀ n,CallOk P (rn G n)
 | 0=>fun X hX θ hp h f args vals q S hv g=>(hX.gd.er _ g).elim
 | n + 1=>fun X hX θ hp h f args vals q S hv g=>by
  have ih:=rn_ok hT hh hdr n
  have g:X.G ((cF G f).f (rn G n) args hp q):=g
  unfold cF at g
  cases hk:G.hook f with
  | some k=>
   simp only [hk] at g
   exact hh f k hk X hX θ hp h args vals q S hv g
  | none=>
   simp only [hk] at g
   cases hf:G.P.func f with
   | none=>simp only [hf] at g; exact (hX.gd.er _ g).elim
   | some fn=>
    simp only [hf] at g
    exact cFn_ok ih (hdr _ ih) hT hf hX S hv g
end
def Ag (e e':E) (x:Operand):Prop:=(gO x).f e = (gO x).f e'
theorem Ag.tmp {e e':E} {x:Operand} (h:∀ t,x = .tmp t→(gT t).f e = (gT t).f e'):Ag e e' x:=by
 cases x with
 | tmp t=>exact h t rfl
 | const v=>rfl
 | global g=>rfl
 | func f=>rfl
section
variable {T:Tb} {e e':E}
theorem gL_ag:∀ {l:List Operand},(∀ x ∈ l,Ag e e' x)→(gL l).f e = (gL l).f e'
 | [],_=>rfl
 | x :: l,h=>by
  show (gO x).f e :: (gL l).f e = (gO x).f e' :: (gL l).f e'
  rw [show (gO x).f e = (gO x).f e' from h x (by simp),gL_ag fun y hy=>h y (by simp [hy])]
theorem gM_ag {o:Option Operand} (h:∀ x,o = some x→Ag e e' x):(gM o).f e = (gM o).f e':=by
 cases o with
 | none=>rfl
 | some x=>show some ((gO x).f e) = some ((gO x).f e'); rw [show (gO x).f e = (gO x).f e' from h x rfl]
theorem filQ_ag {L:Nat} {pl:Nat→Option (Nat×Nat)}:∀ {ps:List (Nat×Operand)},(∀ p ∈ ps,Ag e e' p.2)→∀ cs,(filQ L pl ps).f e cs = (filQ L pl ps).f e' cs
 | [],_,_=>rfl
 | p :: ps,h,cs=>by
  have ih:=filQ_ag (L:=L) (pl:=pl) (ps:=ps) fun y hy=>h y (by simp [hy])
  have hx:(gO p.2).f e = (gO p.2).f e':=h p (by simp)
  have hc:filQ L pl (p :: ps) = (match pl p.1 with | some (o,sz)=>bif Nat.ble (Nat.add o sz) L then ⟨fun e cs=>fil1 ((gO p.2).f e) cs o sz fun cs=>(filQ L pl ps).f e cs⟩ else ⟨fun _ _=>.er⟩ | none=>⟨fun _ _=>.er⟩):=rfl
  rw [hc]
  cases pl p.1 with
  | none=>rfl
  | some y=>
   obtain ⟨o,sz⟩:=y
   cases c:Nat.ble (Nat.add o sz) L with
   | false=>simp only [c]; rfl
   | true=>
    simp only [c,cond_true,hx]
    congr 1
    funext cs
    exact ih cs
theorem bldQ_ag {t:Nat} {ps:List (Nat×Operand)} (h:∀ p ∈ ps,Ag e e' p.2):(bldQ T t ps).f e = (bldQ T t ps).f e':=by
 have b2:∀ pl,(bld2 T t pl ps).f e = (bld2 T t pl ps).f e':=fun pl=>by
  unfold bld2
  cases zOk T t with
  | false=>rfl
  | true=>exact filQ_ag h _
 unfold bldQ
 split
 ·split
  ·exact b2 _
  ·rfl
 ·rename_i el _
  cases Nat.ble 1 (szT T el) with
  | false=>rfl
  | true=>exact b2 _
 ·rfl
theorem cQ_ag {o:Op} {q:Qf} (hq:cQ T o = some q) (ha:∀ x ∈ o.operands.toList,Ag e e' x) (hp:Hp):q.f e hp = q.f e' hp:=by
 have a:∀ x,x ∈ o.operands.toList→(gO x).f e = (gO x).f e':=ha
 unfold cQ at hq
 split at hq <;> first | (cases hq; done) | skip
 case h_4 t ps=>
  injection hq with hq; subst hq
  exact bldQ_ag fun p hp=>ha p.2 (by simp only [Op.operands,List.mem_map]; exact ⟨p,hp,rfl⟩)
 case h_10=>
  split at hq
  ·injection hq with hq; subst hq
   rename_i fs cs f _
   show mkF _ ((gL fs.toList).f e) ((gL cs.toList).f e) = mkF _ ((gL fs.toList).f e') ((gL cs.toList).f e')
   rw [gL_ag fun x hx=>ha x (by simp [Op.operands]; simp at hx; exact .inl hx),gL_ag fun x hx=>ha x (by simp [Op.operands]; simp at hx; exact .inr hx)]
  ·injection hq with hq; subst hq; rfl
 case h_11 t x l h m=>
  split at hq
  ·injection hq with hq; subst hq; rfl
  ·injection hq with hq; subst hq
   show (slQ (tkT T t)).f ((gO x).f e) ((gM l).f e) ((gM h).f e) ((gM m).f e) hp = (slQ (tkT T t)).f ((gO x).f e') ((gM l).f e') ((gM h).f e') ((gM m).f e') hp
   rw [a x (by simp [Op.operands]),gM_ag fun y hy=>ha y (by subst hy; simp [Op.operands]),gM_ag (o:=h) fun y hy=>ha y (by subst hy; simp [Op.operands]),gM_ag (o:=m) fun y hy=>ha y (by subst hy; simp [Op.operands])]
 all_goals first
  | (injection hq with hq; subst hq; simp [Op.operands] at a; simp only [a]; done)
  | skip
 ·split at hq
  ·cases hq
  ·injection hq with hq; subst hq
   simp [Op.operands] at a
   rename_i s d x _ _
   cases isOt (tkT T s) <;> simp only [cond_true,cond_false,a]
 ·split at hq
  ·injection hq with hq; subst hq; simp [Op.operands] at a; simp only [a]
  ·injection hq with hq; subst hq; rfl
 ·split at hq
  ·injection hq with hq; subst hq; simp [Op.operands] at a; simp only [a]
  ·injection hq with hq; subst hq; rfl
 ·split at hq
  ·rename_i h1 h2
   injection hq with hq; subst hq; simp [Op.operands,Call.operands,list1 h1] at a; simp only [a]
  ·injection hq with hq; subst hq; rfl
 ·split at hq
  ·rename_i h1
   injection hq with hq; subst hq; simp [Op.operands,Call.operands,list2 h1] at a; simp only [a]
  ·injection hq with hq; subst hq; rfl
 ·split at hq
  ·rename_i h1
   injection hq with hq; subst hq; simp [Op.operands,Call.operands,list2 h1] at a; simp only [a]
  ·injection hq with hq; subst hq; rfl
theorem fldQ_hp {t o:Nat} {x:AV} (hp hp':Hp):(fldQ T t o).f x hp = (fldQ T t o).f x hp':=by
 unfold fldQ
 cases aggT T t <;> cases sclT T t <;> rfl
theorem cQ_hp {o:Op} {q:Qf} (hq:cQ T o = some q) (hr:isRd o = false) (hp hp':Hp):q.f e hp = q.f e hp':=by
 unfold cQ at hq
 split at hq <;> first | (cases hq; done) | (cases hr; done) | skip
 all_goals first
  | (injection hq with hq; subst hq; rfl)
  | skip
 ·split at hq <;> (injection hq with hq; subst hq; rfl)
 ·split at hq <;> (injection hq with hq; subst hq; rfl)
 ·split at hq
  ·injection hq with hq; subst hq; exact fldQ_hp hp hp'
  ·injection hq with hq; subst hq; rfl
end
section
variable {T:Tb} {e e':E} {cl:CallT} {hp:Hp} {q:K1}
theorem celK_ag {sz:Nat}:∀ {ps:List (Nat×Operand)},(∀ p ∈ ps,Ag e e' p.2)→∀ k,(celK sz ps).f e k = (celK sz ps).f e' k
 | [],_,_=>rfl
 | p :: ps,h,k=>by
  show (celK sz ps).f e (fun g=>frH ((gO p.2).f e) fun v=>cel v sz g k) = (celK sz ps).f e' (fun g=>frH ((gO p.2).f e') fun v=>cel v sz g k)
  rw [show (gO p.2).f e = (gO p.2).f e' from h p (by simp)]
  exact celK_ag (fun y hy=>h y (by simp [hy])) _
theorem cE_ag {o:Op} (ha:∀ x ∈ o.operands.toList,Ag e e' x):(cE T o).f cl e hp q = (cE T o).f cl e' hp q:=by
 have a:∀ x,x ∈ o.operands.toList→(gO x).f e = (gO x).f e':=ha
 unfold cE
 split
 ·simp [Op.operands] at a
  rename_i t x y
  unfold cSt
  cases aggT T t <;> cases an (sclT T t) (Nat.beq (szT T t) 1) <;> simp only [cond_true,cond_false,a,erx]
 ·simp [Op.operands] at a
  simp only [a]
 ·rename_i t
  unfold alA
  cases zOk T t <;> rfl
 ·rename_i t n ps
  have ha':∀ p ∈ ps.toList,Ag e e' p.2:=fun p hp=>ha p.2 (by simp only [Op.operands,List.mem_map]; exact ⟨p,hp,rfl⟩)
  unfold bsA
  split
  ·rename_i t' sz _
   cases an (zOk T t') (an (Nat.ble 1 sz) (an (Nat.ble (Nat.mul n sz) 16777216) (covr ps.toList 0 n))) with
   | false=>rfl
   | true=>exact celK_ag ha' _
  ·rfl
 ·rename_i t
  unfold mmA
  split
  ·split <;> rfl
  ·rfl
 ·rename_i t n c
  simp [Op.operands] at a
  unfold msA
  split
  ·rename_i t' sz _
   cases an (zOk T t') (an (Nat.ble 1 sz) (byT T t')) with
   | false=>rfl
   | true=>
    simp only [cond_true,a]
    cases (gO n).f e' <;> first | rfl | simp only [a]
  ·rfl
 ·rename_i t m k v
  simp [Op.operands] at a
  unfold muA
  split
  ·simp only [a]
   cases (gO m).f e' <;> first | rfl | simp only [a]
  ·rfl
 ·rename_i t m k v
  simp [Op.operands] at a
  unfold muA
  split
  ·simp only [a]
   cases (gO m).f e' <;> first | rfl | simp only [a]
  ·rfl
 ·rename_i t m k
  simp [Op.operands] at a
  unfold meA
  split
  ·simp only [a]
   cases (gO m).f e' <;> first | rfl | simp only [a]
  ·rfl
 ·simp [Op.operands] at a
  unfold esA
  simp only [a]
 ·simp [Op.operands] at a
  unfold rgA
  split <;> simp only [a,erx]
 ·simp [Op.operands] at a
  unfold nxA
  simp only [a]
 ·simp [Op.operands] at a
  rename_i s d x
  split
  ·rename_i e0 sz _
   split
   ·unfold cvM
    cases an (Nat.beq s d) (an (Nat.beq sz 1) (u8T T e0)) <;> simp only [cond_true,cond_false,a,erx]
   ·unfold cvL
    split
    ·cases an (Nat.beq sz 1) (u8T T e0) <;> simp only [cond_true,cond_false,a,erx]
    ·rfl
  ·rfl
 ·rename_i f xs ts
  show clA cl f ((gL xs.toList).f e) hp q = clA cl f ((gL xs.toList).f e') hp q
  rw [gL_ag fun x hx=>ha x (by simp [Op.operands,Call.operands]; simp at hx; exact .inr hx)]
 ·rename_i g xs ts _
  have h1:=gL_ag (l:=xs.toList) fun x hx=>ha x (by simp [Op.operands,Call.operands]; simp at hx; exact .inr hx)
  have h2:=a g (by simp [Op.operands,Call.operands])
  simp only [h2]
  cases (gO g).f e' <;> first
   | rfl
   | (simp only [h1])
 ·split
  ·rename_i h1 h2
   rename_i _ _ _ _ T0 U
   simp [Op.operands,Call.operands,list2 h1] at a
   unfold apA
   split
   ·rename_i t' sz _
    cases an (zOk T t') (an (Nat.ble 1 sz) (an (byT T t') (apT (tkT T U)))) <;> simp only [cond_true,cond_false,a,erx]
   ·rfl
  ·rfl
 ·split
  ·rename_i h1 h2
   simp [Op.operands,Call.operands,list2 h1] at a
   unfold cpE
   split
   ·rename_i sz _
    cases Nat.ble 1 sz <;> simp only [cond_true,cond_false,a,erx]
   ·rfl
  ·rfl
 ·split
  ·rename_i h1 h2
   simp [Op.operands,Call.operands,list1 h1] at a
   unfold clE
   split
   ·simp only [a]
   ·rename_i t' sz _
    cases an (zOk T t') (Nat.ble 1 sz) <;> simp only [cond_true,cond_false,a,erx]
   ·rfl
  ·rfl
 ·split
  ·rename_i h1 h2
   simp [Op.operands,Call.operands,list2 h1] at a
   unfold dlE
   split <;> simp only [a,erx]
  ·rfl
 ·rfl
end
theorem tb_eq (m i:Nat):tb m i = m.testBit i:=by
 unfold tb
 have h:Nat.land (Nat.shiftRight m i) 1 = m / 2 ^ i % 2:=by
  show (m >>> i) &&& 1 = _
  rw [Nat.and_one_is_mod,Nat.shiftRight_eq_div_pow]
 rw [h,Nat.testBit_eq_decide_div_mod_eq]
 cases c:Nat.beq (m / 2 ^ i % 2) 1 with
 | true=>exact (decide_eq_true (beq_ok c)).symm
 | false=>exact (decide_eq_false (beq_no c)).symm
theorem tB_bit (i t:Nat):(bit i).testBit t = decide (i = t):=by
 unfold bit
 show (1 <<< i).testBit t = _
 rw [Nat.one_shiftLeft,Nat.testBit_two_pow]
theorem tB_lor (a b t:Nat):(Nat.lor a b).testBit t = (a.testBit t || b.testBit t):=Nat.testBit_or a b t
theorem tB_dif (m s t:Nat):(Nat.xor m (Nat.land m s)).testBit t = (m.testBit t && !s.testBit t):=by
 show (m ^^^ (m &&& s)).testBit t = _
 rw [Nat.testBit_xor,Nat.testBit_and]
 cases m.testBit t <;> cases s.testBit t <;> rfl
theorem land0 {a b:Nat} (h:Nat.beq (Nat.land a b) 0 = true) {t:Nat} (ha:a.testBit t = true):b.testBit t = false:=by
 have h0:a &&& b = 0:=beq_ok h
 have h1:(a &&& b).testBit t = false:=by rw [h0,Nat.zero_testBit]
 rw [Nat.testBit_and,ha] at h1
 exact h1
theorem landS {a b:Nat} (h:Nat.beq (Nat.land a b) a = true) {t:Nat} (ha:a.testBit t = true):b.testBit t = true:=by
 have h0:a &&& b = a:=beq_ok h
 have h1:(a &&& b).testBit t = true:=by rw [h0,ha]
 rw [Nat.testBit_and,ha] at h1
 exact h1
theorem depL_tb {l:List Edge} {t:Nat}:(depL l).testBit t = true ↔ ∃ e ∈ l,Region.binds .any e = true∧e.on = t:=by
 induction l with
 | nil=>show Nat.testBit 0 t = true ↔ _; simp
 | cons e l ih=>
  show (bif Region.binds .any e then Nat.lor (bit e.on) (depL l) else depL l).testBit t = true ↔ _
  cases c:Region.binds .any e with
  | false=>simp [c,ih]
  | true=>simp [c,tB_lor,tB_bit,ih]
theorem tmL_tb {l:List Nat} {t:Nat}:(tmL l).testBit t = true ↔ t ∈ l:=by
 induction l with
 | nil=>show Nat.testBit 0 t = true ↔ _; simp
 | cons x l ih=>
  show (Nat.lor (bit x) (tmL l)).testBit t = true ↔ _
  rw [tB_lor,tB_bit,List.mem_cons,Bool.or_eq_true,decide_eq_true_eq,ih]
  exact or_congr eq_comm Iff.rfl
theorem msk_tb {l:List IX} {mp:Nat} {g:IX→Nat} {t:Nat}:(msk l mp g).testBit t = true ↔ ∃ x ∈ l,mp.testBit x.i = true∧(g x).testBit t = true:=by
 induction l with
 | nil=>show Nat.testBit 0 t = true ↔ _; simp
 | cons x l ih=>
  show (bif tb mp x.i then Nat.lor (g x) (msk l mp g) else msk l mp g).testBit t = true ↔ _
  rw [tb_eq]
  cases c:mp.testBit x.i with
  | false=>simp [c,ih]
  | true=>simp [c,tB_lor,ih]
theorem anc_sub {S:Nat→Prop} {s:Nat} (hs:∀ t,s.testBit t = true→S t):∀ {l:List IX},(∀ x ∈ l,S x.i→∀ t,x.dep.testBit t = true→S t)→∀ t,(anc l s).testBit t = true→S t
 | [],_,t,h=>hs t h
 | x :: l,hl,t,h=>by
  have ih:=anc_sub hs (l:=l) fun y hy=>hl y (by simp [hy])
  have h:(bif tb (anc l s) x.i then Nat.lor (anc l s) x.dep else anc l s).testBit t = true:=h
  rw [tb_eq] at h
  cases c:(anc l s).testBit x.i with
  | false=>rw [c] at h; exact ih t h
  | true=>
   rw [c] at h
   simp only [cond_true,tB_lor,Bool.or_eq_true] at h
   rcases h with h | h
   ·exact ih t h
   ·exact hl x (by simp) (ih _ c) t h
theorem fnd_some {p:IX→Bool}:∀ {l:List IX} {x:IX},fnd p l = some x→x ∈ l∧p x = true
 | [],_,h=>by cases h
 | y :: l,x,h=>by
  have h:(bif p y then some y else fnd p l) = some x:=h
  cases c:p y with
  | true=>rw [c] at h; cases h; exact ⟨by simp,c⟩
  | false=>rw [c] at h; obtain ⟨h1,h2⟩:=fnd_some h; exact ⟨by simp [h1],h2⟩
theorem flt_eq {p:IX→Bool}:∀ {l:List IX},flt p l = l.filter p
 | []=>rfl
 | y :: l=>by
  show (bif p y then y :: flt p l else flt p l) = _
  rw [flt_eq (l:=l),List.filter_cons]
  cases p y <;> rfl
theorem allL_ok {p:IX→Bool}:∀ {l:List IX},allL p l = true→∀ x ∈ l,p x = true
 | [],_,_,h=>by cases h
 | y :: l,h,x,hx=>by
  obtain ⟨h1,h2⟩:=an_ok (show an (p y) (allL p l) = true from h)
  simp only [List.mem_cons] at hx
  rcases hx with rfl | hx
  ·exact h1
  ·exact allL_ok h2 x hx
theorem nt_eq (a:Bool):nt a = !a:=by cases a <;> rfl
theorem mkIXs_mem {P:Tb} {ops:Array Oper}:∀ {l:List Oper} {i:Nat} {x:IX},x ∈ mkIXs P ops l i ↔ ∃ j o,l[j]? = some o∧x = mkIX P ops (i + j) o
 | [],i,x=>by
  show x ∈ [] ↔ _
  simp
 | o :: l,i,x=>by
  show x ∈ mkIX P ops i o :: mkIXs P ops l (i + 1) ↔ _
  rw [List.mem_cons,mkIXs_mem (l:=l)]
  constructor
  ·rintro (rfl | ⟨j,o',h1,h2⟩)
   ·exact ⟨0,o,rfl,rfl⟩
   ·exact ⟨j + 1,o',by simpa using h1,by rw [h2]; congr 1; omega⟩
  ·rintro ⟨j,o',h1,h2⟩
   cases j with
   | zero=>simp at h1; subst h1; exact .inl h2
   | succ j=>exact .inr ⟨j,o',by simpa using h1,by rw [h2]; congr 1; omega⟩
def IXs (T:Tb) (ops:Array Oper):List IX:=mkIXs T ops ops.toList 0
theorem IXs_mem {T:Tb} {ops:Array Oper} {x:IX}:x ∈ IXs T ops ↔ ∃ o,ops[x.i]? = some o∧x = mkIX T ops x.i o:=by
 unfold IXs
 rw [mkIXs_mem]
 constructor
 ·rintro ⟨j,o,h1,h2⟩
  subst h2
  refine ⟨o,?_,?_⟩
  ·show ops[0 + j]? = some o
   rw [Nat.zero_add]; simpa using h1
  ·show mkIX T ops (0 + j) o = mkIX T ops (0 + j) o
   rfl
 ·rintro ⟨o,h1,h2⟩
  exact ⟨x.i,o,by simpa using h1,by rw [Nat.zero_add]; exact h2⟩
theorem IXs_of {T:Tb} {ops:Array Oper} {i:Nat} {o:Oper} (h:ops[i]? = some o):mkIX T ops i o ∈ IXs T ops:=IXs_mem.2 ⟨o,h,rfl⟩
section
variable {P:Tb} {nt:Nat} {ops:Array Oper} {cl:CallT}
theorem cSS_app:∀ {a b:List SS} {e:E} {hp:Hp} {k:E→Hp→Ans},(cSS P nt ops (a ++ b)).f cl e hp k = (cSS P nt ops a).f cl e hp fun e hp=>(cSS P nt ops b).f cl e hp k
 | [],_,_,_,_=>rfl
 | .x i :: a,b,e,hp,k=>by
  show (match ops[i]? with | some o=>(⟨fun cl e h k=>(cOp P nt ops o).f cl e h fun e h=>(cSS P nt ops (a ++ b)).f cl e h k⟩:Bo) | none=>⟨fun _ _ _ _=>.er 46⟩).f cl e hp k =
   (match ops[i]? with | some o=>(⟨fun cl e h k=>(cOp P nt ops o).f cl e h fun e h=>(cSS P nt ops a).f cl e h k⟩:Bo) | none=>⟨fun _ _ _ _=>.er 46⟩).f cl e hp fun e hp=>(cSS P nt ops b).f cl e hp k
  cases ops[i]? with
  | none=>rfl
  | some o=>
   show (cOp P nt ops o).f cl e hp (fun e h=>(cSS P nt ops (a ++ b)).f cl e h k) = (cOp P nt ops o).f cl e hp (fun e h=>(cSS P nt ops a).f cl e h fun e hp=>(cSS P nt ops b).f cl e hp k)
   congr 1
   funext e h
   exact cSS_app
 | .r i :: a,b,e,hp,k=>by
  show (match ops[i]? with | some o=>(⟨fun cl e h k=>(cR P ops o).f cl e h fun e h=>(cSS P nt ops (a ++ b)).f cl e h k⟩:Bo) | none=>⟨fun _ _ _ _=>.er 46⟩).f cl e hp k =
   (match ops[i]? with | some o=>(⟨fun cl e h k=>(cR P ops o).f cl e h fun e h=>(cSS P nt ops a).f cl e h k⟩:Bo) | none=>⟨fun _ _ _ _=>.er 46⟩).f cl e hp fun e hp=>(cSS P nt ops b).f cl e hp k
  cases ops[i]? with
  | none=>rfl
  | some o=>
   show (cR P ops o).f cl e hp (fun e h=>(cSS P nt ops (a ++ b)).f cl e h k) = (cR P ops o).f cl e hp (fun e h=>(cSS P nt ops a).f cl e h fun e hp=>(cSS P nt ops b).f cl e hp k)
   congr 1
   funext e h
   exact cSS_app
 | .bad :: a,_,_,_,_=>rfl
theorem cSS_x {G:Ans→Prop} (hG:Gd G) {i:Nat} {l:List SS} {e:E} {hp:Hp} {k:E→Hp→Ans} (g:G ((cSS P nt ops (.x i :: l)).f cl e hp k)):
  ∃ o,ops[i]? = some o∧G ((cOp P nt ops o).f cl e hp fun e h=>(cSS P nt ops l).f cl e h k):=by
 have g:G ((match ops[i]? with | some o=>(⟨fun cl e h k=>(cOp P nt ops o).f cl e h fun e h=>(cSS P nt ops l).f cl e h k⟩:Bo) | none=>⟨fun _ _ _ _=>.er 46⟩).f cl e hp k):=g
 cases c:ops[i]? with
 | none=>rw [c] at g; exact (hG.er _ g).elim
 | some o=>rw [c] at g; exact ⟨o,rfl,g⟩
def Rck (T:Tb) (ops:Array Oper) (e:E) (hp:Hp) (i:Nat):Prop:=
 ∀ o q,ops[i]? = some o→cQ T o.op = some q→(∀ t,o.dst = some t→(qG ops o.guard q).f e hp = (gT t).f e)∧(o.dst = none→(qG ops o.guard q).f e hp ≠ .er)
theorem cR_ok {G:Ans→Prop} (hG:Gd G) {i:Nat} {l:List SS} {e:E} {hp:Hp} {k:E→Hp→Ans} (g:G ((cSS P nt ops (.r i :: l)).f cl e hp k)):
  Rck P ops e hp i∧G ((cSS P nt ops l).f cl e hp k):=by
 have g:G ((match ops[i]? with | some o=>(⟨fun cl e h k=>(cR P ops o).f cl e h fun e h=>(cSS P nt ops l).f cl e h k⟩:Bo) | none=>⟨fun _ _ _ _=>.er 46⟩).f cl e hp k):=g
 cases c:ops[i]? with
 | none=>rw [c] at g; exact (hG.er _ g).elim
 | some o=>
  rw [c] at g
  have g:G ((cR P ops o).f cl e hp fun e h=>(cSS P nt ops l).f cl e h k):=g
  unfold cR at g
  cases hq:cQ P o.op with
  | none=>simp only [hq] at g; exact (hG.er _ g).elim
  | some q=>
   cases hd:o.dst with
   | none=>
    simp only [hq,hd] at g
    obtain ⟨h1,h2⟩:=frV_ok hG (k:=fun _=>(cSS P nt ops l).f cl e hp k) g
    refine ⟨fun o' q' ho hq'=>?_,h2⟩
    rw [c] at ho; cases ho
    rw [hq] at hq'; cases hq'
    exact ⟨fun t ht=>absurd ht (by rw [hd]; simp),fun _=>h1⟩
   | some t=>
    simp only [hq,hd] at g
    obtain ⟨h1,h2⟩:=bz_ok hG g
    refine ⟨fun o' q' ho hq'=>?_,h2⟩
    rw [c] at ho; cases ho
    rw [hq] at hq'; cases hq'
    refine ⟨fun t' ht=>?_,fun hn=>absurd hn (by rw [hd]; simp)⟩
    rw [hd] at ht
    cases ht
    exact beqV_ok h1
theorem rch_ok {G:Ans→Prop} (hG:Gd G) {mp:Nat} {e:E} {hp:Hp} {k:E→Hp→Ans}:∀ {l:List IX} {m:List SS},G ((cSS P nt ops (rch l mp ++ m)).f cl e hp k) →
  (∀ y ∈ l,mp.testBit y.i = true→y.kind = 1→Rck P ops e hp y.i)∧G ((cSS P nt ops m).f cl e hp k)
 | [],m,g=>⟨fun y hy=>(by cases hy),g⟩
 | y :: l,m,g=>by
  have g:G ((cSS P nt ops ((bif an (tb mp y.i) (Nat.beq y.kind 1) then .r y.i :: rch l mp else rch l mp) ++ m)).f cl e hp k):=g
  cases c:an (tb mp y.i) (Nat.beq y.kind 1) with
  | false=>
   rw [c] at g
   obtain ⟨h1,h2⟩:=rch_ok hG (l:=l) g
   refine ⟨fun z hz hm hk=>?_,h2⟩
   simp only [List.mem_cons] at hz
   rcases hz with rfl | hz
   ·rw [an_eq,tb_eq,hm,hk] at c; cases c
   ·exact h1 z hz hm hk
  | true=>
   rw [c] at g
   have g:G ((cSS P nt ops (.r y.i :: (rch l mp ++ m))).f cl e hp k):=g
   obtain ⟨h0,g⟩:=cR_ok hG g
   obtain ⟨h1,h2⟩:=rch_ok hG (l:=l) g
   refine ⟨fun z hz hm hk=>?_,h2⟩
   simp only [List.mem_cons] at hz
   rcases hz with rfl | hz
   ·exact h0
   ·exact h1 z hz hm hk
end
theorem mask (p:Nat→Prop) (e:E):∃ e',∀ t,t < 256→(p t→eGet e' t = .er)∧(¬ p t→eGet e' t = eGet e t):=by
 have key:∀ N,N≤256→∃ e',∀ t,t < 256→(t < N∧p t→eGet e' t = .er)∧(¬ (t < N∧p t)→eGet e' t = eGet e t):=by
  intro N
  induction N with
  | zero=>intro _; exact ⟨e,fun t ht=>⟨fun h=>absurd h.1 (Nat.not_lt_zero _),fun _=>rfl⟩⟩
  | succ N ih=>
   intro hN
   obtain ⟨e',h⟩:=ih (by omega)
   by_cases hp:p N
   ·refine ⟨eSet e' N .er,fun t ht=>?_⟩
    by_cases c:t = N
    ·subst c
     rw [eGet_same]
     exact ⟨fun _=>rfl,fun hn=>absurd ⟨by omega,hp⟩ hn⟩
    ·rw [eGet_ne (by omega) ht c]
     exact ⟨fun ⟨h1,h2⟩=>(h t ht).1 ⟨by omega,h2⟩,fun hn=>(h t ht).2 fun ⟨h1,h2⟩=>hn ⟨by omega,h2⟩⟩
   ·refine ⟨e',fun t ht=>⟨fun ⟨h1,h2⟩=>(h t ht).1 ⟨?_,h2⟩,fun hn=>(h t ht).2 fun ⟨h1,h2⟩=>hn ⟨by omega,h2⟩⟩⟩
    by_cases c:t = N
    ·subst c; exact absurd h2 hp
    ·omega
 obtain ⟨e',h⟩:=key 256 (Nat.le_refl _)
 exact ⟨e',fun t ht=>⟨fun hp=>(h t ht).1 ⟨ht,hp⟩,fun hp=>(h t ht).2 fun h=>hp h.2⟩⟩
theorem gT_lt {e:E} {t:Nat} (h:t < 256):(gT t).f e = eGet e t:=by
 unfold gT
 rw [show Nat.ble t 255 = true from Nat.ble_eq_true_of_le (by omega)]
 rfl
theorem gT_ge {e:E} {t:Nat} (h:¬ t < 256):(gT t).f e = .er:=by
 unfold gT
 cases c:Nat.ble t 255 with
 | true=>have:=ble_ok c; omega
 | false=>rfl
theorem gT_ag {e e':E} {t:Nat} (h:t < 256→eGet e t = eGet e' t):(gT t).f e = (gT t).f e':=by
 by_cases c:t < 256
 ·rw [gT_lt c,gT_lt c,h c]
 ·rw [gT_ge c,gT_ge c]
theorem upE_ne {e:E} {d:Option Nat} {t:Nat} (ht:t < 256) (hd:∀ s,d = some s→s < 256) (hn:d ≠ some t) (v:AV):eGet (upE e d v) t = eGet e t:=by
 cases d with
 | none=>rfl
 | some s=>exact eGet_ne (hd s rfl) ht (fun h=>hn (by rw [h])) v
theorem upE_same {e:E} {t:Nat} (v:AV):eGet (upE e (some t) v) t = v:=eGet_same e t v
theorem okD_lt {nt:Nat} (hnt:nt≤256) {d:Option Nat} (h:okD nt d = true):∀ s,d = some s→s < 256:=by
 rintro s rfl
 have:=ble_ok h
 have:s + 1≤nt:=this
 omega
section
variable {T:Tb} {e e':E} {cl:CallT} {ops:Array Oper}
theorem looks_ag {o:Oper} (h:∀ t,t ∈ Oper.looksAt ops o→(gT t).f e = (gT t).f e'):
  (∀ x ∈ o.op.operands.toList,Ag e e' x)∧∀ g,o.guard = some g→∀ t,gTmp ops g = some t→(gT t).f e = (gT t).f e':=by
 constructor
 ·intro x hx
  refine Ag.tmp fun t ht=>h t ?_
  subst ht
  unfold Oper.looksAt
  rw [List.mem_append]
  left
  rw [List.mem_filterMap]
  exact ⟨_,hx,rfl⟩
 ·intro g hg t ht
  refine h t ?_
  unfold Oper.looksAt
  rw [List.mem_append]
  right
  obtain ⟨g1,g2⟩:=g
  have:=gTmp_ok ht
  simp only at this
  simp [hg,this]
theorem qG_ag {g:Option (Nat×Bool)} {q:Qf} {hp hp':Hp} (hg:∀ g',g = some g'→∀ t,gTmp ops g' = some t→(gT t).f e = (gT t).f e') (hq:q.f e hp = q.f e' hp'):(qG ops g q).f e hp = (qG ops g q).f e' hp':=by
 cases g with
 | none=>exact hq
 | some g'=>
  unfold qG
  cases ht:gTmp ops g' with
  | none=>simp only [ht]
  | some t=>
   have h1:=hg g' rfl t ht
   simp only [ht,h1]
   cases (gT t).f e' <;> first
    | rfl
    | (rename_i x; show bv (xb x g'.2) (q.f e hp) .u = bv (xb x g'.2) (q.f e' hp') .u; rw [hq])
theorem eG_ag {g:Option (Nat×Bool)} {q:Ef} {hp:Hp} {k:K1} (hg:∀ g',g = some g'→∀ t,gTmp ops g' = some t→(gT t).f e = (gT t).f e') (hq:q.f cl e hp k = q.f cl e' hp k):(eG ops g q).f cl e hp k = (eG ops g q).f cl e' hp k:=by
 cases g with
 | none=>exact hq
 | some g'=>
  unfold eG
  cases ht:gTmp ops g' with
  | none=>simp only [ht]; rfl
  | some t=>
   have h1:=hg g' rfl t ht
   simp only [ht,h1]
   cases (gT t).f e' <;> first
    | rfl
    | (rename_i x; show bz (xb x g'.2) (q.f cl e hp k) (k .u hp) = bz (xb x g'.2) (q.f cl e' hp k) (k .u hp); rw [hq])
theorem cOp_ag {n:Nat} {o:Oper} (h:∀ t,t ∈ Oper.looksAt ops o→(gT t).f e = (gT t).f e') {hp:Hp} {k k':E→Hp→Ans} (hk:∀ v hp,k (upE e o.dst v) hp = k' (upE e' o.dst v) hp):(cOp T n ops o).f cl e hp k = (cOp T n ops o).f cl e' hp k':=by
 obtain ⟨h1,h2⟩:=looks_ag h
 unfold cOp
 cases okD n o.dst with
 | false=>rfl
 | true=>
  simp only [cond_true]
  cases hq:cQ T o.op with
  | some q=>
   simp only []
   have e1:(qG ops o.guard q).f e hp = (qG ops o.guard q).f e' hp:=qG_ag h2 (cQ_ag hq h1 hp)
   have ek:(fun v=>(upD o.dst).f e v fun e=>k e hp) = fun v=>(upD o.dst).f e' v fun e=>k' e hp:=by
    funext v; rw [upD_eq,upD_eq]; exact hk v hp
   match isMv T o.op with
   | 0=>
    show frV ((qG ops o.guard q).f e hp) (fun v=>(upD o.dst).f e v fun e=>k e hp) = frV ((qG ops o.guard q).f e' hp) (fun v=>(upD o.dst).f e' v fun e=>k' e hp)
    rw [e1,ek]
   | 1=>
    show frH ((qG ops o.guard q).f e hp) (fun v=>(upD o.dst).f e v fun e=>k e hp) = frH ((qG ops o.guard q).f e' hp) (fun v=>(upD o.dst).f e' v fun e=>k' e hp)
    rw [e1,ek]
   | n + 2=>
    show frA ((qG ops o.guard q).f e hp) (fun v=>(upD o.dst).f e v fun e=>k e hp) = frA ((qG ops o.guard q).f e' hp) (fun v=>(upD o.dst).f e' v fun e=>k' e hp)
    rw [e1,ek]
  | none=>
   simp only []
   have ek:(fun v h=>(upD o.dst).f e v fun e=>k e h) = fun v h=>(upD o.dst).f e' v fun e=>k' e h:=by
    funext v h; rw [upD_eq,upD_eq]; exact hk v h
   show (eG ops o.guard (cE T o.op)).f cl e hp (fun v h=>(upD o.dst).f e v fun e=>k e h) = (eG ops o.guard (cE T o.op)).f cl e' hp (fun v h=>(upD o.dst).f e' v fun e=>k' e h)
   rw [ek]
   exact eG_ag h2 (cE_ag h1)
end
section
variable {C:Ctx} {ρ:Env} {h:H} {Q:Exit→Act→World→Prop} {X:Cx} {θ:Th} {hp:Hp} {T:Tb} {ops:Array Oper}
theorem quiet_ok (hT:TbOk C.P T) (S:SR X θ hp h) {e:E} (he:RE θ e ρ) {o:Oper} {q:Qf} (hq:cQ T o.op = some q) (hd:okD C.n o.dst = true) (hne:(qG ops o.guard q).f e hp ≠ .er):
  ∃ V,RV θ ((qG ops o.guard q).f e hp) V∧∀ J:Env→H→Prop,J (upo ρ o.dst V) h→OpW C ops Q o J ρ h:=by
 obtain ⟨dst,op,ty,pos,after,gd⟩:=o
 have hok:=okD_ok hd
 have val:(qG ops gd q).f e hp = q.f e hp→∃ V,RV θ ((qG ops gd q).f e hp) V∧OpVal C op ty ρ h V:=by
  intro e1
  simp only [e1] at hne
  obtain ⟨V,h1,h2⟩:=cQ_ok (ty:=ty) hT S he hq hne
  rw [e1]
  exact ⟨V,h2,h1⟩
 cases gd with
 | none=>
  obtain ⟨V,h1,h2⟩:=val rfl
  exact ⟨V,h1,fun J hj=>OpW.val hok h2 hj⟩
 | some gg=>
  unfold qG at hne val ⊢
  cases ht:gTmp ops gg with
  | none=>simp only [ht] at hne; exact absurd rfl hne
  | some t=>
   simp only [ht] at hne val ⊢
   have ht':=gTmp_ok ht
   cases hv:(gT t).f e <;> simp only [hv] at hne val ⊢ <;> first | exact absurd rfl hne | skip
   ·have hr:=gT_ok he (t:=t) (by rw [hv]; intro e; cases e)
    rw [hv] at hr
    have hu:=rv_u hr
    refine ⟨undef,RV.undef,fun J hj a w s=>?_⟩
    rw [if_neg (by rw [wanted_undef s ht' hu]; simp)]
    exact ⟨_,_,s.put hok undef,hj⟩
   ·rename_i x
    have hr:=gT_ok he (t:=t) (by rw [hv]; intro e; cases e)
    rw [hv] at hr
    have hb:ρ t = .bool x:=hr.ra (v:=.b x) trivial
    cases hx:xb x gg.2 with
    | true=>
     rw [hx] at hne val
     obtain ⟨V,h1,h2⟩:=val rfl
     rw [xb_eq] at hx
     have hx:=eq_of_beq hx
     refine ⟨V,h1,fun J hj a w s=>?_⟩
     exact OpW.yv t ht' (by rw [hb,hx]) (by rw [Nat.blt_eq]; exact lt_of_env s (by rw [hb]; intro e; cases e)) hok h2 hj a w s
    | false=>
     rw [xb_eq] at hx
     have hx:x = !gg.2:=by cases x <;> cases h:gg.2 <;> simp_all
     refine ⟨undef,RV.undef,fun J hj a w s=>?_⟩
     exact OpW.no t ht' (by rw [hb,hx]) (by rw [Nat.blt_eq]; exact lt_of_env s (by rw [hb]; intro e; cases e)) hok hj a w s
theorem wpOp_of {i:Nat} {o:Oper} (hi:ops[i]? = some o) {J:Env→H→Prop} {a:Act} {w:World} (s:St C ρ h a w) (hh:OpW C ops Q o J ρ h) {K:Act→World→Prop} (hK:∀ ρ' h' a' w',St C ρ' h' a' w'→J ρ' h'→K a' w'):wpOp C.P ops Q i K a w:=by
 have h0:=hh a w s
 unfold wpOp
 simp only [hi]
 split at h0
 ·rename_i hw
  rw [if_pos hw]
  refine .inl (Oper.wp_mono (fun a' w'=>?_) h0)
  rintro ⟨ρ',h',s',hA⟩
  exact hK ρ' h' a' w' s' hA
 ·rename_i hw
  rw [if_neg hw]
  obtain ⟨ρ',h',s',hA⟩:=h0
  exact hK ρ' h' _ _ s' hA
theorem SR.lay (S:SR X θ hp h) {row:Row} {nx':Rid} (hnx:tor nx' = tor hp.nx + 1):SR X θ ⟨uR hp.rows hp.nx row,nx',hp.ro⟩ h:=by
 have ne:∀ r x,θ r = some x→r ≠ hp.nx:=fun r x hr e=>by have:=S.fresh r x hr; subst e; omega
 have gs:∀ r,r ≠ hp.nx→getH ⟨uR hp.rows hp.nx row,nx',hp.ro⟩ r = getH hp r:=fun r hn=>by
  have:=getH_set hp hp.nx row r
  rw [if_neg hn] at this
  exact this
 refine ⟨fun r x hr=>?_,fun r r' x x' h1 h2 l1 l2 hn=>?_,fun r x hr=>?_,fun r x hr hl=>?_,S.keepU,fun r row' hk=>?_,S.ro,S.blk⟩
 ·rw [gs r (ne r x hr)]; exact S.rows r x hr
 ·rw [gs r (ne r x h1)] at l1
  rw [gs r' (ne r' x' h2)] at l2
  exact S.dist r r' x x' h1 h2 l1 l2 hn
 ·have:=S.fresh r x hr
  show tor r < tor nx'
  omega
 ·rw [gs r (ne r x hr)] at hl; exact S.own r x hr hl
 ·obtain ⟨h1,h2,h3⟩:=S.kept r row' hk
  refine ⟨?_,by show tor r < tor nx'; omega,h3⟩
  rw [gs r (fun e=>by subst e; omega)]; exact h1
theorem SR.place (S:SR X θ hp h) {r:Rid} {x2:Nat×Nat} {obj:Obj} (hr:θ r = none) (hf:tor r < tor hp.nx) (hK:X.K r = none) (hrow:RowOk (thUp θ r (h.size,x2)) (h.size,x2) (getH hp r) (h.push obj)):SR X (thUp θ r (h.size,x2)) hp (h.push obj):=by
 have ext:∀ r' y,θ r' = some y→thUp θ r (h.size,x2) r' = some y:=thUp_ext hr _
 have old:∀ {r' y},r' ≠ r→thUp θ r (h.size,x2) r' = some y→θ r' = some y:=fun hn h=>by rwa [thUp_ne hn] at h
 have hsz:(h.push obj).size = h.size + 1:=by simp
 have at_:∀ b,b < h.size→(h.push obj)[b]? = h[b]?:=fun b hb=>by rw [Array.getElem?_push,if_neg (by omega)]
 refine ⟨fun r' x hx=>?_,fun r1 r2 x1 x2' h1 h2 l1 l2 hn=>?_,fun r' x hx=>?_,fun r' x hx hl=>?_,fun b hb=>?_,fun r' row' hk=>?_,S.ro,fun r' x hx=>?_⟩
 ·by_cases c:r' = r
  ·subst c; rw [thUp_same] at hx; cases hx; exact hrow
  ·have:=old c hx
   exact ((S.rows r' x this).at_ (at_ _ (S.blk _ _ this))).mono ext
 ·by_cases c1:r1 = r
  ·subst c1
   rw [thUp_same] at h1; cases h1
   have:=S.blk _ _ (old (fun e=>hn e.symm) h2)
   exact fun e=>by simp only at e; omega
  ·by_cases c2:r2 = r
   ·subst c2
    rw [thUp_same] at h2; cases h2
    have:=S.blk _ _ (old c1 h1)
    exact fun e=>by simp only at e; omega
   ·exact S.dist _ _ _ _ (old c1 h1) (old c2 h2) l1 l2 hn
 ·by_cases c:r' = r
  ·subst c; exact hf
  ·exact S.fresh _ _ (old c hx)
 ·by_cases c:r' = r
  ·subst c
   rw [thUp_same] at hx; cases hx
   intro hU
   have:=(S.keepU _ hU).1
   simp only at this
   omega
  ·exact S.own _ _ (old c hx) hl
 ·obtain ⟨h1,h2⟩:=S.keepU b hb
  refine ⟨by omega,?_⟩
  rw [at_ b h1]; exact h2
 ·obtain ⟨h1,h2,h3⟩:=S.kept r' row' hk
  have c:r' ≠ r:=fun e=>by subst e; rw [hK] at hk; cases hk
  exact ⟨h1,h2,by rw [thUp_ne c]; exact h3⟩
 ·rw [hsz]
  by_cases c:r' = r
  ·subst c; rw [thUp_same] at hx; cases hx; exact Nat.lt_succ_self _
  ·have:=S.blk _ _ (old c hx); omega
open Classical in
def XK (X:Cx) (hp:Hp) (p:Rid→Prop):Cx:=⟨X.U,X.h0,fun r=>if p r then some (getH hp r) else X.K r,X.ro,X.G⟩
theorem XK_ok (hX:CxOk X) (p:Rid→Prop):CxOk (XK X hp p):=⟨hX.gd,hX.mg,hX.br,hX.gl⟩
open Classical in
theorem XK_in (S:SR X θ hp h) {p:Rid→Prop} (hp':∀ r,p r→tor r < tor hp.nx∧θ r = none):SR (XK X hp p) θ hp h:=by
 refine ⟨S.rows,S.dist,S.fresh,S.own,S.keepU,fun r row hk=>?_,S.ro,S.blk⟩
 have hk:(if p r then some (getH hp r) else X.K r) = some row:=hk
 split at hk
 ·rename_i hr
  cases hk
  exact ⟨rfl,(hp' r hr).1,.inl (hp' r hr).2⟩
 ·exact S.kept r row hk
open Classical in
theorem XK_out (S:SR X θ hp h) {p:Rid→Prop} {θ':Th} {hp':Hp} {h':H} (S':SR (XK X hp p) θ' hp' h'):SR X θ' hp' h':=by
 refine ⟨S'.rows,S'.dist,S'.fresh,S'.own,S'.keepU,fun r row hk=>?_,S'.ro,S'.blk⟩
 refine S'.kept r row ?_
 show (if p r then some (getH hp r) else X.K r) = some row
 split
 ·rw [(S.kept r row hk).1]
 ·exact hk
open Classical in
theorem XK_kept {p:Rid→Prop} {θ':Th} {hp':Hp} {h':H} (S':SR (XK X hp p) θ' hp' h') {r:Rid} (hr:p r):getH hp' r = getH hp r∧tor r < tor hp'.nx:=by
 have:=S'.kept r (getH hp r) (by show (if p r then some (getH hp r) else X.K r) = _; rw [if_pos hr])
 exact ⟨this.1,this.2.1⟩
def AlOk (C:Ctx) (Q:Exit→Act→World→Prop) (o:Oper) (row:Row) (x2:Nat×Nat) (mk:Rid→AV):Prop:=
 ∀ ρ h,∃ obj V,(∀ θ,RowOk θ (h.size,x2) row (h.push obj))∧(∀ θ r,θ r = some (h.size,x2)→RV θ (mk r) V)∧∀ J:Env→H→Prop,J (upo ρ o.dst V) (h.push obj)→OpE C Q o.op o.type o.dst J ρ h
theorem al_ok (hT:TbOk C.P T) (hX:CxOk X) (S:SR X θ hp h) {e:E} {cl:CallT} {o:Oper} (hd:okD C.n o.dst = true) (ha:isAl o.op = true) {q:K1} (g:X.G ((cE T o.op).f cl e hp q)):
  ∃ row x2 mk nx',tor nx' = tor hp.nx + 1∧X.G (q (mk hp.nx) ⟨uR hp.rows hp.nx row,nx',hp.ro⟩)∧AlOk C Q o row x2 mk∧(∀ r,mk r ≠ .er):=by
 obtain ⟨dst,op,ty,pos,after,gd⟩:=o
 have hok:=okD_ok hd
 simp only at ha g
 unfold isAl at ha
 split at ha
 ·rename_i t
  have g:X.G ((alA T t).f cl e hp q):=g
  unfold alA at g
  cases c:zOk T t with
  | false=>rw [c] at g; exact (hX.gd.er _ g).elim
  | true=>
   rw [c] at g
   have g:X.G (hnew hp (.c (szT T t) (zeroC T t)) fun r h=>q (.p r 0) h):=g
   obtain ⟨nx',hnx,g1⟩:=hnew_ok S hX g
   refine ⟨_,(0,szT T t),fun r=>.p r 0,nx',hnx,g1,fun ρ h=>?_,fun r=>by simp⟩
   obtain ⟨vs,hz,_⟩:=zero_ok hT (θ:=θ) c
   refine ⟨.cells vs.toArray t (0,0),.pointer (some ⟨h.size,0,none⟩),fun θ=>?_,fun θ r hr=>rv_p (o:=0) hr,fun J hj=>e_alloc hz hok hj⟩
   obtain ⟨vs',hz',hc⟩:=zero_ok hT (θ:=θ) c
   have hvv:vs' = vs:=by
    obtain ⟨i,z,a1,a2,a3⟩:=hz
    obtain ⟨i',z',b1,b2,b3⟩:=hz'
    rw [a1] at b1; cases b1
    rw [a2] at b2; cases b2
    rw [a3] at b3
    simpa using b3.symm
   subst hvv
   have hl:=zero_len c hc
   refine ⟨vs'.toArray,t,(0,0),vs',push_at,?_,Nat.le_refl _,.inl rfl,hc,hl,?_⟩
   ·simp [hl]
   ·simp [← hl]
 ·rename_i t
  have g:X.G ((mmA T t).f cl e hp q):=g
  unfold mmA at g
  split at g
  ·split at g
   ·rename_i kk hkk
    obtain ⟨nx',hnx,g1⟩:=hnew_ok S hX (k:=fun r h=>q (.m r) h) g
    refine ⟨_,(0,0),fun r=>.m r,nx',hnx,g1,fun ρ h=>?_,fun r=>by simp⟩
    refine ⟨.map #[] 0,.map (some h.size),fun θ=>⟨#[],push_at,rfl,by simp,by simp⟩,fun θ r hr=>rv_m hr,fun J hj=>?_⟩
    refine OpE.of hok (v:=.map (some h.size)) (h.push (.map #[] 0)) (fun w hw pos after g=>⟨{ w with heap:=h.push (.map #[] 0) },?_,rfl,rfl,rfl,rfl⟩) hj
    subst hw
    simp [execOp,Instr.makeMap]
   ·exact (hX.gd.er _ g).elim
  ·exact (hX.gd.er _ g).elim
 ·cases ha
end
def Pd (D:Array Bool) (pr i:Nat):Prop:=pr.testBit i = true∧D.getD i true = false
def depO (o:Oper):Nat:=depL o.after.toList
def lookO (ops:Array Oper) (o:Oper):Nat:=tmL (Oper.looksAt ops o)
def dstO (o:Oper):Nat:=match o.dst with | some t=>bit t | none=>0
theorem dstO_tb {o:Oper} {t:Nat}:(dstO o).testBit t = true ↔ o.dst = some t:=by
 unfold dstO
 cases o.dst with
 | none=>simp
 | some s=>simp [tB_bit]
theorem getD_lt {D:Array Bool} {i:Nat} (h:D.getD i true = false):i < D.size:=by
 rcases Nat.lt_or_ge i D.size with h' | h'
 ·exact h'
 ·simp [Array.getD_eq_getD_getElem?,Array.getElem?_eq_none h'] at h
theorem getD_ft {D:Array Bool} {i:Nat} (h:D.getD i false = true):D.getD i true = true∧i < D.size:=by
 rcases Nat.lt_or_ge i D.size with h' | h'
 ·simp only [Array.getD_eq_getD_getElem?,Array.getElem?_eq_getElem h',Option.getD_some] at h ⊢
  exact ⟨h,h'⟩
 ·simp [Array.getD_eq_getD_getElem?,Array.getElem?_eq_none h'] at h
theorem Pd.set {D:Array Bool} {pr i k:Nat} (h:Pd (D.setIfInBounds i true) pr k):Pd D pr k∧k ≠ i:=by
 obtain ⟨h1,h2⟩:=h
 by_cases c:i = k
 ·subst c
  exfalso
  rcases Nat.lt_or_ge i D.size with h' | h'
  ·simp [Array.getD_eq_getD_getElem?,Array.getElem?_setIfInBounds,h'] at h2
  ·simp [Array.getD_eq_getD_getElem?,Array.getElem?_setIfInBounds,h',Nat.not_lt.2 h'] at h2
 ·rw [getD_set_ne true c] at h2
  exact ⟨⟨h1,h2⟩,fun e=>c e.symm⟩
structure Inv (C:Ctx) (T:Tb) (ops:Array Oper) (Q:Exit→Act→World→Prop) (X:Cx) (θ0:Th) (n0:Nat) (D:Array Bool) (θ:Th) (ρ:Env) (h:H) (pr mp lm:Nat) (e:E) (hp:Hp) (R:Nat→Rid) (rk:Nat→Nat) (now:Nat):Prop where
 cl:Closed ops D
 dpr:∀ i,i < ops.size→D.getD i true = true→pr.testBit i = true
 prs:∀ i,pr.testBit i = true→i < ops.size
 pmp:∀ i,Pd D pr i→mp.testBit i = true
 prc:∀ i o,ops[i]? = some o→pr.testBit i = true→∀ t,(depO o).testBit t = true→pr.testBit t = true
 mlm:∀ i o,ops[i]? = some o→mp.testBit i = true→(∀ t,(lookO ops o).testBit t = true→lm.testBit t = true)∧∀ t,o.dst = some t→lm.testBit t = true
 dep:∀ i k oi ok t,Pd D pr i→Pd D pr k→ops[i]? = some oi→ops[k]? = some ok→ok.dst = some t→(lookO ops oi).testBit t = true→(depO oi).testBit k = true
 dst:∀ i k oi ok t,Pd D pr i→Pd D pr k→i ≠ k→ops[i]? = some oi→ops[k]? = some ok→oi.dst = some t→ok.dst ≠ some t
 rkd:∀ i k o,Pd D pr i→Pd D pr k→ops[i]? = some o→(depO o).testBit k = true→rk k < rk i
 rkn:∀ i,Pd D pr i→rk i < now
 okd:∀ i o,Pd D pr i→ops[i]? = some o→okD C.n o.dst = true
 vq:∀ i o q,Pd D pr i→ops[i]? = some o→cQ T o.op = some q→(qG ops o.guard q).f e hp ≠ .er∧∀ t,o.dst = some t→eGet e t = (qG ops o.guard q).f e hp
 va:∀ i o,Pd D pr i→ops[i]? = some o→cQ T o.op = none→∃ row x2 mk,o.guard = none∧AlOk C Q o row x2 mk∧(∀ t,o.dst = some t→eGet e t = mk (R i))∧getH hp (R i) = row∧θ (R i) = none∧tor (R i) < tor hp.nx∧n0≤tor (R i)∧X.K (R i) = none
 inj:∀ i k oi ok,Pd D pr i→Pd D pr k→i ≠ k→ops[i]? = some oi→ops[k]? = some ok→cQ T oi.op = none→cQ T ok.op = none→R i ≠ R k
 sr:SR X θ hp h
 re:∀ t,t < 256→(∀ i o,Pd D pr i→ops[i]? = some o→o.dst ≠ some t)→eGet e t ≠ .er→RV θ (eGet e t) (ρ t)
 ext:Ext θ0 θ n0
 le:n0≤tor hp.nx
section
variable {C:Ctx} {Q:Exit→Act→World→Prop} {X:Cx} {T:Tb} {ops:Array Oper} {θ0:Th} {n0:Nat} {D:Array Bool} {θ:Th} {ρ:Env} {h:H} {pr mp lm:Nat} {e:E} {hp:Hp} {R:Nat→Rid} {rk:Nat→Nat} {now:Nat}
theorem Inv.seen (I:Inv C T ops Q X θ0 n0 D θ ρ h pr mp lm e hp R rk now):∃ e',RE θ e' ρ∧(∀ t,t < 256→(∀ i o,Pd D pr i→ops[i]? = some o→o.dst ≠ some t)→eGet e' t = eGet e t):=by
 obtain ⟨e',he⟩:=mask (fun t=>∃ i o,Pd D pr i∧ops[i]? = some o∧o.dst = some t) e
 have hno:∀ t,(∀ i o,Pd D pr i→ops[i]? = some o→o.dst ≠ some t)→¬ ∃ i o,Pd D pr i∧ops[i]? = some o∧o.dst = some t:=fun t h ⟨i,o,h1,h2,h3⟩=>h i o h1 h2 h3
 refine ⟨e',fun t ht hn=>?_,fun t ht hh=>(he t ht).2 (hno t hh)⟩
 by_cases c:∃ i o,Pd D pr i∧ops[i]? = some o∧o.dst = some t
 ·exact absurd ((he t ht).1 c) hn
 ·have h1:=(he t ht).2 c
  rw [h1] at hn ⊢
  exact I.re t ht (fun i o h1 h2 h3=>c ⟨i,o,h1,h2,h3⟩) hn
theorem ready_dep {i:Nat} {o:Oper} (hi:i ∈ Region.ready .any ops D) (ho:ops[i]? = some o):D.getD i true = false∧∀ t,(depO o).testBit t = true→D.getD t false = true:=by
 obtain ⟨hun,o',ho',hall⟩:=mem_ready.1 hi
 rw [ho] at ho'; cases ho'
 refine ⟨hun,fun t ht=>?_⟩
 obtain ⟨ed,h1,h2,h3⟩:=depL_tb.1 ht
 subst h3
 exact hall ed (by simpa using h1) h2
theorem Inv.closed (I:Inv C T ops Q X θ0 n0 D θ ρ h pr mp lm e hp R rk now) {i:Nat} {o:Oper} (ho:ops[i]? = some o) (hd:D.getD i false = true):∀ t,(depO o).testBit t = true→D.getD t false = true:=fun t ht=>by
 obtain ⟨ed,h1,h2,h3⟩:=depL_tb.1 ht
 subst h3
 exact I.cl.2 i o ho hd ed (by simpa using h1) h2
theorem Pd.no {pr k:Nat} (h:Pd D pr k) (h':D.getD k false = true):False:=by
 have:=(getD_ft h').1
 rw [h.2] at this; cases this
theorem Pd.oper (I:Inv C T ops Q X θ0 n0 D θ ρ h pr mp lm e hp R rk now) {k:Nat} (hk:Pd D pr k):∃ o,ops[k]? = some o:=by
 have:=getD_lt hk.2
 rw [I.cl.1] at this
 exact ⟨_,Array.getElem?_eq_getElem this⟩
theorem Inv.listed (I:Inv C T ops Q X θ0 n0 D θ ρ h pr mp lm e hp R rk now) {i:Nat} {o:Oper} (hi:i ∈ Region.ready .any ops D) (hpr:pr.testBit i = true) (ho:ops[i]? = some o) {θ':Th} {ρ':Env} {h':H} (sr:SR X θ' hp h') (hE:Ext θ θ' n0)
  (hθ:∀ k ok,Pd D pr k→k ≠ i→ops[k]? = some ok→cQ T ok.op = none→θ' (R k) = none) (hV:∀ t,o.dst = some t→RV θ' (eGet e t) (ρ' t)) (hρ:∀ t,o.dst ≠ some t→ρ' t = ρ t):
  Inv C T ops Q X θ0 n0 (D.setIfInBounds i true) θ' ρ' h' pr mp lm e hp R rk now:=by
 have sub:∀ k,Pd (D.setIfInBounds i true) pr k→Pd D pr k:=fun k h=>(Pd.set h).1
 refine ⟨I.cl.set hi,fun k hk hd=>?_,I.prs,fun k hk=>I.pmp k (sub k hk),I.prc,I.mlm,fun k l ok ol t h1 h2=>I.dep k l ok ol t (sub k h1) (sub l h2),fun k l ok ol t h1 h2=>I.dst k l ok ol t (sub k h1) (sub l h2),
  fun k l o h1 h2=>I.rkd k l o (sub k h1) (sub l h2),fun k h1=>I.rkn k (sub k h1),fun k o h1=>I.okd k o (sub k h1),fun k o q h1=>I.vq k o q (sub k h1),fun k ok h1 h2 h3=>?_,fun k l ok ol h1 h2=>I.inj k l ok ol (sub k h1) (sub l h2),sr,fun t ht hn hne=>?_,?_,I.le⟩
 ·by_cases c:i = k
  ·subst c; exact hpr
  ·rw [getD_set_ne true c] at hd
   exact I.dpr k hk hd
 ·obtain ⟨row,x2,mk,a1,a2,a3,a4,a5,a6,a7,a8⟩:=I.va k ok (sub k h1) h2 h3
  exact ⟨row,x2,mk,a1,a2,a3,a4,hθ k ok (sub k h1) (Pd.set h1).2 h2 h3,a6,a7,a8⟩
 ·by_cases c:o.dst = some t
  ·exact hV t c
  ·rw [hρ t c]
   refine RV.mono hE.1 (I.re t ht (fun k ok h1 h2 h3=>?_) hne)
   by_cases c2:k = i
   ·subst c2; rw [ho] at h2; cases h2; exact c h3
   ·exact hn k ok ⟨h1.1,by rw [getD_set_ne true (fun e=>c2 e.symm)]; exact h1.2⟩ h2 h3
 ·exact I.ext.trans hE (Nat.le_refl _)
theorem upo_same {ρ:Env} {t:Nat} {V:Value}:upo ρ (some t) V t = V:=by
 show (bif Nat.beq t t then V else ρ t) = V
 simp
theorem upo_ne {ρ:Env} {d:Option Tmp} {t:Nat} {V:Value} (h:d ≠ some t):upo ρ d V t = ρ t:=by
 cases d with
 | none=>rfl
 | some s=>
  show (bif Nat.beq t s then V else ρ t) = ρ t
  have:Nat.beq t s = false:=by rw [Bool.eq_false_iff]; exact fun e=>h (by rw [Nat.eq_of_beq_eq_true e])
  rw [this]; rfl
theorem Inv.perf (hX:CxOk X) (hT:TbOk C.P T) (hnt:C.n≤256) (I:Inv C T ops Q X θ0 n0 D θ ρ h pr mp lm e hp R rk now) {i:Nat} (hi:i ∈ Region.ready .any ops D) (hpr:pr.testBit i = true) {a:Act} {w:World} (s:St C ρ h a w):
  wpOp C.P ops Q i (fun a' w'=>∃ θ' ρ' h',Inv C T ops Q X θ0 n0 (D.setIfInBounds i true) θ' ρ' h' pr mp lm e hp R rk now∧St C ρ' h' a' w') a w:=by
 obtain ⟨hun0,o,ho,_⟩:=mem_ready.1 hi
 obtain ⟨hun,hdep⟩:=ready_dep hi ho
 have pd:Pd D pr i:=⟨hpr,hun⟩
 have hd:=I.okd i o pd ho
 cases hq:cQ T o.op with
 | some q=>
  obtain ⟨h1,h2⟩:=I.vq i o q pd ho hq
  obtain ⟨e',he,hs⟩:=I.seen
  have hag:∀ t,t ∈ Oper.looksAt ops o→(gT t).f e' = (gT t).f e:=fun t ht=>gT_ag fun h256=>hs t h256 fun k ok hk hok hkt=>by
   have:=I.dep i k o ok t pd hk ho hok hkt (tmL_tb.2 ht)
   exact hk.no (hdep k this)
  obtain ⟨g1,g2⟩:=looks_ag hag
  have e1:(qG ops o.guard q).f e' hp = (qG ops o.guard q).f e hp:=qG_ag g2 (cQ_ag hq g1 hp)
  obtain ⟨V,hv,hw⟩:=quiet_ok (ops:=ops) (Q:=Q) hT I.sr he hq hd (by rw [e1]; exact h1)
  refine wpOp_of ho s (hw (fun ρ' h'=>ρ' = upo ρ o.dst V∧h' = h) ⟨rfl,rfl⟩) ?_
  rintro ρ' h' a' w' s' ⟨rfl,rfl⟩
  refine ⟨θ,_,_,I.listed hi hpr ho I.sr (Ext.refl _ _) (fun k ok h1 h2 h3 h4=>?_) (fun t ht=>?_) (fun t ht=>upo_ne ht),s'⟩
  ·obtain ⟨_,_,_,_,_,_,_,h5,_⟩:=I.va k ok h1 h3 h4
   exact h5
  ·rw [h2 t ht,ht,upo_same,← e1]; exact hv
 | none=>
  obtain ⟨row,x2,mk,a1,a2,a3,a4,a5,a6,a7,a8⟩:=I.va i o pd ho hq
  obtain ⟨obj,V,b1,b2,b3⟩:=a2 ρ h
  obtain ⟨dst,op,ty,pos,after,gd⟩:=o
  simp only at a1
  subst a1
  refine wpOp_of ho s (OpW.e (b3 (fun ρ' h'=>ρ' = upo ρ dst V∧h' = h.push obj) ⟨rfl,rfl⟩)) ?_
  rintro ρ' h' a' w' s' ⟨rfl,rfl⟩
  have S':=I.sr.place (x2:=x2) (obj:=obj) a5 a6 a8 (by rw [a4]; exact b1 _)
  have hE:Ext θ (thUp θ (R i) (h.size,x2)) n0:=⟨thUp_ext a5 _,fun r hr hn=>by rw [thUp_ne]; exact hn; intro e; subst e; omega⟩
  refine ⟨_,_,_,I.listed hi hpr ho S' hE (fun k ok h1 h2 h3 h4=>?_) (fun t ht=>?_) (fun t ht=>upo_ne ht),s'⟩
  ·obtain ⟨_,_,_,_,_,_,_,h5,_⟩:=I.va k ok h1 h3 h4
   rw [thUp_ne]
   ·exact h5
   ·exact I.inj k i ok _ h1 pd h2 h3 ho h4 hq
  ·have ht':dst = some t:=ht
   rw [a3 t ht,ht',upo_same]
   exact b2 _ _ (thUp_same _ _ _)
end
section
variable {C:Ctx} {Q:Exit→Act→World→Prop} {X:Cx} {T:Tb} {ops:Array Oper} {θ0:Th} {n0:Nat} {D:Array Bool} {θ:Th} {ρ:Env} {h:H} {pr mp lm:Nat} {e:E} {hp:Hp} {R:Nat→Rid} {rk:Nat→Nat} {now:Nat}
theorem Inv.out (I:Inv C T ops Q X θ0 n0 D θ ρ h pr mp lm e hp R rk now) {i:Nat} {o:Oper} (ho:ops[i]? = some o) (hni:pr.testBit i = false):D.getD i true = false:=by
 have hi:i < ops.size:=by rw [Array.getElem?_eq_some_iff] at ho; exact ho.1
 cases c:D.getD i true with
 | false=>rfl
 | true=>have:=I.dpr i hi c; rw [hni] at this; cases this
theorem Inv.grow (hnt:C.n≤256) (I:Inv C T ops Q X θ0 n0 D θ ρ h pr mp lm e hp R rk now) {i:Nat} {o:Oper} (ho:ops[i]? = some o) (hni:pr.testBit i = false)
  (hr:∀ t,(depO o).testBit t = true→pr.testBit t = true) (c1:∀ t,o.dst = some t→lm.testBit t = false) (c2:∀ t,o.dst = some t→(lookO ops o).testBit t = false)
  (c3:∀ t k ok,(lookO ops o).testBit t = true→mp.testBit k = true→ops[k]? = some ok→ok.dst = some t→(depO o).testBit k = true)
  (hd:okD C.n o.dst = true) {v:AV} {hp':Hp} {r':Rid} (sr':SR X θ hp' h) (hle:tor hp.nx≤tor hp'.nx) (hrow:∀ r,tor r < tor hp.nx→getH hp' r = getH hp r)
  (old:∀ k ok q,Pd D pr k→ops[k]? = some ok→cQ T ok.op = some q→(qG ops ok.guard q).f (upE e o.dst v) hp' ≠ .er∧∀ t,ok.dst = some t→eGet e t = (qG ops ok.guard q).f (upE e o.dst v) hp')
  (newq:∀ q,cQ T o.op = some q→(qG ops o.guard q).f (upE e o.dst v) hp' ≠ .er∧v = (qG ops o.guard q).f (upE e o.dst v) hp')
  (newa:cQ T o.op = none→∃ row x2 mk,o.guard = none∧AlOk C Q o row x2 mk∧v = mk r'∧getH hp' r' = row∧θ r' = none∧tor r' < tor hp'.nx∧n0≤tor r'∧X.K r' = none∧tor hp.nx≤tor r'):
  Inv C T ops Q X θ0 n0 D θ ρ h (Nat.lor pr (bit i)) (Nat.lor mp (bit i)) (Nat.lor lm (Nat.lor (lookO ops o) (dstO o))) (upE e o.dst v) hp' (fun j=>if j = i then r' else R j) (fun j=>if j = i then now else rk j) (now + 1):=by
 have hD:=I.out ho hni
 have d256:=okD_lt hnt hd
 have new:Pd D (Nat.lor pr (bit i)) i:=⟨by rw [tB_lor,tB_bit]; simp,hD⟩
 have back:∀ k,Pd D (Nat.lor pr (bit i)) k→k = i∨(k ≠ i∧Pd D pr k):=fun k ⟨h1,h2⟩=>by
  rw [tB_lor,tB_bit,Bool.or_eq_true,decide_eq_true_eq] at h1
  by_cases c:k = i
  ·exact .inl c
  ·exact .inr ⟨c,h1.resolve_right fun e=>c e.symm,h2⟩
 have lor_l:∀ {a b t:Nat},a.testBit t = true→(Nat.lor a b).testBit t = true:=fun h=>by rw [tB_lor,h]; rfl
 have lor_r:∀ {a b t:Nat},b.testBit t = true→(Nat.lor a b).testBit t = true:=fun h=>by rw [tB_lor,h,Bool.or_true]
 have isO:∀ {ok:Oper},ops[i]? = some ok→ok = o:=fun h=>by rw [ho] at h; cases h; rfl
 have ne:∀ k ok t,Pd D pr k→ops[k]? = some ok→ok.dst = some t→o.dst ≠ some t:=fun k ok t h1 h2 h3 h4=>by
  have:=(I.mlm k ok h2 (I.pmp k h1)).2 t h3
  rw [c1 t h4] at this; cases this
 have ge:∀ t,t < 256→o.dst ≠ some t→eGet (upE e o.dst v) t = eGet e t:=fun t ht hn=>upE_ne ht d256 hn v
 refine ⟨I.cl,fun k hk hd=>lor_l (I.dpr k hk hd),fun k hk=>?_,fun k hk=>?_,fun k ok hk hb t ht=>?_,fun k ok hk hb=>?_,fun j k oj ok t h1 h2 h3 h4 h5 h6=>?_,fun j k oj ok t h1 h2 hn h3 h4 h5 h6=>?_,fun j k oj h1 h2 h3 h4=>?_,fun k hk=>?_,fun k ok hk hok=>?_,fun k ok q hk hok hq=>?_,fun k ok hk hok hq=>?_,fun j k oj ok h1 h2 hn h3 h4 h5 h6=>?_,sr',fun t ht hno hne=>?_,I.ext,Nat.le_trans I.le hle⟩
 ·rw [tB_lor,tB_bit,Bool.or_eq_true,decide_eq_true_eq] at hk
  rcases hk with hk | rfl
  ·exact I.prs k hk
  ·rw [Array.getElem?_eq_some_iff] at ho; exact ho.1
 ·rcases back k hk with rfl | ⟨_,hk⟩
  ·exact lor_r (by rw [tB_bit]; simp)
  ·exact lor_l (I.pmp k hk)
 ·rw [tB_lor,tB_bit,Bool.or_eq_true,decide_eq_true_eq] at hb
  rcases hb with hb | rfl
  ·exact lor_l (I.prc k ok hk hb t ht)
  ·rw [isO hk] at ht; exact lor_l (hr t ht)
 ·rw [tB_lor,tB_bit,Bool.or_eq_true,decide_eq_true_eq] at hb
  rcases hb with hb | rfl
  ·obtain ⟨h1,h2⟩:=I.mlm k ok hk hb
   exact ⟨fun t ht=>lor_l (h1 t ht),fun t ht=>lor_l (h2 t ht)⟩
  ·rw [isO hk]
   exact ⟨fun t ht=>lor_r (lor_l ht),fun t ht=>lor_r (lor_r (dstO_tb.2 ht))⟩
 ·rcases back j h1 with rfl | ⟨_,p1⟩
  ·rw [isO h3] at h6 ⊢
   rcases back k h2 with rfl | ⟨_,p2⟩
   ·rw [isO h4] at h5
    rw [c2 t h5] at h6; cases h6
   ·exact c3 t k ok h6 (I.pmp k p2) h4 h5
  ·rcases back k h2 with rfl | ⟨_,p2⟩
   ·rw [isO h4] at h5
    have:=(I.mlm j oj h3 (I.pmp j p1)).1 t h6
    rw [c1 t h5] at this; cases this
   ·exact I.dep j k oj ok t p1 p2 h3 h4 h5 h6
 ·rcases back j h1 with rfl | ⟨_,p1⟩
  ·rcases back k h2 with rfl | ⟨_,p2⟩
   ·exact hn rfl
   ·rw [isO h3] at h5; exact ne k ok t p2 h4 h6 h5
  ·rcases back k h2 with rfl | ⟨_,p2⟩
   ·rw [isO h4] at h6; exact ne j oj t p1 h3 h5 h6
   ·exact I.dst j k oj ok t p1 p2 hn h3 h4 h5 h6
 ·rcases back j h1 with rfl | ⟨hj,p1⟩
  ·rcases back k h2 with rfl | ⟨hk,p2⟩
   ·rw [isO h3] at h4
    have:=hr _ h4
    rw [hni] at this; cases this
   ·simp only [if_neg hk,if_true]
    exact I.rkn k p2
  ·rcases back k h2 with rfl | ⟨hk,p2⟩
   ·have:=I.prc j oj h3 p1.1 _ h4
    rw [hni] at this; cases this
   ·simp only [if_neg hk,if_neg hj]
    exact I.rkd j k oj p1 p2 h3 h4
 ·rcases back k hk with rfl | ⟨hn,hk⟩
  ·simp
  ·simp only [if_neg hn]
   exact Nat.lt_succ_of_lt (I.rkn k hk)
 ·rcases back k hk with rfl | ⟨hn,hk⟩
  ·rw [isO hok]; exact hd
  ·exact I.okd k ok hk hok
 ·rcases back k hk with rfl | ⟨hn,hk⟩
  ·rw [isO hok] at hq ⊢
   obtain ⟨h1,h2⟩:=newq q hq
   refine ⟨h1,fun t ht=>?_⟩
   rw [← h2,ht,upE_same]
  ·obtain ⟨h1,h2⟩:=old k ok q hk hok hq
   refine ⟨h1,fun t ht=>?_⟩
   rw [ge t (okD_lt hnt (I.okd k ok hk hok) t ht) (ne k ok t hk hok ht)]
   exact h2 t ht
 ·rcases back k hk with rfl | ⟨hn,hk⟩
  ·rw [isO hok] at hq ⊢
   obtain ⟨row,x2,mk,a1,a2,a3,a4,a5,a6,a7,a8,a9⟩:=newa hq
   simp only [if_true]
   exact ⟨row,x2,mk,a1,a2,fun t ht=>by rw [ht,upE_same]; exact a3,a4,a5,a6,a7,a8⟩
  ·obtain ⟨row,x2,mk,a1,a2,a3,a4,a5,a6,a7,a8⟩:=I.va k ok hk hok hq
   simp only [if_neg hn]
   exact ⟨row,x2,mk,a1,a2,fun t ht=>by rw [ge t (okD_lt hnt (I.okd k ok hk hok) t ht) (ne k ok t hk hok ht)]; exact a3 t ht,by rw [hrow _ a6]; exact a4,a5,by omega,a7,a8⟩
 ·have far:∀ k ok,Pd D pr k→ops[k]? = some ok→cQ T ok.op = none→cQ T o.op = none→R k ≠ r':=fun k ok b1 b2 b3 b4 e=>by
   obtain ⟨_,_,_,_,_,_,_,_,a6,_⟩:=I.va k ok b1 b2 b3
   obtain ⟨_,_,_,_,_,_,_,_,_,_,_,a9⟩:=newa b4
   rw [e] at a6; omega
  rcases back j h1 with rfl | ⟨hj,p1⟩
  ·rcases back k h2 with rfl | ⟨hk,p2⟩
   ·exact absurd rfl hn
   ·simp only [if_neg hk,if_true]
    rw [isO h3] at h5
    exact fun e=>far k ok p2 h4 h6 h5 e.symm
  ·rcases back k h2 with rfl | ⟨hk,p2⟩
   ·simp only [if_neg hj,if_true]
    rw [isO h4] at h6
    exact far j oj p1 h3 h5 h6
   ·simp only [if_neg hj,if_neg hk]
    exact I.inj j k oj ok p1 p2 hn h3 h4 h5 h6
 ·have hno':o.dst ≠ some t:=hno i o new ho
  rw [ge t ht hno'] at hne ⊢
  exact I.re t ht (fun k ok h1 h2=>hno k ok ⟨lor_l h1.1,h1.2⟩ h2) hne
theorem opK_q {o:Oper} {q:Qf} (hq:cQ T o.op = some q):opK T o = (bif isRd o.op then 1 else 0):=by unfold opK; rw [hq]
theorem opK_n {o:Oper} (hq:cQ T o.op = none) (h:opK T o≤2):o.guard = none∧isAl o.op = true∧opK T o = 2:=by
 unfold opK at h ⊢
 rw [hq] at h ⊢
 simp only at h ⊢
 cases hg:o.guard with
 | some g=>rw [hg] at h; simp at h
 | none=>
  rw [hg] at h
  simp only at h ⊢
  cases ha:isAl o.op with
  | false=>rw [ha] at h; simp at h
  | true=>simp
theorem cOp_okD {G:Ans→Prop} (hG:Gd G) {n:Nat} {o:Oper} {cl:CallT} {k:E→Hp→Ans} (g:G ((cOp T n ops o).f cl e hp k)):okD n o.dst = true:=by
 unfold cOp at g
 cases hd:okD n o.dst with
 | false=>simp only [hd] at g; exact (hG.er _ g).elim
 | true=>rfl
theorem Inv.take (hX:CxOk X) (hT:TbOk C.P T) (hnt:C.n≤256) (I:Inv C T ops Q X θ0 n0 D θ ρ h pr mp lm e hp R rk now) {i:Nat} {o:Oper} (ho:ops[i]? = some o) (hni:pr.testBit i = false) (hk:opK T o≤2)
  (hr:∀ t,(depO o).testBit t = true→pr.testBit t = true) (c1:∀ t,o.dst = some t→lm.testBit t = false) (c2:∀ t,o.dst = some t→(lookO ops o).testBit t = false)
  (c3:∀ t k ok,(lookO ops o).testBit t = true→mp.testBit k = true→ops[k]? = some ok→ok.dst = some t→(depO o).testBit k = true)
  {cl:CallT} {k:E→Hp→Ans} {L:List SS} (g:X.G ((cSS T C.n ops (.x i :: ((bif Nat.beq (opK T o) 2 then rch (IXs T ops) mp else []) ++ L))).f cl e hp k)):
  ∃ e' hp' R' rk' now',Inv C T ops Q X θ0 n0 D θ ρ h (Nat.lor pr (bit i)) (Nat.lor mp (bit i)) (Nat.lor lm (Nat.lor (lookO ops o) (dstO o))) e' hp' R' rk' now'∧X.G ((cSS T C.n ops L).f cl e' hp' k):=by
 obtain ⟨o',ho',g⟩:=cSS_x hX.gd g
 rw [ho] at ho'; cases ho'
 have hd:=cOp_okD hX.gd g
 have d256:=okD_lt hnt hd
 have agr:∀ k ok v,Pd D pr k→ops[k]? = some ok→∀ t,t ∈ Oper.looksAt ops ok→(gT t).f (upE e o.dst v) = (gT t).f e:=fun k ok v h1 h2 t ht=>gT_ag fun h256=>upE_ne h256 d256 (fun hh=>by
  have:=(I.mlm k ok h2 (I.pmp k h1)).1 t (tmL_tb.2 ht)
  rw [c1 t hh] at this; cases this) v
 cases hq:cQ T o.op with
 | some q=>
  have hk2:Nat.beq (opK T o) 2 = false:=by rw [opK_q hq]; cases isRd o.op <;> rfl
  rw [hk2] at g
  unfold cOp at g
  simp only [hd,hq,cond_true,cond_false,List.nil_append] at g
  obtain ⟨hne,g⟩:=frX_ok hX.gd _ _ _ g
  have agi:∀ v t,t ∈ Oper.looksAt ops o→(gT t).f (upE e o.dst v) = (gT t).f e:=fun v t ht=>gT_ag fun h256=>upE_ne h256 d256 (fun hh=>by
   have:=c2 t hh
   rw [show (lookO ops o).testBit t = true from tmL_tb.2 ht] at this; cases this) v
  have e1:∀ v,(qG ops o.guard q).f (upE e o.dst v) hp = (qG ops o.guard q).f e hp:=fun v=>by
   obtain ⟨g1,g2⟩:=looks_ag (agi v)
   exact qG_ag g2 (cQ_ag hq g1 hp)
  refine ⟨_,hp,_,_,_,I.grow hnt ho hni hr c1 c2 c3 hd (r':=hp.nx) I.sr (Nat.le_refl _) (fun _ _=>rfl) (fun k ok qk h1 h2 h3=>?_) (fun q' hq'=>?_) (fun hn=>by rw [hq] at hn; cases hn),g⟩
  ·obtain ⟨g1,g2⟩:=looks_ag (agr k ok ((qG ops o.guard q).f e hp) h1 h2)
   rw [qG_ag g2 (cQ_ag h3 g1 hp)]
   exact I.vq k ok qk h1 h2 h3
  ·rw [hq] at hq'; cases hq'
   exact ⟨by rw [e1]; exact hne,(e1 _).symm⟩
 | none=>
  obtain ⟨n1,n2,n3⟩:=opK_n hq hk
  rw [n3] at g
  unfold cOp at g
  simp only [hd,hq,cond_true,Nat.beq_refl,n1] at g
  have g:X.G ((cE T o.op).f cl e hp fun v h=>(upD o.dst).f e v fun e=>(cSS T C.n ops (rch (IXs T ops) mp ++ L)).f cl e h k):=g
  obtain ⟨row,x2,mk,nx',hnx,g,hal,hmk⟩:=al_ok (Q:=Q) hT hX I.sr hd n2 g
  rw [upD_eq] at g
  obtain ⟨hrk,g⟩:=rch_ok hX.gd g
  have gr:∀ r,tor r < tor hp.nx→getH ⟨uR hp.rows hp.nx row,nx',hp.ro⟩ r = getH hp r:=fun r hr=>by
   have:=getH_set hp hp.nx row r
   rw [if_neg (fun e=>by subst e; omega)] at this
   exact this
  refine ⟨_,_,_,_,_,I.grow hnt ho hni hr c1 c2 c3 hd (r':=hp.nx) (I.sr.lay hnx) (by show tor hp.nx≤tor nx'; omega) gr (fun k ok qk h1 h2 h3=>?_) (fun q' hq'=>by rw [hq] at hq'; cases hq') (fun _=>⟨row,x2,mk,n1,hal,rfl,?_,I.sr.nx_none,by show tor hp.nx < tor nx'; omega,I.le,I.sr.nx_K,Nat.le_refl _⟩),g⟩
  ·obtain ⟨v1,v2⟩:=I.vq k ok qk h1 h2 h3
   have hag:=agr k ok (mk hp.nx) h1 h2
   obtain ⟨g1,g2⟩:=looks_ag hag
   cases hrd:isRd ok.op with
   | false=>
    rw [qG_ag g2 ((cQ_hp h3 hrd _ hp).trans (cQ_ag h3 g1 hp))]
    exact ⟨v1,v2⟩
   | true=>
    have hk1:opK T ok = 1:=by rw [opK_q h3,hrd]; rfl
    obtain ⟨b1,b2⟩:=hrk (mkIX T ops k ok) (IXs_of h2) (I.pmp k h1) hk1 ok qk h2 h3
    have hdk:=okD_lt hnt (I.okd k ok h1 h2)
    have eg:∀ t,ok.dst = some t→(qG ops ok.guard qk).f (upE e o.dst (mk hp.nx)) ⟨uR hp.rows hp.nx row,nx',hp.ro⟩ = eGet e t:=fun t ht=>by
     rw [b1 t ht,gT_lt (hdk t ht)]
     refine upE_ne (hdk t ht) d256 (fun hh=>?_) _
     have:=(I.mlm k ok h2 (I.pmp k h1)).2 t ht
     rw [c1 t hh] at this; cases this
    cases hdd:ok.dst with
    | none=>exact ⟨b2 hdd,fun t ht=>by cases ht⟩
    | some t=>
     refine ⟨?_,fun t' ht'=>?_⟩
     ·rw [eg t hdd,v2 t hdd]; exact v1
     ·cases ht'; exact (eg t hdd).symm
  ·have:=getH_set hp hp.nx row hp.nx
   rw [if_pos rfl] at this
   exact this
end
section
variable {C:Ctx} {Q:Exit→Act→World→Prop} {X:Cx} {T:Tb} {ops:Array Oper} {θ0:Th} {n0:Nat} {D:Array Bool} {θ:Th} {ρ:Env} {h:H} {pr mp lm:Nat} {e:E} {hp:Hp} {R:Nat→Rid} {rk:Nat→Nat} {now:Nat}
theorem Inv.eff {cl:CallT} (hcl:CallOk C.P cl) (hX:CxOk X) (hT:TbOk C.P T) (hnt:C.n≤256) (I:Inv C T ops Q X θ0 n0 D θ ρ h pr mp lm e hp R rk now) {i:Nat} {o:Oper} (hi:i ∈ Region.ready .any ops D) (ho:ops[i]? = some o) (hni:pr.testBit i = false)
  {mp2 lm2:Nat} (hmp:mp2 = Nat.xor mp (Nat.land mp (anc (IXs T ops) (depO o)))) (hlm:lm2 = msk (IXs T ops) mp2 fun y=>Nat.lor y.look y.dst)
  (hc1:Nat.beq (Nat.land (dstO o) lm2) 0 = true) (hc2:Nat.beq (Nat.land (lookO ops o) (msk (IXs T ops) mp2 fun y=>y.dst)) 0 = true)
  {k:E→Hp→Ans} {L:List SS} (g:X.G ((cSS T C.n ops (.x i :: (rch (IXs T ops) mp2 ++ L))).f cl e hp k)) {a:Act} {w:World} (s:St C ρ h a w):
  wpOp C.P ops Q i (fun a' w'=>∃ θ' ρ' h' e' hp',Inv C T ops Q X θ0 n0 (D.setIfInBounds i true) θ' ρ' h' (Nat.lor pr (bit i)) mp2 lm2 e' hp' R rk now∧X.G ((cSS T C.n ops L).f cl e' hp' k)∧St C ρ' h' a' w') a w:=by
 obtain ⟨o',ho',g⟩:=cSS_x hX.gd g
 rw [ho] at ho'; cases ho'
 have hd:=cOp_okD hX.gd g
 have d256:=okD_lt hnt hd
 obtain ⟨hun,hdep⟩:=ready_dep hi ho
 have inD:∀ t,(anc (IXs T ops) (depO o)).testBit t = true→D.getD t false = true:=anc_sub hdep fun x hx hS t ht=>by
  obtain ⟨ox,hox,hxx⟩:=IXs_mem.1 hx
  rw [hxx] at ht
  exact I.closed hox hS t ht
 have pm2:∀ l,Pd D pr l→mp2.testBit l = true:=fun l hl=>by
  rw [hmp,tB_dif,I.pmp l hl]
  cases c:(anc (IXs T ops) (depO o)).testBit l with
  | false=>rfl
  | true=>exact (hl.no (inD l c)).elim
 have lm2ok:∀ l ol,ops[l]? = some ol→mp2.testBit l = true→(∀ t,(lookO ops ol).testBit t = true→lm2.testBit t = true)∧∀ t,ol.dst = some t→lm2.testBit t = true:=fun l ol hl hm=>by
  rw [hlm]
  exact ⟨fun t ht=>msk_tb.2 ⟨_,IXs_of hl,hm,by rw [tB_lor,Bool.or_eq_true]; exact .inl ht⟩,fun t ht=>msk_tb.2 ⟨_,IXs_of hl,hm,by rw [tB_lor,Bool.or_eq_true]; exact .inr (dstO_tb.2 ht)⟩⟩
 have nod:∀ l ol t,Pd D pr l→ops[l]? = some ol→ol.dst = some t→(lookO ops o).testBit t = true→False:=fun l ol t h1 h2 h3 h4=>by
  have:=land0 hc2 h4
  rw [msk_tb.2 ⟨_,IXs_of h2,pm2 l h1,dstO_tb.2 h3⟩] at this; cases this
 have nol:∀ l ol t,Pd D pr l→ops[l]? = some ol→o.dst = some t→(lookO ops ol).testBit t = true→False:=fun l ol t h1 h2 h3 h4=>by
  have:=land0 hc1 (dstO_tb.2 h3)
  rw [(lm2ok l ol h2 (pm2 l h1)).1 t h4] at this; cases this
 have nodd:∀ l ol t,Pd D pr l→ops[l]? = some ol→ol.dst = some t→o.dst ≠ some t:=fun l ol t h1 h2 h3 h4=>by
  have:=land0 hc1 (dstO_tb.2 h4)
  rw [(lm2ok l ol h2 (pm2 l h1)).2 t h3] at this; cases this
 obtain ⟨es,hre,hs⟩:=I.seen
 have hag:∀ t,t ∈ Oper.looksAt ops o→(gT t).f e = (gT t).f es:=fun t ht=>(gT_ag fun h256=>hs t h256 fun l ol h1 h2 h3=>nod l ol t h1 h2 h3 (tmL_tb.2 ht)).symm
 let p:Rid→Prop:=fun r=>∃ l ol,Pd D pr l∧ops[l]? = some ol∧cQ T ol.op = none∧r = R l
 have hp1:∀ r,p r→tor r < tor hp.nx∧θ r = none:=fun r ⟨l,ol,h1,h2,h3,h4⟩=>by
  obtain ⟨_,_,_,_,_,_,_,a5,a6,_⟩:=I.va l ol h1 h2 h3
  subst h4
  exact ⟨a6,a5⟩
 have S':=XK_in I.sr hp1
 let wv:E→AV:=fun e2=>match o.dst with | none=>.u | some d=>eGet e2 d
 let k1:E→Hp→Ans:=fun e h=>(cSS T C.n ops (rch (IXs T ops) mp2 ++ L)).f cl e h k
 have:∃ k2:E→Hp→Ans,(∀ v hp,k1 (upE e o.dst v) hp = k2 (upE es o.dst v) hp)∧∀ e2 hp2,X.G (k2 e2 hp2)→(∀ t,t < 256→o.dst ≠ some t→eGet e2 t = eGet es t)∧X.G (k1 (upE e o.dst (wv e2)) hp2):=by
  classical
  refine ⟨fun e2 hp2=>if (∀ t,t < 256→o.dst ≠ some t→eGet e2 t = eGet es t) then k1 (upE e o.dst (wv e2)) hp2 else .er 99,fun v hp=>?_,fun e2 hp2 g=>?_⟩
  ·simp only []
   rw [if_pos fun t ht hn=>upE_ne ht d256 hn v]
   congr 1
   cases hdd:o.dst with
   | none=>rfl
   | some d=>simp only [wv,hdd,upE_same]
  ·simp only [] at g
   split at g
   ·rename_i hc; exact ⟨hc,g⟩
   ·exact (hX.gd.er _ g).elim
 obtain ⟨k2,hk2,hk3⟩:=this
 have g2:(XK X hp p).G ((cOp T C.n ops o).f cl es hp k2):=by
  show X.G _
  rw [← cOp_ag hag hk2]
  exact g
 refine wpOp_of ho s (cOp_ok hcl (XK_ok hX p) hT hnt S' hre (J:=fun ρ' h'=>∃ θ' e' hp',Inv C T ops Q X θ0 n0 (D.setIfInBounds i true) θ' ρ' h' (Nat.lor pr (bit i)) mp2 lm2 e' hp' R rk now∧X.G ((cSS T C.n ops L).f cl e' hp' k)) g2 ?_) ?_
 ·intro θ' hp' h' e2 ρ' S2 hE hle he2 g3
  obtain ⟨hsame,g3⟩:=hk3 e2 hp' g3
  obtain ⟨hrk,g3⟩:=rch_ok hX.gd g3
  refine ⟨θ',_,hp',?_,g3⟩
  have sub:∀ l,Pd (D.setIfInBounds i true) (Nat.lor pr (bit i)) l→Pd D pr l:=fun l hl=>by
   obtain ⟨⟨h1,h2⟩,h3⟩:=Pd.set hl
   rw [tB_lor,tB_bit,Bool.or_eq_true,decide_eq_true_eq] at h1
   exact ⟨h1.resolve_right fun e=>h3 e.symm,h2⟩
  have lor_l:∀ {a b t:Nat},a.testBit t = true→(Nat.lor a b).testBit t = true:=fun h=>by rw [tB_lor,h]; rfl
  have ge:∀ t,t < 256→o.dst ≠ some t→eGet (upE e o.dst (wv e2)) t = eGet e t:=fun t ht hn=>upE_ne ht d256 hn _
  have dD:∀ t,D.getD t false = true→pr.testBit t = true:=fun t ht=>by
   obtain ⟨h1,h2⟩:=getD_ft ht
   exact I.dpr t (by rw [← I.cl.1]; exact h2) h1
  refine ⟨I.cl.set hi,fun l hl hdl=>?_,fun l hl=>?_,fun l hl=>pm2 l (sub l hl),fun l ol hl hb t ht=>?_,lm2ok,fun j l oj ol t h1 h2=>I.dep j l oj ol t (sub j h1) (sub l h2),fun j l oj ol t h1 h2=>I.dst j l oj ol t (sub j h1) (sub l h2),fun j l oj h1 h2=>I.rkd j l oj (sub j h1) (sub l h2),
   fun l hl=>I.rkn l (sub l hl),fun l ol hl=>I.okd l ol (sub l hl),fun l ol ql hl hol hql=>?_,fun l ol hl hol hql=>?_,fun j l oj ol h1 h2=>I.inj j l oj ol (sub j h1) (sub l h2),XK_out I.sr S2,fun t ht hno hne=>?_,I.ext.trans hE I.le,Nat.le_trans I.le hle⟩
  ·by_cases c:i = l
   ·subst c; rw [tB_lor,tB_bit]; simp
   ·rw [getD_set_ne true c] at hdl
    exact lor_l (I.dpr l hl hdl)
  ·rw [tB_lor,tB_bit,Bool.or_eq_true,decide_eq_true_eq] at hl
   rcases hl with hl | rfl
   ·exact I.prs l hl
   ·rw [Array.getElem?_eq_some_iff] at ho; exact ho.1
  ·rw [tB_lor,tB_bit,Bool.or_eq_true,decide_eq_true_eq] at hb
   rcases hb with hb | rfl
   ·exact lor_l (I.prc l ol hl hb t ht)
   ·rw [ho] at hl; cases hl
    exact lor_l (dD t (hdep t ht))
  ·have hl':=sub l hl
   obtain ⟨v1,v2⟩:=I.vq l ol ql hl' hol hql
   have hag2:∀ t,t ∈ Oper.looksAt ops ol→(gT t).f (upE e o.dst (wv e2)) = (gT t).f e:=fun t ht=>gT_ag fun h256=>ge t h256 fun hh=>nol l ol t hl' hol hh (tmL_tb.2 ht)
   obtain ⟨g1,g2⟩:=looks_ag hag2
   have hdl:=okD_lt hnt (I.okd l ol hl' hol)
   have eg:∀ t,ol.dst = some t→eGet (upE e o.dst (wv e2)) t = eGet e t:=fun t ht=>ge t (hdl t ht) (nodd l ol t hl' hol ht)
   cases hrd:isRd ol.op with
   | false=>
    rw [qG_ag g2 ((cQ_hp hql hrd _ hp).trans (cQ_ag hql g1 hp))]
    exact ⟨v1,fun t ht=>by rw [eg t ht]; exact v2 t ht⟩
   | true=>
    have hk1:opK T ol = 1:=by rw [opK_q hql,hrd]; rfl
    obtain ⟨b1,b2⟩:=hrk (mkIX T ops l ol) (IXs_of hol) (pm2 l hl') hk1 ol ql hol hql
    cases hdd:ol.dst with
    | none=>exact ⟨b2 hdd,fun t ht=>by cases ht⟩
    | some t=>
     have b3:=b1 t hdd
     rw [gT_lt (hdl t hdd)] at b3
     refine ⟨?_,fun t' ht'=>?_⟩
     ·rw [b3,eg t hdd,v2 t hdd]; exact v1
     ·cases ht'; exact b3.symm
  ·have hl':=sub l hl
   obtain ⟨row,x2,mk,a1,a2,a3,a4,a5,a6,a7,a8⟩:=I.va l ol hl' hol hql
   have hdl:=okD_lt hnt (I.okd l ol hl' hol)
   obtain ⟨b1,b2⟩:=XK_kept S2 (r:=R l) ⟨l,ol,hl',hol,hql,rfl⟩
   exact ⟨row,x2,mk,a1,a2,fun t ht=>by rw [ge t (hdl t ht) (nodd l ol t hl' hol ht)]; exact a3 t ht,by rw [b1]; exact a4,hE.2 _ a6 a5,b2,a7,a8⟩
  ·by_cases c:o.dst = some t
   ·have e1:eGet (upE e o.dst (wv e2)) t = eGet e2 t:=by
     rw [c,upE_same]
     simp only [wv,c]
    rw [e1] at hne ⊢
    exact he2 t ht hne
   ·have e1:eGet (upE e o.dst (wv e2)) t = eGet e2 t:=by
     rw [ge t ht c,hsame t ht c]
     refine (hs t ht fun l ol h1 h2 h3=>?_).symm
     by_cases c2:l = i
     ·subst c2; rw [ho] at h2; cases h2; exact c h3
     ·exact hno l ol ⟨lor_l h1.1,by rw [getD_set_ne true (fun e=>c2 e.symm)]; exact h1.2⟩ h2 h3
    rw [e1] at hne ⊢
    exact he2 t ht hne
 ·rintro ρ' h' a' w' s' ⟨θ',e',hp',h1,h2⟩
  exact ⟨θ',ρ',h',e',hp',h1,h2,s'⟩
theorem sched_succ (l:List IX) (f pr mp lm:Nat):sched l (f + 1) pr mp lm = (match fnd (qk l pr mp lm) l with
 | some x=>.x x.i :: ((bif Nat.beq x.kind 2 then rch l mp else []) ++ sched l f (Nat.lor pr (bit x.i)) (Nat.lor mp (bit x.i)) (Nat.lor lm (Nat.lor x.look x.dst)))
 | none=>(match flt (rdy pr) l with
  | []=>bif allL (fun x=>tb pr x.i) l then [] else [.bad]
  | [x]=>bif an (Nat.beq (Nat.land x.dst (msk l (Nat.xor mp (Nat.land mp (anc l x.dep))) fun y=>Nat.lor y.look y.dst)) 0) (Nat.beq (Nat.land x.look (msk l (Nat.xor mp (Nat.land mp (anc l x.dep))) fun y=>y.dst)) 0)
    then .x x.i :: (rch l (Nat.xor mp (Nat.land mp (anc l x.dep))) ++ sched l f (Nat.lor pr (bit x.i)) (Nat.xor mp (Nat.land mp (anc l x.dep))) (msk l (Nat.xor mp (Nat.land mp (anc l x.dep))) fun y=>Nat.lor y.look y.dst)) else [.bad]
  | _=>[.bad])):=rfl
theorem rdy_of {x:IX} (h1:pr.testBit x.i = false) (h2:∀ t,x.dep.testBit t = true→pr.testBit t = true):rdy pr x = true:=by
 unfold rdy
 rw [tb_eq,h1,an_eq]
 have:Nat.land x.dep pr = x.dep:=by
  apply Nat.eq_of_testBit_eq
  intro t
  show (x.dep &&& pr).testBit t = _
  rw [Nat.testBit_and]
  cases c:x.dep.testBit t with
  | false=>rfl
  | true=>rw [h2 t c]; rfl
 rw [this,Nat.beq_refl]; rfl
theorem rdy_ok {x:IX} (h:rdy pr x = true):pr.testBit x.i = false∧∀ t,x.dep.testBit t = true→pr.testBit t = true:=by
 obtain ⟨h1,h2⟩:=an_ok h
 rw [nt_eq,tb_eq] at h1
 exact ⟨by simpa using h1,fun t ht=>landS h2 ht⟩
theorem bad_no {G:Ans→Prop} (hG:Gd G) {cl:CallT} {k:E→Hp→Ans} {n:Nat} (g:G ((cSS T n ops [.bad]).f cl e hp k)):False:=hG.er _ g
theorem adv {cl:CallT} (hcl:CallOk C.P cl) (hX:CxOk X) (hT:TbOk C.P T) (hnt:C.n≤256) {k:E→Hp→Ans}:∀ (f:Nat) {pr mp lm:Nat} {e:E} {hp:Hp} {R:Nat→Rid} {rk:Nat→Nat} {now:Nat},Inv C T ops Q X θ0 n0 D θ ρ h pr mp lm e hp R rk now →
  X.G ((cSS T C.n ops (sched (IXs T ops) f pr mp lm)).f cl e hp k)→∀ {i:Nat},i ∈ Region.ready .any ops D→∀ {a:Act} {w:World},St C ρ h a w →
  wpOp C.P ops Q i (fun a' w'=>∃ f' θ' ρ' h' pr' mp' lm' e' hp' R' rk' now',Inv C T ops Q X θ0 n0 (D.setIfInBounds i true) θ' ρ' h' pr' mp' lm' e' hp' R' rk' now'∧X.G ((cSS T C.n ops (sched (IXs T ops) f' pr' mp' lm')).f cl e' hp' k)∧St C ρ' h' a' w') a w:=by
 intro f
 induction f with
 | zero=>intro pr mp lm e hp R rk now I g; exact (bad_no hX.gd g).elim
 | succ f ih=>
  intro pr mp lm e hp R rk now I g i hi a w s
  cases hpr:pr.testBit i with
  | true=>
   refine wpOp_mono (fun a' w'=>?_) (I.perf hX hT hnt hi hpr s)
   rintro ⟨θ',ρ',h',I',s'⟩
   exact ⟨_,θ',ρ',h',_,_,_,_,_,_,_,_,I',g,s'⟩
  | false=>
   obtain ⟨_,o,ho,_⟩:=mem_ready.1 hi
   obtain ⟨hun,hdep⟩:=ready_dep hi ho
   rw [sched_succ] at g
   cases hf:fnd (qk (IXs T ops) pr mp lm) (IXs T ops) with
   | some x=>
    simp only [hf] at g
    obtain ⟨hm,hq⟩:=fnd_some hf
    obtain ⟨ox,hox,hx⟩:=IXs_mem.1 hm
    obtain ⟨q1,hq⟩:=an_ok hq
    obtain ⟨q2,hq⟩:=an_ok hq
    obtain ⟨q3,hq⟩:=an_ok hq
    obtain ⟨q4,q5⟩:=an_ok hq
    obtain ⟨r1,r2⟩:=rdy_ok q2
    have xk:x.kind = opK T ox:=by rw [hx]; rfl
    have xd:x.dep = depO ox:=by rw [hx]; rfl
    have xl:x.look = lookO ops ox:=by rw [hx]; rfl
    have xs:x.dst = dstO ox:=by rw [hx]; rfl
    rw [xk,xl,xs] at g
    obtain ⟨e',hp',R',rk',now',I',g⟩:=I.take hX hT hnt hox r1 (by rw [← xk]; exact ble_ok q1) (by rw [← xd]; exact r2) (fun t ht=>land0 q3 (by rw [xs]; exact dstO_tb.2 ht))
     (fun t ht=>by rw [← xl]; exact land0 q4 (by rw [xs]; exact dstO_tb.2 ht)) (fun t l ol h1 h2 h3 h4=>by
      have h5:=land0 q5 (by rw [xl]; exact h1)
      cases c:(depO ox).testBit l with
      | true=>rfl
      | false=>
       rw [msk_tb.2 ⟨_,IXs_of h3,by rw [tB_dif,xd]; show (mp.testBit l && !(depO ox).testBit l) = true; rw [h2,c]; rfl,dstO_tb.2 h4⟩] at h5
       cases h5) g
    exact ih I' g hi s
   | none=>
    simp only [hf] at g
    have hmem:mkIX T ops i o ∈ (IXs T ops).filter (rdy pr):=List.mem_filter.2 ⟨IXs_of ho,rdy_of hpr fun t ht=>by
     obtain ⟨h1,h2⟩:=getD_ft (hdep t ht)
     exact I.dpr t (by rw [← I.cl.1]; exact h2) h1⟩
    rw [flt_eq] at g
    cases hfl:(IXs T ops).filter (rdy pr) with
    | nil=>rw [hfl] at hmem; cases hmem
    | cons x rest=>
     rw [hfl] at hmem g
     cases rest with
     | cons y rest=>exact (bad_no hX.gd g).elim
     | nil=>
      rw [List.mem_singleton] at hmem
      subst hmem
      simp only [] at g
      cases hc:an (Nat.beq (Nat.land (mkIX T ops i o).dst (msk (IXs T ops) (Nat.xor mp (Nat.land mp (anc (IXs T ops) (mkIX T ops i o).dep))) fun y=>Nat.lor y.look y.dst)) 0) (Nat.beq (Nat.land (mkIX T ops i o).look (msk (IXs T ops) (Nat.xor mp (Nat.land mp (anc (IXs T ops) (mkIX T ops i o).dep))) fun y=>y.dst)) 0) with
      | false=>rw [hc] at g; exact (bad_no hX.gd g).elim
      | true=>
       rw [hc] at g
       obtain ⟨hc1,hc2⟩:=an_ok hc
       refine wpOp_mono (fun a' w'=>?_) (I.eff hcl hX hT hnt hi ho hpr rfl rfl hc1 hc2 g s)
       rintro ⟨θ',ρ',h',e',hp',I',g',s'⟩
       exact ⟨_,θ',ρ',h',_,_,_,_,_,_,_,_,I',g',s'⟩
theorem Inv.done (hX:CxOk X) (I:Inv C T ops Q X θ0 n0 D θ ρ h pr mp lm e hp R rk now) {cl:CallT} {k:E→Hp→Ans} {f:Nat} (g:X.G ((cSS T C.n ops (sched (IXs T ops) f pr mp lm)).f cl e hp k)) (hr:Region.ready .any ops D = []):RE θ e ρ∧X.G (k e hp):=by
 have nr:∀ l ol,ops[l]? = some ol→D.getD l true = false→(∀ t,(depO ol).testBit t = true→D.getD t false = true)→False:=fun l ol h1 h2 h3=>by
  have:l ∈ Region.ready .any ops D:=mem_ready.2 ⟨h2,ol,h1,fun ed hed hb=>h3 _ (depL_tb.2 ⟨ed,by simpa using hed,hb,rfl⟩)⟩
  rw [hr] at this; cases this
 have np:∀ n l,rk l = n→¬ Pd D pr l:=by
  intro n
  induction n using Nat.strongRecOn with
  | _ n ih=>
   intro l hn hl
   obtain ⟨ol,hol⟩:=Pd.oper I hl
   refine nr l ol hol hl.2 fun t ht=>?_
   have h1:=I.prc l ol hol hl.1 t ht
   cases c:D.getD t true with
   | false=>
    have hpd:Pd D pr t:=⟨h1,c⟩
    have:=I.rkd l t ol hl hpd hol ht
    exact (ih (rk t) (by omega) t rfl hpd).elim
   | true=>
    have hlt:t < D.size:=by rw [I.cl.1]; exact I.prs t h1
    simp only [Array.getD_eq_getD_getElem?,Array.getElem?_eq_getElem hlt,Option.getD_some] at c ⊢
    exact c
 have npd:∀ l,¬ Pd D pr l:=fun l=>np _ l rfl
 refine ⟨fun t ht hne=>I.re t ht (fun l ol h1=>(npd l h1).elim) hne,?_⟩
 have prD:∀ t,pr.testBit t = true→D.getD t false = true:=fun t h=>by
  have hlt:t < D.size:=by rw [I.cl.1]; exact I.prs t h
  cases c:D.getD t true with
  | true=>
   simp only [Array.getD_eq_getD_getElem?,Array.getElem?_eq_getElem hlt,Option.getD_some] at c ⊢
   exact c
  | false=>exact (npd t ⟨h,c⟩).elim
 have nrd:∀ x,x ∈ IXs T ops→rdy pr x = true→False:=fun x hx hr=>by
  obtain ⟨ox,hox,hxx⟩:=IXs_mem.1 hx
  obtain ⟨r1,r2⟩:=rdy_ok hr
  refine nr x.i ox hox (I.out hox r1) fun t ht=>prD t (r2 t ?_)
  rw [hxx]; exact ht
 cases f with
 | zero=>exact (bad_no hX.gd g).elim
 | succ f=>
  rw [sched_succ] at g
  cases hf:fnd (qk (IXs T ops) pr mp lm) (IXs T ops) with
  | some x=>
   obtain ⟨hm,hq⟩:=fnd_some hf
   obtain ⟨q1,hq⟩:=an_ok hq
   obtain ⟨q2,hq⟩:=an_ok hq
   exact (nrd x hm q2).elim
  | none=>
   simp only [hf,flt_eq] at g
   cases hfl:(IXs T ops).filter (rdy pr) with
   | cons x rest=>
    have:x ∈ (IXs T ops).filter (rdy pr):=by rw [hfl]; simp
    obtain ⟨h1,h2⟩:=List.mem_filter.1 this
    exact (nrd x h1 h2).elim
   | nil=>
    rw [hfl] at g
    simp only [] at g
    cases c:allL (fun x=>tb pr x.i) (IXs T ops) with
    | false=>rw [c] at g; exact (bad_no hX.gd g).elim
    | true=>rw [c] at g; exact g
theorem count_set:∀ {l:List Bool} {i:Nat},l[i]? = some false→(l.set i true).count false + 1 = l.count false
 | [],i,h=>by simp at h
 | b :: l,0,h=>by simp at h; subst h; simp
 | b :: l,i + 1,h=>by
  have:=count_set (l:=l) (i:=i) (by simpa using h)
  cases b <;> simp <;> omega
theorem left_set {i:Nat} (h:D.getD i true = false):(D.setIfInBounds i true).toList.count false + 1 = D.toList.count false:=by
 have hl:=getD_lt h
 rw [Array.toList_setIfInBounds]
 refine count_set ?_
 simp only [Array.getD_eq_getD_getElem?,Array.getElem?_eq_getElem hl,Option.getD_some] at h
 simp [hl,h]
theorem sim {cl:CallT} (hcl:CallOk C.P cl) (hX:CxOk X) (hT:TbOk C.P T) (hnt:C.n≤256) {k:E→Hp→Ans} (hj:∀ θ' hp' h' e' ρ',SR X θ' hp' h'→Ext θ0 θ' n0→n0≤tor hp'.nx→RE θ' e' ρ'→X.G (k e' hp')→QN C Q .normal ρ' h'):
  ∀ (fuel:Nat) {D:Array Bool} {θ:Th} {ρ:Env} {h:H} {f pr mp lm:Nat} {e:E} {hp:Hp} {R:Nat→Rid} {rk:Nat→Nat} {now:Nat},D.toList.count false≤fuel→Inv C T ops Q X θ0 n0 D θ ρ h pr mp lm e hp R rk now →
  X.G ((cSS T C.n ops (sched (IXs T ops) f pr mp lm)).f cl e hp k)→∀ {a:Act} {w:World},St C ρ h a w→wpAny C.P .any ops Q fuel D a w:=by
 intro fuel
 have fin:∀ {D:Array Bool} {θ:Th} {ρ:Env} {h:H} {f pr mp lm:Nat} {e:E} {hp:Hp} {R:Nat→Rid} {rk:Nat→Nat} {now:Nat},Inv C T ops Q X θ0 n0 D θ ρ h pr mp lm e hp R rk now →
   X.G ((cSS T C.n ops (sched (IXs T ops) f pr mp lm)).f cl e hp k)→∀ {a:Act} {w:World},St C ρ h a w→Region.ready .any ops D = []→Q .normal a w:=by
  intro D θ ρ h f pr mp lm e hp R rk now I g a w s hr
  obtain ⟨h1,h2⟩:=I.done hX g hr
  exact hj _ _ _ _ _ I.sr I.ext I.le h1 h2 a w s
 induction fuel with
 | zero=>
  intro D θ ρ h f pr mp lm e hp R rk now hc I g a w s
  have hr:Region.ready .any ops D = []:=by
   rw [List.eq_nil_iff_forall_not_mem]
   intro i hi
   have:=left_set (mem_ready.1 hi).1
   omega
  exact ⟨hr,fin I g s hr⟩
 | succ fuel ih=>
  intro D θ ρ h f pr mp lm e hp R rk now hc I g a w s
  refine ⟨fun hr=>fin I g s hr,fun i hi=>?_⟩
  refine wpOp_mono (fun a' w'=>?_) (adv hcl hX hT hnt f I g hi s)
  rintro ⟨f',θ',ρ',h',pr',mp',lm',e',hp',R',rk',now',I',g',s'⟩
  have:=left_set (mem_ready.1 hi).1
  exact ih (by omega) I' g' s'
theorem drawOk (hm:C.P.follows .mixedOrders = true) {cl:CallT} (hcl:CallOk C.P cl) (hT:TbOk C.P T) (hnt:C.n≤256):DrawOk C T cl:=by
 intro X hX θ hp h e ρ id ops k Q S he g hj a w s
 refine wp_region_any hm ?_
 have hno:∀ i,(Array.replicate ops.size false).getD i false = false:=fun i=>by
  rw [Array.getD_eq_getD_getElem?,Array.getElem?_replicate]; split <;> rfl
 have z:∀ i,Nat.testBit 0 i = true→False:=fun i h=>by simp at h
 have np:∀ i,¬ Pd (Array.replicate ops.size false) 0 i:=fun i h=>z i h.1
 refine sim hcl hX hT hnt (θ0:=θ) (n0:=tor hp.nx) (fun θ' hp' h' e' ρ' s1 s2 s3 s4 s5=>hj θ' hp' h' e' ρ' s1 s2 s3 s4 s5) ops.size (θ:=θ) (by simp [Array.toList_replicate,List.count_replicate]) (h:=h) (ρ:=ρ) (R:=fun _=>hp.nx) (rk:=fun _=>0) (now:=0) (f:=ops.toList.length + 1) (pr:=0) (mp:=0) (lm:=0) (e:=e) (hp:=hp) ?_ g s.drew
 exact ⟨⟨by simp,fun j o ho hj=>by rw [hno] at hj; cases hj⟩,fun i hi hd=>by simp [Array.getD_eq_getD_getElem?,Array.getElem?_replicate,hi] at hd,fun i h=>(z i h).elim,fun i h=>(np i h).elim,fun i o _ h=>(z i h).elim,fun i o _ h=>(z i h).elim,fun i k _ _ _ h=>(np i h).elim,fun i k _ _ _ h=>(np i h).elim,fun i k _ h=>(np i h).elim,fun i h=>(np i h).elim,fun i _ h=>(np i h).elim,fun i _ _ h=>(np i h).elim,fun i _ h=>(np i h).elim,fun i k _ _ h=>(np i h).elim,S,fun t ht _ hne=>he t ht hne,Ext.refl _ _,Nat.le_refl _⟩
theorem rn_sound {P:Program} {G:Cfg} (hm:P.follows .mixedOrders = true) (hT:TbOk P G.P) (hh:∀ f hk,G.hook f = some hk→HookOk P f hk) (n:Nat):CallOk P (rn G n):=
 rn_ok hT hh (fun cl hcl w0 nt hnt=>drawOk (C:=⟨P,w0,nt⟩) hm hcl hT hnt) n
end
def mkN {α:Type} (f:Nat→α):N α:=⟨f 0,f 1,f 2,f 3,f 4,f 5,f 6,f 7,f 8,f 9,f 10,f 11,f 12,f 13,f 14,f 15⟩
def mkT {α:Type} (l:List α):N (N (N (Option α))):=mkN fun a=>mkN fun b=>mkN fun c=>l[a * 256 + b * 16 + c]?
theorem gN_mkN {α:Type} (f:Nat→α) (d:D16):(gN d).f (mkN f) = f (ofD d):=by cases d <;> rfl
theorem look3_mkT {α:Type} {l:List α} {n:Nat} (h:n < 4096):look3 (mkT l) n = l[n]?:=by
 unfold look3 mkT
 rw [gN_mkN,gN_mkN,gN_mkN]
 have m:∀ k:Nat,k.mod 16 < 16:=fun k=>Nat.mod_lt _ (by decide)
 unfold hi lo
 rw [ofD_toD (m _),ofD_toD (m _),ofD_toD (m _)]
 congr 1
 show n / 16 / 16 % 16 * 256 + n / 16 % 16 * 16 + n % 16 = n
 omega
section
variable {X:Cx} {θ:Th} {hp:Hp} {h:H}
theorem SR.glob (S:SR X θ hp h) (hX:CxOk X):AtH h ⟨0,0,none⟩ shaTab:=by
 obtain ⟨h1,h2,arr,T,fr,h3,h4⟩:=hX.gl
 exact ⟨h2,arr,T,fr,by rw [(S.keepU 0 h1).2]; exact h3,h4⟩
theorem SR.grow (S:SR X θ hp h) {h':H} (hb:∀ b,b < h.size→b < h'.size∧h'[b]? = h[b]?):SR X θ hp h':=by
 refine ⟨fun r x hr=>(S.rows r x hr).at_ (hb _ (S.blk r x hr)).2,S.dist,S.fresh,S.own,fun b hU=>?_,S.kept,S.ro,fun r x hr=>(hb _ (S.blk r x hr)).1⟩
 obtain ⟨h1,h2⟩:=S.keepU b hU
 exact ⟨(hb b h1).1,by rw [(hb b h1).2]; exact h2⟩
def hpE:Hp:=⟨rows0,⟨.d0,.d0,.d0,.d0⟩,none⟩
def ansIs (a:Ans) (v:AV):Bool:=match a with | .ok x _=>beqV x v | _=>false
theorem ansIs_ok {a:Ans} {v:AV} (h:ansIs a v = true):∃ hf,a = .ok v hf:=by
 unfold ansIs at h
 split at h
 ·rename_i x hf; rw [beqV_ok h]; exact ⟨hf,rfl⟩
 ·cases h
def ok1:K1:=fun v h=>.ok v h
theorem fr1s_rvs {θ θ':Th}:∀ {l:List AV} {vs:List Value},l.all fr1 = true→RVs θ' l vs→RVs θ l vs
 | [],_,_,h=>h
 | a :: l,_,ha,⟨V,r,e,h1,h2⟩=>by
  rw [List.all_cons,Bool.and_eq_true] at ha
  exact ⟨V,r,e,fr1_ok ha.1 h1,fr1s_rvs ha.2 h2⟩
def X0 (h:H) (G:Ans→Prop):Cx:=⟨fun b=>b < h.size,h,fun _=>none,none,G⟩
theorem X0_ok (S:SR X θ hp h) (hX:CxOk X) {G:Ans→Prop} (hG:Gd G) (hB:∀ a b,G (.br a b)→G a∧G b):CxOk (X0 h G):=by
 have hg:=S.glob hX
 refine ⟨hG,fun hn=>absurd rfl hn,hB,?_,hg⟩
 obtain ⟨_,arr,T,fr,h3,_⟩:=hg
 rw [Array.getElem?_eq_some_iff] at h3
 exact h3.1
theorem X0_sr (h:H) (G:Ans→Prop):SR (X0 h G) (fun _=>none) hpE h:=
 ⟨fun r x hr=>(by cases hr),fun r r' x x' hr=>(by cases hr),fun r x hr=>(by cases hr),fun r x hr=>(by cases hr),fun b hb=>⟨hb,rfl⟩,fun r row hr=>(by cases hr),rfl,fun r x hr=>(by cases hr)⟩
def PureAt (P:Program) (f:Nat) (args:List AV) (v:AV):Prop:=
 ∀ (X:Cx),CxOk X→∀ (θ:Th) (hp:Hp) (h:H) (vals:List Value),SR X θ hp h→RVs θ args vals →
  FnOk P f∧CallsH P f vals.toArray h fun w h'=>SR X θ hp h'∧RV θ v w
theorem pure_at {P:Program} {cl:CallT} (hcl:CallOk P cl) {f:Nat} {args:List AV} {v:AV} (he:ansIs (cl f args hpE ok1) v = true) (ha:args.all fr1 = true) (hv:free v = true):PureAt P f args v:=by
 intro X hX θ hp h vals S hr
 obtain ⟨hf,he⟩:=ansIs_ok he
 have hG:Gd fun a=>∃ hf,a = Ans.ok v hf:=⟨fun n h=>by obtain ⟨_,h⟩:=h; cases h⟩
 obtain ⟨h1,h2⟩:=hcl (X0 h fun a=>∃ hf,a = .ok v hf) (X0_ok S hX hG fun a b h=>(by obtain ⟨_,h⟩:=h; cases h)) (fun _=>none) hpE h f args vals ok1 (X0_sr h _) (fr1s_rvs ha hr) ⟨hf,he⟩
 refine ⟨h1,h2.mono ?_⟩
 rintro w h' ⟨θ',hp',a,S',_,_,hw,hg⟩
 obtain ⟨hf2,hg⟩:=hg
 have hg:Ans.ok a hp' = .ok v hf2:=hg
 injection hg with e1 e2
 subst e1
 refine ⟨S.grow fun b hb=>S'.keepU b hb,free_ok hv hw⟩
theorem PureAt.hook {P:Program} {f:Nat} {args:List AV} {v:AV} (hP:PureAt P f args v) {X:Cx} (hX:CxOk X) {θ:Th} {hp:Hp} {h:H} {vals:List Value} {q:K1} (S:SR X θ hp h) (hr:RVs θ args vals) (g:X.G (q v hp)):FnOk P f∧CallsH P f vals.toArray h (Res X θ hp q):=by
 obtain ⟨h1,h2⟩:=hP X hX θ hp h vals S hr
 exact ⟨h1,h2.mono fun w h' ⟨a,b⟩=>⟨θ,hp,v,a,Ext.refl _ _,Nat.le_refl _,b,g⟩⟩
def hkT (t:List (List AV×AV)):Hook:=fun args h q=>List.rec (motive:=fun _=>Ans) (.er 220) (fun e _ ih=>bz (beqL args e.1) (frH e.2 fun v=>q v h) ih) t
theorem hkT_ok {P:Program} {f:Nat}:∀ {t:List (List AV×AV)},(∀ e ∈ t,PureAt P f e.1 e.2)→HookOk P f (hkT t)
 | [],_=>fun X hX θ hp h args vals q S hr g=>(hX.gd.er _ g).elim
 | e :: t,ht=>fun X hX θ hp h args vals q S hr g=>by
  have g:X.G (bz (beqL args e.1) (frH e.2 fun v=>q v hp) (hkT t args hp q)):=g
  cases c:beqL args e.1 with
  | true=>
   rw [c] at g
   obtain ⟨_,g2⟩:=frH_ok hX.gd (show X.G (frH e.2 fun v=>q v hp) from g)
   have he:=beqL_ok c
   rw [he] at hr
   exact (ht e (by simp)).hook hX S hr g2
  | false=>
   rw [c] at g
   exact hkT_ok (t:=t) (fun e he=>ht e (by simp [he])) X hX θ hp h args vals q S hr g
end
end Go.Vm
namespace Go.Vm
open Go
def fN {α:Type} (n:Nat) (k:Nat→α):α:=Nat.rec (motive:=fun _=>(Nat→α)→α) (fun k=>k 0) (fun m _ k=>k (Nat.succ m)) n k
abbrev RdT:=Nat→Nat→Nat→Nat→Nat→Nat→Nat→Nat→Nat→Nat→Nat→Nat→Nat→Nat→Nat→Nat→Nat→Nat→Nat→Nat→Nat→Nat→Nat→Nat→Nat
def dbl (x:Nat):Nat:=Nat.mul x 4294967297
def sg (a b c y:Nat):Nat:=Nat.xor (Nat.xor (Nat.shiftRight y a) (Nat.shiftRight y b)) (Nat.shiftRight y c)
def sg3 (a b c x y:Nat):Nat:=Nat.xor (Nat.xor (Nat.shiftRight y a) (Nat.shiftRight y b)) (Nat.shiftRight x c)
def pk (a b c d e f g h:Nat):Nat:=Nat.add (Nat.mul (Nat.add (Nat.mul (Nat.add (Nat.mul (Nat.add (Nat.mul (Nat.add (Nat.mul (Nat.add (Nat.mul (Nat.add (Nat.mul a 4294967296) b) 4294967296) c) 4294967296) d) 4294967296) e) 4294967296) f) 4294967296) g) 4294967296) h
def shaK:List Nat:=[1116352408,1899447441,3049323471,3921009573,961987163,1508970993,2453635748,2870763221,3624381080,310598401,607225278,1426881987,1925078388,2162078206,2614888103,3248222580,3835390401,4022224774,264347078,604807628,770255983,1249150122,1555081692,1996064986,2554220882,2821834349,2952996808,3210313671,3336571891,3584528711,113926993,338241895,666307205,773529912,1294757372,1396182291,1695183700,1986661051,2177026350,2456956037,2730485921,2820302411,3259730800,3345764771,3516065817,3600352804,4094571909,275423344,430227734,506948616,659060556,883997877,958139571,1322822218,1537002063,1747873779,1955562222,2024104815,2227730452,2361852424,2428436474,2756734187,3204031479,3329325298]
def rdN (ks:List Nat):RdT:=List.rec (motive:=fun _=>RdT) (fun a b c d e f g h w0 w1 w2 w3 w4 w5 w6 w7 w8 w9 w10 w11 w12 w13 w14 w15=>pk a b c d e f g h)
 (fun k _ ih a b c d e f g h w0 w1 w2 w3 w4 w5 w6 w7 w8 w9 w10 w11 w12 w13 w14 w15=>
  fN (Nat.add (Nat.add (Nat.add h (sg 6 11 25 (dbl e))) (Nat.xor g (Nat.land e (Nat.xor f g)))) (Nat.add k w0)) fun t=>
  fN (Nat.mod (Nat.add d t) 4294967296) fun e1=>
  fN (Nat.mod (Nat.add t (Nat.add (sg 2 13 22 (dbl a)) (Nat.lor (Nat.land a b) (Nat.land c (Nat.lor a b))))) 4294967296) fun a1=>
  fN (Nat.mod (Nat.add (Nat.add (sg3 17 19 10 w14 (dbl w14)) w9) (Nat.add (sg3 7 18 3 w1 (dbl w1)) w0)) 4294967296) fun w16=>
  ih a1 a b c e1 e f g w1 w2 w3 w4 w5 w6 w7 w8 w9 w10 w11 w12 w13 w14 w15 w16) ks
def wd (x i:Nat):Nat:=Nat.mod (Nat.shiftRight x (Nat.mul 32 i)) 4294967296
def addH (x y:Nat):Nat:=pk (Nat.mod (Nat.add (wd x 7) (wd y 7)) 4294967296) (Nat.mod (Nat.add (wd x 6) (wd y 6)) 4294967296) (Nat.mod (Nat.add (wd x 5) (wd y 5)) 4294967296) (Nat.mod (Nat.add (wd x 4) (wd y 4)) 4294967296) (Nat.mod (Nat.add (wd x 3) (wd y 3)) 4294967296) (Nat.mod (Nat.add (wd x 2) (wd y 2)) 4294967296) (Nat.mod (Nat.add (wd x 1) (wd y 1)) 4294967296) (Nat.mod (Nat.add (wd x 0) (wd y 0)) 4294967296)
def comp (h b:Nat):Nat:=addH h (rdN shaK (wd h 7) (wd h 6) (wd h 5) (wd h 4) (wd h 3) (wd h 2) (wd h 1) (wd h 0) (wd b 15) (wd b 14) (wd b 13) (wd b 12) (wd b 11) (wd b 10) (wd b 9) (wd b 8) (wd b 7) (wd b 6) (wd b 5) (wd b 4) (wd b 3) (wd b 2) (wd b 1) (wd b 0))
def shaBs (x:Nat) (m:Nat):Nat→Nat:=Nat.rec (motive:=fun _=>Nat) 47962653771679561900652889051773562940742041696833059450490514104358170316057 (fun i ih=>comp ih (Nat.mod (Nat.shiftRight x (Nat.mul 512 (Nat.sub (Nat.pred m) i))) (Nat.shiftLeft 1 512)))
def shaN (n x:Nat):Nat:=
 let z:=Nat.sub (Nat.mul 64 (Nat.div (Nat.add n 72) 64)) n
 shaBs (Nat.add (Nat.shiftLeft (Nat.add (Nat.mul x 256) 128) (Nat.mul 8 (Nat.pred z))) (Nat.mul 8 n)) (Nat.div (Nat.add n 72) 64) (Nat.div (Nat.add n 72) 64)
end Go.Vm
namespace Go.Sh
open Go Go.Vm
open Go.Sh.Ty (reg)
def sc2 (Q:Exit→Act→World→Prop):Exit→Act→World→Prop:=fun e a w=>match e with | .goto _=>False | e=>Q e a w
def scQ (C:Ctx) (b:Code) (Q:Exit→Act→World→Prop):Exit→Act→World→Prop:=fun e a w=>match e with | .goto l=>∃ r,findLabel b l = some r∧r.wp C.P (sc2 Q) a w | e=>Q e a w
section
variable {C:Ctx} {Q:Exit→Act→World→Prop} {ρ:Env} {h:H} {b:Code}
theorem CW.scope1 (hh:CW C b (scQ C b Q) ρ h):CW C (.scope b) Q ρ h:=by
 intro a w s
 refine wp_scope_n 2 ?_
 have h1:=hh a w s
 show b.wp C.P _ a w
 refine Code.wp_mono ?_ h1
 intro e a w hq
 cases e <;> first | exact hq | skip
 obtain ⟨r,hf,hr⟩:=hq
 refine ⟨r,hf,?_⟩
 show r.wp C.P _ a w
 refine Code.wp_mono ?_ hr
 intro e a w hq
 cases e <;> first | exact hq | exact hq.elim
theorem CW.goto {l:Nat} (hq:QN C Q (.goto l) ρ h):CW C (.goto l) Q ρ h:=fun a w s=>wp_goto (hq a w s)
theorem QN.thenGoto {K:Act→World→Prop} {l:Nat} (hh:QN C Q (.goto l) ρ h):QN C (Exit.then K Q) (.goto l) ρ h:=hh
theorem QN.scRet (hh:QN C Q .ret ρ h):QN C (scQ C b Q) .ret ρ h:=hh
theorem QN.sc2Ret (hh:QN C Q .ret ρ h):QN C (sc2 Q) .ret ρ h:=hh
theorem QN.scGoto {l:Nat} {r:Code} (hf:findLabel b l = some r) (hh:CW C r (sc2 Q) ρ h):QN C (scQ C b Q) (.goto l) ρ h:=fun a w s=>⟨r,hf,hh a w s⟩
end
end Go.Sh
namespace Go.Proofs.YtmpmildpioebhaaGreatDoor
open Go Go.Sh
open Go.Sh.Ty (reg)
theorem sha_word.ok (b : Sl) (k : UInt32 → H → Prop) (h : H) (hh : sha_word.b b k h) : CallsH Prog 198 [reg b].toArray h fun v h' => ∃ r : UInt32, v = reg r ∧ k r h' := by
 unfold sha_word.b at hh
 refine CallsH.of 25 Tryz.func198 rfl Tryz.ntmps198 rfl (fun w0 => ?_)
 refine .sr (.A (reg ((0 : UInt32) : UInt32)) (.nx (.seq ?_)))
 refine CW.drawN 23 rfl follows_mixed [0, 1, 2, 3, 4, 5, 6, 7, 8, 9, 10, 11, 12, 13, 14, 15, 16, 17, 18, 19, 20, 21, 22] ?_
 refine .P 0 rfl (v_move (v := reg b) rfl) ?_
 obtain ⟨t4, ht4, hh⟩ := hh
 refine .P 1 rfl (v_idx_slP sl_173 rfl rfl ht4.1 ht4.2.1 ht4.2.2) (.KL 2 0 na_5 get_5_all rfl hh rfl (fun t5 hh => .P 3 rfl (v_conv_u32 un_5 un_249 rfl) (.P 4 rfl (v_shl32 (a := (toU32 (t5.toNat : Int))) (b := 24) rfl rfl (by decide)) (.P 5 rfl (v_move (v := reg b) rfl) ?_))))
 obtain ⟨t9, ht9, hh⟩ := hh
 refine .P 6 rfl (v_idx_slP sl_173 rfl rfl ht9.1 ht9.2.1 ht9.2.2) (.KL 7 0 na_5 get_5_all rfl hh rfl (fun t10 hh => .P 8 rfl (v_conv_u32 un_5 un_249 rfl) (.P 9 rfl (v_shl32 (a := (toU32 (t10.toNat : Int))) (b := 16) rfl rfl (by decide)) (.P 10 rfl (v_or32 (a := (shl32 (toU32 (t5.toNat : Int)) 24)) (b := (shl32 (toU32 (t10.toNat : Int)) 16)) rfl rfl) (.P 11 rfl (v_move (v := reg b) rfl) ?_)))))
 obtain ⟨t15, ht15, hh⟩ := hh
 refine .P 12 rfl (v_idx_slP sl_173 rfl rfl ht15.1 ht15.2.1 ht15.2.2) (.KL 13 0 na_5 get_5_all rfl hh rfl (fun t16 hh => .P 14 rfl (v_conv_u32 un_5 un_249 rfl) (.P 15 rfl (v_shl32 (a := (toU32 (t16.toNat : Int))) (b := 8) rfl rfl (by decide)) (.P 16 rfl (v_or32 (a := ((shl32 (toU32 (t5.toNat : Int)) 24) ||| (shl32 (toU32 (t10.toNat : Int)) 16))) (b := (shl32 (toU32 (t16.toNat : Int)) 8)) rfl rfl) (.P 17 rfl (v_move (v := reg b) rfl) ?_)))))
 obtain ⟨t21, ht21, hh⟩ := hh
 refine .P 18 rfl (v_idx_slP sl_173 rfl rfl ht21.1 ht21.2.1 ht21.2.2) (.KL 19 0 na_5 get_5_all rfl hh rfl (fun t22 hh => .P 20 rfl (v_conv_u32 un_5 un_249 rfl) (.P 21 rfl (v_or32 (a := (((shl32 (toU32 (t5.toNat : Int)) 24) ||| (shl32 (toU32 (t10.toNat : Int)) 16)) ||| (shl32 (toU32 (t16.toNat : Int)) 8))) (b := (toU32 (t22.toNat : Int))) rfl rfl) (.P 22 rfl (v_assign (v := reg (((((shl32 (toU32 (t5.toNat : Int)) 24) ||| (shl32 (toU32 (t10.toNat : Int)) 16)) ||| (shl32 (toU32 (t16.toNat : Int)) 8)) ||| (toU32 (t22.toNat : Int))) : UInt32)) rfl) ?_))))
 refine .done (by kernel_rfl) ?_
 refine QN.then_ ?_
 refine CW.ret ?_
 exact ret1 rfl rfl ⟨(((((shl32 (toU32 (t5.toNat : Int)) 24) ||| (shl32 (toU32 (t10.toNat : Int)) 16)) ||| (shl32 (toU32 (t16.toNat : Int)) 8)) ||| (toU32 (t22.toNat : Int))) : UInt32), rfl, hh⟩
theorem math_bits_RotateLeft32.ok (x : UInt32) (kv : Int) (k : UInt32 → H → Prop) (h : H) (hh : math_bits_RotateLeft32.b x kv k h) : CallsH Prog 199 [reg x, reg kv].toArray h fun v h' => ∃ r : UInt32, v = reg r ∧ k r h' := by
 unfold math_bits_RotateLeft32.b at hh
 refine CallsH.of 17 Tryz.func199 rfl Tryz.ntmps199 rfl (fun w0 => ?_)
 refine .sr (.A (reg ((0 : UInt32) : UInt32)) (.nx (.sr (.M (reg kv) (.V (v_conv_u64 un_3 un_241 rfl) (.V (v_and64 (a := (toU64 kv)) (b := (31 : UInt64)) rfl rfl) (.A (reg (((toU64 kv) &&& (31 : UInt64)) : UInt64)) (.nx (.sr (.M (reg x) (.M (reg (((toU64 kv) &&& (31 : UInt64)) : UInt64)) ?_)))))))))))
 refine .V (v_shl32 (a := x) (b := (((toU64 kv) &&& (31 : UInt64)).toNat : Int)) rfl rfl (Int.natCast_nonneg _)) (.M (reg x) (.M (reg (((toU64 kv) &&& (31 : UInt64)) : UInt64)) (.V (v_sub64 (a := (32 : UInt64)) (b := ((toU64 kv) &&& (31 : UInt64))) rfl rfl) (.V (v_shr32 (a := x) (b := (((32 : UInt64) - ((toU64 kv) &&& (31 : UInt64))).toNat : Int)) rfl rfl (Int.natCast_nonneg _)) (.V (v_or32 (a := (shl32 x ((toU64 kv) &&& (31 : UInt64)).toNat)) (b := (shr32 x ((32 : UInt64) - ((toU64 kv) &&& (31 : UInt64))).toNat)) rfl rfl) (.A (reg (((shl32 x ((toU64 kv) &&& (31 : UInt64)).toNat) ||| (shr32 x ((32 : UInt64) - ((toU64 kv) &&& (31 : UInt64))).toNat)) : UInt32)) (.nx ?_)))))))
 refine CW.ret ?_
 exact ret1 rfl rfl ⟨(((shl32 x ((toU64 kv) &&& (31 : UInt64)).toNat) ||| (shr32 x ((32 : UInt64) - ((toU64 kv) &&& (31 : UInt64))).toNat)) : UInt32), rfl, hh⟩
theorem rank_At.ok (height : Int) (round : Int) (k : Cx → H → Prop) (h : H) (hh : rank_At.b height round k h) : CallsH Prog 139 [reg height, reg round].toArray h fun v h' => ∃ r : Cx, v = reg r ∧ k r h' := by
 unfold rank_At.b at hh
 refine CallsH.of 10 Tryz.func139 rfl Tryz.ntmps139 rfl (fun w0 => ?_)
 refine .sr (.A (reg ((⟨0, 0⟩ : Cx) : Cx)) (.nx (.sr (.M (reg height) (.V (v_conv_fl un_3 un_284 rfl) (.M (reg round) (.V (v_conv_fl un_3 un_284 rfl) (.V (v_complex rfl rfl) (.A (reg ((⟨(fnear height).b, (fnear round).b⟩ : Cx) : Cx)) (.nx ?_))))))))))
 refine CW.ret ?_
 exact ret1 rfl rfl ⟨((⟨(fnear height).b, (fnear round).b⟩ : Cx) : Cx), rfl, hh⟩
theorem rank_Good.ok (r : Cx) (k : Bool → H → Prop) (h : H) (hh : rank_Good.b r k h) : CallsH Prog 138 [reg r].toArray h fun v h' => ∃ r : Bool, v = reg r ∧ k r h' := by
 unfold rank_Good.b at hh
 refine CallsH.of 11 Tryz.func138 rfl Tryz.ntmps138 rfl (fun w0 => ?_)
 refine .sr (.A (reg false) (.nx ?_))
 refine CW.join (fun ρ h => ∃ (ρ' : Env) (t2 : Bool), ρ = setl ρ' [(2, reg t2)] ∧ (rank_Good.j1 k) t2 h) ?_ ?_
 ·refine CW.region ?_
  refine .M (reg r) (.V (v_real rfl) ?_)
  refine .e (e_callP fn_231 rfl rfl hh ?_)
  intro h t5 hh
  refine .M (reg t5) ?_
  refine ifb_cases hh (fun hb hh => ?_) (fun hb hh => ?_)
  ·refine .yv 6 rfl (cb hb) rfl (v_move (v := reg (r : Cx)) rfl) rfl (.yv 6 rfl (cb hb) rfl (v_imag rfl) rfl ?_)
   refine .ye 6 rfl (cb hb) rfl (e_callP fn_231 rfl rfl hh ?_)
   intro h t9 hh
   refine .V (v_pickT (v := reg t9) rfl hb rfl) (.A (reg t9) ?_)
   refine .nil ?_
   exact QN.thenJ ⟨_, t9, setl_eq ⟨rfl, trivial⟩, hh⟩
  ·refine .no 6 rfl (cb hb) rfl rfl (.no 6 rfl (cb hb) rfl rfl (.no 6 rfl (cb hb) rfl rfl (.V (v_pickF (v := reg false) rfl hb rfl) (.A (reg false) ?_))))
   refine .nil ?_
   exact QN.thenJ ⟨_, false, setl_eq ⟨rfl, trivial⟩, hh⟩
 ·rintro ρ h ⟨ρ', t2, rfl, hh⟩
  unfold rank_Good.j1 at hh
  refine CW.ret ?_
  exact ret1 rfl rfl ⟨(t2 : Bool), rfl, hh⟩
theorem rank_Height.ok (r : Cx) (k : Int → H → Prop) (h : H) (hh : rank_Height.b r k h) : CallsH Prog 140 [reg r].toArray h fun v h' => ∃ r : Int, v = reg r ∧ k r h' := by
 unfold rank_Height.b at hh
 refine CallsH.of 9 Tryz.func140 rfl Tryz.ntmps140 rfl (fun w0 => ?_)
 refine .sr (.A (reg ((0 : Int) : Int)) (.nx (.seq (.sr (.M (reg r) ?_)))))
 refine .e (e_callP fn_138 rfl rfl hh ?_)
 intro h t4 hh
 refine .V (v_not rfl) (.nx ?_)
 refine CW.cond (!t4) rfl (fun hb => ?_) (fun hb => ?_)
 ·have hh := hh.1 hb
  refine .sr (.A (reg ((0 : Int) : Int)) (.nx ?_))
  refine CW.ret ?_
  refine QN.thenRet ?_
  exact ret1 rfl rfl ⟨((0 : Int) : Int), rfl, hh⟩
 ·have hh := hh.2 hb
  refine CW.skip ?_
  refine QN.then_ ?_
  refine .sr (.M (reg r) (.V (v_real rfl) ?_))
  obtain ⟨t8, ht8, hh⟩ := hh
  refine .V (v_conv_cut un_284 un_3 rfl ht8) (.A (reg t8) (.nx ?_))
  refine CW.ret ?_
  exact ret1 rfl rfl ⟨(t8 : Int), rfl, hh⟩
theorem rank_Round.ok (r : Cx) (k : Int → H → Prop) (h : H) (hh : rank_Round.b r k h) : CallsH Prog 88 [reg r].toArray h fun v h' => ∃ r : Int, v = reg r ∧ k r h' := by
 unfold rank_Round.b at hh
 refine CallsH.of 9 Tryz.func88 rfl Tryz.ntmps88 rfl (fun w0 => ?_)
 refine .sr (.A (reg ((0 : Int) : Int)) (.nx (.seq (.sr (.M (reg r) ?_)))))
 refine .e (e_callP fn_138 rfl rfl hh ?_)
 intro h t4 hh
 refine .V (v_not rfl) (.nx ?_)
 refine CW.cond (!t4) rfl (fun hb => ?_) (fun hb => ?_)
 ·have hh := hh.1 hb
  refine .sr (.A (reg ((0 : Int) : Int)) (.nx ?_))
  refine CW.ret ?_
  refine QN.thenRet ?_
  exact ret1 rfl rfl ⟨((0 : Int) : Int), rfl, hh⟩
 ·have hh := hh.2 hb
  refine CW.skip ?_
  refine QN.then_ ?_
  refine .sr (.M (reg r) (.V (v_imag rfl) ?_))
  obtain ⟨t8, ht8, hh⟩ := hh
  refine .V (v_conv_cut un_284 un_3 rfl ht8) (.A (reg t8) (.nx ?_))
  refine CW.ret ?_
  exact ret1 rfl rfl ⟨(t8 : Int), rfl, hh⟩
theorem rank_whole.ok (x : Fl) (lo : Int) (hi : Int) (k : Bool → H → Prop) (h : H) (hh : rank_whole.b x lo hi k h) : CallsH Prog 231 [reg x, reg lo, reg hi].toArray h fun v h' => ∃ r : Bool, v = reg r ∧ k r h' := by
 unfold rank_whole.b at hh
 refine CallsH.of 24 Tryz.func231 rfl Tryz.ntmps231 rfl (fun w0 => ?_)
 refine .sr (.A (reg false) (.nx ?_))
 refine CW.join (fun ρ h => ∃ (ρ' : Env) (t6 : Bool), ρ = setl ρ' [(6, reg t6)] ∧ (rank_whole.j1 k) t6 h) ?_ ?_
 ·refine CW.region ?_
  refine .M (reg x) (.M (reg lo) (.V (v_conv_fl un_3 un_284 rfl) (.V (v_fgeq rfl rfl) (.M (reg ((fge x (fnear lo)) : Bool)) (.tv 11 rfl rfl rfl (fun hb => v_move (v := reg (x : Fl)) rfl) rfl (.tv 11 rfl rfl rfl (fun hb => v_move (v := reg (hi : Int)) rfl) rfl (.tv 11 rfl rfl rfl (fun hb => v_conv_fl un_3 un_284 (gt hb)) rfl (.tv 11 rfl rfl rfl (fun hb => v_fleq (gt hb) (gt hb)) rfl (.V (v_pick_and rfl (fun hb => gt hb) rfl) ?_)))))))))
  refine .M (reg (((fge x (fnear lo)) && (fle x (fnear hi))) : Bool)) ?_
  refine ifb_cases hh (fun hb hh => ?_) (fun hb hh => ?_)
  ·refine .yv 17 rfl (cb hb) rfl (v_move (v := reg (x : Fl)) rfl) rfl (.yv 17 rfl (cb hb) rfl (v_move (v := reg (x : Fl)) rfl) rfl ?_)
   obtain ⟨t20, ht20, hh⟩ := hh
   refine .yv 17 rfl (cb hb) rfl (v_conv_cut un_284 un_3 rfl ht20) rfl (.yv 17 rfl (cb hb) rfl (v_conv_fl un_3 un_284 rfl) rfl (.yv 17 rfl (cb hb) rfl (v_feql rfl rfl) rfl (.V (v_pickT (v := reg ((feq x (fnear t20)) : Bool)) rfl hb rfl) (.A (reg ((feq x (fnear t20)) : Bool)) ?_))))
   refine .nil ?_
   exact QN.thenJ ⟨_, (feq x (fnear t20)), setl_eq ⟨rfl, trivial⟩, hh⟩
  ·refine .no 17 rfl (cb hb) rfl rfl (.no 17 rfl (cb hb) rfl rfl (.no 17 rfl (cb hb) rfl rfl (.no 17 rfl (cb hb) rfl rfl (.no 17 rfl (cb hb) rfl rfl (.V (v_pickF (v := reg false) rfl hb rfl) (.A (reg false) ?_))))))
   refine .nil ?_
   exact QN.thenJ ⟨_, false, setl_eq ⟨rfl, trivial⟩, hh⟩
 ·rintro ρ h ⟨ρ', t6, rfl, hh⟩
  unfold rank_whole.j1 at hh
  refine CW.ret ?_
  exact ret1 rfl rfl ⟨(t6 : Bool), rfl, hh⟩
theorem rank_Leader.ok (n : Int) (r : Cx) (k : Int → H → Prop) (h : H) (hh : rank_Leader.b n r k h) : CallsH Prog 232 [reg n, reg r].toArray h fun v h' => ∃ r : Int, v = reg r ∧ k r h' := by
 unfold rank_Leader.b at hh
 refine CallsH.of 22 Tryz.func232 rfl Tryz.ntmps232 rfl (fun w0 => ?_)
 refine .sr (.A (reg ((0 : Int) : Int)) (.nx (.seq ?_)))
 refine CW.join (fun ρ h => ∃ (ρ' : Env) (t12 : Bool), ρ = setl ρ' [(0, reg n), (1, reg r), (12, reg t12)] ∧ (rank_Leader.j1 k) n r t12 h) ?_ ?_
 ·refine CW.region ?_
  refine .M (reg n) (.V (v_ilss rfl rfl) (.M (reg ((decide (n < (1 : Int))) : Bool)) ?_))
  refine ifb_cases hh (fun hb hh => ?_) (fun hb hh => ?_)
  ·refine .no 8 rfl (cb hb) rfl rfl (.no 8 rfl (cb hb) rfl rfl (.no 8 rfl (cb hb) rfl rfl (.V (v_pickT (v := reg true) rfl hb rfl) ?_)))
   refine .nil ?_
   exact QN.thenJ ⟨_, true, setl_eq ⟨rfl, ⟨rfl, ⟨rfl, trivial⟩⟩⟩, hh⟩
  ·refine .yv 8 rfl (cb hb) rfl (v_move (v := reg (r : Cx)) rfl) rfl ?_
   refine .ye 8 rfl (cb hb) rfl (e_callP fn_138 rfl rfl hh ?_)
   intro h t10 hh
   refine .yv 8 rfl (cb hb) rfl (v_not rfl) rfl (.V (v_pickF (v := reg ((!t10) : Bool)) rfl hb rfl) ?_)
   refine .nil ?_
   exact QN.thenJ ⟨_, (!t10), setl_eq ⟨rfl, ⟨rfl, ⟨rfl, trivial⟩⟩⟩, hh⟩
 ·rintro ρ h ⟨ρ', t12, rfl, hh⟩
  unfold rank_Leader.j1 at hh
  refine CW.cond t12 rfl (fun hb_1 => ?_) (fun hb_1 => ?_)
  ·have hh := hh.1 hb_1
   refine .sr (.A (reg ((0 : Int) : Int)) (.nx ?_))
   refine CW.ret ?_
   refine QN.thenRet ?_
   exact ret1 rfl rfl ⟨((0 : Int) : Int), rfl, hh⟩
  ·have hh := hh.2 hb_1
   refine CW.skip ?_
   refine QN.then_ ?_
   refine .sr (.M (reg r) (.V (v_real rfl) (.M (reg r) (.V (v_imag rfl) ?_))))
   obtain ⟨t17, ht17, hh⟩ := hh
   refine .V (v_fadd rfl rfl ht17) (.A (reg t17) (.nx (.sr (.M (reg t17) ?_))))
   obtain ⟨t19, ht19, hh⟩ := hh
   refine .V (v_conv_cut un_284 un_3 rfl ht19) (.M (reg n) ?_)
   obtain ⟨hm, hh⟩ := hh
   refine .V (v_irem rfl rfl hm) (.A (reg ((irem t19 n) : Int)) (.nx ?_))
   refine CW.ret ?_
   exact ret1 rfl rfl ⟨((irem t19 n) : Int), rfl, hh⟩
theorem code_Writer_Num.ok (w : Pt) (list : Sl) (k : Unit → H → Prop) (h : H) (hh : code_Writer_Num.b w list k h) : CallsH Prog 116 [reg w, reg list].toArray h fun v h' => ∃ r : Unit, v = reg r ∧ k r h' := by
 unfold code_Writer_Num.b at hh
 refine CallsH.of 34 Tryz.func116 rfl Tryz.ntmps116 rfl (fun w0 => ?_)
 refine CW.seq ?_
 refine .sr (.M (reg w) (.V (v_eq_nil pt_244 rfl rfl) (.nx ?_)))
 refine CW.cond w.isNone rfl (fun hb => ?_) (fun hb => ?_)
 ·have hh := hh.1 hb
  refine CW.ret ?_
  refine QN.thenRet ?_
  exact ret0 rfl ⟨(), rfl, hh⟩
 ·have hh := hh.2 hb
  refine CW.skip ?_
  refine QN.then_ ?_
  refine .sr (.M (reg list) (.V (v_len_sl (sl_48).1 rfl) (.M (reg ((0 : Int) : Int)) (.nx ?_))))
  refine CW.block ?_
  unfold code_Writer_Num.l1 at hh
  refine CW.loop (fun (σ0 : Int) ρ => match σ0 with | t11 => ∃ ρ' : Env, ρ = setl ρ' [(0, reg w), (9, reg list), (10, reg ((list.len : Int) : Int)), (11, reg t11)]) hh ⟨_, setl_eq ⟨rfl, ⟨rfl, ⟨rfl, ⟨rfl, trivial⟩⟩⟩⟩⟩ ?_
  clear hh
  rintro s1 t11 ρ h ⟨ρ', rfl⟩ hh
  refine .sr (.V (v_ilss rfl rfl) (.nx (.seq ?_)))
  refine CW.cond (decide (t11 < (list.len : Int))) rfl (fun hb_1 => ?_) (fun hb_1 => ?_)
  ·have hh := hh.1 hb_1
   refine CW.skip ?_
   refine QN.then_ ?_
   refine CW.join (fun ρ h => ∃ (ρ' : Env), ρ = setl ρ' [(0, reg w), (9, reg list), (10, reg ((list.len : Int) : Int)), (11, reg t11)] ∧ (code_Writer_Num.j1 s1) w list (list.len : Int) t11 h) ?_ ?_
   ·refine CW.block ?_
    refine .sr ?_
    obtain ⟨t13, ht13, hh⟩ := hh
    refine .V (v_idx_slP sl_48 rfl rfl ht13.1 ht13.2.1 ht13.2.2) (.L 0 na_3 get_3_all hh rfl (fun t14 hh => .A (reg t14) (.nx (.sr (.A (reg ((56 : Int) : Int)) (.nx ?_))))))
    refine CW.block ?_
    unfold code_Writer_Num.l2 at hh
    refine CW.loop (fun (σ0 : Int) ρ => match σ0 with | i => ∃ ρ' : Env, ρ = setl ρ' [(0, reg w), (5, reg t14), (9, reg list), (10, reg ((list.len : Int) : Int)), (11, reg t11), (6, reg i)]) hh ⟨_, setl_eq ⟨rfl, ⟨rfl, ⟨rfl, ⟨rfl, ⟨rfl, ⟨rfl, trivial⟩⟩⟩⟩⟩⟩⟩ ?_
    clear hh
    rintro s2 i ρ h ⟨ρ', rfl⟩ hh
    refine CW.seq ?_
    refine .sr (.M (reg i) (.V (v_igeq rfl rfl) (.nx ?_)))
    refine CW.cond (decide ((0 : Int) ≤ i)) rfl (fun hb_2 => ?_) (fun hb_2 => ?_)
    ·have hh := hh.1 hb_2
     refine CW.skip ?_
     refine QN.then_ ?_
     refine CW.seq ?_
     refine CW.block ?_
     refine CW.drawN 15 rfl follows_mixed [0, 1, 2, 3, 4, 5, 6, 7, 8, 9, 12, 13] ?_
     refine .P 0 rfl (v_move (v := reg w) rfl) (.P 1 rfl (v_move (v := reg w) rfl) ?_)
     obtain ⟨p, hp, hh⟩ := hh
     refine .P 2 rfl (v_nilCheck (congrArg Value.pointer hp)) (.P 3 rfl (v_fieldAddr fl_246_0 rfl) (.KL 4 0 na_173 get_246_b rfl hh rfl (fun t23 hh => .P 5 rfl (v_move (v := reg t14) rfl) (.P 6 rfl (v_conv_u64 un_3 un_243 rfl) (.P 7 rfl (v_move (v := reg i) rfl) ?_)))))
     obtain ⟨hm, hh⟩ := hh
     refine .P 8 rfl (v_shr64 (a := (toU64 t14)) rfl rfl hm) (.P 9 rfl (v_conv_u8 un_243 un_5 rfl) ?_)
     refine mks_elim hh (fun pt29 t29 hpt29 ht29 hh => ?_)
     refine .w 10 (by kernel_rfl) rfl (by kernel_rfl) (.e (e_mks [((toU8 ((shr64 (toU64 t14) i.toNat).toNat : Int)) : UInt8)] hpt29 ht29 zo_5 sl_173 rfl rfl rfl rfl rfl ?_))
     obtain ⟨hc, hh⟩ := hh
     refine ⟨⟨trivial, .inr hc⟩, ?_⟩
     refine .w 11 (by kernel_rfl) rfl (by kernel_rfl) (.e (e_app sl_173 zo_5 by_5 rfl rfl rfl hh ?_))
     intro h t30 hh
     refine ⟨⟨trivial, .inl (by kernel_rfl)⟩, ?_⟩
     refine .P 12 rfl (v_nilCheck (congrArg Value.pointer hp)) (.P 13 rfl (v_fieldAddr fl_246_0 rfl) ?_)
     obtain ⟨xw_3, hxw_3, hwxw_3, hh⟩ := hh
     refine .w 14 (by kernel_rfl) rfl (by kernel_rfl) (.e (e_storeN (p := p) (nv := enc (t30 : Sl)) 0 rfl rfl rfl sz_173 (one_sl _) hxw_3 hwxw_3 (len_code_Writer _) (len_sl _) rfl (set_246_b xw_3 (t30 : Sl)) ?_))
     refine ⟨⟨trivial, .inl (by kernel_rfl)⟩, ?_⟩
     refine .done (by kernel_rfl) ?_
     refine QN.blockN ?_
     refine QN.then_ ?_
     refine CW.region ?_
     refine .M (reg i) (.V (v_isub rfl rfl) (.A (reg ((isub i (8 : Int)) : Int)) ?_))
     refine .nil ?_
     exact QN.thenJ ⟨(isub i (8 : Int)), ⟨_, setl_eq ⟨rfl, ⟨rfl, ⟨rfl, ⟨rfl, ⟨rfl, ⟨rfl, trivial⟩⟩⟩⟩⟩⟩⟩, hh⟩
    ·have hh := hh.2 hb_2
     refine CW.exit ?_
     refine QN.thenExit ?_
     refine QN.thenExit ?_
     refine QN.blockExit ?_
     refine QN.blockN ?_
     exact QN.thenJ ⟨_, setl_eq ⟨rfl, ⟨rfl, ⟨rfl, ⟨rfl, trivial⟩⟩⟩⟩, hh⟩
   ·rintro ρ h ⟨ρ', rfl, hh⟩
    unfold code_Writer_Num.j1 at hh
    refine CW.region ?_
    refine .V (v_iadd rfl rfl) (.M (reg ((iadd t11 (1 : Int)) : Int)) ?_)
    refine .nil ?_
    exact QN.thenJ ⟨(iadd t11 (1 : Int)), ⟨_, setl_eq ⟨rfl, ⟨rfl, ⟨rfl, ⟨rfl, trivial⟩⟩⟩⟩⟩, hh⟩
  ·have hh := hh.2 hb_1
   refine CW.exit ?_
   refine QN.thenExit ?_
   refine QN.thenExit ?_
   refine QN.blockExit ?_
   exact ret0n rfl ⟨(), rfl, hh⟩
theorem code_Writer_Digest.ok (w : Pt) (list : Sl) (k : Unit → H → Prop) (h : H) (hh : code_Writer_Digest.b w list k h) : CallsH Prog 112 [reg w, reg list].toArray h fun v h' => ∃ r : Unit, v = reg r ∧ k r h' := by
 unfold code_Writer_Digest.b at hh
 refine CallsH.of 24 Tryz.func112 rfl Tryz.ntmps112 rfl (fun w0 => ?_)
 refine CW.seq ?_
 refine .sr (.M (reg w) (.V (v_eq_nil pt_244 rfl rfl) (.nx ?_)))
 refine CW.cond w.isNone rfl (fun hb => ?_) (fun hb => ?_)
 ·have hh := hh.1 hb
  refine CW.ret ?_
  refine QN.thenRet ?_
  exact ret0 rfl ⟨(), rfl, hh⟩
 ·have hh := hh.2 hb
  refine CW.skip ?_
  refine QN.then_ ?_
  refine .sr (.M (reg list) (.V (v_len_sl (sl_133).1 rfl) (.M (reg ((0 : Int) : Int)) (.nx ?_))))
  refine CW.block ?_
  unfold code_Writer_Digest.l1 at hh
  refine CW.loop (fun (σ0 : Int) ρ => match σ0 with | t10 => ∃ ρ' : Env, ρ = setl ρ' [(0, reg w), (8, reg list), (9, reg ((list.len : Int) : Int)), (10, reg t10)]) hh ⟨_, setl_eq ⟨rfl, ⟨rfl, ⟨rfl, ⟨rfl, trivial⟩⟩⟩⟩⟩ ?_
  clear hh
  rintro s1 t10 ρ h ⟨ρ', rfl⟩ hh
  refine .sr (.V (v_ilss rfl rfl) (.nx (.seq ?_)))
  refine CW.cond (decide (t10 < (list.len : Int))) rfl (fun hb_1 => ?_) (fun hb_1 => ?_)
  ·have hh := hh.1 hb_1
   refine CW.skip ?_
   refine QN.then_ ?_
   refine CW.seq ?_
   refine CW.block ?_
   refine .sr ?_
   obtain ⟨t12, ht12, hh⟩ := hh
   refine .V (v_idx_slP sl_133 rfl rfl ht12.1 ht12.2.1 ht12.2.2) (.LA 0 ag_31 get_31_all (fun _ => (arr_len (n := 32) _)) hh rfl (fun t13 hh => ?_))
   refine box_elim hh (fun d hd hh => ?_)
   refine .e (e_allocP hd zo_31 rfl ?_)
   refine .S (t13 : Arr 32 UInt8) 0 sz_31 (one_arr (n := 32) (fun _ => rfl) _) (fun _ => arr_len (n := 32) _) (arr_len (n := 32) _) (fun x => set_31_all x (t13 : Arr 32 UInt8)) hh rfl rfl (fun _ hh => .nx ?_)
   refine CW.drawN 10 rfl follows_mixed [0, 1, 2, 3, 4, 5, 7, 8] ?_
   refine .P 0 rfl (v_move (v := reg w) rfl) (.P 1 rfl (v_move (v := reg w) rfl) ?_)
   obtain ⟨p, hp, hh⟩ := hh
   refine .P 2 rfl (v_nilCheck (congrArg Value.pointer hp)) (.P 3 rfl (v_fieldAddr fl_246_0 rfl) (.KL 4 0 na_173 get_246_b rfl hh rfl (fun t18 hh => .P 5 rfl (v_slice_an ar_31 rfl) ?_)))
   refine .w 6 (by kernel_rfl) rfl (by kernel_rfl) (.e (e_app sl_173 zo_5 by_5 rfl rfl rfl hh ?_))
   intro h t20 hh
   refine ⟨⟨trivial, .inl (by kernel_rfl)⟩, ?_⟩
   refine .P 7 rfl (v_nilCheck (congrArg Value.pointer hp)) (.P 8 rfl (v_fieldAddr fl_246_0 rfl) ?_)
   obtain ⟨xw_3, hxw_3, hwxw_3, hh⟩ := hh
   refine .w 9 (by kernel_rfl) rfl (by kernel_rfl) (.e (e_storeN (p := p) (nv := enc (t20 : Sl)) 0 rfl rfl rfl sz_173 (one_sl _) hxw_3 hwxw_3 (len_code_Writer _) (len_sl _) rfl (set_246_b xw_3 (t20 : Sl)) ?_))
   refine ⟨⟨trivial, .inl (by kernel_rfl)⟩, ?_⟩
   refine .done (by kernel_rfl) ?_
   refine QN.blockN ?_
   refine QN.then_ ?_
   refine CW.region ?_
   refine .V (v_iadd rfl rfl) (.M (reg ((iadd t10 (1 : Int)) : Int)) ?_)
   refine .nil ?_
   exact QN.thenJ ⟨(iadd t10 (1 : Int)), ⟨_, setl_eq ⟨rfl, ⟨rfl, ⟨rfl, ⟨rfl, trivial⟩⟩⟩⟩⟩, hh⟩
  ·have hh := hh.2 hb_1
   refine CW.exit ?_
   refine QN.thenExit ?_
   refine QN.thenExit ?_
   refine QN.blockExit ?_
   exact ret0n rfl ⟨(), rfl, hh⟩
theorem code_Writer_Bytes.ok (w : Pt) (k : Sl → H → Prop) (h : H) (hh : code_Writer_Bytes.b w k h) : CallsH Prog 113 [reg w].toArray h fun v h' => ∃ r : Sl, v = reg r ∧ k r h' := by
 unfold code_Writer_Bytes.b at hh
 refine CallsH.of 15 Tryz.func113 rfl Tryz.ntmps113 rfl (fun w0 => ?_)
 refine .sr (.A (reg (Sl.nil : Sl)) (.nx (.seq (.sr (.M (reg w) (.V (v_eq_nil pt_244 rfl rfl) (.nx ?_)))))))
 refine CW.cond w.isNone rfl (fun hb => ?_) (fun hb => ?_)
 ·have hh := hh.1 hb
  refine .sr (.A (reg (Sl.nil : Sl)) (.nx ?_))
  refine CW.ret ?_
  refine QN.thenRet ?_
  exact ret1 rfl rfl ⟨(Sl.nil : Sl), rfl, hh⟩
 ·have hh := hh.2 hb
  refine CW.skip ?_
  refine QN.then_ ?_
  refine CW.seq ?_
  refine CW.drawN 11 rfl follows_mixed [0, 1, 2, 3, 4, 5, 6, 7, 8, 10] ?_
  refine .P 0 rfl (v_move (v := reg w) rfl) ?_
  obtain ⟨p, hp, hh⟩ := hh
  refine .P 1 rfl (v_nilCheck (congrArg Value.pointer hp)) (.P 2 rfl (v_fieldAddr fl_246_0 rfl) (.KL 3 0 na_173 get_246_b rfl hh rfl (fun t8 hh => ?_)))
  obtain ⟨hm, hh⟩ := hh
  refine .P 4 rfl (v_slice_hm sl_173 rfl rfl rfl hm.1 hm.2.1 hm.2.2) (.P 5 rfl (v_move (v := reg w) rfl) (.P 6 rfl (v_nilCheck (congrArg Value.pointer hp)) (.P 7 rfl (v_fieldAddr fl_246_0 rfl) (.KL 8 0 na_173 get_246_b rfl hh rfl (fun t13 hh => ?_)))))
  refine .w 9 (by kernel_rfl) rfl (by kernel_rfl) (.e (e_app sl_173 zo_5 by_5 rfl rfl rfl hh ?_))
  intro h t14 hh
  refine ⟨⟨⟨trivial, .inl (by kernel_rfl)⟩, .inl (by kernel_rfl)⟩, ?_⟩
  refine .P 10 rfl (v_assign (v := reg t14) rfl) ?_
  refine .done (by kernel_rfl) ?_
  refine QN.then_ ?_
  refine CW.ret ?_
  exact ret1 rfl rfl ⟨(t14 : Sl), rfl, hh⟩
theorem code_Writer_Text.ok (w : Pt) (list : Sl) (k : Unit → H → Prop) (h : H) (hh : code_Writer_Text.b w list k h) : CallsH Prog 280 [reg w, reg list].toArray h fun v h' => ∃ r : Unit, v = reg r ∧ k r h' := by
 unfold code_Writer_Text.b at hh
 refine CallsH.of 47 Tryz.func280 rfl Tryz.ntmps280 rfl (fun w0 => ?_)
 refine CW.seq ?_
 refine .sr (.M (reg w) (.V (v_eq_nil pt_244 rfl rfl) (.nx ?_)))
 refine CW.cond w.isNone rfl (fun hb => ?_) (fun hb => ?_)
 ·have hh := hh.1 hb
  refine CW.ret ?_
  refine QN.thenRet ?_
  exact ret0 rfl ⟨(), rfl, hh⟩
 ·have hh := hh.2 hb
  refine CW.skip ?_
  refine QN.then_ ?_
  refine .sr (.M (reg list) (.V (v_len_sl (sl_69).1 rfl) (.M (reg ((0 : Int) : Int)) (.nx ?_))))
  refine CW.block ?_
  unfold code_Writer_Text.l1 at hh
  refine CW.loop (fun (σ0 : Int) ρ => match σ0 with | t11 => ∃ ρ' : Env, ρ = setl ρ' [(0, reg w), (9, reg list), (10, reg ((list.len : Int) : Int)), (11, reg t11)]) hh ⟨_, setl_eq ⟨rfl, ⟨rfl, ⟨rfl, ⟨rfl, trivial⟩⟩⟩⟩⟩ ?_
  clear hh
  rintro s1 t11 ρ h ⟨ρ', rfl⟩ hh
  refine .sr (.V (v_ilss rfl rfl) (.nx (.seq ?_)))
  refine CW.cond (decide (t11 < (list.len : Int))) rfl (fun hb_1 => ?_) (fun hb_1 => ?_)
  ·have hh := hh.1 hb_1
   refine CW.skip ?_
   refine QN.then_ ?_
   refine CW.seq ?_
   refine CW.block ?_
   refine .sr ?_
   obtain ⟨t13, ht13, hh⟩ := hh
   refine .V (v_idx_slP sl_69 rfl rfl ht13.1 ht13.2.1 ht13.2.2) (.L 0 na_9 get_9_all hh rfl (fun t14 hh => .A (reg t14) (.nx (.sr (.M (reg t14) (.V (v_len_str un_9 rfl) (.A (reg ((t14.size : Int) : Int)) (.nx (.sr (.M (reg w) (.M (reg w) ?_)))))))))))
   obtain ⟨p, hp, hh⟩ := hh
   refine .V (v_nilCheck (congrArg Value.pointer hp)) (.V (v_fieldAddr fl_246_0 rfl) (.L 0 na_173 get_246_b hh rfl (fun t21 hh => .M (reg ((t14.size : Int) : Int)) (.V (v_ishr (a := (t14.size : Int)) (b := 24) rfl rfl (by decide)) (.V (v_conv_u8 un_3 un_5 rfl) (.M (reg ((t14.size : Int) : Int)) (.V (v_ishr (a := (t14.size : Int)) (b := 16) rfl rfl (by decide)) (.V (v_conv_u8 un_3 un_5 rfl) (.M (reg ((t14.size : Int) : Int)) ?_)))))))))
   refine .V (v_ishr (a := (t14.size : Int)) (b := 8) rfl rfl (by decide)) (.V (v_conv_u8 un_3 un_5 rfl) (.M (reg ((t14.size : Int) : Int)) (.V (v_conv_u8 un_3 un_5 rfl) ?_)))
   refine mks_elim hh (fun pt33 t33 hpt33 ht33 hh => ?_)
   refine .e (e_mks [((toU8 (ishr (t14.size : Int) 24)) : UInt8), ((toU8 (ishr (t14.size : Int) 16)) : UInt8), ((toU8 (ishr (t14.size : Int) 8)) : UInt8), ((toU8 (t14.size : Int)) : UInt8)] hpt33 ht33 zo_5 sl_173 rfl rfl rfl rfl rfl ?_)
   refine .e (e_app sl_173 zo_5 by_5 rfl rfl rfl hh ?_)
   intro h t34 hh
   refine .V (v_nilCheck (congrArg Value.pointer hp)) (.V (v_fieldAddr fl_246_0 rfl) (.S (t34 : Sl) 0 sz_173 (one_sl _) len_code_Writer (len_sl _) (fun x => set_246_b x (t34 : Sl)) hh rfl rfl (fun _ hh => .nx ?_)))
   refine CW.region ?_
   refine .M (reg w) (.M (reg w) (.V (v_nilCheck (congrArg Value.pointer hp)) (.V (v_fieldAddr fl_246_0 rfl) (.L 0 na_173 get_246_b hh rfl (fun t41 hh => .M (reg t14) ?_)))))
   refine .e (e_apps sl_173 un_9 zo_5 by_5 rfl rfl rfl hh ?_)
   intro h t43 hh
   refine .V (v_nilCheck (congrArg Value.pointer hp)) (.V (v_fieldAddr fl_246_0 rfl) (.S (t43 : Sl) 0 sz_173 (one_sl _) len_code_Writer (len_sl _) (fun x => set_246_b x (t43 : Sl)) hh rfl rfl (fun _ hh => ?_)))
   refine .nil ?_
   refine QN.blockN ?_
   refine QN.then_ ?_
   refine CW.region ?_
   refine .V (v_iadd rfl rfl) (.M (reg ((iadd t11 (1 : Int)) : Int)) ?_)
   refine .nil ?_
   exact QN.thenJ ⟨(iadd t11 (1 : Int)), ⟨_, setl_eq ⟨rfl, ⟨rfl, ⟨rfl, ⟨rfl, trivial⟩⟩⟩⟩⟩, hh⟩
  ·have hh := hh.2 hb_1
   refine CW.exit ?_
   refine QN.thenExit ?_
   refine QN.thenExit ?_
   refine QN.blockExit ?_
   exact ret0n rfl ⟨(), rfl, hh⟩
theorem request_Write.ok (w : Pt) (q : api_Request) (k : Unit → H → Prop) (h : H) (hh : request_Write.b w q k h) : CallsH Prog 202 [reg w, reg q].toArray h fun v h' => ∃ r : Unit, v = reg r ∧ k r h' := by
 unfold request_Write.b at hh
 refine CallsH.of 48 Tryz.func202 rfl Tryz.ntmps202 rfl (fun w0 => ?_)
 refine .sr ?_
 refine box_elim hh (fun q_1 hq_1 hh => ?_)
 refine .e (e_boxP hq_1 rfl rfl rfl ?_)
 refine .nx (.sr (.V (v_fieldAddr fl_128_2 rfl) (.V (v_fieldAddr fl_37_4 rfl) (.LA 6 ag_35 get_128_Op_Change (fun _ => (len_api_Change _)) hh rfl (fun t7 hh => ?_)))))
 refine box_elim hh (fun x hx hh => ?_)
 refine .e (e_allocP hx zo_35 rfl ?_)
 refine .S (t7 : api_Change) 0 sz_35 (one_api_Change _) len_api_Change (len_api_Change _) (fun x => set_35_all x (t7 : api_Change)) hh rfl rfl (fun _ hh => .nx (.sr (.M (reg w) (.V (v_fieldAddr fl_128_0 rfl) (.L 0 na_3 get_128_Client hh rfl (fun t10 hh => .V (v_fieldAddr fl_128_1 rfl) (.L 1 na_3 get_128_Num hh rfl (fun t12 hh => .V (v_fieldAddr fl_128_2 rfl) (.V (v_fieldAddr fl_37_0 rfl) (.L 2 na_3 get_128_Op_Kind hh rfl (fun t15 hh => ?_)))))))))))
 refine mks_elim hh (fun pt16 t16 hpt16 ht16 hh => ?_)
 refine .e (e_mks [(t10 : Int), (t12 : Int), (t15 : Int)] hpt16 ht16 zo_3 sl_48 rfl rfl rfl rfl rfl ?_)
 refine .e (e_callP fn_116 rfl rfl hh ?_)
 intro h t17 hh
 refine .nx (.sr (.M (reg w) (.V (v_fieldAddr fl_128_2 rfl) (.V (v_fieldAddr fl_37_1 rfl) (.L 3 na_9 get_128_Op_Key hh rfl (fun t21 hh => .V (v_fieldAddr fl_128_2 rfl) (.V (v_fieldAddr fl_37_2 rfl) (.L 4 na_9 get_128_Op_Val hh rfl (fun t24 hh => .V (v_fieldAddr fl_128_2 rfl) (.V (v_fieldAddr fl_37_3 rfl) ?_))))))))))
 refine .L 5 na_9 get_128_Op_Old hh rfl (fun t27 hh => ?_)
 refine mks_elim hh (fun pt28 t28 hpt28 ht28 hh => ?_)
 refine .e (e_mks [(t21 : ByteArray), (t24 : ByteArray), (t27 : ByteArray)] hpt28 ht28 zo_9 sl_69 rfl rfl rfl rfl rfl ?_)
 refine .e (e_callP fn_280 rfl rfl hh ?_)
 intro h t29 hh
 refine .nx (.sr (.M (reg w) (.V (v_fieldAddr fl_35_0 rfl) (.L 0 na_3 get_35_Kind hh rfl (fun t32 hh => .V (v_fieldAddr fl_35_1 rfl) (.L 1 na_3 get_35_Id hh rfl (fun t34 hh => .V (v_fieldAddr fl_35_2 rfl) (.L 2 na_3 get_35_New hh rfl (fun t36 hh => .V (v_fieldAddr fl_35_3 rfl) (.V (v_fieldAddr fl_33_1 rfl) ?_))))))))))
 refine .L 35 na_3 get_35_Key_Height hh rfl (fun t39 hh => ?_)
 refine mks_elim hh (fun pt40 t40 hpt40 ht40 hh => ?_)
 refine .e (e_mks [(t32 : Int), (t34 : Int), (t36 : Int), (t39 : Int)] hpt40 ht40 zo_3 sl_48 rfl rfl rfl rfl rfl ?_)
 refine .e (e_callP fn_116 rfl rfl hh ?_)
 intro h t41 hh
 refine .nx ?_
 refine CW.region ?_
 refine .M (reg w) (.V (v_fieldAddr fl_35_3 rfl) (.V (v_fieldAddr fl_33_0 rfl) (.LA 3 ag_31 get_35_Key_Root (fun _ => (arr_len (n := 32) _)) hh rfl (fun t45 hh => ?_))))
 refine mks_elim hh (fun pt46 t46 hpt46 ht46 hh => ?_)
 refine .e (e_mks [(t45 : Arr 32 UInt8)] hpt46 ht46 zo_31 sl_133 rfl rfl rfl rfl rfl ?_)
 refine .e (e_callP fn_112 rfl rfl hh ?_)
 intro h t47 hh
 refine .nil ?_
 exact ret0n rfl ⟨(), rfl, hh⟩
theorem code_Read.ok (b : Sl) (k : Pt → H → Prop) (h : H) (hh : code_Read.b b k h) : CallsH Prog 163 [reg b].toArray h fun v h' => ∃ r : Pt, v = reg r ∧ k r h' := by
 unfold code_Read.b at hh
 refine CallsH.of 8 Tryz.func163 rfl Tryz.ntmps163 rfl (fun w0 => ?_)
 refine .sr (.A (reg ((none : Pt) : Pt)) (.nx (.sr ?_)))
 refine mks_elim hh (fun pt3 t3 hpt3 ht3 hh => ?_)
 refine .e (e_mks ([] : List UInt8) hpt3 ht3 zo_5 sl_173 rfl rfl rfl rfl rfl ?_)
 refine .M (reg b) ?_
 refine .e (e_app sl_173 zo_5 by_5 rfl rfl rfl hh ?_)
 intro h t5 hh
 refine .V (v_buildT ({ code_Reader.zero with b := t5 } : code_Reader) zo_408 pl_408 rfl (fill_step rfl rfl (len_sl _) (len_code_Reader _) rfl (set_408_b _ _) (rfl)) rfl) ?_
 refine box_elim hh (fun t7 ht7 hh => ?_)
 refine .e (e_boxP ht7 rfl rfl rfl ?_)
 refine .A (.pointer (some t7)) (.nx ?_)
 refine CW.ret ?_
 exact ret1 rfl rfl ⟨((some t7) : Pt), rfl, hh⟩
theorem code_Reader_In.ok (r : Pt) (lo : Int) (hi : Int) (k : Int → H → Prop) (h : H) (hh : code_Reader_In.b r lo hi k h) : CallsH Prog 164 [reg r, reg lo, reg hi].toArray h fun v h' => ∃ r : Int, v = reg r ∧ k r h' := by
 unfold code_Reader_In.b at hh
 refine CallsH.of 36 Tryz.func164 rfl Tryz.ntmps164 rfl (fun w0 => ?_)
 refine .sr (.A (reg ((0 : Int) : Int)) (.nx (.sr (.M (reg r) ?_))))
 refine .e (e_callP fn_244 rfl rfl hh ?_)
 intro h t9 hh
 refine .A (reg t9) (.nx (.seq ?_))
 refine CW.join (fun ρ h => ∃ (ρ' : Env) (t28 : Bool), ρ = setl ρ' [(0, reg r), (7, reg t9), (28, reg t28)] ∧ (code_Reader_In.j1 k) r t9 t28 h) ?_ ?_
 ·refine CW.region ?_
  refine .M (reg r) (.V (v_eq_nil pt_318 rfl rfl) (.M (reg (r.isNone : Bool)) ?_))
  refine ifb_cases hh (fun hb hh => ?_) (fun hb hh => ?_)
  ·refine .no 12 rfl (cb hb) rfl rfl (.no 12 rfl (cb hb) rfl rfl (.no 12 rfl (cb hb) rfl rfl (.no 12 rfl (cb hb) rfl rfl (.nu 16 rfl rfl rfl rfl (.nu 16 rfl rfl rfl rfl (.nu 16 rfl rfl rfl rfl (.no 12 rfl (cb hb) rfl rfl (.no 12 rfl (cb hb) rfl rfl (.nu 21 rfl rfl rfl rfl ?_)))))))))
   refine .nu 21 rfl rfl rfl rfl (.nu 21 rfl rfl rfl rfl (.nu 21 rfl rfl rfl rfl (.nu 21 rfl rfl rfl rfl (.no 12 rfl (cb hb) rfl rfl (.V (v_pickT (v := reg true) rfl hb rfl) ?_)))))
   refine .nil ?_
   exact QN.thenJ ⟨_, true, setl_eq ⟨rfl, ⟨rfl, ⟨rfl, trivial⟩⟩⟩, hh⟩
  ·refine .yv 12 rfl (cb hb) rfl (v_move (v := reg (t9 : Int)) rfl) rfl (.yv 12 rfl (cb hb) rfl (v_move (v := reg (lo : Int)) rfl) rfl (.yv 12 rfl (cb hb) rfl (v_igeq rfl rfl) rfl (.yv 12 rfl (cb hb) rfl (v_move (v := reg ((decide (lo ≤ t9)) : Bool)) rfl) rfl (.tv 16 rfl rfl rfl (fun hb => v_move (v := reg (t9 : Int)) rfl) rfl (.tv 16 rfl rfl rfl (fun hb => v_move (v := reg (hi : Int)) rfl) rfl (.tv 16 rfl rfl rfl (fun hb => v_ileq (gt hb) (gt hb)) rfl (.yv 12 rfl (cb hb) rfl (v_pick_and rfl (fun hb => gt hb) rfl) rfl (.yv 12 rfl (cb hb) rfl (v_move (v := reg (((decide (lo ≤ t9)) && (decide (t9 ≤ hi))) : Bool)) rfl) rfl ?_))))))))
   refine ifb_cases hh (fun hb_1 hh => ?_) (fun hb_1 hh => ?_)
   ·refine .yv 21 rfl (cb hb_1) rfl (v_move (v := reg (r : Pt)) rfl) rfl ?_
    obtain ⟨p, hp, hh⟩ := hh
    refine .yv 21 rfl (cb hb_1) rfl (v_nilCheck (congrArg Value.pointer hp)) rfl (.yv 21 rfl (cb hb_1) rfl (v_fieldAddr fl_408_1 rfl) rfl ?_)
    obtain ⟨t25, ⟨xt25, hxt25, hgt25⟩, hh⟩ := hh
    refine .yv 21 rfl (cb hb_1) rfl (v_ld1 (p := p) 1 na_4 rfl hxt25 hgt25 get_408_bad) rfl (.yv 21 rfl (cb hb_1) rfl (v_not rfl) rfl (.yv 12 rfl (cb hb) rfl (v_pickT (v := reg ((!t25) : Bool)) rfl hb_1 rfl) rfl (.V (v_pickF (v := reg ((!t25) : Bool)) rfl hb rfl) ?_)))
    refine .nil ?_
    exact QN.thenJ ⟨_, (!t25), setl_eq ⟨rfl, ⟨rfl, ⟨rfl, trivial⟩⟩⟩, hh⟩
   ·refine .no 21 rfl (cb hb_1) rfl rfl (.no 21 rfl (cb hb_1) rfl rfl (.no 21 rfl (cb hb_1) rfl rfl (.no 21 rfl (cb hb_1) rfl rfl (.no 21 rfl (cb hb_1) rfl rfl (.yv 12 rfl (cb hb) rfl (v_pickF (v := reg (false : Bool)) rfl hb_1 rfl) rfl (.V (v_pickF (v := reg false) rfl hb rfl) ?_))))))
    refine .nil ?_
    exact QN.thenJ ⟨_, false, setl_eq ⟨rfl, ⟨rfl, ⟨rfl, trivial⟩⟩⟩, hh⟩
 ·rintro ρ h ⟨ρ', t28, rfl, hh⟩
  unfold code_Reader_In.j1 at hh
  refine CW.cond t28 rfl (fun hb_2 => ?_) (fun hb_2 => ?_)
  ·have hh := hh.1 hb_2
   refine .sr (.M (reg t9) (.A (reg t9) (.nx ?_)))
   refine CW.ret ?_
   refine QN.thenRet ?_
   exact ret1 rfl rfl ⟨(t9 : Int), rfl, hh⟩
  ·have hh := hh.2 hb_2
   refine CW.skip ?_
   refine QN.then_ ?_
   refine .sr (.M (reg r) (.M (reg r) ?_))
   obtain ⟨p_1, hp_1, hh⟩ := hh
   refine .V (v_nilCheck (congrArg Value.pointer hp_1)) (.V (v_fieldAddr fl_408_1 rfl) (.S (true : Bool) 1 sz_4 (one_b _) len_code_Reader (len_b _) (fun x => set_408_bad x (true : Bool)) hh rfl rfl (fun _ hh => .V (v_nilCheck (congrArg Value.pointer hp_1)) (.V (v_fieldAddr fl_408_0 rfl) (.S (Sl.nil : Sl) 0 sz_173 (one_sl _) len_code_Reader (len_sl _) (fun x => set_408_b x (Sl.nil : Sl)) hh rfl rfl (fun _ hh => .nx (.sr (.A (reg ((0 : Int) : Int)) (.nx ?_)))))))))
   refine CW.ret ?_
   exact ret1 rfl rfl ⟨((0 : Int) : Int), rfl, hh⟩
theorem request_Read.ok (r : Pt) (k : api_Request → H → Prop) (h : H) (hh : request_Read.b r k h) : CallsH Prog 167 [reg r].toArray h fun v h' => ∃ r : api_Request, v = reg r ∧ k r h' := by
 unfold request_Read.b at hh
 refine CallsH.of 48 Tryz.func167 rfl Tryz.ntmps167 rfl (fun w0 => ?_)
 refine .sr ?_
 refine box_elim hh (fun t2 ht2 hh => ?_)
 refine .e (e_allocP ht2 zo_128 rfl ?_)
 refine .nx (.sr (.M (reg r) ?_))
 refine .e (e_callP fn_164 rfl rfl hh ?_)
 intro h t5 hh
 refine .M (reg r) ?_
 refine .e (e_callP fn_164 rfl rfl hh ?_)
 intro h t7 hh
 refine .V (v_buildT ({ api_Request.zero with Client := t5, Num := t7 } : api_Request) zo_128 pl_128 rfl (fill_step rfl rfl (len_i _) (len_api_Request _) rfl (set_128_Client _ _) (fill_step rfl rfl (len_i _) (len_api_Request _) rfl (set_128_Num _ _) (rfl))) rfl) ?_
 refine box_elim hh (fun q hq hh => ?_)
 refine .e (e_allocP hq zo_128 rfl ?_)
 refine .S (({ api_Request.zero with Client := t5, Num := t7 } : api_Request) : api_Request) 0 sz_128 (one_api_Request _) len_api_Request (len_api_Request _) (fun x => set_128_all x (({ api_Request.zero with Client := t5, Num := t7 } : api_Request) : api_Request)) hh rfl rfl (fun _ hh => .nx (.sr (.M (reg r) ?_)))
 refine .e (e_callP fn_164 rfl rfl hh ?_)
 intro h t10 hh
 refine .V (v_fieldAddr fl_128_2 rfl) (.V (v_fieldAddr fl_37_0 rfl) (.S (t10 : Int) 2 sz_3 (one_i _) len_api_Request (len_i _) (fun x => set_128_Op_Kind x (t10 : Int)) hh rfl rfl (fun _ hh => .nx (.sr (.M (reg r) ?_)))))
 refine .e (e_callP fn_239 rfl rfl hh ?_)
 intro h t14 hh
 refine .M (reg r) ?_
 refine .e (e_callP fn_239 rfl rfl hh ?_)
 intro h t16 hh
 refine .M (reg r) ?_
 refine .e (e_callP fn_239 rfl rfl hh ?_)
 intro h t18 hh
 refine .V (v_fieldAddr fl_128_2 rfl) (.V (v_fieldAddr fl_37_1 rfl) (.S (t14 : ByteArray) 3 sz_9 (one_s _) len_api_Request (len_s _) (fun x => set_128_Op_Key x (t14 : ByteArray)) hh rfl rfl (fun _ hh => .V (v_fieldAddr fl_128_2 rfl) (.V (v_fieldAddr fl_37_2 rfl) (.S (t16 : ByteArray) 4 sz_9 (one_s _) len_api_Request (len_s _) (fun x => set_128_Op_Val x (t16 : ByteArray)) hh rfl rfl (fun _ hh => .V (v_fieldAddr fl_128_2 rfl) (.V (v_fieldAddr fl_37_3 rfl) (.S (t18 : ByteArray) 5 sz_9 (one_s _) len_api_Request (len_s _) (fun x => set_128_Op_Old x (t18 : ByteArray)) hh rfl rfl (fun _ hh => .nx (.sr ?_))))))))))
 refine .M (reg r) ?_
 refine .e (e_callP fn_244 rfl rfl hh ?_)
 intro h t26 hh
 refine .M (reg r) ?_
 refine .e (e_callP fn_244 rfl rfl hh ?_)
 intro h t28 hh
 refine .M (reg r) ?_
 refine .e (e_callP fn_244 rfl rfl hh ?_)
 intro h t30 hh
 refine .M (reg r) ?_
 refine .e (e_callP fn_244 rfl rfl hh ?_)
 intro h t32 hh
 refine .V (v_buildT ({ api_Key.zero with Height := t32 } : api_Key) zo_33 pl_33 rfl (fill_step rfl rfl (len_i _) (len_api_Key _) rfl (set_33_Height _ _) (rfl)) rfl) (.V (v_buildT ({ Kind := t26, Id := t28, New := t30, Key := ({ api_Key.zero with Height := t32 } : api_Key) } : api_Change) zo_35 pl_35 rfl (fill_step rfl rfl (len_i _) (len_api_Change _) rfl (set_35_Kind _ _) (fill_step rfl rfl (len_i _) (len_api_Change _) rfl (set_35_Id _ _) (fill_step rfl rfl (len_i _) (len_api_Change _) rfl (set_35_New _ _) (fill_step rfl rfl (len_api_Key _) (len_api_Change _) rfl (set_35_Key _ _) (rfl))))) rfl) (.V (v_fieldAddr fl_128_2 rfl) (.V (v_fieldAddr fl_37_4 rfl) (.S (({ Kind := t26, Id := t28, New := t30, Key := ({ api_Key.zero with Height := t32 } : api_Key) } : api_Change) : api_Change) 6 sz_35 (one_api_Change _) len_api_Request (len_api_Change _) (fun x => set_128_Op_Change x (({ Kind := t26, Id := t28, New := t30, Key := ({ api_Key.zero with Height := t32 } : api_Key) } : api_Change) : api_Change)) hh rfl rfl (fun _ hh => .nx (.sr (.M (reg r) ?_)))))))
 refine .e (e_callP fn_238 rfl rfl hh ?_)
 intro h t38 hh
 refine .V (v_fieldAddr fl_128_2 rfl) (.V (v_fieldAddr fl_37_4 rfl) (.V (v_fieldAddr fl_35_3 rfl) (.V (v_fieldAddr fl_33_0 rfl) (.S (t38 : Arr 32 UInt8) 9 sz_31 (one_arr (n := 32) (fun _ => rfl) _) len_api_Request (arr_len (n := 32) _) (fun x => set_128_Op_Change_Key_Root x (t38 : Arr 32 UInt8)) hh rfl rfl (fun _ hh => .nx (.seq (.sr (.M (reg r) ?_))))))))
 refine .e (e_callP fn_171 rfl rfl hh ?_)
 intro h t44 hh
 refine .V (v_not rfl) (.nx ?_)
 refine CW.cond (!t44) rfl (fun hb => ?_) (fun hb => ?_)
 ·have hh := hh.1 hb
  refine .sr (.V (v_buildT api_Request.zero zo_128 pl_128 rfl (rfl) rfl) (.S (api_Request.zero : api_Request) 0 sz_128 (one_api_Request _) len_api_Request (len_api_Request _) (fun x => set_128_all x (api_Request.zero : api_Request)) hh rfl rfl (fun _ hh => .nx ?_)))
  refine CW.ret ?_
  refine QN.thenRet ?_
  obtain ⟨r2, ⟨xr2, hxr2, hgr2⟩, hh⟩ := hh
  have hr2 := ld_id hxr2 hgr2
  exact retc rfl rfl ag_128 hr2 (len_api_Request _) ⟨(r2 : api_Request), rfl, hh⟩
 ·have hh := hh.2 hb
  refine CW.skip ?_
  refine QN.then_ ?_
  refine .sr (.LA 0 ag_128 get_128_all (fun _ => (len_api_Request _)) hh rfl (fun t47 hh => .S (t47 : api_Request) 0 sz_128 (one_api_Request _) len_api_Request (len_api_Request _) (fun x => set_128_all x (t47 : api_Request)) hh rfl rfl (fun _ hh => .nx ?_)))
  refine CW.ret ?_
  obtain ⟨r2_1, ⟨xr2_1, hxr2_1, hgr2_1⟩, hh⟩ := hh
  have hr2_1 := ld_id hxr2_1 hgr2_1
  exact retc rfl rfl ag_128 hr2_1 (len_api_Request _) ⟨(r2_1 : api_Request), rfl, hh⟩
theorem code_Reader_Good.ok (r : Pt) (k : Bool → H → Prop) (h : H) (hh : code_Reader_Good.b r k h) : CallsH Prog 171 [reg r].toArray h fun v h' => ∃ r : Bool, v = reg r ∧ k r h' := by
 unfold code_Reader_Good.b at hh
 refine CallsH.of 12 Tryz.func171 rfl Tryz.ntmps171 rfl (fun w0 => ?_)
 refine .sr (.A (reg false) (.nx ?_))
 refine CW.join (fun ρ h => ∃ (ρ' : Env) (t2 : Bool), ρ = setl ρ' [(2, reg t2)] ∧ (code_Reader_Good.j1 k) t2 h) ?_ ?_
 ·refine CW.region ?_
  refine .M (reg r) (.V (v_ne_nil pt_318 rfl rfl) (.M (reg (r.isSome : Bool)) ?_))
  refine ifb_cases hh (fun hb hh => ?_) (fun hb hh => ?_)
  ·refine .yv 5 rfl (cb hb) rfl (v_move (v := reg (r : Pt)) rfl) rfl ?_
   obtain ⟨p, hp, hh⟩ := hh
   refine .yv 5 rfl (cb hb) rfl (v_nilCheck (congrArg Value.pointer hp)) rfl (.yv 5 rfl (cb hb) rfl (v_fieldAddr fl_408_1 rfl) rfl ?_)
   obtain ⟨t9, ⟨xt9, hxt9, hgt9⟩, hh⟩ := hh
   refine .yv 5 rfl (cb hb) rfl (v_ld1 (p := p) 1 na_4 rfl hxt9 hgt9 get_408_bad) rfl (.yv 5 rfl (cb hb) rfl (v_not rfl) rfl (.V (v_pickT (v := reg ((!t9) : Bool)) rfl hb rfl) (.A (reg ((!t9) : Bool)) ?_)))
   refine .nil ?_
   exact QN.thenJ ⟨_, (!t9), setl_eq ⟨rfl, trivial⟩, hh⟩
  ·refine .no 5 rfl (cb hb) rfl rfl (.no 5 rfl (cb hb) rfl rfl (.no 5 rfl (cb hb) rfl rfl (.no 5 rfl (cb hb) rfl rfl (.no 5 rfl (cb hb) rfl rfl (.V (v_pickF (v := reg false) rfl hb rfl) (.A (reg false) ?_))))))
   refine .nil ?_
   exact QN.thenJ ⟨_, false, setl_eq ⟨rfl, trivial⟩, hh⟩
 ·rintro ρ h ⟨ρ', t2, rfl, hh⟩
  unfold code_Reader_Good.j1 at hh
  refine CW.ret ?_
  exact ret1 rfl rfl ⟨(t2 : Bool), rfl, hh⟩
theorem code_Reader_End.ok (r : Pt) (k : Bool → H → Prop) (h : H) (hh : code_Reader_End.b r k h) : CallsH Prog 174 [reg r].toArray h fun v h' => ∃ r : Bool, v = reg r ∧ k r h' := by
 unfold code_Reader_End.b at hh
 refine CallsH.of 13 Tryz.func174 rfl Tryz.ntmps174 rfl (fun w0 => ?_)
 refine .sr (.A (reg false) (.nx ?_))
 refine CW.join (fun ρ h => ∃ (ρ' : Env) (t2 : Bool), ρ = setl ρ' [(2, reg t2)] ∧ (code_Reader_End.j1 k) t2 h) ?_ ?_
 ·refine CW.region ?_
  refine .M (reg r) ?_
  refine .e (e_callP fn_171 rfl rfl hh ?_)
  intro h t4 hh
  refine .M (reg t4) ?_
  refine ifb_cases hh (fun hb hh => ?_) (fun hb hh => ?_)
  ·refine .yv 5 rfl (cb hb) rfl (v_move (v := reg (r : Pt)) rfl) rfl ?_
   obtain ⟨p, hp, hh⟩ := hh
   refine .yv 5 rfl (cb hb) rfl (v_nilCheck (congrArg Value.pointer hp)) rfl (.yv 5 rfl (cb hb) rfl (v_fieldAddr fl_408_0 rfl) rfl ?_)
   obtain ⟨t9, ⟨xt9, hxt9, hgt9⟩, hh⟩ := hh
   refine .yv 5 rfl (cb hb) rfl (v_ld1 (p := p) 0 na_173 rfl hxt9 hgt9 get_408_b) rfl (.yv 5 rfl (cb hb) rfl (v_len_sl (sl_173).1 rfl) rfl (.yv 5 rfl (cb hb) rfl (v_ieql rfl rfl) rfl (.V (v_pickT (v := reg (((t9.len : Int) == (0 : Int)) : Bool)) rfl hb rfl) (.A (reg (((t9.len : Int) == (0 : Int)) : Bool)) ?_))))
   refine .nil ?_
   exact QN.thenJ ⟨_, ((t9.len : Int) == (0 : Int)), setl_eq ⟨rfl, trivial⟩, hh⟩
  ·refine .no 5 rfl (cb hb) rfl rfl (.no 5 rfl (cb hb) rfl rfl (.no 5 rfl (cb hb) rfl rfl (.no 5 rfl (cb hb) rfl rfl (.no 5 rfl (cb hb) rfl rfl (.no 5 rfl (cb hb) rfl rfl (.V (v_pickF (v := reg false) rfl hb rfl) (.A (reg false) ?_)))))))
   refine .nil ?_
   exact QN.thenJ ⟨_, false, setl_eq ⟨rfl, trivial⟩, hh⟩
 ·rintro ρ h ⟨ρ', t2, rfl, hh⟩
  unfold code_Reader_End.j1 at hh
  refine CW.ret ?_
  exact ret1 rfl rfl ⟨(t2 : Bool), rfl, hh⟩
theorem code_Reader_Digest.ok (r : Pt) (k : (Arr 32 UInt8) → H → Prop) (h : H) (hh : code_Reader_Digest.b r k h) : CallsH Prog 238 [reg r].toArray h fun v h' => ∃ r : Arr 32 UInt8, v = reg r ∧ k r h' := by
 unfold code_Reader_Digest.b at hh
 refine CallsH.of 9 Tryz.func238 rfl Tryz.ntmps238 rfl (fun w0 => ?_)
 refine .sr ?_
 refine box_elim hh (fun t2 ht2 hh => ?_)
 refine .e (e_allocP ht2 zo_31 rfl ?_)
 refine .nx (.sr ?_)
 refine box_elim hh (fun d hd hh => ?_)
 refine .e (e_allocP hd zo_31 rfl ?_)
 refine .nx (.seq ?_)
 refine CW.drawN 4 rfl follows_mixed [0, 1] ?_
 refine .P 0 rfl (v_slice_an ar_31 rfl) (.P 1 rfl (v_move (v := reg r) rfl) ?_)
 refine .w 2 (by kernel_rfl) rfl (by kernel_rfl) (.e (e_callP fn_297 rfl rfl hh ?_))
 intro h t6 hh
 refine ⟨trivial, ?_⟩
 refine .w 3 (by kernel_rfl) rfl (by kernel_rfl) (.e (e_cpy sl_173 rfl rfl rfl hh ?_))
 intro h t7 hh
 refine ⟨trivial, ?_⟩
 refine .done (by kernel_rfl) ?_
 refine QN.then_ ?_
 refine .sr (.LA 0 ag_31 get_31_all (fun _ => (arr_len (n := 32) _)) hh rfl (fun t8 hh => .S (t8 : Arr 32 UInt8) 0 sz_31 (one_arr (n := 32) (fun _ => rfl) _) (fun _ => arr_len (n := 32) _) (arr_len (n := 32) _) (fun x => set_31_all x (t8 : Arr 32 UInt8)) hh rfl rfl (fun _ hh => .nx ?_)))
 refine CW.ret ?_
 obtain ⟨r2, ⟨xr2, hxr2, hgr2⟩, hh⟩ := hh
 have hr2 := ld_id hxr2 hgr2
 exact retc rfl rfl ag_31 hr2 (arr_len (n := 32) _) ⟨(r2 : Arr 32 UInt8), rfl, hh⟩
theorem code_Reader_Text.ok (r : Pt) (most : Int) (k : ByteArray → H → Prop) (h : H) (hh : code_Reader_Text.b r most k h) : CallsH Prog 239 [reg r, reg most].toArray h fun v h' => ∃ r : ByteArray, v = reg r ∧ k r h' := by
 unfold code_Reader_Text.b at hh
 refine CallsH.of 28 Tryz.func239 rfl Tryz.ntmps239 rfl (fun w0 => ?_)
 refine .sr (.A (reg ((ByteArray.empty : ByteArray) : ByteArray)) (.nx (.sr (.A (reg ((0 : Int) : Int)) (.nx ?_)))))
 refine CW.join (fun ρ h => ∃ (ρ' : Env) (n_1 : Int), ρ = setl ρ' [(0, reg r), (1, reg most), (5, reg n_1)] ∧ (code_Reader_Text.j1 k) r most n_1 h) ?_ ?_
 ·refine .sr (.M (reg r) ?_)
  refine .e (e_callP fn_297 rfl rfl hh ?_)
  intro h t9 hh
  refine .V (v_len_sl (sl_173).1 rfl) (.M (reg ((0 : Int) : Int)) (.nx ?_))
  refine CW.block ?_
  unfold code_Reader_Text.l1 at hh
  refine CW.loop (fun (σ0 : Int × Int) ρ => match σ0 with | (n, t11) => ∃ ρ' : Env, ρ = setl ρ' [(0, reg r), (1, reg most), (9, reg t9), (10, reg ((t9.len : Int) : Int)), (5, reg n), (11, reg t11)]) hh ⟨_, setl_eq ⟨rfl, ⟨rfl, ⟨rfl, ⟨rfl, ⟨rfl, ⟨rfl, trivial⟩⟩⟩⟩⟩⟩⟩ ?_
  clear hh
  rintro s1 ⟨n, t11⟩ ρ h ⟨ρ', rfl⟩ hh
  refine .sr (.V (v_ilss rfl rfl) (.nx (.seq ?_)))
  refine CW.cond (decide (t11 < (t9.len : Int))) rfl (fun hb => ?_) (fun hb => ?_)
  ·have hh := hh.1 hb
   refine CW.skip ?_
   refine QN.then_ ?_
   refine CW.seq ?_
   refine CW.block ?_
   refine .sr ?_
   obtain ⟨t13, ht13, hh⟩ := hh
   refine .V (v_idx_slP sl_173 rfl rfl ht13.1 ht13.2.1 ht13.2.2) (.L 0 na_5 get_5_all hh rfl (fun t14 hh => .A (reg t14) (.nx ?_)))
   refine CW.region ?_
   refine .M (reg n) (.V (v_ishl (a := n) (b := 8) rfl rfl (by decide)) (.M (reg t14) (.V (v_conv_i64 un_5 un_3 rfl) (.V (v_ior rfl rfl) (.A (reg ((ior (ishl n 8) (toI64 (t14.toNat : Int))) : Int)) ?_)))))
   refine .nil ?_
   refine QN.blockN ?_
   refine QN.then_ ?_
   refine CW.region ?_
   refine .V (v_iadd rfl rfl) (.M (reg ((iadd t11 (1 : Int)) : Int)) ?_)
   refine .nil ?_
   exact QN.thenJ ⟨((ior (ishl n 8) (toI64 (t14.toNat : Int))), (iadd t11 (1 : Int))), ⟨_, setl_eq ⟨rfl, ⟨rfl, ⟨rfl, ⟨rfl, ⟨rfl, ⟨rfl, trivial⟩⟩⟩⟩⟩⟩⟩, hh⟩
  ·have hh := hh.2 hb
   refine CW.exit ?_
   refine QN.thenExit ?_
   refine QN.thenExit ?_
   refine QN.blockExit ?_
   exact QN.thenJ ⟨_, n, setl_eq ⟨rfl, ⟨rfl, ⟨rfl, trivial⟩⟩⟩, hh⟩
 ·rintro ρ h ⟨ρ', n_1, rfl, hh⟩
  unfold code_Reader_Text.j1 at hh
  refine CW.join (fun ρ h => ∃ (ρ' : Env) (n_2 : Int), ρ = setl ρ' [(0, reg r), (5, reg n_2)] ∧ (code_Reader_Text.j2 k) r n_2 h) ?_ ?_
  ·refine .sr (.M (reg n_1) (.M (reg most) (.V (v_igtr rfl rfl) (.nx ?_))))
   refine CW.cond (decide (most < n_1)) rfl (fun hb_1 => ?_) (fun hb_1 => ?_)
   ·have hh := hh.1 hb_1
    refine CW.region ?_
    refine .A (reg ((-1 : Int) : Int)) ?_
    refine .nil ?_
    exact QN.thenJ ⟨_, (-1 : Int), setl_eq ⟨rfl, ⟨rfl, trivial⟩⟩, hh⟩
   ·have hh := hh.2 hb_1
    refine CW.skip ?_
    exact QN.thenJ ⟨_, n_1, setl_eq ⟨rfl, ⟨rfl, trivial⟩⟩, hh⟩
  ·rintro ρ h ⟨ρ', n_2, rfl, hh⟩
   unfold code_Reader_Text.j2 at hh
   refine .sr (.M (reg r) (.M (reg n_2) ?_))
   refine .e (e_callP fn_297 rfl rfl hh ?_)
   intro h t26 hh
   refine .e (e_b2s sl_173 un_5 un_9 rfl rfl hh ?_)
   intro h t27 hh
   refine .A (reg t27) (.nx ?_)
   refine CW.ret ?_
   exact ret1 rfl rfl ⟨(t27 : ByteArray), rfl, hh⟩
theorem code_Reader_Num.ok (r : Pt) (k : Int → H → Prop) (h : H) (hh : code_Reader_Num.b r k h) : CallsH Prog 244 [reg r].toArray h fun v h' => ∃ r : Int, v = reg r ∧ k r h' := by
 unfold code_Reader_Num.b at hh
 refine CallsH.of 21 Tryz.func244 rfl Tryz.ntmps244 rfl (fun w0 => ?_)
 refine .sr (.A (reg ((0 : Int) : Int)) (.nx (.sr (.A (reg ((0 : UInt64) : UInt64)) (.nx ?_)))))
 refine CW.join (fun ρ h => ∃ (ρ' : Env) (n_1 : UInt64), ρ = setl ρ' [(3, reg n_1)] ∧ (code_Reader_Num.j1 k) n_1 h) ?_ ?_
 ·refine .sr (.M (reg r) ?_)
  refine .e (e_callP fn_297 rfl rfl hh ?_)
  intro h t7 hh
  refine .V (v_len_sl (sl_173).1 rfl) (.M (reg ((0 : Int) : Int)) (.nx ?_))
  refine CW.block ?_
  unfold code_Reader_Num.l1 at hh
  refine CW.loop (fun (σ0 : UInt64 × Int) ρ => match σ0 with | (n, t9) => ∃ ρ' : Env, ρ = setl ρ' [(7, reg t7), (8, reg ((t7.len : Int) : Int)), (3, reg n), (9, reg t9)]) hh ⟨_, setl_eq ⟨rfl, ⟨rfl, ⟨rfl, ⟨rfl, trivial⟩⟩⟩⟩⟩ ?_
  clear hh
  rintro s1 ⟨n, t9⟩ ρ h ⟨ρ', rfl⟩ hh
  refine .sr (.V (v_ilss rfl rfl) (.nx (.seq ?_)))
  refine CW.cond (decide (t9 < (t7.len : Int))) rfl (fun hb => ?_) (fun hb => ?_)
  ·have hh := hh.1 hb
   refine CW.skip ?_
   refine QN.then_ ?_
   refine CW.seq ?_
   refine CW.block ?_
   refine .sr ?_
   obtain ⟨t11, ht11, hh⟩ := hh
   refine .V (v_idx_slP sl_173 rfl rfl ht11.1 ht11.2.1 ht11.2.2) (.L 0 na_5 get_5_all hh rfl (fun t12 hh => .A (reg t12) (.nx ?_)))
   refine CW.region ?_
   refine .M (reg n) (.V (v_shl64 (a := n) (b := 8) rfl rfl (by decide)) (.M (reg t12) (.V (v_conv_u64 un_5 un_243 rfl) (.V (v_or64 (a := (shl64 n 8)) (b := (toU64 (t12.toNat : Int))) rfl rfl) (.A (reg (((shl64 n 8) ||| (toU64 (t12.toNat : Int))) : UInt64)) ?_)))))
   refine .nil ?_
   refine QN.blockN ?_
   refine QN.then_ ?_
   refine CW.region ?_
   refine .V (v_iadd rfl rfl) (.M (reg ((iadd t9 (1 : Int)) : Int)) ?_)
   refine .nil ?_
   exact QN.thenJ ⟨(((shl64 n 8) ||| (toU64 (t12.toNat : Int))), (iadd t9 (1 : Int))), ⟨_, setl_eq ⟨rfl, ⟨rfl, ⟨rfl, ⟨rfl, trivial⟩⟩⟩⟩⟩, hh⟩
  ·have hh := hh.2 hb
   refine CW.exit ?_
   refine QN.thenExit ?_
   refine QN.thenExit ?_
   refine QN.blockExit ?_
   exact QN.thenJ ⟨_, n, setl_eq ⟨rfl, trivial⟩, hh⟩
 ·rintro ρ h ⟨ρ', n_1, rfl, hh⟩
  unfold code_Reader_Num.j1 at hh
  refine .sr (.M (reg n_1) (.V (v_conv_i64 un_243 un_3 rfl) (.A (reg ((toI64 (n_1.toNat : Int)) : Int)) (.nx ?_))))
  refine CW.ret ?_
  exact ret1 rfl rfl ⟨((toI64 (n_1.toNat : Int)) : Int), rfl, hh⟩
theorem code_Reader_take.ok (r : Pt) (n : Int) (k : Sl → H → Prop) (h : H) (hh : code_Reader_take.b r n k h) : CallsH Prog 297 [reg r, reg n].toArray h fun v h' => ∃ r : Sl, v = reg r ∧ k r h' := by
 unfold code_Reader_take.b at hh
 refine CallsH.of 47 Tryz.func297 rfl Tryz.ntmps297 rfl (fun w0 => ?_)
 refine .sr (.A (reg (Sl.nil : Sl)) (.nx ?_))
 refine CW.scope1 ?_
 refine CW.seq ?_
 refine .sr (.M (reg r) (.V (v_eq_nil pt_318 rfl rfl) (.nx ?_)))
 refine CW.cond r.isNone rfl (fun hb => ?_) (fun hb => ?_)
 ·have hh := hh.1 hb
  refine .sr (.A (reg (Sl.nil : Sl)) (.nx ?_))
  refine CW.ret ?_
  refine QN.thenRet ?_
  refine QN.scRet ?_
  exact ret1 rfl rfl ⟨(Sl.nil : Sl), rfl, hh⟩
 ·have hh := hh.2 hb
  refine CW.skip ?_
  refine QN.then_ ?_
  refine CW.seq ?_
  refine CW.join (fun ρ h => ∃ (ρ' : Env) (t24 : Bool), ρ = setl ρ' [(0, reg r), (1, reg n), (24, reg t24)] ∧ (code_Reader_take.j1 k) r n t24 h) ?_ ?_
  ·refine CW.region ?_
   refine .M (reg r) ?_
   obtain ⟨p, hp, hh⟩ := hh
   refine .V (v_nilCheck (congrArg Value.pointer hp)) (.V (v_fieldAddr fl_408_1 rfl) (.L 1 na_4 get_408_bad hh rfl (fun t11 hh => .M (reg t11) (.fv 12 rfl rfl rfl (fun hb => v_move (v := reg (n : Int)) rfl) rfl (.fv 12 rfl rfl rfl (fun hb => v_ilss (gf hb) rfl) rfl (.V (v_pick_or rfl rfl (fun hb => gf hb)) (.M (reg ((t11 || (decide (n < (0 : Int)))) : Bool)) ?_)))))))
   refine ifb_cases hh (fun hb_1 hh => ?_) (fun hb_1 hh => ?_)
   ·refine .no 16 rfl (cb hb_1) rfl rfl (.no 16 rfl (cb hb_1) rfl rfl (.no 16 rfl (cb hb_1) rfl rfl (.no 16 rfl (cb hb_1) rfl rfl (.no 16 rfl (cb hb_1) rfl rfl (.no 16 rfl (cb hb_1) rfl rfl (.no 16 rfl (cb hb_1) rfl rfl (.V (v_pickT (v := reg true) rfl hb_1 rfl) ?_)))))))
    refine .nil ?_
    exact QN.thenJ ⟨_, true, setl_eq ⟨rfl, ⟨rfl, ⟨rfl, trivial⟩⟩⟩, hh⟩
   ·refine .yv 16 rfl (cb hb_1) rfl (v_move (v := reg (n : Int)) rfl) rfl (.yv 16 rfl (cb hb_1) rfl (v_move (v := reg (r : Pt)) rfl) rfl (.yv 16 rfl (cb hb_1) rfl (v_nilCheck (congrArg Value.pointer hp)) rfl (.yv 16 rfl (cb hb_1) rfl (v_fieldAddr fl_408_0 rfl) rfl ?_)))
    obtain ⟨t21, ⟨xt21, hxt21, hgt21⟩, hh⟩ := hh
    refine .yv 16 rfl (cb hb_1) rfl (v_ld1 (p := p) 0 na_173 rfl hxt21 hgt21 get_408_b) rfl (.yv 16 rfl (cb hb_1) rfl (v_len_sl (sl_173).1 rfl) rfl (.yv 16 rfl (cb hb_1) rfl (v_igtr rfl rfl) rfl (.V (v_pickF (v := reg ((decide ((t21.len : Int) < n)) : Bool)) rfl hb_1 rfl) ?_)))
    refine .nil ?_
    exact QN.thenJ ⟨_, (decide ((t21.len : Int) < n)), setl_eq ⟨rfl, ⟨rfl, ⟨rfl, trivial⟩⟩⟩, hh⟩
  ·rintro ρ h ⟨ρ', t24, rfl, hh⟩
   unfold code_Reader_take.j1 at hh
   refine CW.cond t24 rfl (fun hb_2 => ?_) (fun hb_2 => ?_)
   ·have hh := hh.1 hb_2
    refine CW.goto ?_
    refine QN.thenGoto ?_
    refine QN.scGoto rfl ?_
    refine CW.seq ?_
    refine CW.skip ?_
    refine QN.then_ ?_
    refine .sr (.M (reg r) (.M (reg r) ?_))
    obtain ⟨p_1, hp_1, hh⟩ := hh
    refine .V (v_nilCheck (congrArg Value.pointer hp_1)) (.V (v_fieldAddr fl_408_1 rfl) (.S (true : Bool) 1 sz_4 (one_b _) len_code_Reader (len_b _) (fun x => set_408_bad x (true : Bool)) hh rfl rfl (fun _ hh => .V (v_nilCheck (congrArg Value.pointer hp_1)) (.V (v_fieldAddr fl_408_0 rfl) (.S (Sl.nil : Sl) 0 sz_173 (one_sl _) len_code_Reader (len_sl _) (fun x => set_408_b x (Sl.nil : Sl)) hh rfl rfl (fun _ hh => .nx (.sr (.A (reg (Sl.nil : Sl)) (.nx ?_)))))))))
    refine CW.ret ?_
    refine QN.sc2Ret ?_
    exact ret1 rfl rfl ⟨(Sl.nil : Sl), rfl, hh⟩
   ·have hh := hh.2 hb_2
    refine CW.skip ?_
    refine QN.then_ ?_
    refine CW.seq ?_
    refine .sr (.M (reg r) ?_)
    obtain ⟨p_2, hp_2, hh⟩ := hh
    refine .V (v_nilCheck (congrArg Value.pointer hp_2)) (.V (v_fieldAddr fl_408_0 rfl) (.L 0 na_173 get_408_b hh rfl (fun t28 hh => .M (reg n) ?_)))
    obtain ⟨hm, hh⟩ := hh
    refine .V (v_slice_hh sl_173 rfl rfl hm.1 hm.2) (.A (reg ((t28.cut 1 0 n.toNat t28.cap) : Sl)) (.nx (.sr (.M (reg r) (.M (reg r) (.V (v_nilCheck (congrArg Value.pointer hp_2)) (.V (v_fieldAddr fl_408_0 rfl) (.L 0 na_173 get_408_b hh rfl (fun t35 hh => .M (reg n) ?_)))))))))
    obtain ⟨hm_1, hh⟩ := hh
    refine .V (v_slice_ll sl_173 rfl rfl hm_1.1 hm_1.2) (.V (v_nilCheck (congrArg Value.pointer hp_2)) (.V (v_fieldAddr fl_408_0 rfl) (.S ((t35.cut 1 n.toNat t35.len t35.cap) : Sl) 0 sz_173 (one_sl _) len_code_Reader (len_sl _) (fun x => set_408_b x ((t35.cut 1 n.toNat t35.len t35.cap) : Sl)) hh rfl rfl (fun _ hh => .nx (.sr (.M (reg ((t28.cut 1 0 n.toNat t28.cap) : Sl)) (.A (reg ((t28.cut 1 0 n.toNat t28.cap) : Sl)) (.nx ?_))))))))
    refine CW.ret ?_
    refine QN.thenRet ?_
    refine QN.scRet ?_
    exact ret1 rfl rfl ⟨((t28.cut 1 0 n.toNat t28.cap) : Sl), rfl, hh⟩
theorem mail_body.ok (w : Pt) (m : api_Mail) (k : Bool → H → Prop) (h : H) (hh : mail_body.b w m k h) : CallsH Prog 117 [reg w, reg m].toArray h fun v h' => ∃ r : Bool, v = reg r ∧ k r h' := by
 unfold mail_body.b at hh
 refine CallsH.of 73 Tryz.func117 rfl Tryz.ntmps117 rfl (fun w0 => ?_)
 refine .sr ?_
 refine box_elim hh (fun m_1 hm_1 hh => ?_)
 refine .e (e_boxP hm_1 rfl rfl rfl ?_)
 refine .A (reg false) (.nx ?_)
 refine CW.join (fun ρ h => ∃ (ρ' : Env), ρ = setl ρ' [] ∧ (mail_body.j1 k)  h) ?_ ?_
 ·refine .sr (.V (v_fieldAddr fl_158_0 rfl) (.L 0 na_3 get_158_Kind hh rfl (fun t6 hh => .nx ?_)))
  refine CW.block ?_
  refine .sr (.V (v_ieql rfl rfl) (.A (reg ((t6 == (1 : Int)) : Bool)) (.nx ?_)))
  refine CW.cond (t6 == (1 : Int)) rfl (fun hb => ?_) (fun hb => ?_)
  ·have hh := hh.1 hb
   refine .sr (.M (reg w) (.V (v_fieldAddr fl_158_1 rfl) (.LA 1 ag_150 get_158_Plan (fun _ => (len_api_Plan _)) hh rfl (fun t11 hh => ?_))))
   refine .e (e_callP fn_200 rfl rfl hh ?_)
   intro h t12 hh
   refine .A (reg t12) (.nx ?_)
   refine CW.ret ?_
   refine QN.blockRet ?_
   refine QN.thenRet ?_
   exact ret1 rfl rfl ⟨(t12 : Bool), rfl, hh⟩
  ·have hh := hh.2 hb
   refine .sr (.V (v_ieql rfl rfl) (.A (reg ((t6 == (2 : Int)) : Bool)) (.nx ?_)))
   refine CW.cond (t6 == (2 : Int)) rfl (fun hb_1 => ?_) (fun hb_1 => ?_)
   ·have hh := hh.1 hb_1
    refine .sr (.M (reg w) (.V (v_fieldAddr fl_158_2 rfl) (.LA 109 ag_152 get_158_Vote (fun _ => (len_api_Vote _)) hh rfl (fun t17 hh => ?_))))
    refine .e (e_callP fn_201 rfl rfl hh ?_)
    intro h t18 hh
    refine .A (reg t18) (.nx ?_)
    refine CW.ret ?_
    refine QN.blockRet ?_
    refine QN.thenRet ?_
    exact ret1 rfl rfl ⟨(t18 : Bool), rfl, hh⟩
   ·have hh := hh.2 hb_1
    refine .sr (.V (v_ieql rfl rfl) (.A (reg ((t6 == (3 : Int)) : Bool)) (.nx ?_)))
    refine CW.cond (t6 == (3 : Int)) rfl (fun hb_2 => ?_) (fun hb_2 => ?_)
    ·have hh := hh.1 hb_2
     refine CW.region ?_
     refine .M (reg w) (.V (v_fieldAddr fl_158_3 rfl) (.LA 150 ag_128 get_158_Request (fun _ => (len_api_Request _)) hh rfl (fun t23 hh => ?_)))
     refine .e (e_callP fn_202 rfl rfl hh ?_)
     intro h t24 hh
     refine .nil ?_
     refine QN.blockN ?_
     exact QN.thenJ ⟨_, setl_eq trivial, hh⟩
    ·have hh := hh.2 hb_2
     refine .sr (.V (v_ieql rfl rfl) (.A (reg ((t6 == (4 : Int)) : Bool)) (.nx ?_)))
     refine CW.cond (t6 == (4 : Int)) rfl (fun hb_3 => ?_) (fun hb_3 => ?_)
     ·have hh := hh.1 hb_3
      refine .sr (.M (reg w) (.V (v_fieldAddr fl_158_5 rfl) (.L 196 na_3 get_158_Height hh rfl (fun t29 hh => ?_))))
      refine mks_elim hh (fun pt30 t30 hpt30 ht30 hh => ?_)
      refine .e (e_mks [(t29 : Int)] hpt30 ht30 zo_3 sl_48 rfl rfl rfl rfl rfl ?_)
      refine .e (e_callP fn_116 rfl rfl hh ?_)
      intro h t31 hh
      refine .nx ?_
      refine CW.region ?_
      refine .M (reg w) (.V (v_fieldAddr fl_158_4 rfl) (.LA 192 ag_71 get_158_Reply (fun _ => (len_api_Reply _)) hh rfl (fun t34 hh => ?_)))
      refine .e (e_callP fn_203 rfl rfl hh ?_)
      intro h t35 hh
      refine .nil ?_
      refine QN.blockN ?_
      exact QN.thenJ ⟨_, setl_eq trivial, hh⟩
     ·have hh := hh.2 hb_3
      refine .sr (.V (v_ieql rfl rfl) (.A (reg ((t6 == (5 : Int)) : Bool)) (.nx ?_)))
      refine CW.cond (t6 == (5 : Int)) rfl (fun hb_4 => ?_) (fun hb_4 => ?_)
      ·have hh := hh.1 hb_4
       refine .sr (.M (reg w) (.V (v_fieldAddr fl_158_6 rfl) (.LA 197 ag_144 get_158_Block (fun _ => (len_api_Block _)) hh rfl (fun t40 hh => ?_))))
       refine .e (e_callP fn_204 rfl rfl hh ?_)
       intro h t41 hh
       refine .nx (.sr (.M (reg w) (.V (v_fieldAddr fl_158_7 rfl) (.LA 296 ag_155 get_158_Cert (fun _ => (len_api_Cert _)) hh rfl (fun t44 hh => ?_)))))
       refine .e (e_callP fn_205 rfl rfl hh ?_)
       intro h t45 hh
       refine .A (reg t45) (.nx ?_)
       refine CW.ret ?_
       refine QN.blockRet ?_
       refine QN.thenRet ?_
       exact ret1 rfl rfl ⟨(t45 : Bool), rfl, hh⟩
      ·have hh := hh.2 hb_4
       refine .sr (.V (v_ieql rfl rfl) (.A (reg ((t6 == (6 : Int)) : Bool)) (.nx ?_)))
       refine CW.cond (t6 == (6 : Int)) rfl (fun hb_5 => ?_) (fun hb_5 => ?_)
       ·have hh := hh.1 hb_5
        refine CW.region ?_
        refine .M (reg w) (.V (v_fieldAddr fl_158_5 rfl) (.L 196 na_3 get_158_Height hh rfl (fun t50 hh => ?_)))
        refine mks_elim hh (fun pt51 t51 hpt51 ht51 hh => ?_)
        refine .e (e_mks [(t50 : Int)] hpt51 ht51 zo_3 sl_48 rfl rfl rfl rfl rfl ?_)
        refine .e (e_callP fn_116 rfl rfl hh ?_)
        intro h t52 hh
        refine .nil ?_
        refine QN.blockN ?_
        exact QN.thenJ ⟨_, setl_eq trivial, hh⟩
       ·have hh := hh.2 hb_5
        refine .sr (.V (v_ieql rfl rfl) (.A (reg ((t6 == (8 : Int)) : Bool)) (.nx ?_)))
        refine CW.cond (t6 == (8 : Int)) rfl (fun hb_6 => ?_) (fun hb_6 => ?_)
        ·have hh := hh.1 hb_6
         refine .sr (.M (reg w) (.LA 0 ag_158 get_158_all (fun _ => (len_api_Mail _)) hh rfl (fun t56 hh => ?_)))
         refine .e (e_callP fn_206 rfl rfl hh ?_)
         intro h t57 hh
         refine .A (reg t57) (.nx ?_)
         refine CW.ret ?_
         refine QN.blockRet ?_
         refine QN.thenRet ?_
         exact ret1 rfl rfl ⟨(t57 : Bool), rfl, hh⟩
        ·have hh := hh.2 hb_6
         refine .sr (.V (v_ieql rfl rfl) (.A (reg ((t6 == (9 : Int)) : Bool)) (.nx ?_)))
         refine CW.cond (t6 == (9 : Int)) rfl (fun hb_7 => ?_) (fun hb_7 => ?_)
         ·have hh := hh.1 hb_7
          refine .sr (.M (reg w) (.V (v_fieldAddr fl_158_6 rfl) (.LA 197 ag_144 get_158_Block (fun _ => (len_api_Block _)) hh rfl (fun t62 hh => ?_))))
          refine .e (e_callP fn_204 rfl rfl hh ?_)
          intro h t63 hh
          refine .nx ?_
          refine CW.join (fun ρ h => ∃ (ρ' : Env) (t4 : Bool), ρ = setl ρ' [(4, reg t4)] ∧ (mail_body.j2 k) t4 h) ?_ ?_
          ·refine CW.region ?_
           refine .M (reg w) (.V (v_fieldAddr fl_158_7 rfl) (.LA 296 ag_155 get_158_Cert (fun _ => (len_api_Cert _)) hh rfl (fun t66 hh => ?_)))
           refine .e (e_callP fn_205 rfl rfl hh ?_)
           intro h t67 hh
           refine .M (reg t67) ?_
           refine ifb_cases hh (fun hb_8 hh => ?_) (fun hb_8 hh => ?_)
           ·refine .yv 68 rfl (cb hb_8) rfl (v_move (v := reg (w : Pt)) rfl) rfl ?_
            obtain ⟨t70, ⟨xt70, hxt70, hgt70⟩, hh⟩ := hh
            refine .yv 68 rfl (cb hb_8) rfl (v_ldA (p := m_1) 0 ag_158 rfl hxt70 hgt70 get_158_all (fun _ => (len_api_Mail _)) (fun _ => rfl)) rfl ?_
            refine .ye 68 rfl (cb hb_8) rfl (e_callP fn_206 rfl rfl hh ?_)
            intro h t71 hh
            refine .V (v_pickT (v := reg t71) rfl hb_8 rfl) (.A (reg t71) ?_)
            refine .nil ?_
            exact QN.thenJ ⟨_, t71, setl_eq ⟨rfl, trivial⟩, hh⟩
           ·refine .no 68 rfl (cb hb_8) rfl rfl (.no 68 rfl (cb hb_8) rfl rfl (.no 68 rfl (cb hb_8) rfl rfl (.V (v_pickF (v := reg false) rfl hb_8 rfl) (.A (reg false) ?_))))
            refine .nil ?_
            exact QN.thenJ ⟨_, false, setl_eq ⟨rfl, trivial⟩, hh⟩
          ·rintro ρ h ⟨ρ', t4, rfl, hh⟩
           unfold mail_body.j2 at hh
           refine CW.ret ?_
           refine QN.blockRet ?_
           refine QN.thenRet ?_
           exact ret1 rfl rfl ⟨(t4 : Bool), rfl, hh⟩
         ·have hh := hh.2 hb_7
          refine CW.skip ?_
          refine QN.blockN ?_
          exact QN.thenJ ⟨_, setl_eq trivial, hh⟩
 ·rintro ρ h ⟨ρ', rfl, hh⟩
  unfold mail_body.j1 at hh
  refine .sr (.A (reg true) (.nx ?_))
  refine CW.ret ?_
  exact ret1 rfl rfl ⟨(true : Bool), rfl, hh⟩
end Go.Proofs.YtmpmildpioebhaaGreatDoor

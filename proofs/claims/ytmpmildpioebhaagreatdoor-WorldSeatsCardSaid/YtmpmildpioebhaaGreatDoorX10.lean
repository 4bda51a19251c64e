/-
  The statement WorldSeats (law 23): a seat whose power goes off is gone, and comes back with nothing lost. Part 10 of 27. No condition stands ahead of the statement. Parts of this text were printed by a program of ours.
-/
import Derived.Test.YtmpmildpioebhaaGreatDoorX08
import Derived.Test.YtmpmildpioebhaaGreatDoorX09
import Derived.LoopN
import Derived.Scope
import Derived.Laws.StructEq
import Derived.Laws.BytesString
set_option linter.all false
set_option maxRecDepth 100000
set_option maxHeartbeats 4000000
noncomputable section
namespace Go.Vm
open Go Go.Sh
open Go.Sh.Ty (reg)
section
variable {C:Ctx} {ρ:Env} {h:H} {ty:TypeId} {Q:Exit→Act→World→Prop} {J:Env→H→Prop} {dst:Option Tmp} {X:Cx} {θ:Th} {hp:Hp} {T:Tb} {q:K1} {o:Op}
theorem rv_sr {r:Rid} {b o0 t o n c z:Nat} (h:θ r = some (b,o0,t)) (hz:0 < z) (hn:n≤c):RV θ (.sr r o n c z) (.slice (some ⟨b,o0 + o,none⟩) n c):=.inl (.inl (.inl ⟨b,o0,t,h,hz,hn,rfl⟩))
theorem apA_ok (hX:CxOk X) (hT:TbOk C.P T) (S:SR X θ hp h) {e:E} (he:RE θ e ρ) {cl:CallT} {t u:Nat} {so xo:Operand} (hd:okd C.n dst = true)
  (g:X.G ((apA T t u so xo).f cl e hp q)) (hj:Kt X θ hp q fun w h'=>J (upo ρ dst w) h'):OpE C Q (.call ⟨.builtin .append,#[so,xo],#[t,u]⟩) ty dst J ρ h:=by
 unfold apA at g
 split at g
 ·rename_i el sz hk
  obtain ⟨hu,hsz⟩:=tk_sl hT hk
  cases c:an (zOk T el) (an (Nat.ble 1 sz) (an (byT T el) (apT (tkT T u)))) with
  | false=>rw [c] at g; exact (hX.gd.er _ g).elim
  | true=>
   rw [c] at g
   obtain ⟨c1,c⟩:=qaf c
   obtain ⟨c2,c⟩:=qaf c
   obtain ⟨c3,c4⟩:=qaf c
   have h0:=yh c2
   have hslT:SlT C.P t el sz:=⟨hu,hT.size hsz h0⟩
   obtain ⟨z,hz,hzc⟩:=zero_ok hT (θ:=θ) c1
   have hzl:z.length = sz:=(zero_len c1 hzc).trans hsz
   have hi:∃ i,T.info el = some i∧i.bytes≤4096:=by
    unfold byT at c3
    cases hi:T.info el with
    | none=>rw [hi] at c3; cases c3
    | some i=>rw [hi] at c3; exact ⟨i,rfl,yh c3⟩
   obtain ⟨i,hi,hby⟩:=hi
   have hbs:(C.P.info? el).map (·.bytes) = some i.bytes:=by rw [hT.info _ _ hi]; rfl
   have hU:∃ d,C.P.underlying u = some d∧((∃ e',d = .slice e')∨d = .string):=by
    cases hku:tkT T u with
    | sl e' s'=>exact ⟨_,(tk_sl hT hku).1,.inl ⟨_,rfl⟩⟩
    | str=>exact ⟨_,tk_str hT hku,.inr rfl⟩
    | _=>rw [hku] at c4; cases c4
   obtain ⟨d,hU,hd'⟩:=hU
   have g:X.G (frH ((gO so).f e) fun s=>srcK ((gO xo).f e) sz hp fun m xs=>bz (Nat.ble m 1048576) (bz (Nat.beq m 0) (ap0 s hp q) (ap1 s sz m xs hp q)) (.er 37)):=g
   obtain ⟨ns,g⟩:=qdn hX.gd g
   obtain ⟨m,ys,l,hl,hsrc,g⟩:=srcK_ok (C:=C) hX S he (k:=fun m xs=>bz (Nat.ble m 1048576) (bz (Nat.beq m 0) (ap0 ((gO so).f e) hp q) (ap1 ((gO so).f e) sz m xs hp q)) (.er 37)) g
   obtain ⟨cm,g⟩:=qak hX.gd g
   have cm:=yh cm
   have hx:=qa1 he ns
   revert g hx
   generalize (gO so).f e = a
   intro g hx
   have e2U:=hU
   cases c5:Nat.beq m 0 with
   | true=>
    rw [c5] at g
    have hm:=ya c5
    subst hm
    replace g:X.G (ap0 a hp q):=g
    have zero:∀ {p:Option Addr} {n k:Nat},n≤k→ev ρ so = .slice p n k→X.G (q a hp)→OpE C Q (.call ⟨.builtin .append,#[so,xo],#[t,u]⟩) ty dst J ρ h:=by
     intro p n k hnk e1 g
     exact e_app0 hslT hU hd' e1 hsrc hd hnk (hj θ _ _ _ _ S (Ext.refl _ _) (Nat.le_refl _) (by rw [← e1]; exact hx) g)
    cases a <;> first | exact (hX.gd.er _ g).elim | skip
    ·obtain ⟨b,o0,tt,c,hr,hz,hc,hn,e1⟩:=hx.ra (v:=.sl _ _ _ _) trivial
     exact zero hn e1 g
    ·obtain ⟨b,o0,tt,hr,hz,hn,e1⟩:=hx.ra (v:=.sr _ _ _ _ _) trivial
     exact zero hn e1 g
    ·obtain ⟨b,o0,tt,c,hr,hz,hc,hv⟩:=hx.ra (v:=.se _ _ _) trivial
     rcases hv with ⟨rfl,p,hp',e1⟩ | ⟨hc0,e1⟩
     ·exact zero (Nat.le_refl _) e1 g
     ·exact zero (Nat.zero_le _) e1 g
    ·obtain ⟨p,hp',e1⟩:=hx.ra (v:=.sz) trivial
     exact zero (Nat.le_refl _) e1 g
    ·exact zero (Nat.le_refl _) (hx.ra (v:=.sn) trivial) g
   | false=>
    rw [c5] at g
    have hm:=qcl c5
    replace g:X.G (ap1 a sz m l hp q):=g
    have hylen:=hsrc.1
    have big:∀ n,n + m≤16777216→(n + m) * i.bytes≤maxBytes∧n + m≤9223372036854775807:=by
     intro n hn
     have:(n + m) * i.bytes≤16777216 * 4096:=Nat.mul_le_mul hn hby
     unfold maxBytes; omega
    have nsz:∀ {cs:CL AV} {n:Nat} {hp:Hp},X.G (newS cs n sz hp q)→n≤16777216:=by
     intro cs n hp g
     unfold newS at g
     exact yh (qak hX.gd g).1
    have fresh:∀ {S1:Hp} {n c:Nat} {p:Option Addr} {xs:List Value} {cs:CL AV},SR X θ S1 h→S1.nx = hp.nx→ev ρ so = .slice p n c→c < n + m→(∀ w:World,w.heap = h→(Builtin.firstCells sz n (.slice p n c)).run C.P w = .ok xs.toArray w) →
      RC θ cs (xs ++ ys)→xs.length = n * sz→X.G (newS cs (n + m) sz S1 q)→OpE C Q (.call ⟨.builtin .append,#[so,xo],#[t,u]⟩) ty dst J ρ h:=by
     intro S1 n c p xs cs SS hnx e1 hlt hfc hcs hxl g
     have hle:=nsz g
     refine e_appG hslT hU hd' hz hbs e1 hsrc hd (fun h=>by omega) (fun _=>⟨xs,hfc,(big n hle).1,(big n hle).2,fun cap hcap=>?_⟩)
     have hlen:(xs ++ ys).length = (n + m) * sz:=by rw [List.length_append,hxl,hylen,Nat.add_mul]
     obtain ⟨θ',hp',a',f1,f2,f3,f4,f5⟩:=newS_ok hX SS (el:=el) (n0:=0) (us:=(List.replicate (cap - (n + m)) z).flatten) (z:=z) h0 hcs hlen hcap (by simp [hzl]) g
     rw [hnx] at f2 f3
     exact hj θ' hp' _ _ _ f1 f2 f3 f4 f5
    have empty:∀ {p:Option Addr} {c:Nat} (w:World),w.heap = h→(Builtin.firstCells sz 0 (.slice p 0 c)).run C.P w = .ok ([]:List Value).toArray w:=by
     intro p c w _
     cases p with
     | none=>simp [Builtin.firstCells]
     | some p=>simp [Builtin.firstCells,load0]
    have l0:RC θ l ([] ++ ys):=hl
    have drop:∀ {r:Rid} {b o0 tt L o n c:Nat} {cs0 cs:CL AV} {xs:List Value},θ r = some (b,o0,tt)→getH hp r = .c L cs0→o + c * sz = tt→ev ρ so = .slice (some ⟨b,o0 + o,none⟩) n c→RC θ cs (xs ++ ys)→xs.length = n * sz→(n = 0∨AtH h ⟨b,o0 + o,none⟩ xs) →
      X.G (hset hp r .no fun h=>newS cs (n + m) sz h q)→OpE C Q (.call ⟨.builtin .append,#[so,xo],#[t,u]⟩) ty dst J ρ h:=by
     intro r b o0 tt L o n c cs0 cs xs hr hg hc e1 hcs hxl hat g
     obtain ⟨hK,g⟩:=S.K_none hX hr g
     have hle:=nsz g
     have hfc:∀ w:World,w.heap = h→(Builtin.firstCells sz n (.slice (some ⟨b,o0 + o,none⟩) n c)).run C.P w = .ok xs.toArray w:=by
      intro w hw
      rcases hat with rfl | hat
      ·have:xs = []:=List.eq_nil_of_length_eq_zero (by omega)
       subst this; exact empty w hw
      ·exact qdj (s:=⟨some ⟨b,o0 + o,none⟩,n,c⟩) (.inr ⟨_,rfl,hat,hxl⟩) hw
     by_cases hfit:n + m≤c
     ·obtain ⟨hw,θ',hp',a',f1,f2,f3,f4,f5⟩:=moved_ok hX S hr hg h0 hc hfit hcs hxl hylen hat hK g
      have ea:=qb8 b (o0 + o) (n * sz)
      refine e_appG hslT hU hd' hz hbs e1 hsrc hd (fun _=>⟨fun p hp=>?_,?_⟩) (fun h=>by omega)
      ·injection hp with hp; subst hp; rw [ea]; exact hw
      ·show J _ (putC h ((⟨b,o0 + o,none⟩:Addr).add (n * sz)) ys)
       rw [ea]
       exact hj θ' hp' _ _ _ f1 f2 f3 f4 f5
     ·exact fresh (S1:=⟨uR hp.rows r .no,hp.nx,hp.ro⟩) (S.drop hr hK) rfl e1 (by omega) hfc hcs hxl g
    cases a <;> first | exact (hX.gd.er _ g).elim | skip
    ·rename_i r o n z'
     obtain ⟨b,o0,tt,kc,hr,hz',hc,hn,e1⟩:=hx.ra (v:=.sl r o n z') trivial
     unfold ap1 at g
     obtain ⟨cz,g⟩:=qak hX.gd g
     have:=ya cz
     subst this
     cases hg:getH hp r <;> simp only [hg] at g <;> first | exact (hX.gd.er _ g).elim | skip
     rename_i L cs
     obtain ⟨arr,E,fr,vs,k1,k2,k3,k4,k5,k6,k7⟩:=rowC_ok S hr hg
     obtain ⟨vs',hat',hcs',hvl'⟩:=qee S hr hg
     have ea:=qb8 b o0 o
     cases cA:Nat.ble (Nat.add o (Nat.mul (Nat.add n m) z')) L with
     | true=>
      rw [cA] at g
      have cA':o + (n + m) * z'≤L:=yh cA
      have hfit:n + m≤kc:=by
       have:(n + m) * z'≤kc * z':=by omega
       exact Nat.le_of_mul_le_mul_right this h0
      obtain ⟨hp',S',hw,hnx,g⟩:=wrK_ok hX S hr hl hylen g
      have ea2:=qb8 b (o0 + o) (n * z')
      rw [Nat.add_assoc] at ea2
      refine e_appG hslT hU hd' hz hbs e1 hsrc hd (fun _=>⟨fun p hp=>?_,?_⟩) (fun h=>by omega)
      ·injection hp with hp; subst hp; rw [ea2]; exact hw
      ·show J _ (putC h ((⟨b,o0 + o,none⟩:Addr).add (n * z')) ys)
       rw [ea2]
       exact hj θ _ _ _ _ S' (Ext.refl _ _) (by rw [hnx]; exact Nat.le_refl _) (rv_sl hr hz' hc hfit) g
     | false=>
      rw [cA] at g
      cases cB:an (Nat.beq o 0) (Nat.beq (Nat.mul n z') L) with
      | true=>
       rw [cB] at g
       obtain ⟨b1,b2⟩:=qaf cB
       have b1:=ya b1
       have b2:=ya b2
       have b2:n * z' = L:=b2
       exact drop hr hg hc e1 (xs:=vs') (qdv hcs' hl) (by omega) (.inr (by rw [b1]; exact hat')) g
      | false=>
       rw [cB] at g
       obtain ⟨b3,g⟩:=qak hX.gd (show X.G (bz (Nat.ble (Nat.add o (Nat.mul n z')) L) (hset hp r .no fun h=>newS (capp (ctk (cdr cs o) (Nat.mul n z')) l) (Nat.add n m) z' h q) (.er 36)) from g)
       have b3:o + n * z'≤L:=yh b3
       refine drop hr hg hc e1 (xs:=(vs'.drop o).take (n * z')) (qdv (ctk_ok (cdr_ok hcs' o (by omega)) _ (by simp; omega)) hl) (by simp; omega) (.inr ?_) g
       rw [← ea]; exact hat'.sub o _
    ·rename_i r o n kc z'
     obtain ⟨b,o0,tt,hr,hz',hn,e1⟩:=hx.ra (v:=.sr r o n kc z') trivial
     unfold ap1 at g
     obtain ⟨cz,g⟩:=qak hX.gd g
     have:=ya cz
     subst this
     cases cA:Nat.ble (Nat.add n m) kc with
     | true=>
      rw [cA] at g
      have hfit:n + m≤kc:=yh cA
      obtain ⟨hp',S',hw,hnx,g⟩:=wrK_ok hX S hr hl hylen g
      have ea2:=qb8 b (o0 + o) (n * z')
      rw [Nat.add_assoc] at ea2
      refine e_appG hslT hU hd' hz hbs e1 hsrc hd (fun _=>⟨fun p hp=>?_,?_⟩) (fun h=>by omega)
      ·injection hp with hp; subst hp; rw [ea2]; exact hw
      ·show J _ (putC h ((⟨b,o0 + o,none⟩:Addr).add (n * z')) ys)
       rw [ea2]
       exact hj θ _ _ _ _ S' (Ext.refl _ _) (by rw [hnx]; exact Nat.le_refl _) (rv_sr hr hz' hfit) g
     | false=>
      rw [cA] at g
      obtain ⟨l',xs,a1,a2,a3,g⟩:=rdK_ok hX S hr g
      have hlt:kc < n + m:=by
       rcases Nat.lt_or_ge kc (n + m) with h | h
       ·exact h
       ·rw [show Nat.ble (Nat.add n m) kc = true from Nat.ble_eq_true_of_le h] at cA; cases cA
      exact fresh S rfl e1 hlt (fun w hw=>qdj (s:=⟨some ⟨b,o0 + o,none⟩,n,kc⟩) (.inr ⟨_,rfl,a3,a2⟩) hw) (qdv a1 hl) a2 g
    ·rename_i r o z'
     obtain ⟨b,o0,tt,kc,hr,hz',hc,hv⟩:=hx.ra (v:=.se r o z') trivial
     unfold ap1 at g
     obtain ⟨cz,g⟩:=qak hX.gd g
     have:=ya cz
     subst this
     cases hg:getH hp r <;> simp only [hg] at g <;> first | exact (hX.gd.er _ g).elim | skip
     rename_i L cs
     rcases hv with ⟨rfl,p,hp',e1⟩ | ⟨hc0,e1⟩
     ·obtain ⟨hK,g⟩:=S.K_none hX hr g
      exact fresh (S1:=⟨uR hp.rows r .no,hp.nx,hp.ro⟩) (S.drop hr hK) rfl e1 (by omega) empty l0 (by simp) (by rw [Nat.zero_add]; exact g)
     ·exact drop (n:=0) hr hg hc e1 l0 (by simp) (.inl rfl) (by simp only [Nat.zero_add]; exact g)
    ·obtain ⟨p,hp',e1⟩:=hx.ra (v:=.sz) trivial
     have g:X.G (newS l m sz hp q):=g
     exact fresh S rfl e1 (by omega) empty l0 (by simp) (by rw [Nat.zero_add]; exact g)
    ·have e1:=hx.ra (v:=.sn) trivial
     have g:X.G (newS l m sz hp q):=g
     exact fresh S rfl e1 (by omega) empty l0 (by simp) (by rw [Nat.zero_add]; exact g)
 ·exact (hX.gd.er _ g).elim
end
def CallOk (P:Program) (cl:CallT):Prop:=
 ∀ (X:Cx),CxOk X→∀ (θ:Th) (hp:Hp) (h:H) (f:Nat) (args:List AV) (vals:List Value) (q:K1),SR X θ hp h→RVs θ args vals→X.G (cl f args hp q) →
  FnOk P f∧CallsH P f vals.toArray h fun w h'=>∃ θ' hp' a,SR X θ' hp' h'∧Ext θ θ' (tor hp.nx)∧tor hp.nx≤tor hp'.nx∧RV θ' a w∧X.G (q a hp')
theorem okA_rv1 {θ:Th} {v:AV} {V:Value} (h:RV θ v V) (ho:okA v = true):RV1 θ v V:=by
 refine h.rv1 fun l e=>?_
 subst e; cases ho
theorem okAs_cons {v:AV} {l:List AV} (h:okAs (v :: l) = true):okA v = true∧okAs l = true:=qaf h
theorem okAs_append:∀ {l m:List AV},okAs (l ++ m) = true→okAs l = true∧okAs m = true
 | [],m,h=>⟨rfl,h⟩
 | v :: l,m,h=>by
  obtain ⟨h1,h2⟩:=okAs_cons h
  obtain ⟨h3,h4⟩:=okAs_append h2
  exact ⟨show an (okA v) (okAs l) = true by rw [an_eq,h1,h3]; rfl,h4⟩
theorem RVs.append {θ:Th}:∀ {l m:List AV} {vs us:List Value},RVs θ l vs→RVs θ m us→RVs θ (l ++ m) (vs ++ us)
 | [],_,_,_,h,h'=>by rw [show _ = [] from h]; exact h'
 | a :: l,_,_,_,⟨V,r,e,h1,h2⟩,h'=>by subst e; exact ⟨V,_,rfl,h1,RVs.append h2 h'⟩
theorem RAs.rvs {θ:Th}:∀ {l:List AV} {vs:List Value},RAs θ l vs→RVs θ l vs
 | [],_,h=>h
 | a :: l,_,⟨V,r,e,h1,h2⟩=>⟨V,r,e,.inl (.inl h1),RAs.rvs h2⟩
theorem gL_rvs {θ:Th} {e:E} {ρ:Env} (he:RE θ e ρ):∀ {l:List Operand},okAs ((gL l).f e) = true→RVs θ ((gL l).f e) (l.map (ev ρ))
 | [],_=>rfl
 | x :: l,h=>by
  obtain ⟨h1,h2⟩:=okAs_cons (v:=(gO x).f e) (l:=(gL l).f e) h
  have hne:(gO x).f e ≠ .er:=by intro e1; rw [e1] at h1; cases h1
  exact ⟨_,_,rfl,okA_rv1 (qa1 he hne) h1,gL_rvs he h2⟩
section
variable {C:Ctx} {ρ:Env} {h:H} {ty:TypeId} {Q:Exit→Act→World→Prop} {J:Env→H→Prop} {dst:Option Tmp} {X:Cx} {θ:Th} {hp:Hp} {T:Tb} {q:K1} {o:Op}
theorem e_callF {f:FuncId} {fo:Operand} {xs:Array Operand} {ts:Array TypeId} {F K:List Value} {vs:Array Value} (hf:ev ρ fo = .func (.func f) (Array.mk F) (Array.mk K)) (hok:FnOk C.P f) (hx:(F ++ (xs.toList.map (ev ρ) ++ K)).toArray = vs) (hd:okd C.n dst = true)
  (hc:CallsH C.P f vs h fun v h'=>J (upo ρ dst v) h'):OpE C Q (.call ⟨.value fo,xs,ts⟩) ty dst J ρ h:=by
 intro a w s pos after g
 unfold Oper.wp
 rw [s.evals]
 have hxx:Array.mk F ++ xs.map (ev ρ) ++ Array.mk K = vs:=by subst hx; apply Array.toList_inj.1; simp
 have hr:(execOp (ev ρ) ⟨dst,.call ⟨.value fo,xs,ts⟩,ty,pos,after,g⟩).run C.P w = .ok (.enter f vs) w:=by
  simp only [execOp,resolve,hf,Deferred.ofValue,invoke]
  rw [← hxx]
  simp [run_callFunc hok]
 rw [hr]
 show Calls C.P f vs w _
 refine (hc w s.heap).mono ?_
 rintro e w' ⟨v,rfl,ht,ho,hu,hJ⟩
 exact ⟨_,_,(s.put hd _).world ht ho hu,hJ⟩
theorem clA_ok {cl:CallT} (hcl:CallOk C.P cl) (hX:CxOk X) (S:SR X θ hp h) {f:Nat} {args:List AV} {vals:List Value} (hr:okAs args = true→RVs θ args vals) (g:X.G (clA cl f args hp q)) (hj:Kt X θ hp q fun w h'=>J (upo ρ dst w) h'):
  FnOk C.P f∧CallsH C.P f vals.toArray h fun v h'=>J (upo ρ dst v) h':=by
 unfold clA at g
 obtain ⟨c,g⟩:=qak hX.gd g
 obtain ⟨h1,h2⟩:=hcl X hX θ hp h f args vals q S (hr c) g
 refine ⟨h1,h2.mono ?_⟩
 rintro v h' ⟨θ',hp',a,a1,a2,a3,a4,a5⟩
 exact hj θ' hp' h' a v a1 a2 a3 a4 a5
theorem cE_ok {cl:CallT} (hcl:CallOk C.P cl) (hX:CxOk X) (hT:TbOk C.P T) (S:SR X θ hp h) {e:E} (he:RE θ e ρ) (hd:okd C.n dst = true) (g:X.G ((cE T o).f cl e hp q)) (hj:Kt X θ hp q fun w h'=>J (upo ρ dst w) h'):OpE C Q o ty dst J ρ h:=by
 unfold cE at g
 split at g
 ·exact cSt_ok hX hT S he hd g hj
 ·exact boxA_ok hX S he hd g hj
 ·exact alA_ok hX hT S (e:=e) hd g hj
 ·exact bsA_ok hX hT S he hd g hj
 ·exact mmA_ok hX hT S (e:=e) hd g hj
 ·exact msA_ok hX hT S he hd g hj
 ·exact muA_ok hX hT S he (.inl rfl) hd g hj
 ·exact muA_ok hX hT S he (.inr rfl) hd g hj
 ·exact meA_ok hX hT S he hd g hj
 ·exact esA_ok hX hT S he hd g hj
 ·exact rgA_ok hX hT S he hd g hj
 ·exact nxA_ok hX S he hd g hj
 ·split at g
  ·rename_i hk
   split at g
   ·rename_i hks
    exact cvM_ok hX hT S he hk hks hd g hj
   ·exact cvL_ok hX hT S he hk hd g hj
  ·exact (hX.gd.er _ g).elim
 ·rename_i f xs ts
  obtain ⟨h1,h2⟩:=clA_ok hcl hX S (vals:=xs.toList.map (ev ρ)) (gL_rvs he) g hj
  exact e_call h1 (by apply Array.toList_inj.1; simp) hd h2
 ·rename_i fo xs ts hne
  cases hg:(gO fo).f e <;> simp only [hg] at g <;> first | exact (hX.gd.er _ g).elim | skip
  rename_i f fs cs
  have hfr:=qa1 he (x:=fo) (by rw [hg]; intro e; cases e)
  rw [hg] at hfr
  obtain ⟨F,K,e1,r1,r2⟩:∃ F K,ev ρ fo = .func (.func f) (Array.mk F) (Array.mk K)∧RAs θ fs F∧RAs θ cs K:=by
   rcases hfr with (hfr | ⟨_,_,e,_⟩ | ⟨e,_⟩) | ⟨_,_,e,_⟩
   ·rcases hfr with hfr | ⟨_,_,_,xs',ys',e,e2,a1,a2⟩
    ·exact hfr.elim
    ·cases e; exact ⟨_,_,e2,a1,a2⟩
   ·cases e
   ·cases e
   ·cases e
  obtain ⟨h1,h2⟩:=clA_ok hcl hX S (vals:=F ++ (xs.toList.map (ev ρ) ++ K)) (fun ho=>by
   obtain ⟨_,o2⟩:=okAs_append ho
   obtain ⟨o3,_⟩:=okAs_append o2
   exact r1.rvs.append ((gL_rvs he o3).append r2.rvs)) g hj
  exact e_callF e1 h1 rfl hd h2
 ·split at g
  ·rename_i hxs hts
   rw [list2 hxs,list2 hts]
   exact apA_ok hX hT S he hd g hj
  ·exact (hX.gd.er _ g).elim
 ·split at g
  ·rename_i hxs hts
   rw [list2 hxs,list2 hts]
   exact cpE_ok hX hT S he hd g hj
  ·exact (hX.gd.er _ g).elim
 ·split at g
  ·rename_i hxs hts
   rw [list1 hxs,list1 hts]
   exact clE_ok hX hT S he hd g hj
  ·exact (hX.gd.er _ g).elim
 ·split at g
  ·rename_i hxs hts
   rw [list2 hxs]
   exact dlE_ok hX hT S he hts hd g hj
  ·exact (hX.gd.er _ g).elim
 ·exact (hX.gd.er _ g).elim
end
def upE (e:E) (d:Option Nat) (v:AV):E:=match d with | none=>e | some t=>eSet e t v
theorem upD_eq (e:E) (d:Option Nat) (v:AV) (k:E→Ans):(upD d).f e v k = k (upE e d v):=by
 cases d with
 | none=>rfl
 | some t=>exact sE_eq t e v k
theorem rv_u {θ:Th} {V:Value} (h:RV θ .u V):V = undef:=by
 rcases h with (h | ⟨_,_,e,_⟩ | ⟨_,h⟩) | ⟨_,_,e,_⟩
 ·exact h.noU.elim
 ·cases e
 ·exact h
 ·cases e
theorem xb_eq (a b:Bool):xb a b = (a == b):=by cases a <;> cases b <;> rfl
theorem okD_ok {nt:Nat} {d:Option Nat} (h:okD nt d = true):okd nt d = true:=by
 cases d with
 | none=>rfl
 | some t=>have:=yh h; simp only [okd,Nat.blt_eq]; exact this
theorem RE.upE {θ:Th} {e:E} {ρ:Env} (he:RE θ e ρ) {nt:Nat} (hnt:nt≤256) {d:Option Nat} (hd:okD nt d = true) {v:AV} {V:Value} (hv:RV θ v V):RE θ (upE e d v) (upo ρ d V):=by
 cases d with
 | none=>exact he
 | some t=>have:=yh hd; exact he.set (by have:t + 1≤nt:=this; omega) hv
theorem frX_ok {G:Ans→Prop} (hG:Gd G) (mv:Nat) (q:Qf) (d:Option Nat) {cl:CallT} {e:E} {hp:Hp} {k:E→Hp→Ans} (g:G ((cOq mv q (upD d)).f cl e hp k)):q.f e hp ≠ .er∧G (k (upE e d (q.f e hp)) hp):=by
 match mv with
 | 0=>
  have g:G (frV (q.f e hp) fun v=>(upD d).f e v fun e=>k e hp):=g
  obtain ⟨h1,h2⟩:=frV_ok hG g
  rw [upD_eq] at h2; exact ⟨h1,h2⟩
 | 1=>
  have g:G (frH (q.f e hp) fun v=>(upD d).f e v fun e=>k e hp):=g
  obtain ⟨h1,h2⟩:=qdn hG g
  rw [upD_eq] at h2; exact ⟨h1,h2⟩
 | n + 2=>
  have g:G (frA (q.f e hp) fun v=>(upD d).f e v fun e=>k e hp):=g
  obtain ⟨h1,h2⟩:=frA_ok hG g
  rw [upD_eq] at h2; exact ⟨h1,h2⟩
section
variable {C:Ctx} {ρ:Env} {h:H} {ty:TypeId} {Q:Exit→Act→World→Prop} {J:Env→H→Prop} {dst:Option Tmp} {X:Cx} {θ:Th} {hp:Hp} {T:Tb} {ops:Array Oper}
theorem qfk {a:Act} {w:World} (s:St C ρ h a w) {t:Nat} (hne:ρ t ≠ undef):t < C.n:=by
 rcases Nat.lt_or_ge t C.n with h | h
 ·exact h
 ·exfalso
  apply hne
  rw [← s.env t,Array.getD_eq_getD_getElem?,Array.getElem?_eq_none (by rw [s.size]; exact h)]
  rfl
theorem qek {a:Act} {w:World} (s:St C ρ h a w) {o:Op} {pos:String} {after:Array Edge} {g:Nat×Bool} {t:Nat} (ht:(ops[g.1]?).bind (·.dst) = some t) (hg:ρ t = undef):
  Region.wanted ⟨dst,o,ty,pos,after,some g⟩ (yielded ops a.tmps) = false:=by
 obtain ⟨g1,g2⟩:=g
 have:=s.env t
 simp only [Region.wanted,yielded,ht,Option.bind_some]
 rcases Nat.lt_or_ge t a.tmps.size with hlt | hge
 ·simp only [Array.getD_eq_getD_getElem?,Array.getElem?_eq_getElem hlt,Option.getD_some] at this
  simp only [Array.getElem?_eq_getElem hlt,this,hg,undef]
  cases g2 <;> rfl
 ·rw [Array.getElem?_eq_none hge]
  cases g2 <;> rfl
theorem gTmp_ok {g:Nat×Bool} {t:Nat} (h:gTmp ops g = some t):(ops[g.1]?).bind (·.dst) = some t:=by
 unfold gTmp at h
 cases e:ops[g.1]? with
 | none=>rw [e] at h; cases h
 | some o=>rw [e] at h; exact h
def Ke (X:Cx) (θ:Th) (hp:Hp) (k:E→Hp→Ans) (J:Env→H→Prop):Prop:=
 ∀ θ' hp' h' e' ρ',SR X θ' hp' h'→Ext θ θ' (tor hp.nx)→tor hp.nx≤tor hp'.nx→RE θ' e' ρ'→X.G (k e' hp')→J ρ' h'
theorem cOp_ok {cl:CallT} (hcl:CallOk C.P cl) (hX:CxOk X) (hT:TbOk C.P T) (hnt:C.n≤256) (S:SR X θ hp h) {e:E} (he:RE θ e ρ) {o:Oper} {k:E→Hp→Ans} (g:X.G ((cOp T C.n ops o).f cl e hp k)) (hj:Ke X θ hp k J):OpW C ops Q o J ρ h:=by
 obtain ⟨dst,op,ty,pos,after,gd⟩:=o
 unfold cOp at g
 cases hd:okD C.n dst with
 | false=>simp only [hd] at g; exact (hX.gd.er _ g).elim
 | true=>
  simp only [hd,cond_true] at g
  have hok:=okD_ok hd
  have undefd:X.G (k (upE e dst .u) hp)→J (upo ρ dst undef) h:=fun g=>hj θ hp h _ _ S (Ext.refl _ _) (Nat.le_refl _) (he.upE hnt hd RV.undef) g
  cases hq:cQ T op with
  | some q=>
   simp only [hq] at g
   obtain ⟨hne,g⟩:=frX_ok hX.gd _ _ _ g
   have val:(qG ops gd q).f e hp = q.f e hp→q.f e hp ≠ .er∧∃ V,OpVal C op ty ρ h V∧J (upo ρ dst V) h:=by
    intro e1
    rw [e1] at hne g
    obtain ⟨V,h1,h2⟩:=cQ_ok (ty:=ty) hT S he hq hne
    exact ⟨hne,V,h1,hj θ hp h _ _ S (Ext.refl _ _) (Nat.le_refl _) (he.upE hnt hd h2) g⟩
   cases gd with
   | none=>
    obtain ⟨_,V,h1,h2⟩:=val rfl
    exact OpW.val hok h1 h2
   | some gg=>
    unfold qG at hne g val
    cases ht:gTmp ops gg with
    | none=>simp only [ht] at hne; exact absurd rfl hne
    | some t=>
     simp only [ht] at hne g val
     have ht':=gTmp_ok ht
     cases hv:(gT t).f e <;> simp only [hv] at hne g val <;> first | exact absurd rfl hne | skip
     ·have hr:=gT_ok he (t:=t) (by rw [hv]; intro e; cases e)
      rw [hv] at hr
      have hu:=rv_u hr
      intro a w s
      rw [if_neg (by rw [qek s ht' hu]; simp)]
      exact ⟨_,_,s.put hok undef,undefd g⟩
     ·rename_i x
      have hr:=gT_ok he (t:=t) (by rw [hv]; intro e; cases e)
      rw [hv] at hr
      have hb:ρ t = .bool x:=hr.ra (v:=.b x) trivial
      cases hx:xb x gg.2 with
      | true=>
       rw [hx] at hne g val
       obtain ⟨_,V,h1,h2⟩:=val rfl
       rw [xb_eq] at hx
       have hx:=eq_of_beq hx
       intro a w s
       exact OpW.yv t ht' (by rw [hb,hx]) (by rw [Nat.blt_eq]; exact qfk s (by rw [hb]; intro e; cases e)) hok h1 h2 a w s
      | false=>
       rw [hx] at hne g
       rw [xb_eq] at hx
       have hx:x = !gg.2:=by cases x <;> cases h:gg.2 <;> simp_all
       intro a w s
       exact OpW.no t ht' (by rw [hb,hx]) (by rw [Nat.blt_eq]; exact qfk s (by rw [hb]; intro e; cases e)) hok (undefd g) a w s
  | none=>
   simp only [hq] at g
   have g:X.G ((eG ops gd (cE T op)).f cl e hp fun v h=>(upD dst).f e v fun e=>k e h):=g
   have hK:Kt X θ hp (fun v h=>(upD dst).f e v fun e=>k e h) fun w h'=>J (upo ρ dst w) h':=by
    intro θ' hp' h' a w S' hE hle hv g
    have g:X.G ((upD dst).f e a fun e=>k e hp'):=g
    rw [upD_eq] at g
    exact hj θ' hp' h' _ _ S' hE hle ((he.mono hE.1).upE hnt hd hv) g
   cases gd with
   | none=>exact OpW.e (cE_ok hcl hX hT S he hok g hK)
   | some gg=>
    unfold eG at g
    cases ht:gTmp ops gg with
    | none=>simp only [ht] at g; exact (hX.gd.er _ g).elim
    | some t=>
     simp only [ht] at g
     have ht':=gTmp_ok ht
     cases hv:(gT t).f e <;> simp only [hv] at g <;> first | exact (hX.gd.er _ g).elim | skip
     ·have hr:=gT_ok he (t:=t) (by rw [hv]; intro e; cases e)
      rw [hv] at hr
      have hu:=rv_u hr
      intro a w s
      rw [if_neg (by rw [qek s ht' hu]; simp)]
      rw [upD_eq] at g
      exact ⟨_,_,s.put hok undef,undefd g⟩
     ·rename_i x
      have hr:=gT_ok he (t:=t) (by rw [hv]; intro e; cases e)
      rw [hv] at hr
      have hb:ρ t = .bool x:=hr.ra (v:=.b x) trivial
      cases hx:xb x gg.2 with
      | true=>
       rw [hx] at g
       rw [xb_eq] at hx
       have hx:=eq_of_beq hx
       intro a w s
       exact OpW.ye t ht' (by rw [hb,hx]) (by rw [Nat.blt_eq]; exact qfk s (by rw [hb]; intro e; cases e)) (cE_ok hcl hX hT S he hok g hK) a w s
      | false=>
       rw [hx] at g
       rw [xb_eq] at hx
       have hx:x = !gg.2:=by cases x <;> cases h:gg.2 <;> simp_all
       intro a w s
       have g:X.G ((upD dst).f e .u fun e=>k e hp):=g
       rw [upD_eq] at g
       exact OpW.no t ht' (by rw [hb,hx]) (by rw [Nat.blt_eq]; exact qfk s (by rw [hb]; intro e; cases e)) hok (undefd g) a w s
theorem cOps_ok {cl:CallT} (hcl:CallOk C.P cl) (hX:CxOk X) (hT:TbOk C.P T) (hnt:C.n≤256):∀ (l:List Oper) {θ:Th} {hp:Hp} {h:H} {e:E} {ρ:Env} {k:E→Hp→Ans},SR X θ hp h→RE θ e ρ→X.G ((cOps T C.n ops l).f cl e hp k)→Ke X θ hp k J→RLK C ops Q J l ρ h
 | [],θ,hp,h,e,ρ,k,S,he,g,hj=>RLK.nil (hj θ hp h e ρ S (Ext.refl _ _) (Nat.le_refl _) he g)
 | o :: l,θ,hp,h,e,ρ,k,S,he,g,hj=>by
  have g:X.G ((cOp T C.n ops o).f cl e hp fun e h=>(cOps T C.n ops l).f cl e h k):=g
  refine RLK.s (cOp_ok hcl hX hT hnt S he g fun θ' hp' h' e' ρ' S' hE hle he' g'=>?_)
  refine cOps_ok hcl hX hT hnt l S' he' g' fun θ2 hp2 h2 e2 ρ2 S2 hE2 hle2 he2 g2=>?_
  exact hj θ2 hp2 h2 e2 ρ2 S2 (hE.trans hE2 hle) (Nat.le_trans hle hle2) he2 g2
end
def SJ (P:Program) (c:Code) (Q:Exit→Act→World→Prop):Nat→Code→Act→World→Prop
 | 0,_,_,_=>False
 | n + 1,d,a,w=>d.wp P (fun ex a w=>match ex with | .goto l=>∃ r,findLabel c l = some r∧SJ P c Q n r a w | e=>Q e a w) a w
theorem wp_scope_n {P:Program} {c:Code} {Q:Exit→Act→World→Prop} (n:Nat) {a:Act} {w:World} (h:SJ P c Q n c a w):(Code.scope c).wp P Q a w:=by
 intro b k cs
 have key:∀ n d a w,SJ P c Q n d a w→∃ e a' w',Q e a' w'∧Arrives P (lone (b.at a (.code d :: .inScope c :: k)) cs w) b k cs e a' w':=by
  intro n
  induction n with
  | zero=>intro d a w h; exact h.elim
  | succ n ih=>
   intro d a w h
   obtain ⟨e,a₁,w₁,hq,harr⟩:=h b (.inScope c :: k) cs
   cases e with
   | normal=>exact ⟨.normal,a₁,w₁,hq,Steps.trans harr (.one step_inScope)⟩
   | exit id=>exact ⟨.exit id,a₁,w₁,hq,fun k' hk=>harr k' (by simp [exitTo,hk])⟩
   | goto l=>
    obtain ⟨r,hf,hq⟩:=hq
    obtain ⟨e₂,a₂,w₂,hq₂,harr₂⟩:=ih r a₁ w₁ hq
    have hg:gotoIn l (.inScope c :: k) = some (.code r :: .inScope c :: k):=by simp [gotoIn,hf]
    exact ⟨e₂,a₂,w₂,hq₂,.of_steps (harr _ hg) harr₂⟩
   | ret=>exact ⟨_,a₁,w₁,hq,harr⟩
   | panic ch=>exact ⟨_,a₁,w₁,hq,harr⟩
   | outgrown=>exact ⟨_,a₁,w₁,hq,harr⟩
 obtain ⟨e,a₁,w₁,hq,harr⟩:=key n c a w h
 exact ⟨e,a₁,w₁,hq,.of_steps (.one step_scope) harr⟩
def exX:Ex→Exit
 | .n=>.normal
 | .r=>.ret
 | .x id=>.exit id
 | .g l=>.goto l
section
variable {C:Ctx} {X:Cx} {T:Tb}
def Kx (C:Ctx) (X:Cx) (θ:Th) (hp:Hp) (k:K2) (Q:Exit→Act→World→Prop):Prop:=
 ∀ ex θ' hp' h' e' ρ',SR X θ' hp' h'→Ext θ θ' (tor hp.nx)→tor hp.nx≤tor hp'.nx→RE θ' e' ρ'→X.G (k ex e' hp')→QN C Q (exX ex) ρ' h'
theorem Kx.step {θ θ':Th} {hp hp':Hp} {k:K2} {Q:Exit→Act→World→Prop} (hk:Kx C X θ hp k Q) (hE:Ext θ θ' (tor hp.nx)) (hle:tor hp.nx≤tor hp'.nx):Kx C X θ' hp' k Q:=
 fun ex θ2 hp2 h2 e2 ρ2 S2 hE2 hle2 he2 g2=>hk ex θ2 hp2 h2 e2 ρ2 S2 (hE.trans hE2 hle) (Nat.le_trans hle hle2) he2 g2
def DrawOk (C:Ctx) (T:Tb) (cl:CallT):Prop:=
 ∀ (X:Cx),CxOk X→∀ {θ:Th} {hp:Hp} {h:H} {e:E} {ρ:Env} {id:Nat} {ops:Array Oper} {k:E→Hp→Ans} {Q:Exit→Act→World→Prop},SR X θ hp h→RE θ e ρ→X.G ((cRg T C.n ops true).f cl e hp k)→Ke X θ hp k (QN C Q .normal)→CW C (.region id ops true) Q ρ h
theorem cC_ok {cl:CallT} (hcl:CallOk C.P cl) (hdr:DrawOk C T cl) (hX:CxOk X) (hT:TbOk C.P T) (hnt:C.n≤256):∀ (n:Nat) (c:Code) {θ:Th} {hp:Hp} {h:H} {e:E} {ρ:Env} {k:K2} {Q:Exit→Act→World→Prop},
  SR X θ hp h→RE θ e ρ→X.G ((cC T C.n n c).f cl e hp k)→Kx C X θ hp k Q→CW C c Q ρ h
 | 0,c,θ,hp,h,e,ρ,k,Q,S,he,g,hk=>(hX.gd.er _ g).elim
 | n + 1,c,θ,hp,h,e,ρ,k,Q,S,he,g,hk=>by
  have ih:=fun c {θ} {hp} {h} {e} {ρ} {k} {Q}=>cC_ok hcl hdr hX hT hnt n c (θ:=θ) (hp:=hp) (h:=h) (e:=e) (ρ:=ρ) (k:=k) (Q:=Q)
  replace g:X.G ((stepC T C.n (cC T C.n n) c).f cl e hp k):=g
  have here:∀ ex,X.G (k ex e hp)→QN C Q (exX ex) ρ h:=fun ex g=>hk ex θ hp h e ρ S (Ext.refl _ _) (Nat.le_refl _) he g
  unfold stepC at g
  split at g
  ·exact CW.skip (here .n g)
  ·rename_i id ops draw
   replace g:X.G ((cRg T C.n ops draw).f cl e hp fun e h=>k .n e h):=g
   have hK:Ke X θ hp (fun e h=>k .n e h) (QN C Q .normal):=fun θ' hp' h' e' ρ' S' hE hle he' g'=>hk .n θ' hp' h' e' ρ' S' hE hle he' g'
   cases draw with
   | false=>exact CW.region (cOps_ok hcl hX hT hnt ops.toList S he g hK)
   | true=>exact hdr X hX S he g hK
  ·rename_i x y
   refine CW.seq (ih x S he g ?_)
   intro ex θ' hp' h' e' ρ' S' hE hle he' g'
   cases ex with
   | n=>exact fun a w s=>ih y S' he' g' (hk.step hE hle) a w s
   | r=>exact hk .r θ' hp' h' e' ρ' S' hE hle he' g'
   | x id=>exact hk (.x id) θ' hp' h' e' ρ' S' hE hle he' g'
   | g l=>exact hk (.g l) θ' hp' h' e' ρ' S' hE hle he' g'
  ·rename_i c x y
   cases hc:(gO c).f e <;> simp only [hc] at g <;> first | exact (hX.gd.er _ g).elim | skip
   ·rename_i b
    have hr:=qa1 he (x:=c) (by rw [hc]; intro e; cases e)
    rw [hc] at hr
    have hb:ev ρ c = .bool b:=hr.ra (v:=.b b) trivial
    cases b with
    | true=>exact CW.cond true hb (fun _=>ih x S he g hk) (fun e=>by cases e)
    | false=>exact CW.cond false hb (fun e=>by cases e) (fun _=>ih y S he g hk)
   ·rename_i j
    have hr:=qa1 he (x:=c) (by rw [hc]; intro e; cases e)
    rw [hc] at hr
    obtain ⟨cj,g⟩:=qak hX.gd g
    have hj:=ya cj
    subst hj
    obtain ⟨g1,g2⟩:=hX.br _ _ g
    obtain ⟨b,hb⟩:=hr.ra (v:=.o 2) trivial
    cases b with
    | true=>exact CW.cond true hb (fun _=>ih x S he g1 hk) (fun e=>by cases e)
    | false=>exact CW.cond false hb (fun e=>by cases e) (fun _=>ih y S he g2 hk)
  ·rename_i id b
   refine CW.block (ih b S he g ?_)
   intro ex θ' hp' h' e' ρ' S' hE hle he' g'
   cases ex with
   | n=>exact hk .n θ' hp' h' e' ρ' S' hE hle he' g'
   | r=>exact hk .r θ' hp' h' e' ρ' S' hE hle he' g'
   | g l=>exact hk (.g l) θ' hp' h' e' ρ' S' hE hle he' g'
   | x j=>
    have g':X.G (bz (Nat.beq j id) (k .n e' hp') (k (.x j) e' hp')):=g'
    intro a w s
    show if j = id then Q .normal a w else Q (.exit j) a w
    cases hji:Nat.beq j id with
    | true=>
     rw [hji] at g'
     rw [if_pos (ya hji)]
     exact hk .n θ' hp' h' e' ρ' S' hE hle he' g' a w s
    | false=>
     rw [hji] at g'
     rw [if_neg (qcl hji)]
     exact hk (.x j) θ' hp' h' e' ρ' S' hE hle he' g' a w s
  ·rename_i b
   replace g:X.G (lpN (fun cl e h k=>(cC T C.n n b).f cl e h k) cl k 1000000 e hp):=g
   revert g
   generalize (1000000:Nat) = N
   intro g
   have key:∀ (m:Nat) {θ':Th} {hp':Hp} {h':H} {e':E} {ρ':Env},SR X θ' hp' h'→Ext θ θ' (tor hp.nx)→tor hp.nx≤tor hp'.nx→RE θ' e' ρ'→X.G (lpN (fun cl e h k=>(cC T C.n n b).f cl e h k) cl k m e' hp') →
     ∀ a w,St C ρ' h' a w→Code.rounds C.P b Q m a w:=by
    intro m
    induction m with
    | zero=>intro θ' hp' h' e' ρ' S' hE hle he' g'; exact (hX.gd.er _ g').elim
    | succ m ihm=>
     intro θ' hp' h' e' ρ' S' hE hle he' g' a w s
     rw [rounds_succ]
     refine ih b S' he' g' ?_ a w s
     intro ex θ2 hp2 h2 e2 ρ2 S2 hE2 hle2 he2 g2
     cases ex with
     | n=>exact fun a w s=>ihm S2 (hE.trans hE2 hle) (Nat.le_trans hle hle2) he2 g2 a w s
     | r=>exact hk .r θ2 hp2 h2 e2 ρ2 S2 (hE.trans hE2 hle) (Nat.le_trans hle hle2) he2 g2
     | x id=>exact hk (.x id) θ2 hp2 h2 e2 ρ2 S2 (hE.trans hE2 hle) (Nat.le_trans hle hle2) he2 g2
     | g l=>exact hk (.g l) θ2 hp2 h2 e2 ρ2 S2 (hE.trans hE2 hle) (Nat.le_trans hle hle2) he2 g2
   exact fun a w s=>wp_loop_rounds N (key N S (Ext.refl _ _) (Nat.le_refl _) he g a w s)
  ·exact CW.exit (here (.x _) g)
  ·rename_i b
   replace g:X.G (scN (cC T C.n n) b cl k 1000000 b e hp):=g
   revert g
   generalize (1000000:Nat) = N
   intro g
   have key:∀ (m:Nat) (d:Code) {θ':Th} {hp':Hp} {h':H} {e':E} {ρ':Env},SR X θ' hp' h'→Ext θ θ' (tor hp.nx)→tor hp.nx≤tor hp'.nx→RE θ' e' ρ'→X.G (scN (cC T C.n n) b cl k m d e' hp') →
     ∀ a w,St C ρ' h' a w→SJ C.P b Q m d a w:=by
    intro m
    induction m with
    | zero=>intro d θ' hp' h' e' ρ' S' hE hle he' g'; exact (hX.gd.er _ g').elim
    | succ m ihm=>
     intro d θ' hp' h' e' ρ' S' hE hle he' g' a w s
     refine ih d S' he' g' ?_ a w s
     intro ex θ2 hp2 h2 e2 ρ2 S2 hE2 hle2 he2 g2
     cases ex with
     | n=>exact hk .n θ2 hp2 h2 e2 ρ2 S2 (hE.trans hE2 hle) (Nat.le_trans hle hle2) he2 g2
     | r=>exact hk .r θ2 hp2 h2 e2 ρ2 S2 (hE.trans hE2 hle) (Nat.le_trans hle hle2) he2 g2
     | x id=>exact hk (.x id) θ2 hp2 h2 e2 ρ2 S2 (hE.trans hE2 hle) (Nat.le_trans hle hle2) he2 g2
     | g l=>
      have g2:X.G (match findLabel b l with | some r=>scN (cC T C.n n) b cl k m r e2 hp2 | none=>.er 52):=g2
      cases hf:findLabel b l with
      | none=>rw [hf] at g2; exact (hX.gd.er _ g2).elim
      | some r=>
       rw [hf] at g2
       exact fun a w s=>⟨r,hf,ihm r S2 (hE.trans hE2 hle) (Nat.le_trans hle hle2) he2 g2 a w s⟩
   exact fun a w s=>wp_scope_n N (key N b S (Ext.refl _ _) (Nat.le_refl _) he g a w s)
  ·exact fun a w s=>wp_label (here .n g a w s)
  ·exact fun a w s=>wp_goto (here (.g _) g a w s)
  ·exact CW.ret (here .r g)
  ·exact (hX.gd.er _ g).elim
end
end Go.Vm
namespace Go.Proofs.YtmpmildpioebhaaGreatDoor
open Go Go.Sh
open Go.Sh.Ty (reg)
theorem u3:Prog.underlying 3 = some (.int .i64):=by kernel_rfl
theorem kt_3:KeyT Prog 3 Int:=KeyT.int u3
theorem u9:Prog.underlying 9 = some .string:=by kernel_rfl
theorem ba_beq (a b:ByteArray):(a == b) = decide (a = b):=by
 rw [Bool.eq_iff_iff]
 simp only [decide_eq_true_eq]
 constructor
 ·intro h
  have h:(a.data == b.data) = true:=h
  cases a; cases b
  congr 1
  exact eq_of_beq h
 ·rintro rfl
  show (a.data == a.data) = true
  simp
theorem kt_9:KeyT Prog 9 ByteArray where
 eq a b w:=by
  have h1:(Op.equal 9 (.string a) (.string b)).run Prog w = .ok (a.toList == b.toList) w:=run_equalIn_string (w:=w) 9999 9 a b u9
  have e:(a.toList == b.toList) = decide (a = b):=by
   rw [Bool.eq_iff_iff]; simp only [beq_iff_eq,decide_eq_true_eq]
   constructor
   ·intro h
    have h:a.data.toList = b.data.toList:=by simpa [ByteArray.toList_eq] using h
    cases a; cases b; congr 1; exact Array.toList_inj.1 h
   ·intro h; rw [h]
  rw [← e]; exact h1
 ok e a w:=by
  show (Instr.checkKey e (9999 + 1) 9 (.string a)).run Prog w = _
  unfold Instr.checkKey
  simp [run_underlying u9]
 same a:=by simp [reg,Instr.sameBits,ba_beq]
 now:=⟨_,u9,.inl fun a b=>by simp [reg,Instr.sameNow,ba_beq]⟩
theorem fo33:Prog.underlying 33 = some (.struct (Prog.fieldsOf 33)):=by kernel_rfl
theorem fields_33:(Prog.fieldsOf 33).toList.map trip = [(true,31,0),(true,3,32)]:=by kernel_rfl
theorem bt_31':BytesT Prog 31 32:=⟨⟨5,by kernel_rfl,by kernel_rfl,SizeOf.of (by kernel_rfl)⟩,by kernel_rfl⟩
theorem enc_arr {n:Nat} {α:Type} [Ty α] (x:Arr n α):enc x = List.ofFn fun i=>reg (x i):=rfl
theorem reg33 (a:qo):reg a = .agg ((enc a.Root).toArray ++ #[.int .i64 a.Height]):=by
 have h1:reg a = .agg (enc a.Root ++ enc a.Height).toArray:=rfl
 have h2:enc a.Height = [.int .i64 a.Height]:=rfl
 rw [h1,h2]
 simp
theorem dig_ext0 {a:Arr 32 UInt8} (x:Value):((enc a).toArray ++ #[x]:Array Value).extract 0 (0 + 32) = (enc a).toArray:=by
 have:=qr a
 apply Array.ext'
 simp only [Array.toList_extract,Array.toList_append,List.extract]
 show List.take (0 + 32 - 0) (List.drop 0 (enc a ++ [x])) = enc a
 rw [List.drop_zero,List.take_append_of_le_length (by omega),List.take_of_length_le (by omega)]
theorem hgt_at {a:Arr 32 UInt8} (x:Value):((enc a).toArray ++ #[x]:Array Value)[32]? = some x:=by
 have h:=qr a
 rw [Array.getElem?_append_right (by simp [h])]
 simp [h]
theorem key_eq (d:Nat) (a b:qo) (w:World):(Op.equalIn (d + 1 + 1 + 1) 33 (reg a) (reg b)).run Prog w = .ok (decide (a = b)) w:=by
 rw [reg33,reg33,run_equalIn_struct w (d + 1 + 1) 33 _ _ fo33 (by kernel_rfl),qd2,fields_33]
 simp only [eqT,if_true,Sem.run_bind]
 rw [qc8 qco,Result.andThen_ok,qc8 qco,Result.andThen_ok,dig_ext0,dig_ext0]
 obtain ⟨a1,a2⟩:=a
 obtain ⟨b1,b2⟩:=b
 simp only [qo.mk.injEq]
 have h2:(Op.equalIn (d + 1 + 1) 31 (.agg (enc a1).toArray) (.agg (enc b1).toArray)).run Prog w = .ok (decide (a1 = b1)) w:=equalIn_arr8 bt_31' d a1 b1 w
 rw [h2,Result.andThen_ok]
 by_cases h1:a1 = b1
 ·simp only [h1,decide_true,Bool.not_true,Bool.false_eq_true,if_false,Sem.run_bind,true_and]
  rw [qcx na_3 (hgt_at _),Result.andThen_ok,qcx na_3 (hgt_at _),Result.andThen_ok,eqIn_int u3,Result.andThen_ok]
  by_cases h3:a2 = b2 <;> simp [h3]
 ·simp [h1]
theorem kt_33:KeyT Prog 33 qo where
 eq a b w:=key_eq 9997 a b w
 ok em a w:=by
  rw [reg33]
  show (Instr.checkKey em (9998 + 1 + 1) 33 _).run Prog w = _
  rw [ck_trip em (9998 + 1) 33 _ fo33,fields_33]
  simp only [ckT,if_true,Sem.run_bind]
  have h2:=ck_bytes bt_31' 9997 em a.Root w
  have e1:reg a.Root = .agg (enc a.Root).toArray:=rfl
  rw [e1] at h2
  rw [qc8 qco,Result.andThen_ok,dig_ext0,show (9998 + 1:Nat) = 9997 + 2 from rfl,h2,Result.andThen_ok,qcx na_3 (hgt_at _),Result.andThen_ok,show (9997 + 2:Nat) = 9998 + 1 from rfl,ck_int u3,Result.andThen_ok]
  rfl
 same a:=by
  have hr:reg a = .agg (enc a.Root ++ enc a.Height).toArray:=rfl
  rw [hr]
  refine sb_agg 9999 _ (by
   intro x hx
   rw [List.mem_append] at hx
   rcases hx with hx | hx
   ·rw [enc_arr,List.mem_ofFn] at hx; obtain ⟨i,hi⟩:=hx; rw [← hi]; exact sb_int _ _ _
   ·have:enc a.Height = [.int .i64 a.Height]:=rfl
    rw [this] at hx; simp only [List.mem_singleton] at hx; subst hx; exact sb_int _ _ _)
 now:=⟨_,fo33,.inr fun a b=>rfl⟩
theorem fo82:Prog.underlying 82 = some (.struct (Prog.fieldsOf 82)):=by kernel_rfl
theorem fields_82:(Prog.fieldsOf 82).toList.map trip = [(true,3,0),(true,33,1)]:=by kernel_rfl
theorem ag33:IsAgg Prog 33 33:=IsAgg.of (by kernel_rfl) (by kernel_rfl)
theorem reg82 (a:qj):reg a = .agg (#[.int .i64 a.Id] ++ (enc a.Key).toArray):=by
 have h1:reg a = .agg (enc a.Id ++ enc a.Key).toArray:=rfl
 have h2:enc a.Id = [.int .i64 a.Id]:=rfl
 rw [h1,h2]
 simp
theorem key_ext {a:qo} (x:Value):(#[x] ++ (enc a).toArray:Array Value).extract 1 (1 + 33) = (enc a).toArray:=by
 have:=yn a
 apply Array.ext'
 simp only [Array.toList_extract,Array.toList_append,List.extract]
 show List.take (1 + 33 - 1) (List.drop 1 (x :: enc a)) = enc a
 rw [List.drop_one,List.tail_cons,List.take_of_length_le (by omega)]
theorem member_eq (a b:qj) (w:World):(Op.equal 82 (reg a) (reg b)).run Prog w = .ok (decide (a = b)) w:=by
 show (Op.equalIn (9998 + 1 + 1) 82 (reg a) (reg b)).run Prog w = _
 rw [reg82,reg82,run_equalIn_struct w (9998 + 1) 82 _ _ fo82 (by kernel_rfl),qd2,fields_82]
 simp only [eqT,if_true,Sem.run_bind]
 rw [qcx na_3 (v:=.int .i64 a.Id) (by simp),Result.andThen_ok,qcx na_3 (v:=.int .i64 b.Id) (by simp),Result.andThen_ok,eqIn_int u3,Result.andThen_ok]
 obtain ⟨a1,a2⟩:=a
 obtain ⟨b1,b2⟩:=b
 simp only [qj.mk.injEq]
 by_cases h1:a1 = b1
 ·simp only [h1,decide_true,Bool.not_true,Bool.false_eq_true,if_false,Sem.run_bind,true_and]
  rw [qc8 ag33,Result.andThen_ok,qc8 ag33,Result.andThen_ok,key_ext,key_ext]
  have h2:(Op.equalIn (9998 + 1) 33 (.agg (enc a2).toArray) (.agg (enc b2).toArray)).run Prog w = .ok (decide (a2 = b2)) w:=key_eq 9996 a2 b2 w
  rw [h2]
  by_cases h3:a2 = b2 <;> simp [h3]
 ·simp [h1]
structure StEq (P:Program) (T:TypeId) (α:Type) [Ty α] [DecidableEq α]:Prop where
 eq:∀ (a b:α) (w:World),(Op.equal T (reg a) (reg b)).run P w = .ok (decide (a = b)) w
 g:P.eqGuardType P.depth T = false
 agg:∀ a:α,∃ cs,reg a = .agg cs
theorem se_82:StEq Prog 82 qj:=⟨member_eq,by kernel_rfl,fun a=>⟨_,rfl⟩⟩
section
variable {C:Ctx} {ρ:Env} {h:H} {ty:TypeId}
theorem v_ne_st {α:Type} [Ty α] [DecidableEq α] {x y:Operand} {a b:α} {T T':TypeId} (hT:StEq C.P T α) (hx:ev ρ x = reg a) (hy:ev ρ y = reg b):OpVal C (.binOp .neq T x y T') ty ρ h (reg (!decide (a = b))):=by
 intro w hw pos after g d
 have h1:=hT.eq a b w
 obtain ⟨ca,ha⟩:=hT.agg a
 obtain ⟨cb,hb⟩:=hT.agg b
 rw [ha] at hx h1
 rw [hb] at hy h1
 have e:binOp .neq T (.agg ca) (.agg cb) = (do pure (.bool (!(← Op.equal T (.agg ca) (.agg cb))))):=rfl
 obtain ⟨msg,e'⟩:∃ msg:String,eqGuard .neq T x y (.agg ca) (.agg cb) = (do
   if !(← program).eqGuardType (← program).depth T then return
   if ← Op.eqGuardIn Op.maxDepth T (.agg ca) (.agg cb) then unsupported (.noEntry msg)):=⟨_,rfl⟩
 simp only [execOp,hx,hy,e,e']
 simp [hT.g,h1]
 rfl
end
theorem qc4.ok (s:Sl) (k:Sl→H→Prop) (h:H) (hh:qc4.b s k h):CallsH Prog 35 [reg s].toArray h fun v h'=>∃ r:Sl,v = reg r∧k r h':=by
 unfold qc4.b at hh
 refine CallsH.of 8 Tryz.func35 rfl Tryz.ntmps35 rfl (fun w0=>?_)
 refine .sr (.A (reg (Sl.nil:Sl)) (.nx (.seq (.sr (.M (reg s) (.V (v_eq_slnil (qde).1 rfl rfl) (.nx ?_)))))))
 refine CW.cond s.a.isNone rfl (fun hb=>?_) (fun hb=>?_)
 ·have hh:=hh.1 hb
  refine .sr (.A (reg (Sl.nil:Sl)) (.nx ?_))
  refine CW.ret ?_
  refine QN.thenRet ?_
  exact ret1 rfl rfl ⟨(Sl.nil:Sl),rfl,hh⟩
 ·have hh:=hh.2 hb
  refine CW.skip ?_
  refine QN.then_ ?_
  refine .sr ?_
  refine qbd hh (fun pt5 t5 hpt5 ht5 hh=>?_)
  refine .e (qc1 ([]:List qj) hpt5 ht5 zo_82 qde rfl rfl rfl rfl rfl ?_)
  refine .M (reg s) ?_
  refine .e (e_app qde zo_82 by_82 rfl rfl rfl hh ?_)
  intro h t7 hh
  refine .A (reg t7) (.nx ?_)
  refine CW.ret ?_
  exact ret1 rfl rfl ⟨(t7:Sl),rfl,hh⟩
theorem qdo.ok (s:Sl) (k:Sl→H→Prop) (h:H) (hh:qdo.b s k h):CallsH Prog 37 [reg s].toArray h fun v h'=>∃ r:Sl,v = reg r∧k r h':=by
 unfold qdo.b at hh
 refine CallsH.of 8 Tryz.func37 rfl Tryz.ntmps37 rfl (fun w0=>?_)
 refine .sr (.A (reg (Sl.nil:Sl)) (.nx (.seq (.sr (.M (reg s) (.V (v_eq_slnil (sl_54).1 rfl rfl) (.nx ?_)))))))
 refine CW.cond s.a.isNone rfl (fun hb=>?_) (fun hb=>?_)
 ·have hh:=hh.1 hb
  refine .sr (.A (reg (Sl.nil:Sl)) (.nx ?_))
  refine CW.ret ?_
  refine QN.thenRet ?_
  exact ret1 rfl rfl ⟨(Sl.nil:Sl),rfl,hh⟩
 ·have hh:=hh.2 hb
  refine CW.skip ?_
  refine QN.then_ ?_
  refine .sr ?_
  refine qbd hh (fun pt5 t5 hpt5 ht5 hh=>?_)
  refine .e (qc1 ([]:List yw) hpt5 ht5 zo_53 sl_54 rfl rfl rfl rfl rfl ?_)
  refine .M (reg s) ?_
  refine .e (e_app sl_54 zo_53 by_53 rfl rfl rfl hh ?_)
  intro h t7 hh
  refine .A (reg t7) (.nx ?_)
  refine CW.ret ?_
  exact ret1 rfl rfl ⟨(t7:Sl),rfl,hh⟩
theorem qat.ok (c:qa) (k:Bool→H→Prop) (h:H) (hh:qat.b c k h):CallsH Prog 36 [reg c].toArray h fun v h'=>∃ r:Bool,v = reg r∧k r h':=by
 unfold qat.b at hh
 refine CallsH.of 53 Tryz.func36 rfl Tryz.ntmps36 rfl (fun w0=>?_)
 refine .sr ?_
 refine qy hh (fun c_1 hc_1 hh=>?_)
 refine .e (qan hc_1 rfl rfl rfl ?_)
 refine .A (reg false) (.nx (.seq (.sr (.V (qd qfd rfl) (.L 0 na_3 qcu hh rfl (fun t6 hh=>.V (qax rfl rfl) (.M (reg ((decide (t6 < (0:Int))):Bool)) (.fv 8 rfl rfl rfl (fun hb=>qd qfd rfl) rfl ?_))))))))
 obtain ⟨t10,⟨xt10,hxt10,hgt10⟩,hh⟩:=hh
 refine .fv 8 rfl rfl rfl (fun hb=>qc2 (p:=c_1) 0 na_3 (gf hb) hxt10 hgt10 qcu) rfl (.fv 8 rfl rfl rfl (fun hb=>qd6 (gf hb) rfl) rfl (.V (qb2 rfl rfl (fun hb=>gf hb)) (.M (reg (((decide (t6 < (0:Int))) || (decide ((1073741824:Int) < t10))):Bool)) (.fv 13 rfl rfl rfl (fun hb=>qd qbw rfl) rfl ?_))))
 obtain ⟨t15,⟨xt15,hxt15,hgt15⟩,hh⟩:=hh
 refine .fv 13 rfl rfl rfl (fun hb=>qc2 (p:=c_1) 1 qdr (gf hb) hxt15 hgt15 qao) rfl (.fv 13 rfl rfl rfl (fun hb=>qag (qde).1 (gf hb)) rfl (.fv 13 rfl rfl rfl (fun hb=>qeh (gf hb) rfl) rfl (.V (qb2 rfl rfl (fun hb=>gf hb)) (.M (reg ((((decide (t6 < (0:Int))) || (decide ((1073741824:Int) < t10))) || ((t15.len:Int) == (0:Int))):Bool)) (.fv 19 rfl rfl rfl (fun hb=>qd qbw rfl) rfl ?_)))))
 obtain ⟨t21,⟨xt21,hxt21,hgt21⟩,hh⟩:=hh
 refine .fv 19 rfl rfl rfl (fun hb=>qc2 (p:=c_1) 1 qdr (gf hb) hxt21 hgt21 qao) rfl (.fv 19 rfl rfl rfl (fun hb=>qag (qde).1 (gf hb)) rfl (.fv 19 rfl rfl rfl (fun hb=>qd6 (gf hb) rfl) rfl (.V (qb2 rfl rfl (fun hb=>gf hb)) (.nx ?_))))
 refine CW.cond ((((decide (t6 < (0:Int))) || (decide ((1073741824:Int) < t10))) || ((t15.len:Int) == (0:Int))) || (decide ((10:Int) < (t21.len:Int)))) rfl (fun hb=>?_) (fun hb=>?_)
 ·have hh:=hh.1 hb
  refine .sr (.A (reg false) (.nx ?_))
  refine CW.ret ?_
  refine QN.thenRet ?_
  exact ret1 rfl rfl ⟨(false:Bool),rfl,hh⟩
 ·have hh:=hh.2 hb
  refine CW.skip ?_
  refine QN.then_ ?_
  refine CW.join (fun ρ h=>∃ (ρ':Env),ρ = setl ρ' []∧(qat.j1 k)  h) ?_ ?_
  ·refine .sr (.V (qd qbw rfl) (.L 1 qdr qao hh rfl (fun t26 hh=>.V (qag (qde).1 rfl) (.M (reg ((0:Int):Int)) (.nx ?_)))))
   refine CW.block ?_
   unfold qat.l1 at hh
   refine CW.loop (fun (σ0:Int) ρ=>match σ0 with | t28=>∃ ρ':Env,ρ = setl ρ' [(1,.pointer (some c_1)),(26,reg t26),(27,reg ((t26.len:Int):Int)),(28,reg t28)]) hh ⟨_,qn ⟨rfl,⟨rfl,⟨rfl,⟨rfl,trivial⟩⟩⟩⟩⟩ ?_
   clear hh
   rintro s1 t28 ρ h ⟨ρ',rfl⟩ hh
   refine .sr (.V (qax rfl rfl) (.nx (.seq ?_)))
   refine CW.cond (decide (t28 < (t26.len:Int))) rfl (fun hb_1=>?_) (fun hb_1=>?_)
   ·have hh:=hh.1 hb_1
    refine CW.skip ?_
    refine QN.then_ ?_
    refine CW.seq ?_
    refine CW.block ?_
    refine .sr (.M (reg t28) ?_)
    obtain ⟨t31,ht31,hh⟩:=hh
    refine .V (qaz qde rfl rfl ht31.1 ht31.2.1 ht31.2.2) (.LA 0 ag_82 qeo (fun _=>(yk _)) hh rfl (fun t32 hh=>?_))
    refine qy hh (fun m hm hh=>?_)
    refine .e (qaq hm zo_82 rfl ?_)
    refine .A (reg t28) (.S (t32:qj) 0 sz_82 (qfb _) yk (yk _) (fun x=>set_82_all x (t32:qj)) hh rfl rfl (fun _ hh=>.nx ?_))
    refine CW.join (fun ρ h=>∃ (ρ':Env) (t51:Bool),ρ = setl ρ' [(1,.pointer (some c_1)),(26,reg t26),(27,reg ((t26.len:Int):Int)),(28,reg t28),(51,reg t51)]∧(qat.j2 k s1) c_1 t26 (t26.len:Int) t28 t51 h) ?_ ?_
    ·refine CW.drawN 19 rfl ym [0,2,3,4,5,6,7,8,9,10,11,12,13,14,15,16,17,18] ?_
     refine .KA 0 0 ag_82 qeo (fun _=>(yk _)) rfl hh rfl (fun t33 hh=>?_)
     refine .w 1 (by kernel_rfl) rfl (by kernel_rfl) (.e (qw fn_61 rfl rfl hh ?_))
     intro h t34 hh
     refine ⟨⟨trivial,.inl (by kernel_rfl)⟩,?_⟩
     refine .P 2 rfl (v_not rfl) (.P 3 rfl (qu (v:=reg ((!t34):Bool)) rfl) ?_)
     refine qbl hh (fun hb_2 hh=>?_) (fun hb_2 hh=>?_)
     ·refine .N 4 36 rfl (cb hb_2) (.N 5 36 rfl (cb hb_2) (.N 6 36 rfl (cb hb_2) (.nu 7 39 rfl rfl rfl rfl (by kernel_rfl) (NoPanic.then_ (NoPanic.block (NoPanic.then_ (NoPanic.then_ (NoPanic.block (NoPanic.then_ (NoPanic.body))))))) (.nu 8 39 rfl rfl rfl rfl (by kernel_rfl) (NoPanic.then_ (NoPanic.block (NoPanic.then_ (NoPanic.then_ (NoPanic.block (NoPanic.then_ (NoPanic.body))))))) (.nu 9 39 rfl rfl rfl rfl (by kernel_rfl) (NoPanic.then_ (NoPanic.block (NoPanic.then_ (NoPanic.then_ (NoPanic.block (NoPanic.then_ (NoPanic.body))))))) (.nu 10 39 rfl rfl rfl rfl (by kernel_rfl) (NoPanic.then_ (NoPanic.block (NoPanic.then_ (NoPanic.then_ (NoPanic.block (NoPanic.then_ (NoPanic.body))))))) (.nu 11 39 rfl rfl rfl rfl (by kernel_rfl) (NoPanic.then_ (NoPanic.block (NoPanic.then_ (NoPanic.then_ (NoPanic.block (NoPanic.then_ (NoPanic.body))))))) (.nu 12 39 rfl rfl rfl rfl (by kernel_rfl) (NoPanic.then_ (NoPanic.block (NoPanic.then_ (NoPanic.then_ (NoPanic.block (NoPanic.then_ (NoPanic.body))))))) (.nu 13 39 rfl rfl rfl rfl (by kernel_rfl) (NoPanic.then_ (NoPanic.block (NoPanic.then_ (NoPanic.then_ (NoPanic.block (NoPanic.then_ (NoPanic.body))))))) ?_)))))))))
      refine .nu 14 39 rfl rfl rfl rfl (by kernel_rfl) (NoPanic.then_ (NoPanic.block (NoPanic.then_ (NoPanic.then_ (NoPanic.block (NoPanic.then_ (NoPanic.body))))))) (.nu 15 39 rfl rfl rfl rfl (by kernel_rfl) (NoPanic.then_ (NoPanic.block (NoPanic.then_ (NoPanic.then_ (NoPanic.block (NoPanic.then_ (NoPanic.body))))))) (.nu 16 39 rfl rfl rfl rfl (by kernel_rfl) (NoPanic.then_ (NoPanic.block (NoPanic.then_ (NoPanic.then_ (NoPanic.block (NoPanic.then_ (NoPanic.body))))))) (.N 17 36 rfl (cb hb_2) (.P 18 rfl (qbx (v:=reg true) rfl hb_2 rfl) ?_))))
      refine .done (by kernel_rfl) ?_
      exact QN.thenJ ⟨_,true,qn ⟨rfl,⟨rfl,⟨rfl,⟨rfl,⟨rfl,trivial⟩⟩⟩⟩⟩,hh⟩
     ·refine .Y 4 36 rfl (cb hb_2) (qu (v:=reg t28) rfl) (.Y 5 36 rfl (cb hb_2) (qd6 rfl rfl) (.Y 6 36 rfl (cb hb_2) (qu (v:=reg ((decide ((0:Int) < t28)):Bool)) rfl) ?_))
      refine qbl hh (fun hb_3 hh=>?_) (fun hb_3 hh=>?_)
      ·refine .Y 7 39 rfl (cb hb_3) (qd qbw rfl) (.YL 8 39 1 qdr qao rfl (cb hb_3) hh rfl (fun t41 hh=>.Y 9 39 rfl (cb hb_3) (qu (v:=reg t28) rfl) (.Y 10 39 rfl (cb hb_3) (v_isub rfl rfl) ?_)))
       obtain ⟨t44,ht44,hh⟩:=hh
       refine .Y 11 39 rfl (cb hb_3) (qaz qde rfl rfl ht44.1 ht44.2.1 ht44.2.2) (.Y 12 39 rfl (cb hb_3) (qd qe6 rfl) (.YL 13 39 0 na_3 qd8 rfl (cb hb_3) hh rfl (fun t46 hh=>.Y 14 39 rfl (cb hb_3) (qd qe6 rfl) (.YL 15 39 0 na_3 qd8 rfl (cb hb_3) hh rfl (fun t48 hh=>.Y 16 39 rfl (cb hb_3) (v_igeq rfl rfl) (.Y 17 36 rfl (cb hb_2) (qbx (v:=reg ((decide (t48≤t46)):Bool)) rfl hb_3 rfl) (.P 18 rfl (qb0 (v:=reg ((decide (t48≤t46)):Bool)) rfl hb_2 rfl) ?_)))))))
       refine .done (by kernel_rfl) ?_
       exact QN.thenJ ⟨_,(decide (t48≤t46)),qn ⟨rfl,⟨rfl,⟨rfl,⟨rfl,⟨rfl,trivial⟩⟩⟩⟩⟩,hh⟩
      ·refine .N 7 39 rfl (cb hb_3) (.N 8 39 rfl (cb hb_3) (.N 9 39 rfl (cb hb_3) (.N 10 39 rfl (cb hb_3) (.N 11 39 rfl (cb hb_3) (.N 12 39 rfl (cb hb_3) (.N 13 39 rfl (cb hb_3) (.N 14 39 rfl (cb hb_3) (.N 15 39 rfl (cb hb_3) (.N 16 39 rfl (cb hb_3) ?_)))))))))
       refine .Y 17 36 rfl (cb hb_2) (qb0 (v:=reg false) rfl hb_3 rfl) (.P 18 rfl (qb0 (v:=reg false) rfl hb_2 rfl) ?_)
       refine .done (by kernel_rfl) ?_
       exact QN.thenJ ⟨_,false,qn ⟨rfl,⟨rfl,⟨rfl,⟨rfl,⟨rfl,trivial⟩⟩⟩⟩⟩,hh⟩
    ·rintro ρ h ⟨ρ',t51,rfl,hh⟩
     unfold qat.j2 at hh
     refine CW.cond t51 rfl (fun hb_4=>?_) (fun hb_4=>?_)
     ·have hh:=hh.1 hb_4
      refine .sr (.A (reg false) (.nx ?_))
      refine CW.ret ?_
      refine QN.blockRet ?_
      refine QN.thenRet ?_
      refine QN.thenRet ?_
      refine QN.blockRet ?_
      refine QN.thenRet ?_
      exact ret1 rfl rfl ⟨(false:Bool),rfl,hh⟩
     ·have hh:=hh.2 hb_4
      refine CW.skip ?_
      refine QN.blockN ?_
      refine QN.then_ ?_
      refine CW.region ?_
      refine .V (qbp rfl rfl) (.M (reg ((iadd t28 (1:Int)):Int)) ?_)
      refine .nil ?_
      exact QN.thenJ ⟨(iadd t28 (1:Int)),⟨_,qn ⟨rfl,⟨rfl,⟨rfl,⟨rfl,trivial⟩⟩⟩⟩⟩,hh⟩
   ·have hh:=hh.2 hb_1
    refine CW.exit ?_
    refine QN.thenExit ?_
    refine QN.thenExit ?_
    refine QN.blockExit ?_
    exact QN.thenJ ⟨_,qn trivial,hh⟩
  ·rintro ρ h ⟨ρ',rfl,hh⟩
   unfold qat.j1 at hh
   refine .sr (.A (reg true) (.nx ?_))
   refine CW.ret ?_
   exact ret1 rfl rfl ⟨(true:Bool),rfl,hh⟩
theorem qe1.ok (m:qj) (k:Bool→H→Prop) (h:H) (hh:qe1.b m k h):CallsH Prog 61 [reg m].toArray h fun v h'=>∃ r:Bool,v = reg r∧k r h':=by
 unfold qe1.b at hh
 refine CallsH.of 23 Tryz.func61 rfl Tryz.ntmps61 rfl (fun w0=>?_)
 refine .sr ?_
 refine qy hh (fun m_1 hm_1 hh=>?_)
 refine .e (qan hm_1 rfl rfl rfl ?_)
 refine .A (reg false) (.nx (.sr (.V (qd qe6 rfl) (.L 0 na_3 qd8 hh rfl (fun t4 hh=>.V (v_igeq rfl rfl) (.M (reg ((decide ((1:Int)≤t4)):Bool)) (.tv 6 rfl rfl rfl (fun hb=>qd qe6 rfl) rfl ?_)))))))
 obtain ⟨t8,⟨xt8,hxt8,hgt8⟩,hh⟩:=hh
 refine .tv 6 rfl rfl rfl (fun hb=>qc2 (p:=m_1) 0 na_3 (gt hb) hxt8 hgt8 qd8) rfl (.tv 6 rfl rfl rfl (fun hb=>v_ileq (gt hb) rfl) rfl (.V (qd4 rfl (fun hb=>gt hb) rfl) (.M (reg (((decide ((1:Int)≤t4)) && (decide (t8≤(63:Int)))):Bool)) (.tv 11 rfl rfl rfl (fun hb=>qd fl_82_1 rfl) rfl (.tv 11 rfl rfl rfl (fun hb=>qd fl_33_1 (gt hb)) rfl ?_)))))
 obtain ⟨t14,⟨xt14,hxt14,hgt14⟩,hh⟩:=hh
 refine .tv 11 rfl rfl rfl (fun hb=>qc2 (p:=m_1) 33 na_3 (gt hb) hxt14 hgt14 qdq) rfl (.tv 11 rfl rfl rfl (fun hb=>v_igeq (gt hb) rfl) rfl (.V (qd4 rfl (fun hb=>gt hb) rfl) (.M (reg ((((decide ((1:Int)≤t4)) && (decide (t8≤(63:Int)))) && (decide ((0:Int)≤t14))):Bool)) (.tv 17 rfl rfl rfl (fun hb=>qd fl_82_1 rfl) rfl (.tv 17 rfl rfl rfl (fun hb=>qd fl_33_1 (gt hb)) rfl ?_)))))
 obtain ⟨t20,⟨xt20,hxt20,hgt20⟩,hh⟩:=hh
 refine .tv 17 rfl rfl rfl (fun hb=>qc2 (p:=m_1) 33 na_3 (gt hb) hxt20 hgt20 qdq) rfl (.tv 17 rfl rfl rfl (fun hb=>v_ileq (gt hb) rfl) rfl (.V (qd4 rfl (fun hb=>gt hb) rfl) (.A (reg (((((decide ((1:Int)≤t4)) && (decide (t8≤(63:Int)))) && (decide ((0:Int)≤t14))) && (decide (t20≤(6:Int)))):Bool)) (.nx ?_))))
 refine CW.ret ?_
 exact ret1 rfl rfl ⟨(((((decide ((1:Int)≤t4)) && (decide (t8≤(63:Int)))) && (decide ((0:Int)≤t14))) && (decide (t20≤(6:Int)))):Bool),rfl,hh⟩
def mpK {κ ν:Type} [Ty κ] [Ty ν] (r:Nat) (l:List (κ×ν)):En:=⟨[r],fun h=>∃ es clk,h[r]? = some (.map es clk)∧MapO es clk l⟩
theorem mpK_loc {κ ν:Type} [Ty κ] [Ty ν] (r:Nat) (l:List (κ×ν)):Go.Sh.Loc (mpK r l):=fun h h' hb ⟨es,clk,h1,h2⟩=>⟨es,clk,by rw [hb r (by simp [mpK])]; exact h1,h2⟩
theorem _root_.Go.Sh.MapO.nil0 {κ ν:Type} [Ty κ] [Ty ν]:MapO (κ:=κ) (ν:=ν) #[] 0 []:=⟨rfl,by simp,by simp⟩
section
variable {h0 h:H} {S:List Nat} {L:List En} {κ ν:Type} [Ty κ] [Ty ν]
theorem _root_.Go.Sh.Sat.mkmap_ (κ ν:Type) [Ty κ] [Ty ν] {k:Mp→H→Prop} (hs:Sat h0 S h L) (hk:∀ r h',Sat h0 S h' (mpK r ([]:List (κ×ν)) :: L)→r = h.size→Ext h h'→k ⟨some r⟩ h'):mkmap k h:=by
 intro m hm
 subst hm
 exact hk _ _ (hs.add (Fr.push _ _) ⟨#[],0,by simp,MapO.nil0⟩ (mpK_loc _ _) (by intro b hb; simp only [mpK,List.mem_singleton] at hb; subst hb; simp)) rfl (Fr.push _ _)
theorem _root_.Go.Sh.Sat.mget_ [DecidableEq κ] {α:Type} {r:Nat} {l:List (κ×ν)} {g:List (κ×ν)→α} {k:α→H→Prop} (i:Nat) (hs:Sat h0 S h L) (hi:L[i]? = some (mpK r l)) (hk:k (g l) h):mget ⟨some r⟩ g k h:=by
 obtain ⟨es,clk,h1,h2⟩:=hs.at_ hi
 exact ⟨_,⟨l,.inr ⟨r,es,clk,rfl,h1,h2⟩,rfl⟩,hk⟩
theorem _root_.Go.Sh.Sat.mput_ [DecidableEq κ] {r:Nat} {l:List (κ×ν)} {key:κ} {v:ν} {k:H→Prop} (i:Nat) (hs:Sat h0 S h L) (hi:L[i]? = some (mpK r l)) (hk:∀ h',Sat h0 S h' (L.set i (mpK r (mins l key v)))→k h'):mput ⟨some r⟩ key v k h:=by
 obtain ⟨es,clk,h1,h2⟩:=hs.at_ hi
 have hlt:r < h.size:=by rw [Array.getElem?_eq_some_iff] at h1; exact h1.1
 refine ⟨r,es,clk,l,rfl,h1,h2,fun es' clk' hm=>hk _ (hs.upd hi (Fr.set _ _ _) ⟨es',clk',by simp [hlt],hm⟩ (mpK_loc _ _) (by intro b hb; simp only [mpK,List.mem_singleton] at hb; subst hb; exact ⟨by simpa using hlt,.inl (by simp [mpK])⟩))⟩
end
def SVz {α:Type} [Ty α] (n:Nat) (h:H) (s:Sl) (l:List α):Prop:=s.len = l.length∧(l ≠ []→SV n h s l)
theorem SVz.ext {α:Type} [Ty α] {n:Nat} {h h':H} {s:Sl} {l:List α} (H:SVz n h s l) (f:Ext h h'):SVz n h' s l:=⟨H.1,fun hn=>(H.2 hn).ext f⟩
theorem SVz.r {α:Type} [Ty α] {n:Nat} {h:H} {s:Sl} {l:List α} (hv:SVz n h s l):SlR h s n (l.map enc).flatten:=by
 by_cases hl:l = []
 ·subst hl; exact .inr ⟨hv.1,rfl⟩
 ·exact .inl (hv.2 hl).1
theorem SVz.at_ {α:Type} [Ty α] {n:Nat} {h:H} {s:Sl} {l:List α} (hv:SVz n h s l) {j:Nat} (hj:j < l.length):SV n h s l:=hv.2 fun e=>by rw [e] at hj; simp at hj
theorem SV.z {α:Type} [Ty α] {n:Nat} {h:H} {s:Sl} {l:List α} (hv:SV n h s l):SVz n h s l:=⟨hv.2.1,fun _=>hv⟩
theorem qfu (s:Sl) (ms:List qj) {k:Sl→H→Prop} {h:H} (hv:SVz 34 h s ms) (hb:ms.length < 2 ^ 30)
  (hk:∀ r h',Ext h h'→OwnA 82 34 r ms h'→(∀ b ∈ blk r,h.size≤b∧b < h'.size)→k r h'):call (β:=Sl) Prog 35 [reg (s:Sl)] k h:=by
 refine qc4.ok _ _ _ ?_
 unfold qc4.b
 refine qz (fun hc=>?_) (fun hc=>?_)
 ·have hl:ms = []:=by
   by_cases hl:ms = []
   ·exact hl
   ·rcases (hv.2 hl).1 with ⟨_,h0,_⟩ | ⟨a,ha,_⟩
    ·exact List.eq_nil_of_length_eq_zero (by rw [← hv.1]; exact h0)
    ·rw [ha] at hc; cases hc
  subst hl
  exact hk _ _ (Fr.refl _ _) (.inl ⟨rfl,rfl,rfl,rfl⟩) (by simp [blk,Sl.nil])
 ·refine (Sat.init h).mks_ (n:=34) (fun t h1 hs1 _ hx1=>?_)
  refine hs1.appR_ 0 rfl (hv.ext hx1).r hv.1 yk qfb (yk _) ?_ ?_ (fun r h2 hs2 _=>?_)
  ·simp only [List.length_nil,maxBytes]; omega
  ·simp only [List.length_nil]; omega
  refine hk r h2 hs2.fr (hs2.at_ (i:=0) rfl) (fun b hb'=>?_)
  have:=(hs2.ok _ (List.mem_of_getElem? (i:=0) rfl)).2.2 b hb'
  simpa using And.intro this.2 this.1
theorem CloneS_spec (s:Sl) (ms:List yw) {k:Sl→H→Prop} {h:H} (hv:SVz 33 h s ms) (hb:ms.length < 2 ^ 30)
  (hk:∀ r h',Ext h h'→OwnA 53 33 r ms h'→(∀ b ∈ blk r,h.size≤b∧b < h'.size)→k r h'):call (β:=Sl) Prog 37 [reg (s:Sl)] k h:=by
 refine qdo.ok _ _ _ ?_
 unfold qdo.b
 refine qz (fun hc=>?_) (fun hc=>?_)
 ·have hl:ms = []:=by
   by_cases hl:ms = []
   ·exact hl
   ·rcases (hv.2 hl).1 with ⟨_,h0,_⟩ | ⟨a,ha,_⟩
    ·exact List.eq_nil_of_length_eq_zero (by rw [← hv.1]; exact h0)
    ·rw [ha] at hc; cases hc
  subst hl
  exact hk _ _ (Fr.refl _ _) (.inl ⟨rfl,rfl,rfl,rfl⟩) (by simp [blk,Sl.nil])
 ·refine (Sat.init h).mks_ (n:=33) (fun t h1 hs1 _ hx1=>?_)
  refine hs1.appR_ 0 rfl (hv.ext hx1).r hv.1 qbk one_api_Seed (qbk _) ?_ ?_ (fun r h2 hs2 _=>?_)
  ·simp only [List.length_nil,maxBytes]; omega
  ·simp only [List.length_nil]; omega
  refine hk r h2 hs2.fr (hs2.at_ (i:=0) rfl) (fun b hb'=>?_)
  have:=(hs2.ok _ (List.mem_of_getElem? (i:=0) rfl)).2.2 b hb'
  simpa using And.intro this.2 this.1
def RightM (m:qj):Prop:=(1≤m.Id∧m.Id≤63)∧0≤m.Key.Height∧m.Key.Height≤6
def GoodN (ms:List qj) (j:Nat):Prop:=∀ i,i < j→∀ m,ms[i]? = some m→RightM m∧∀ p,0 < i→ms[i - 1]? = some p→p.Id < m.Id
def GoodC (e:Int) (ms:List qj):Prop:=(0≤e∧e≤1073741824)∧(1≤ms.length∧ms.length≤10)∧GoodN ms ms.length
theorem GoodN.zero (ms:List qj):GoodN ms 0:=fun i hi=>by omega
theorem GoodN.step {ms:List qj} {j:Nat} {m:qj} (hg:GoodN ms j) (hm:ms[j]? = some m) (hr:RightM m) (hp:∀ p,0 < j→ms[j - 1]? = some p→p.Id < m.Id):GoodN ms (j + 1):=by
 intro i hi m' hm'
 by_cases e:i = j
 ·subst e; rw [hm] at hm'; cases hm'; exact ⟨hr,hp⟩
 ·exact hg i (by omega) m' hm'
theorem Right_spec (m:qj) {k:Bool→H→Prop} {h:H} (hk:∀ b h',Ext h h'→(b = true ↔ RightM m)→k b h'):call (β:=Bool) Prog 61 [reg (m:qj)] k h:=by
 refine qe1.ok _ _ _ ?_
 unfold qe1.b
 refine (Sat.init h).box_ (fun p h1 hs1 _ hx1=>?_)
 refine hs1.ld_ 0 rfl (hs1.ld_ 0 rfl (hs1.ld_ 0 rfl (hs1.ld_ 0 rfl ?_)))
 refine hk _ _ hs1.fr ?_
 simp only [Bool.and_eq_true,decide_eq_true_eq,RightM]
 constructor
 ·rintro ⟨⟨⟨a,b⟩,c⟩,d⟩; exact ⟨⟨a,b⟩,c,d⟩
 ·rintro ⟨⟨a,b⟩,c,d⟩; exact ⟨⟨⟨a,b⟩,c⟩,d⟩
theorem CGood_spec (c : qa        ) (ms : List qj        ) {k : Bool → H → Prop} {h : H} (hv : SVz 34 h c.Members ms) (hk : ∀ b h', Ext h h' → (b = true ↔ GoodC c.Epoch ms) → k b h') : call (β := Bool) Prog 36 [reg (c : qa        )] k h := by
  refine qat.ok         _ _ _ ?_
  unfold qat.b        
  refine (Sat.init h).box_ (fun p h1 hs1 _ hx1 => ?_)
  refine hs1.ld_ 0 rfl (hs1.ld_ 0 rfl (hs1.ld_ 0 rfl (hs1.ld_ 0 rfl ?_)))
  have hlen : c.Members.len = ms.length := hv.1
  refine qz    (fun hc => hk _ _ hs1.fr ⟨fun h => (by cases h), fun hg => ?_⟩) (fun hc => ?_)
  · exfalso
    obtain ⟨⟨g1, g2⟩, ⟨g3, g4⟩, _⟩ := hg
    simp only [Bool.or_eq_true, decide_eq_true_eq, beq_iff_eq, hlen] at hc
    omega
  · simp only [Bool.or_eq_false_iff, decide_eq_false_iff_not, beq_eq_false_iff_ne, hlen] at hc
    refine hs1.ld_ 0 rfl ?_
    unfold qat.l1        
    refine ⟨fun (t : Int) h' => ∃ j : Nat, t = j ∧ j ≤ ms.length ∧ GoodN ms j ∧ Sat h [] h' [cel 27 p (enc c)], fun t _ => (ms.length - t).toNat, ⟨0, rfl, Nat.zero_le _, GoodN.zero _, hs1⟩, ?_⟩
    rintro t h2 ⟨j, rfl, hj, hg, hs2⟩
    refine qz    (fun hc2 => ?_) (fun hc2 => ?_)
    · have hj' : j < ms.length := by have : (j : Int) < c.Members.len := by simpa using hc2
                                     omega
      have hsv := (hv.at_ hj').ext hs2.fr
      have hgi : ms[j]? = some ms[j] := List.getElem?_eq_getElem hj'
      generalize ms[j] = m at hgi
      refine qbs     (n := 34) yk             hsv (Int.natCast_nonneg _) (by rw [Int.toNat_natCast]; exact hgi) ?_
      refine hs2.box_ (fun q h3 hs3 _ hx3 => ?_)
      refine hs3.st_ 0 rfl yk             (fun h4 hs4 _ => ?_)
      refine hs4.ld_ 0 rfl ?_
      refine Right_spec m (fun b h5 hx5 hb => ?_)
      have hs5 := hs4.ext hx5
      have e1 : iadd (j : Int) 1 = ((j + 1 : Nat) : Int) := by rw [qby     (by omega) (by omega)]; omega
      have bad : ¬ (RightM m ∧ ∀ p, 0 < j → ms[j - 1]? = some p → p.Id < m.Id) → ∀ h', Ext h h' → k false h' := fun hn h' hx => hk _ _ hx ⟨fun h => (by cases h), fun hgc => (hn (hgc.2.2 j hj' m hgi)).elim⟩
      have fine : GoodN ms (j + 1) → ∀ h', Sat h [] h' [cel 82 q (enc m), cel 27 p (enc c)] → (∃ j' : Nat, iadd (j : Int) 1 = j' ∧ j' ≤ ms.length ∧ GoodN ms j' ∧ Sat h [] h' [cel 27 p (enc c)]) ∧ ((ms.length : Int) - iadd (j : Int) 1).toNat < ((ms.length : Int) - (j : Int)).toNat := fun hg' h' hs' => by
        rw [e1]
        exact ⟨⟨j + 1, rfl, hj', hg', hs'.drop (by simp)⟩, by omega⟩
      unfold qat.j2        
      refine qz    (fun hcb => ?_) (fun hcb => ?_)
      · have hb' : b = false := by simpa using hcb
        refine qz    (fun _ => bad (fun hr => ?_) _ hs5.fr) (fun hx => by cases hx)
        have := hb.2 hr.1; rw [hb'] at this; cases this
      · have hb' : b = true := by simpa using hcb
        have hr := hb.1 hb'
        refine qz    (fun hc3 => ?_) (fun hc3 => ?_)
        · have hj0 : 0 < j := by have : (0 : Int) < (j : Int) := by simpa using hc3
                                 omega
          refine hs5.ld_ 1 rfl ?_
          have hgp : ms[j - 1]? = some ms[j - 1] := List.getElem?_eq_getElem (by omega)
          generalize ms[j - 1] = m0 at hgp
          have e2 : isub (j : Int) 1 = ((j - 1 : Nat) : Int) := by rw [qfa     (by omega) (by omega)]; omega
          rw [e2]
          refine qbs     (n := 34) yk             ((hv.at_ hj').ext hs5.fr) (Int.natCast_nonneg _) (by rw [Int.toNat_natCast]; exact hgp) ?_
          refine hs5.ld_ 0 rfl ?_
          refine qz    (fun hc4 => bad (fun hr => ?_) _ hs5.fr) (fun hc4 => fine (hg.step hgi hr fun p' _ hp' => ?_) _ hs5)
          · have := hr.2 m0 hj0 hgp
            have hc4 : m.Id ≤ m0.Id := by simpa using hc4
            omega
          · rw [hgp] at hp'; cases hp'
            have hc4 : ¬ m.Id ≤ m0.Id := by simpa using hc4
            omega
        · have hj0 : ¬ 0 < j := fun hj0 => by have : ¬ (0 : Int) < (j : Int) := by simpa using hc3
                                              omega
          refine qz    (fun hx => by cases hx) (fun _ => fine (hg.step hgi hr fun p' h0 _ => (hj0 h0).elim) _ hs5)
    · have hj' : j = ms.length := by have : ¬ (j : Int) < c.Members.len := by simpa using hc2
                                     omega
      unfold qat.j1        
      refine hk _ _ hs2.fr ⟨fun _ => ⟨⟨by omega, by omega⟩, ⟨by omega, by omega⟩, by rw [← hj']; exact hg⟩, fun _ => rfl⟩
theorem sha_word.ok (b:Sl) (k:UInt32→H→Prop) (h:H) (hh:sha_word.b b k h):CallsH Prog 198 [reg b].toArray h fun v h'=>∃ r:UInt32,v = reg r∧k r h':=by
 unfold sha_word.b at hh
 refine CallsH.of 25 Tryz.func198 rfl Tryz.ntmps198 rfl (fun w0=>?_)
 refine .sr (.A (reg ((0:UInt32):UInt32)) (.nx (.seq ?_)))
 refine CW.drawN 23 rfl ym [0,1,2,3,4,5,6,7,8,9,10,11,12,13,14,15,16,17,18,19,20,21,22] ?_
 refine .P 0 rfl (qu (v:=reg b) rfl) ?_
 obtain ⟨t4,ht4,hh⟩:=hh
 refine .P 1 rfl (qaz qbc rfl rfl ht4.1 ht4.2.1 ht4.2.2) (.KL 2 0 na_5 get_5_all rfl hh rfl (fun t5 hh=>.P 3 rfl (v_conv_u32 un_5 un_249 rfl) (.P 4 rfl (v_shl32 (a:=(toU32 (t5.toNat:Int))) (b:=24) rfl rfl (by decide)) (.P 5 rfl (qu (v:=reg b) rfl) ?_))))
 obtain ⟨t9,ht9,hh⟩:=hh
 refine .P 6 rfl (qaz qbc rfl rfl ht9.1 ht9.2.1 ht9.2.2) (.KL 7 0 na_5 get_5_all rfl hh rfl (fun t10 hh=>.P 8 rfl (v_conv_u32 un_5 un_249 rfl) (.P 9 rfl (v_shl32 (a:=(toU32 (t10.toNat:Int))) (b:=16) rfl rfl (by decide)) (.P 10 rfl (v_or32 (a:=(shl32 (toU32 (t5.toNat:Int)) 24)) (b:=(shl32 (toU32 (t10.toNat:Int)) 16)) rfl rfl) (.P 11 rfl (qu (v:=reg b) rfl) ?_)))))
 obtain ⟨t15,ht15,hh⟩:=hh
 refine .P 12 rfl (qaz qbc rfl rfl ht15.1 ht15.2.1 ht15.2.2) (.KL 13 0 na_5 get_5_all rfl hh rfl (fun t16 hh=>.P 14 rfl (v_conv_u32 un_5 un_249 rfl) (.P 15 rfl (v_shl32 (a:=(toU32 (t16.toNat:Int))) (b:=8) rfl rfl (by decide)) (.P 16 rfl (v_or32 (a:=((shl32 (toU32 (t5.toNat:Int)) 24) ||| (shl32 (toU32 (t10.toNat:Int)) 16))) (b:=(shl32 (toU32 (t16.toNat:Int)) 8)) rfl rfl) (.P 17 rfl (qu (v:=reg b) rfl) ?_)))))
 obtain ⟨t21,ht21,hh⟩:=hh
 refine .P 18 rfl (qaz qbc rfl rfl ht21.1 ht21.2.1 ht21.2.2) (.KL 19 0 na_5 get_5_all rfl hh rfl (fun t22 hh=>.P 20 rfl (v_conv_u32 un_5 un_249 rfl) (.P 21 rfl (v_or32 (a:=(((shl32 (toU32 (t5.toNat:Int)) 24) ||| (shl32 (toU32 (t10.toNat:Int)) 16)) ||| (shl32 (toU32 (t16.toNat:Int)) 8))) (b:=(toU32 (t22.toNat:Int))) rfl rfl) (.P 22 rfl (qad (v:=reg (((((shl32 (toU32 (t5.toNat:Int)) 24) ||| (shl32 (toU32 (t10.toNat:Int)) 16)) ||| (shl32 (toU32 (t16.toNat:Int)) 8)) ||| (toU32 (t22.toNat:Int))):UInt32)) rfl) ?_))))
 refine .done (by kernel_rfl) ?_
 refine QN.then_ ?_
 refine CW.ret ?_
 exact ret1 rfl rfl ⟨(((((shl32 (toU32 (t5.toNat:Int)) 24) ||| (shl32 (toU32 (t10.toNat:Int)) 16)) ||| (shl32 (toU32 (t16.toNat:Int)) 8)) ||| (toU32 (t22.toNat:Int))):UInt32),rfl,hh⟩
theorem qab.ok (x:UInt32) (kv:Int) (k:UInt32→H→Prop) (h:H) (hh:qab.b x kv k h):CallsH Prog 199 [reg x,reg kv].toArray h fun v h'=>∃ r:UInt32,v = reg r∧k r h':=by
 unfold qab.b at hh
 refine CallsH.of 17 Tryz.func199 rfl Tryz.ntmps199 rfl (fun w0=>?_)
 refine .sr (.A (reg ((0:UInt32):UInt32)) (.nx (.sr (.M (reg kv) (.V (v_conv_u64 un_3 un_241 rfl) (.V (v_and64 (a:=(toU64 kv)) (b:=(31:UInt64)) rfl rfl) (.A (reg (((toU64 kv) &&& (31:UInt64)):UInt64)) (.nx (.sr (.M (reg x) (.M (reg (((toU64 kv) &&& (31:UInt64)):UInt64)) ?_)))))))))))
 refine .V (v_shl32 (a:=x) (b:=(((toU64 kv) &&& (31:UInt64)).toNat:Int)) rfl rfl (Int.natCast_nonneg _)) (.M (reg x) (.M (reg (((toU64 kv) &&& (31:UInt64)):UInt64)) (.V (v_sub64 (a:=(32:UInt64)) (b:=((toU64 kv) &&& (31:UInt64))) rfl rfl) (.V (v_shr32 (a:=x) (b:=(((32:UInt64) - ((toU64 kv) &&& (31:UInt64))).toNat:Int)) rfl rfl (Int.natCast_nonneg _)) (.V (v_or32 (a:=(shl32 x ((toU64 kv) &&& (31:UInt64)).toNat)) (b:=(shr32 x ((32:UInt64) - ((toU64 kv) &&& (31:UInt64))).toNat)) rfl rfl) (.A (reg (((shl32 x ((toU64 kv) &&& (31:UInt64)).toNat) ||| (shr32 x ((32:UInt64) - ((toU64 kv) &&& (31:UInt64))).toNat)):UInt32)) (.nx ?_)))))))
 refine CW.ret ?_
 exact ret1 rfl rfl ⟨(((shl32 x ((toU64 kv) &&& (31:UInt64)).toNat) ||| (shr32 x ((32:UInt64) - ((toU64 kv) &&& (31:UInt64))).toNat)):UInt32),rfl,hh⟩
theorem qaj.ok (w:Pt) (list:Sl) (k:Unit→H→Prop) (h:H) (hh:qaj.b w list k h):CallsH Prog 116 [reg w,reg list].toArray h fun v h'=>∃ r:Unit,v = reg r∧k r h':=by
 unfold qaj.b at hh
 refine CallsH.of 34 Tryz.func116 rfl Tryz.ntmps116 rfl (fun w0=>?_)
 refine CW.seq ?_
 refine .sr (.M (reg w) (.V (qbq pt_244 rfl rfl) (.nx ?_)))
 refine CW.cond w.isNone rfl (fun hb=>?_) (fun hb=>?_)
 ·have hh:=hh.1 hb
  refine CW.ret ?_
  refine QN.thenRet ?_
  exact ret0 rfl ⟨(),rfl,hh⟩
 ·have hh:=hh.2 hb
  refine CW.skip ?_
  refine QN.then_ ?_
  refine .sr (.M (reg list) (.V (qag (sl_48).1 rfl) (.M (reg ((0:Int):Int)) (.nx ?_))))
  refine CW.block ?_
  unfold qaj.l1 at hh
  refine CW.loop (fun (σ0:Int) ρ=>match σ0 with | t11=>∃ ρ':Env,ρ = setl ρ' [(0,reg w),(9,reg list),(10,reg ((list.len:Int):Int)),(11,reg t11)]) hh ⟨_,qn ⟨rfl,⟨rfl,⟨rfl,⟨rfl,trivial⟩⟩⟩⟩⟩ ?_
  clear hh
  rintro s1 t11 ρ h ⟨ρ',rfl⟩ hh
  refine .sr (.V (qax rfl rfl) (.nx (.seq ?_)))
  refine CW.cond (decide (t11 < (list.len:Int))) rfl (fun hb_1=>?_) (fun hb_1=>?_)
  ·have hh:=hh.1 hb_1
   refine CW.skip ?_
   refine QN.then_ ?_
   refine CW.join (fun ρ h=>∃ (ρ':Env),ρ = setl ρ' [(0,reg w),(9,reg list),(10,reg ((list.len:Int):Int)),(11,reg t11)]∧(qaj.j1 s1) w list (list.len:Int) t11 h) ?_ ?_
   ·refine CW.block ?_
    refine .sr ?_
    obtain ⟨t13,ht13,hh⟩:=hh
    refine .V (qaz sl_48 rfl rfl ht13.1 ht13.2.1 ht13.2.2) (.L 0 na_3 get_3_all hh rfl (fun t14 hh=>.A (reg t14) (.nx (.sr (.A (reg ((56:Int):Int)) (.nx ?_))))))
    refine CW.block ?_
    unfold qaj.l2 at hh
    refine CW.loop (fun (σ0:Int) ρ=>match σ0 with | i=>∃ ρ':Env,ρ = setl ρ' [(0,reg w),(5,reg t14),(9,reg list),(10,reg ((list.len:Int):Int)),(11,reg t11),(6,reg i)]) hh ⟨_,qn ⟨rfl,⟨rfl,⟨rfl,⟨rfl,⟨rfl,⟨rfl,trivial⟩⟩⟩⟩⟩⟩⟩ ?_
    clear hh
    rintro s2 i ρ h ⟨ρ',rfl⟩ hh
    refine CW.seq ?_
    refine .sr (.M (reg i) (.V (v_igeq rfl rfl) (.nx ?_)))
    refine CW.cond (decide ((0:Int)≤i)) rfl (fun hb_2=>?_) (fun hb_2=>?_)
    ·have hh:=hh.1 hb_2
     refine CW.skip ?_
     refine QN.then_ ?_
     refine CW.seq ?_
     refine CW.block ?_
     refine CW.drawN 15 rfl ym [0,1,2,3,4,5,6,7,8,9,12,13] ?_
     refine .P 0 rfl (qu (v:=reg w) rfl) (.P 1 rfl (qu (v:=reg w) rfl) ?_)
     obtain ⟨p,hp,hh⟩:=hh
     refine .P 2 rfl (qv (congrArg Value.pointer hp)) (.P 3 rfl (qd fl_246_0 rfl) (.KL 4 0 na_173 get_246_b rfl hh rfl (fun t23 hh=>.P 5 rfl (qu (v:=reg t14) rfl) (.P 6 rfl (v_conv_u64 un_3 un_243 rfl) (.P 7 rfl (qu (v:=reg i) rfl) ?_)))))
     obtain ⟨hm,hh⟩:=hh
     refine .P 8 rfl (v_shr64 (a:=(toU64 t14)) rfl rfl hm) (.P 9 rfl (v_conv_u8 un_243 un_5 rfl) ?_)
     refine qbd hh (fun pt29 t29 hpt29 ht29 hh=>?_)
     refine .w 10 (by kernel_rfl) rfl (by kernel_rfl) (.e (qc1 [((toU8 ((shr64 (toU64 t14) i.toNat).toNat:Int)):UInt8)] hpt29 ht29 zo_5 qbc rfl rfl rfl rfl rfl ?_))
     obtain ⟨hc,hh⟩:=hh
     refine ⟨⟨trivial,.inr hc⟩,?_⟩
     refine .w 11 (by kernel_rfl) rfl (by kernel_rfl) (.e (e_app qbc zo_5 by_5 rfl rfl rfl hh ?_))
     intro h t30 hh
     refine ⟨⟨trivial,.inl (by kernel_rfl)⟩,?_⟩
     refine .P 12 rfl (qv (congrArg Value.pointer hp)) (.P 13 rfl (qd fl_246_0 rfl) ?_)
     obtain ⟨xw_3,hxw_3,hwxw_3,hh⟩:=hh
     refine .w 14 (by kernel_rfl) rfl (by kernel_rfl) (.e (qb7 (p:=p) (nv:=enc (t30:Sl)) 0 rfl rfl rfl sz_173 (qd1 _) hxw_3 hwxw_3 (qfr _) (yj _) rfl (set_246_b xw_3 (t30:Sl)) ?_))
     refine ⟨⟨trivial,.inl (by kernel_rfl)⟩,?_⟩
     refine .done (by kernel_rfl) ?_
     refine QN.blockN ?_
     refine QN.then_ ?_
     refine CW.region ?_
     refine .M (reg i) (.V (v_isub rfl rfl) (.A (reg ((isub i (8:Int)):Int)) ?_))
     refine .nil ?_
     exact QN.thenJ ⟨(isub i (8:Int)),⟨_,qn ⟨rfl,⟨rfl,⟨rfl,⟨rfl,⟨rfl,⟨rfl,trivial⟩⟩⟩⟩⟩⟩⟩,hh⟩
    ·have hh:=hh.2 hb_2
     refine CW.exit ?_
     refine QN.thenExit ?_
     refine QN.thenExit ?_
     refine QN.blockExit ?_
     refine QN.blockN ?_
     exact QN.thenJ ⟨_,qn ⟨rfl,⟨rfl,⟨rfl,⟨rfl,trivial⟩⟩⟩⟩,hh⟩
   ·rintro ρ h ⟨ρ',rfl,hh⟩
    unfold qaj.j1 at hh
    refine CW.region ?_
    refine .V (qbp rfl rfl) (.M (reg ((iadd t11 (1:Int)):Int)) ?_)
    refine .nil ?_
    exact QN.thenJ ⟨(iadd t11 (1:Int)),⟨_,qn ⟨rfl,⟨rfl,⟨rfl,⟨rfl,trivial⟩⟩⟩⟩⟩,hh⟩
  ·have hh:=hh.2 hb_1
   refine CW.exit ?_
   refine QN.thenExit ?_
   refine QN.thenExit ?_
   refine QN.blockExit ?_
   exact ret0n rfl ⟨(),rfl,hh⟩
theorem qa5.ok (w:Pt) (list:Sl) (k:Unit→H→Prop) (h:H) (hh:qa5.b w list k h):CallsH Prog 112 [reg w,reg list].toArray h fun v h'=>∃ r:Unit,v = reg r∧k r h':=by
 unfold qa5.b at hh
 refine CallsH.of 24 Tryz.func112 rfl Tryz.ntmps112 rfl (fun w0=>?_)
 refine CW.seq ?_
 refine .sr (.M (reg w) (.V (qbq pt_244 rfl rfl) (.nx ?_)))
 refine CW.cond w.isNone rfl (fun hb=>?_) (fun hb=>?_)
 ·have hh:=hh.1 hb
  refine CW.ret ?_
  refine QN.thenRet ?_
  exact ret0 rfl ⟨(),rfl,hh⟩
 ·have hh:=hh.2 hb
  refine CW.skip ?_
  refine QN.then_ ?_
  refine .sr (.M (reg list) (.V (qag (qct).1 rfl) (.M (reg ((0:Int):Int)) (.nx ?_))))
  refine CW.block ?_
  unfold qa5.l1 at hh
  refine CW.loop (fun (σ0:Int) ρ=>match σ0 with | t10=>∃ ρ':Env,ρ = setl ρ' [(0,reg w),(8,reg list),(9,reg ((list.len:Int):Int)),(10,reg t10)]) hh ⟨_,qn ⟨rfl,⟨rfl,⟨rfl,⟨rfl,trivial⟩⟩⟩⟩⟩ ?_
  clear hh
  rintro s1 t10 ρ h ⟨ρ',rfl⟩ hh
  refine .sr (.V (qax rfl rfl) (.nx (.seq ?_)))
  refine CW.cond (decide (t10 < (list.len:Int))) rfl (fun hb_1=>?_) (fun hb_1=>?_)
  ·have hh:=hh.1 hb_1
   refine CW.skip ?_
   refine QN.then_ ?_
   refine CW.seq ?_
   refine CW.block ?_
   refine .sr ?_
   obtain ⟨t12,ht12,hh⟩:=hh
   refine .V (qaz qct rfl rfl ht12.1 ht12.2.1 ht12.2.2) (.LA 0 qco qdt (fun _=>(qr (n:=32) _)) hh rfl (fun t13 hh=>?_))
   refine qy hh (fun d hd hh=>?_)
   refine .e (qaq hd qdd rfl ?_)
   refine .S (t13:Arr 32 UInt8) 0 sz_31 (qb5 (n:=32) (fun _=>rfl) _) (fun _=>qr (n:=32) _) (qr (n:=32) _) (fun x=>qcw x (t13:Arr 32 UInt8)) hh rfl rfl (fun _ hh=>.nx ?_)
   refine CW.drawN 10 rfl ym [0,1,2,3,4,5,7,8] ?_
   refine .P 0 rfl (qu (v:=reg w) rfl) (.P 1 rfl (qu (v:=reg w) rfl) ?_)
   obtain ⟨p,hp,hh⟩:=hh
   refine .P 2 rfl (qv (congrArg Value.pointer hp)) (.P 3 rfl (qd fl_246_0 rfl) (.KL 4 0 na_173 get_246_b rfl hh rfl (fun t18 hh=>.P 5 rfl (qds ar_31 rfl) ?_)))
   refine .w 6 (by kernel_rfl) rfl (by kernel_rfl) (.e (e_app qbc zo_5 by_5 rfl rfl rfl hh ?_))
   intro h t20 hh
   refine ⟨⟨trivial,.inl (by kernel_rfl)⟩,?_⟩
   refine .P 7 rfl (qv (congrArg Value.pointer hp)) (.P 8 rfl (qd fl_246_0 rfl) ?_)
   obtain ⟨xw_3,hxw_3,hwxw_3,hh⟩:=hh
   refine .w 9 (by kernel_rfl) rfl (by kernel_rfl) (.e (qb7 (p:=p) (nv:=enc (t20:Sl)) 0 rfl rfl rfl sz_173 (qd1 _) hxw_3 hwxw_3 (qfr _) (yj _) rfl (set_246_b xw_3 (t20:Sl)) ?_))
   refine ⟨⟨trivial,.inl (by kernel_rfl)⟩,?_⟩
   refine .done (by kernel_rfl) ?_
   refine QN.blockN ?_
   refine QN.then_ ?_
   refine CW.region ?_
   refine .V (qbp rfl rfl) (.M (reg ((iadd t10 (1:Int)):Int)) ?_)
   refine .nil ?_
   exact QN.thenJ ⟨(iadd t10 (1:Int)),⟨_,qn ⟨rfl,⟨rfl,⟨rfl,⟨rfl,trivial⟩⟩⟩⟩⟩,hh⟩
  ·have hh:=hh.2 hb_1
   refine CW.exit ?_
   refine QN.thenExit ?_
   refine QN.thenExit ?_
   refine QN.blockExit ?_
   exact ret0n rfl ⟨(),rfl,hh⟩
theorem qc0.ok (w:Pt) (k:Sl→H→Prop) (h:H) (hh:qc0.b w k h):CallsH Prog 113 [reg w].toArray h fun v h'=>∃ r:Sl,v = reg r∧k r h':=by
 unfold qc0.b at hh
 refine CallsH.of 15 Tryz.func113 rfl Tryz.ntmps113 rfl (fun w0=>?_)
 refine .sr (.A (reg (Sl.nil:Sl)) (.nx (.seq (.sr (.M (reg w) (.V (qbq pt_244 rfl rfl) (.nx ?_)))))))
 refine CW.cond w.isNone rfl (fun hb=>?_) (fun hb=>?_)
 ·have hh:=hh.1 hb
  refine .sr (.A (reg (Sl.nil:Sl)) (.nx ?_))
  refine CW.ret ?_
  refine QN.thenRet ?_
  exact ret1 rfl rfl ⟨(Sl.nil:Sl),rfl,hh⟩
 ·have hh:=hh.2 hb
  refine CW.skip ?_
  refine QN.then_ ?_
  refine CW.seq ?_
  refine CW.drawN 11 rfl ym [0,1,2,3,4,5,6,7,8,10] ?_
  refine .P 0 rfl (qu (v:=reg w) rfl) ?_
  obtain ⟨p,hp,hh⟩:=hh
  refine .P 1 rfl (qv (congrArg Value.pointer hp)) (.P 2 rfl (qd fl_246_0 rfl) (.KL 3 0 na_173 get_246_b rfl hh rfl (fun t8 hh=>?_)))
  obtain ⟨hm,hh⟩:=hh
  refine .P 4 rfl (v_slice_hm qbc rfl rfl rfl hm.1 hm.2.1 hm.2.2) (.P 5 rfl (qu (v:=reg w) rfl) (.P 6 rfl (qv (congrArg Value.pointer hp)) (.P 7 rfl (qd fl_246_0 rfl) (.KL 8 0 na_173 get_246_b rfl hh rfl (fun t13 hh=>?_)))))
  refine .w 9 (by kernel_rfl) rfl (by kernel_rfl) (.e (e_app qbc zo_5 by_5 rfl rfl rfl hh ?_))
  intro h t14 hh
  refine ⟨⟨⟨trivial,.inl (by kernel_rfl)⟩,.inl (by kernel_rfl)⟩,?_⟩
  refine .P 10 rfl (qad (v:=reg t14) rfl) ?_
  refine .done (by kernel_rfl) ?_
  refine QN.then_ ?_
  refine CW.ret ?_
  exact ret1 rfl rfl ⟨(t14:Sl),rfl,hh⟩
theorem qcs.ok (w:Pt) (c:qa) (k:Unit→H→Prop) (h:H) (hh:qcs.b w c k h):CallsH Prog 212 [reg w,reg c].toArray h fun v h'=>∃ r:Unit,v = reg r∧k r h':=by
 unfold qcs.b at hh
 refine CallsH.of 36 Tryz.func212 rfl Tryz.ntmps212 rfl (fun w0=>?_)
 refine .sr ?_
 refine qy hh (fun c_1 hc_1 hh=>?_)
 refine .e (qan hc_1 rfl rfl rfl ?_)
 refine .nx (.sr (.M (reg w) (.V (qd qfd rfl) (.L 0 na_3 qcu hh rfl (fun t8 hh=>.V (qd qbw rfl) (.L 1 qdr qao hh rfl (fun t10 hh=>.V (qag (qde).1 rfl) ?_)))))))
 refine qbd hh (fun pt12 t12 hpt12 ht12 hh=>?_)
 refine .e (qc1 [(t8:Int),((t10.len:Int):Int)] hpt12 ht12 zo_3 sl_48 rfl rfl rfl rfl rfl ?_)
 refine .e (qw fn_116 rfl rfl hh ?_)
 intro h t13 hh
 refine .nx (.sr (.V (qd qbw rfl) (.L 1 qdr qao hh rfl (fun t15 hh=>.V (qag (qde).1 rfl) (.M (reg ((0:Int):Int)) (.nx ?_))))))
 refine CW.block ?_
 unfold qcs.l1 at hh
 refine CW.loop (fun (σ0:Int) ρ=>match σ0 with | t17=>∃ ρ':Env,ρ = setl ρ' [(0,reg w),(15,reg t15),(16,reg ((t15.len:Int):Int)),(17,reg t17)]) hh ⟨_,qn ⟨rfl,⟨rfl,⟨rfl,⟨rfl,trivial⟩⟩⟩⟩⟩ ?_
 clear hh
 rintro s1 t17 ρ h ⟨ρ',rfl⟩ hh
 refine .sr (.V (qax rfl rfl) (.nx (.seq ?_)))
 refine CW.cond (decide (t17 < (t15.len:Int))) rfl (fun hb=>?_) (fun hb=>?_)
 ·have hh:=hh.1 hb
  refine CW.skip ?_
  refine QN.then_ ?_
  refine CW.seq ?_
  refine CW.block ?_
  refine .sr ?_
  obtain ⟨t19,ht19,hh⟩:=hh
  refine .V (qaz qde rfl rfl ht19.1 ht19.2.1 ht19.2.2) (.LA 0 ag_82 qeo (fun _=>(yk _)) hh rfl (fun t20 hh=>?_))
  refine qy hh (fun m hm hh=>?_)
  refine .e (qaq hm zo_82 rfl ?_)
  refine .S (t20:qj) 0 sz_82 (qfb _) yk (yk _) (fun x=>set_82_all x (t20:qj)) hh rfl rfl (fun _ hh=>.nx (.sr (.M (reg w) (.V (qd qe6 rfl) (.L 0 na_3 qd8 hh rfl (fun t23 hh=>.V (qd fl_82_1 rfl) (.V (qd fl_33_1 rfl) (.L 33 na_3 qdq hh rfl (fun t26 hh=>?_)))))))))
  refine qbd hh (fun pt27 t27 hpt27 ht27 hh=>?_)
  refine .e (qc1 [(t23:Int),(t26:Int)] hpt27 ht27 zo_3 sl_48 rfl rfl rfl rfl rfl ?_)
  refine .e (qw fn_116 rfl rfl hh ?_)
  intro h t28 hh
  refine .nx ?_
  refine CW.region ?_
  refine .M (reg w) (.V (qd fl_82_1 rfl) (.V (qd fl_33_0 rfl) (.LA 1 qco get_82_Key_Root (fun _=>(qr (n:=32) _)) hh rfl (fun t32 hh=>?_))))
  refine qbd hh (fun pt33 t33 hpt33 ht33 hh=>?_)
  refine .e (qc1 [(t32:Arr 32 UInt8)] hpt33 ht33 qdd qct rfl rfl rfl rfl rfl ?_)
  refine .e (qw fn_112 rfl rfl hh ?_)
  intro h t34 hh
  refine .nil ?_
  refine QN.blockN ?_
  refine QN.then_ ?_
  refine CW.region ?_
  refine .V (qbp rfl rfl) (.M (reg ((iadd t17 (1:Int)):Int)) ?_)
  refine .nil ?_
  exact QN.thenJ ⟨(iadd t17 (1:Int)),⟨_,qn ⟨rfl,⟨rfl,⟨rfl,⟨rfl,trivial⟩⟩⟩⟩⟩,hh⟩
 ·have hh:=hh.2 hb
  refine CW.exit ?_
  refine QN.thenExit ?_
  refine QN.thenExit ?_
  refine QN.blockExit ?_
  exact ret0n rfl ⟨(),rfl,hh⟩
theorem qer.ok (c:qa) (k:(Arr 32 UInt8)→H→Prop) (h:H) (hh:qer.b c k h):CallsH Prog 121 [reg c].toArray h fun v h'=>∃ r:Arr 32 UInt8,v = reg r∧k r h':=by
 unfold qer.b at hh
 refine CallsH.of 15 Tryz.func121 rfl Tryz.ntmps121 rfl (fun w0=>?_)
 refine .sr ?_
 refine qy hh (fun c_1 hc_1 hh=>?_)
 refine .e (qan hc_1 rfl rfl rfl ?_)
 refine qy hh (fun t2 ht2 hh=>?_)
 refine .e (qaq ht2 qdd rfl ?_)
 refine .nx (.sr (.V (qah yx.zero zo_246 pl_246 rfl (rfl) rfl) ?_))
 refine qy hh (fun t5 ht5 hh=>?_)
 refine .e (qan ht5 rfl rfl rfl ?_)
 refine .A (.pointer (some t5)) (.nx (.sr (.M (.pointer (some t5)) (.LA 0 ag_27 qcg (fun _=>(qh _)) hh rfl (fun t7 hh=>?_)))))
 refine .e (qw fn_212 rfl rfl hh ?_)
 intro h t8 hh
 refine .nx (.sr ?_)
 refine qbd hh (fun pt9 t9 hpt9 ht9 hh=>?_)
 refine .e (qc1 [((99:UInt8):UInt8),((111:UInt8):UInt8),((110:UInt8):UInt8),((102:UInt8):UInt8),((105:UInt8):UInt8),((103:UInt8):UInt8)] hpt9 ht9 zo_5 qbc rfl rfl rfl rfl rfl ?_)
 refine .e (e_strish qbc un_5 rfl rfl hh ?_)
 intro h t10 hh
 refine .M (.pointer (some t5)) ?_
 refine .e (qw fn_113 rfl rfl hh ?_)
 intro h t12 hh
 refine qbd hh (fun pt13 t13 hpt13 ht13 hh=>?_)
 refine .e (qc1 [(t10:Sl),(t12:Sl)] hpt13 ht13 zo_173 sl_220 rfl rfl rfl rfl rfl ?_)
 refine .e (qw fn_76 rfl rfl hh ?_)
 intro h t14 hh
 refine .S (t14:Arr 32 UInt8) 0 sz_31 (qb5 (n:=32) (fun _=>rfl) _) (fun _=>qr (n:=32) _) (qr (n:=32) _) (fun x=>qcw x (t14:Arr 32 UInt8)) hh rfl rfl (fun _ hh=>.nx ?_)
 refine CW.ret ?_
 obtain ⟨r2,⟨xr2,hxr2,hgr2⟩,hh⟩:=hh
 have hr2:=qc3 hxr2 hgr2
 exact retc rfl rfl qco hr2 (qr (n:=32) _) ⟨(r2:Arr 32 UInt8),rfl,hh⟩
theorem qfg.ok (c:qa) (k:(Arr 32 UInt8)→H→Prop) (h:H) (hh:qfg.b c k h):CallsH Prog 93 [reg c].toArray h fun v h'=>∃ r:Arr 32 UInt8,v = reg r∧k r h':=by
 unfold qfg.b at hh
 refine CallsH.of 11 Tryz.func93 rfl Tryz.ntmps93 rfl (fun w0=>?_)
 refine .sr ?_
 refine qy hh (fun c_1 hc_1 hh=>?_)
 refine .e (qan hc_1 rfl rfl rfl ?_)
 refine qy hh (fun t2 ht2 hh=>?_)
 refine .e (qaq ht2 qdd rfl ?_)
 refine .nx (.sr (.LA 0 ag_27 qcg (fun _=>(qh _)) hh rfl (fun t4 hh=>?_)))
 refine .e (qw fn_121 rfl rfl hh ?_)
 intro h t5 hh
 refine qy hh (fun d hd hh=>?_)
 refine .e (qaq hd qdd rfl ?_)
 refine .S (t5:Arr 32 UInt8) 0 sz_31 (qb5 (n:=32) (fun _=>rfl) _) (fun _=>qr (n:=32) _) (qr (n:=32) _) (fun x=>qcw x (t5:Arr 32 UInt8)) hh rfl rfl (fun _ hh=>.nx (.sr ?_))
 refine qbd hh (fun pt6 t6 hpt6 ht6 hh=>?_)
 refine .e (qc1 [((102:UInt8):UInt8),((105:UInt8):UInt8),((114:UInt8):UInt8),((115:UInt8):UInt8),((116:UInt8):UInt8)] hpt6 ht6 zo_5 qbc rfl rfl rfl rfl rfl ?_)
 refine .e (e_strish qbc un_5 rfl rfl hh ?_)
 intro h t7 hh
 refine .V (qds ar_31 rfl) ?_
 refine qbd hh (fun pt9 t9 hpt9 ht9 hh=>?_)
 refine .e (qc1 [(t7:Sl),(((⟨some d,32,32⟩:Sl).cut 1 0 32 32):Sl)] hpt9 ht9 zo_173 sl_220 rfl rfl rfl rfl rfl ?_)
 refine .e (qw fn_76 rfl rfl hh ?_)
 intro h t10 hh
 refine .S (t10:Arr 32 UInt8) 0 sz_31 (qb5 (n:=32) (fun _=>rfl) _) (fun _=>qr (n:=32) _) (qr (n:=32) _) (fun x=>qcw x (t10:Arr 32 UInt8)) hh rfl rfl (fun _ hh=>.nx ?_)
 refine CW.ret ?_
 obtain ⟨r2,⟨xr2,hxr2,hgr2⟩,hh⟩:=hh
 have hr2:=qc3 hxr2 hgr2
 exact retc rfl rfl qco hr2 (qr (n:=32) _) ⟨(r2:Arr 32 UInt8),rfl,hh⟩
theorem tree_Leaf.ok (b:Sl) (k:(Arr 32 UInt8)→H→Prop) (h:H) (hh:tree_Leaf.b b k h):CallsH Prog 72 [reg b].toArray h fun v h'=>∃ r:Arr 32 UInt8,v = reg r∧k r h':=by
 unfold tree_Leaf.b at hh
 refine CallsH.of 7 Tryz.func72 rfl Tryz.ntmps72 rfl (fun w0=>?_)
 refine .sr ?_
 refine qy hh (fun t2 ht2 hh=>?_)
 refine .e (qaq ht2 qdd rfl ?_)
 refine .nx (.sr ?_)
 refine qbd hh (fun pt3 t3 hpt3 ht3 hh=>?_)
 refine .e (qc1 [((0:UInt8):UInt8)] hpt3 ht3 zo_5 qbc rfl rfl rfl rfl rfl ?_)
 refine .M (reg b) ?_
 refine qbd hh (fun pt5 t5 hpt5 ht5 hh=>?_)
 refine .e (qc1 [(t3:Sl),(b:Sl)] hpt5 ht5 zo_173 sl_220 rfl rfl rfl rfl rfl ?_)
 refine .e (qw fn_76 rfl rfl hh ?_)
 intro h t6 hh
 refine .S (t6:Arr 32 UInt8) 0 sz_31 (qb5 (n:=32) (fun _=>rfl) _) (fun _=>qr (n:=32) _) (qr (n:=32) _) (fun x=>qcw x (t6:Arr 32 UInt8)) hh rfl rfl (fun _ hh=>.nx ?_)
 refine CW.ret ?_
 obtain ⟨r2,⟨xr2,hxr2,hgr2⟩,hh⟩:=hh
 have hr2:=qc3 hxr2 hgr2
 exact retc rfl rfl qco hr2 (qr (n:=32) _) ⟨(r2:Arr 32 UInt8),rfl,hh⟩
theorem keys_leaf.ok (p:Arr 32 UInt8) (k:(Arr 32 UInt8)→H→Prop) (h:H) (hh:keys_leaf.b p k h):CallsH Prog 50 [reg p].toArray h fun v h'=>∃ r:Arr 32 UInt8,v = reg r∧k r h':=by
 unfold keys_leaf.b at hh
 refine CallsH.of 5 Tryz.func50 rfl Tryz.ntmps50 rfl (fun w0=>?_)
 refine .sr ?_
 refine qy hh (fun p_1 hp_1 hh=>?_)
 refine .e (qan hp_1 rfl rfl rfl ?_)
 refine qy hh (fun t2 ht2 hh=>?_)
 refine .e (qaq ht2 qdd rfl ?_)
 refine .nx (.sr (.V (qds ar_31 rfl) ?_))
 refine .e (qw fn_72 rfl rfl hh ?_)
 intro h t4 hh
 refine .S (t4:Arr 32 UInt8) 0 sz_31 (qb5 (n:=32) (fun _=>rfl) _) (fun _=>qr (n:=32) _) (qr (n:=32) _) (fun x=>qcw x (t4:Arr 32 UInt8)) hh rfl rfl (fun _ hh=>.nx ?_)
 refine CW.ret ?_
 obtain ⟨r2,⟨xr2,hxr2,hgr2⟩,hh⟩:=hh
 have hr2:=qc3 hxr2 hgr2
 exact retc rfl rfl qco hr2 (qr (n:=32) _) ⟨(r2:Arr 32 UInt8),rfl,hh⟩
theorem sha_Pair.ok (mark:UInt8) (a:Arr 32 UInt8) (b:Arr 32 UInt8) (k:(Arr 32 UInt8)→H→Prop) (h:H) (hh:sha_Pair.b mark a b k h):CallsH Prog 115 [reg mark,reg a,reg b].toArray h fun v h'=>∃ r:Arr 32 UInt8,v = reg r∧k r h':=by
 unfold sha_Pair.b at hh
 refine CallsH.of 13 Tryz.func115 rfl Tryz.ntmps115 rfl (fun w0=>?_)
 refine .sr ?_
 refine qy hh (fun a_1 ha_1 hh=>?_)
 refine .e (qan ha_1 rfl rfl rfl ?_)
 refine qy hh (fun b_1 hb_1 hh=>?_)
 refine .e (qan hb_1 rfl rfl rfl ?_)
 refine qy hh (fun t6 ht6 hh=>?_)
 refine .e (qaq ht6 qdd rfl ?_)
 refine .nx (.seq ?_)
 refine CW.drawN 7 rfl ym [0,2,3] ?_
 refine .P 0 rfl (qu (v:=reg mark) rfl) (.P 2 rfl (qds ar_31 rfl) (.P 3 rfl (qds ar_31 rfl) ?_))
 refine qbd hh (fun pt8 t8 hpt8 ht8 hh=>?_)
 refine .w 1 (by kernel_rfl) rfl (by kernel_rfl) (.e (qc1 [(mark:UInt8)] hpt8 ht8 zo_5 qbc rfl rfl rfl rfl rfl ?_))
 refine ⟨trivial,?_⟩
 refine qbd hh (fun pt11 t11 hpt11 ht11 hh=>?_)
 refine .w 4 (by kernel_rfl) rfl (by kernel_rfl) (.e (qc1 [(t8:Sl),(((⟨some a_1,32,32⟩:Sl).cut 1 0 32 32):Sl),(((⟨some b_1,32,32⟩:Sl).cut 1 0 32 32):Sl)] hpt11 ht11 zo_173 sl_220 rfl rfl rfl rfl rfl ?_))
 refine ⟨trivial,?_⟩
 refine .w 5 (by kernel_rfl) rfl (by kernel_rfl) (.e (qw fn_76 rfl rfl hh ?_))
 intro h t12 hh
 refine ⟨trivial,?_⟩
 obtain ⟨xw,hxw,hwxw,hh⟩:=hh
 refine .w 6 (by kernel_rfl) rfl (by kernel_rfl) (.e (qb7 (p:=t6) (nv:=enc (t12:Arr 32 UInt8)) 0 rfl rfl rfl sz_31 (qb5 (n:=32) (fun _=>rfl) _) hxw hwxw (qr (n:=32) _) (qr (n:=32) _) rfl (qcw xw (t12:Arr 32 UInt8)) ?_))
 refine ⟨trivial,?_⟩
 refine .done (by kernel_rfl) ?_
 refine QN.then_ ?_
 refine CW.ret ?_
 obtain ⟨r6,⟨xr6,hxr6,hgr6⟩,hh⟩:=hh
 have hr6:=qc3 hxr6 hgr6
 exact retc rfl rfl qco hr6 (qr (n:=32) _) ⟨(r6:Arr 32 UInt8),rfl,hh⟩
theorem qdi.ok (row:Sl) (k:Sl→H→Prop) (h:H) (hh:qdi.b row k h):CallsH Prog 77 [reg row].toArray h fun v h'=>∃ r:Sl,v = reg r∧k r h':=by
 unfold qdi.b at hh
 refine CallsH.of 37 Tryz.func77 rfl Tryz.ntmps77 rfl (fun w0=>?_)
 refine .sr (.A (reg (Sl.nil:Sl)) (.nx (.sr (.A (reg (Sl.nil:Sl)) (.nx ?_)))))
 refine CW.join (fun ρ h=>∃ (ρ':Env) (out_1:Sl),ρ = setl ρ' [(3,reg out_1)]∧(qdi.j1 k) out_1 h) ?_ ?_
 ·refine .sr (.A (reg ((0:Int):Int)) (.nx ?_))
  refine CW.block ?_
  unfold qdi.l1 at hh
  refine CW.loop (fun (σ0:Sl×Int) ρ=>match σ0 with | (out,i)=>∃ ρ':Env,ρ = setl ρ' [(0,reg row),(3,reg out),(4,reg i)]) hh ⟨_,qn ⟨rfl,⟨rfl,⟨rfl,trivial⟩⟩⟩⟩ ?_
  clear hh
  rintro s1 ⟨out,i⟩ ρ h ⟨ρ',rfl⟩ hh
  refine CW.seq ?_
  refine .sr (.M (reg i) (.M (reg row) (.V (qag (qct).1 rfl) (.V (qax rfl rfl) (.nx ?_)))))
  refine CW.cond (decide (i < (row.len:Int))) rfl (fun hb=>?_) (fun hb=>?_)
  ·have hh:=hh.1 hb
   refine CW.skip ?_
   refine QN.then_ ?_
   refine CW.seq ?_
   refine CW.block ?_
   refine CW.seq ?_
   refine .sr (.M (reg i) (.V (qbp rfl rfl) (.M (reg row) (.V (qag (qct).1 rfl) (.V (qeh rfl rfl) (.nx ?_))))))
   refine CW.cond ((iadd i (1:Int)) == (row.len:Int)) rfl (fun hb_1=>?_) (fun hb_1=>?_)
   ·have hh:=hh.1 hb_1
    refine .sr (.M (reg out) (.M (reg row) (.M (reg i) ?_)))
    obtain ⟨t19,ht19,hh⟩:=hh
    refine .V (qaz qct rfl rfl ht19.1 ht19.2.1 ht19.2.2) (.LA 0 qco qdt (fun _=>(qr (n:=32) _)) hh rfl (fun t20 hh=>?_))
    refine qbd hh (fun pt21 t21 hpt21 ht21 hh=>?_)
    refine .e (qc1 [(t20:Arr 32 UInt8)] hpt21 ht21 qdd qct rfl rfl rfl rfl rfl ?_)
    refine .e (e_app qct qdd by_31 rfl rfl rfl hh ?_)
    intro h t22 hh
    refine .A (reg t22) (.nx ?_)
    refine CW.exit ?_
    refine QN.thenExit ?_
    refine QN.blockOther rfl ?_
    refine QN.thenExit ?_
    refine QN.thenExit ?_
    refine QN.blockExit ?_
    exact QN.thenJ ⟨_,t22,qn ⟨rfl,trivial⟩,hh⟩
   ·have hh:=hh.2 hb_1
    refine CW.skip ?_
    refine QN.then_ ?_
    refine CW.drawN 14 rfl ym [0,1,2,3,4,5,6,7,8,9,13] ?_
    refine .P 0 rfl (qu (v:=reg out) rfl) (.P 1 rfl (qu (v:=reg row) rfl) (.P 2 rfl (qu (v:=reg i) rfl) ?_))
    obtain ⟨t26,ht26,hh⟩:=hh
    refine .P 3 rfl (qaz qct rfl rfl ht26.1 ht26.2.1 ht26.2.2) (.KA 4 0 qco qdt (fun _=>(qr (n:=32) _)) rfl hh rfl (fun t27 hh=>.P 5 rfl (qu (v:=reg row) rfl) (.P 6 rfl (qu (v:=reg i) rfl) (.P 7 rfl (qbp rfl rfl) ?_))))
    obtain ⟨t31,ht31,hh⟩:=hh
    refine .P 8 rfl (qaz qct rfl rfl ht31.1 ht31.2.1 ht31.2.2) (.KA 9 0 qco qdt (fun _=>(qr (n:=32) _)) rfl hh rfl (fun t32 hh=>?_))
    refine .w 10 (by kernel_rfl) rfl (by kernel_rfl) (.e (qw fn_115 rfl rfl hh ?_))
    intro h t33 hh
    refine ⟨⟨⟨trivial,.inl (by kernel_rfl)⟩,.inl (by kernel_rfl)⟩,?_⟩
    refine qbd hh (fun pt34 t34 hpt34 ht34 hh=>?_)
    refine .w 11 (by kernel_rfl) rfl (by kernel_rfl) (.e (qc1 [(t33:Arr 32 UInt8)] hpt34 ht34 qdd qct rfl rfl rfl rfl rfl ?_))
    refine ⟨⟨⟨trivial,.inl (by kernel_rfl)⟩,.inl (by kernel_rfl)⟩,?_⟩
    refine .w 12 (by kernel_rfl) rfl (by kernel_rfl) (.e (e_app qct qdd by_31 rfl rfl rfl hh ?_))
    intro h t35 hh
    refine ⟨⟨⟨trivial,.inl (by kernel_rfl)⟩,.inl (by kernel_rfl)⟩,?_⟩
    refine .P 13 rfl (qad (v:=reg t35) rfl) ?_
    refine .done (by kernel_rfl) ?_
    refine QN.blockN ?_
    refine QN.then_ ?_
    refine CW.region ?_
    refine .M (reg i) (.V (qbp rfl rfl) (.A (reg ((iadd i (2:Int)):Int)) ?_))
    refine .nil ?_
    exact QN.thenJ ⟨(t35,(iadd i (2:Int))),⟨_,qn ⟨rfl,⟨rfl,⟨rfl,trivial⟩⟩⟩⟩,hh⟩
  ·have hh:=hh.2 hb
   refine CW.exit ?_
   refine QN.thenExit ?_
   refine QN.thenExit ?_
   refine QN.blockExit ?_
   exact QN.thenJ ⟨_,out,qn ⟨rfl,trivial⟩,hh⟩
 ·rintro ρ h ⟨ρ',out_1,rfl,hh⟩
  unfold qdi.j1 at hh
  refine .sr (.M (reg out_1) (.A (reg out_1) (.nx ?_)))
  refine CW.ret ?_
  exact ret1 rfl rfl ⟨(out_1:Sl),rfl,hh⟩
theorem qb9.ok (leaves:Sl) (k:(Arr 32 UInt8)→H→Prop) (h:H) (hh:qb9.b leaves k h):CallsH Prog 52 [reg leaves].toArray h fun v h'=>∃ r:Arr 32 UInt8,v = reg r∧k r h':=by
 unfold qb9.b at hh
 refine CallsH.of 19 Tryz.func52 rfl Tryz.ntmps52 rfl (fun w0=>?_)
 refine .sr ?_
 refine qy hh (fun t2 ht2 hh=>?_)
 refine .e (qaq ht2 qdd rfl ?_)
 refine .nx (.seq (.sr (.M (reg leaves) (.V (qag (qct).1 rfl) (.V (qeh rfl rfl) (.nx ?_))))))
 refine CW.cond ((leaves.len:Int) == (0:Int)) rfl (fun hb=>?_) (fun hb=>?_)
 ·have hh:=hh.1 hb
  refine .sr ?_
  refine .e (qw fn_76 rfl rfl hh ?_)
  intro h t7 hh
  refine .S (t7:Arr 32 UInt8) 0 sz_31 (qb5 (n:=32) (fun _=>rfl) _) (fun _=>qr (n:=32) _) (qr (n:=32) _) (fun x=>qcw x (t7:Arr 32 UInt8)) hh rfl rfl (fun _ hh=>.nx ?_)
  refine CW.ret ?_
  refine QN.thenRet ?_
  obtain ⟨r2,⟨xr2,hxr2,hgr2⟩,hh⟩:=hh
  have hr2:=qc3 hxr2 hgr2
  exact retc rfl rfl qco hr2 (qr (n:=32) _) ⟨(r2:Arr 32 UInt8),rfl,hh⟩
 ·have hh:=hh.2 hb
  refine CW.skip ?_
  refine QN.then_ ?_
  refine .sr ?_
  refine qbd hh (fun pt8 t8 hpt8 ht8 hh=>?_)
  refine .e (qc1 ([]:List (Arr 32 UInt8)) hpt8 ht8 qdd qct rfl rfl rfl rfl rfl ?_)
  refine .M (reg leaves) ?_
  refine .e (e_app qct qdd by_31 rfl rfl rfl hh ?_)
  intro h t10 hh
  refine .A (reg t10) (.nx ?_)
  refine CW.join (fun ρ h=>∃ (ρ':Env) (row_1:Sl),ρ = setl ρ' [(2,.pointer (some t2)),(3,reg row_1)]∧(qb9.j1 k) t2 row_1 h) ?_ ?_
  ·refine CW.block ?_
   unfold qb9.l1 at hh
   refine CW.loop (fun (σ0:Sl) ρ=>match σ0 with | row=>∃ ρ':Env,ρ = setl ρ' [(2,.pointer (some t2)),(3,reg row)]) hh ⟨_,qn ⟨rfl,⟨rfl,trivial⟩⟩⟩ ?_
   clear hh
   rintro s1 row ρ h ⟨ρ',rfl⟩ hh
   refine CW.seq ?_
   refine .sr (.M (reg row) (.V (qag (qct).1 rfl) (.V (qd6 rfl rfl) (.nx ?_))))
   refine CW.cond (decide ((1:Int) < (row.len:Int))) rfl (fun hb_1=>?_) (fun hb_1=>?_)
   ·have hh:=hh.1 hb_1
    refine CW.skip ?_
    refine QN.then_ ?_
    refine CW.block ?_
    refine CW.region ?_
    refine .M (reg row) ?_
    refine .e (qw fn_77 rfl rfl hh ?_)
    intro h t15 hh
    refine .A (reg t15) ?_
    refine .nil ?_
    refine QN.blockN ?_
    exact QN.thenJ ⟨t15,⟨_,qn ⟨rfl,⟨rfl,trivial⟩⟩⟩,hh⟩
   ·have hh:=hh.2 hb_1
    refine CW.exit ?_
    refine QN.thenExit ?_
    refine QN.thenExit ?_
    refine QN.blockExit ?_
    exact QN.thenJ ⟨_,row,qn ⟨rfl,⟨rfl,trivial⟩⟩,hh⟩
  ·rintro ρ h ⟨ρ',row_1,rfl,hh⟩
   unfold qb9.j1 at hh
   refine .sr (.M (reg row_1) ?_)
   obtain ⟨t17,ht17,hh⟩:=hh
   refine .V (qaz qct rfl rfl ht17.1 ht17.2.1 ht17.2.2) (.LA 0 qco qdt (fun _=>(qr (n:=32) _)) hh rfl (fun t18 hh=>.S (t18:Arr 32 UInt8) 0 sz_31 (qb5 (n:=32) (fun _=>rfl) _) (fun _=>qr (n:=32) _) (qr (n:=32) _) (fun x=>qcw x (t18:Arr 32 UInt8)) hh rfl rfl (fun _ hh=>.nx ?_)))
   refine CW.ret ?_
   obtain ⟨r2_1,⟨xr2_1,hxr2_1,hgr2_1⟩,hh⟩:=hh
   have hr2_1:=qc3 hxr2_1 hgr2_1
   exact retc rfl rfl qco hr2_1 (qr (n:=32) _) ⟨(r2_1:Arr 32 UInt8),rfl,hh⟩
theorem qcr.ok (seed:Arr 32 UInt8) (height:Int) (k:(T2 Pt Int)→H→Prop) (h:H) (hh:qcr.b seed height k h):CallsH Prog 25 [reg seed,reg height].toArray h fun v h'=>∃ r:T2 Pt Int,v = reg r∧k r h':=by
 unfold qcr.b at hh
 refine CallsH.of 38 Tryz.func25 rfl Tryz.ntmps25 rfl (fun w0=>?_)
 refine .sr ?_
 refine qy hh (fun seed_1 hseed_1 hh=>?_)
 refine .e (qan hseed_1 rfl rfl rfl ?_)
 refine .A (reg ((none:Pt):Pt)) (.A (reg ((0:Int):Int)) (.nx (.seq (.sr (.M (reg height) (.V (qax rfl rfl) (.M (reg ((decide (height < (0:Int))):Bool)) (.fv 10 rfl rfl rfl (fun hb=>qu (v:=reg (height:Int)) rfl) rfl (.fv 10 rfl rfl rfl (fun hb=>qd6 (gf hb) rfl) rfl (.V (qb2 rfl rfl (fun hb=>gf hb)) ?_))))))))))
 refine .nx ?_
 refine CW.cond ((decide (height < (0:Int))) || (decide ((6:Int) < height))) rfl (fun hb=>?_) (fun hb=>?_)
 ·have hh:=hh.1 hb
  refine .sr (.A (reg ((none:Pt):Pt)) (.A (reg ((1:Int):Int)) (.nx ?_)))
  refine CW.ret ?_
  refine QN.thenRet ?_
  exact ret2 rfl rfl rfl ⟨(⟨(none:Pt),(1:Int)⟩:T2 Pt Int),rfl,hh⟩
 ·have hh:=hh.2 hb
  refine CW.skip ?_
  refine QN.then_ ?_
  refine .sr (.LA 0 qco qdt (fun _=>(qr (n:=32) _)) hh rfl (fun t14 hh=>.M (reg height) (.V (qah ({ qae.zero with seed:=t14,height:=height }:qae) zo_135 pl_135 rfl (qf rfl rfl (qr (n:=32) _) (qfj _) rfl (set_135_seed _ _) (qf rfl rfl (qp _) (qfj _) rfl (set_135_height _ _) (rfl))) rfl) ?_)))
  refine qy hh (fun t17 ht17 hh=>?_)
  refine .e (qan ht17 rfl rfl rfl ?_)
  refine .A (.pointer (some t17)) (.nx ?_)
  refine CW.join (fun ρ h=>∃ (ρ':Env),ρ = setl ρ' [(6,.pointer (some t17))]∧(qcr.j1 k) t17 h) ?_ ?_
  ·refine .sr (.M (reg height) ?_)
   obtain ⟨hm,hh⟩:=hh
   refine .V (v_ishl (a:=(1:Int)) rfl rfl hm) (.M (reg ((0:Int):Int)) (.nx ?_))
   refine CW.block ?_
   unfold qcr.l1 at hh
   refine CW.loop (fun (σ0:Int) ρ=>match σ0 with | t20=>∃ ρ':Env,ρ = setl ρ' [(2,.pointer (some seed_1)),(6,.pointer (some t17)),(19,reg ((ishl (1:Int) height.toNat):Int)),(20,reg t20)]) hh ⟨_,qn ⟨rfl,⟨rfl,⟨rfl,⟨rfl,trivial⟩⟩⟩⟩⟩ ?_
   clear hh
   rintro s1 t20 ρ h ⟨ρ',rfl⟩ hh
   refine .sr (.V (qax rfl rfl) (.nx (.seq ?_)))
   refine CW.cond (decide (t20 < (ishl (1:Int) height.toNat))) rfl (fun hb_1=>?_) (fun hb_1=>?_)
   ·have hh:=hh.1 hb_1
    refine CW.skip ?_
    refine QN.then_ ?_
    refine CW.seq ?_
    refine CW.block ?_
    refine .sr (.M (reg t20) (.A (reg t20) (.nx ?_)))
    refine CW.drawN 14 rfl ym [0,1,2,3,4,5,6,11,12] ?_
    refine .P 0 rfl (qu (v:=.pointer (some t17)) rfl) (.P 1 rfl (qu (v:=.pointer (some t17)) rfl) (.P 2 rfl (qv rfl) (.P 3 rfl (qd fl_135_2 rfl) (.KL 4 33 na_133 get_135_leaves rfl hh rfl (fun t27 hh=>.KA 5 0 qco qdt (fun _=>(qr (n:=32) _)) rfl hh rfl (fun t28 hh=>.P 6 rfl (qu (v:=reg t20) rfl) ?_))))))
    refine .w 7 (by kernel_rfl) rfl (by kernel_rfl) (.e (qw fn_51 rfl rfl hh ?_))
    intro h t30 hh
    obtain ⟨hc,hh⟩:=hh
    refine ⟨⟨⟨trivial,.inr hc⟩,.inl (by kernel_rfl)⟩,?_⟩
    refine .w 8 (by kernel_rfl) rfl (by kernel_rfl) (.e (qw fn_50 rfl rfl hh ?_))
    intro h t31 hh
    obtain ⟨hc_1,hh⟩:=hh
    refine ⟨⟨⟨trivial,.inr hc_1⟩,.inl (by kernel_rfl)⟩,?_⟩
    refine qbd hh (fun pt32 t32 hpt32 ht32 hh=>?_)
    refine .w 9 (by kernel_rfl) rfl (by kernel_rfl) (.e (qc1 [(t31:Arr 32 UInt8)] hpt32 ht32 qdd qct rfl rfl rfl rfl rfl ?_))
    obtain ⟨hc_2,hh⟩:=hh
    refine ⟨⟨⟨trivial,.inr hc_2⟩,.inl (by kernel_rfl)⟩,?_⟩
    refine .w 10 (by kernel_rfl) rfl (by kernel_rfl) (.e (e_app qct qdd by_31 rfl rfl rfl hh ?_))
    intro h t33 hh
    refine ⟨⟨⟨trivial,.inl (by kernel_rfl)⟩,.inl (by kernel_rfl)⟩,?_⟩
    refine .P 11 rfl (qv rfl) (.P 12 rfl (qd fl_135_2 rfl) ?_)
    obtain ⟨xw,hxw,hwxw,hh⟩:=hh
    refine .w 13 (by kernel_rfl) rfl (by kernel_rfl) (.e (qb7 (p:=t17) (nv:=enc (t33:Sl)) 33 rfl rfl rfl sz_133 (qd1 _) hxw hwxw (qfj _) (yj _) rfl (set_135_leaves xw (t33:Sl)) ?_))
    refine ⟨⟨⟨trivial,.inl (by kernel_rfl)⟩,.inl (by kernel_rfl)⟩,?_⟩
    refine .done (by kernel_rfl) ?_
    refine QN.blockN ?_
    refine QN.then_ ?_
    refine CW.region ?_
    refine .V (qbp rfl rfl) (.M (reg ((iadd t20 (1:Int)):Int)) ?_)
    refine .nil ?_
    exact QN.thenJ ⟨(iadd t20 (1:Int)),⟨_,qn ⟨rfl,⟨rfl,⟨rfl,⟨rfl,trivial⟩⟩⟩⟩⟩,hh⟩
   ·have hh:=hh.2 hb_1
    refine CW.exit ?_
    refine QN.thenExit ?_
    refine QN.thenExit ?_
    refine QN.blockExit ?_
    exact QN.thenJ ⟨_,qn ⟨rfl,trivial⟩,hh⟩
  ·rintro ρ h ⟨ρ',rfl,hh⟩
   unfold qcr.j1 at hh
   refine .sr (.M (.pointer (some t17)) (.A (.pointer (some t17)) (.A (reg ((0:Int):Int)) (.nx ?_))))
   refine CW.ret ?_
   exact ret2 rfl rfl rfl ⟨(⟨(some t17),(0:Int)⟩:T2 Pt Int),rfl,hh⟩
theorem qeq.ok (t:Pt) (k:qo→H→Prop) (h:H) (hh:qeq.b t k h):CallsH Prog 26 [reg t].toArray h fun v h'=>∃ r:qo,v = reg r∧k r h':=by
 unfold qeq.b at hh
 refine CallsH.of 16 Tryz.func26 rfl Tryz.ntmps26 rfl (fun w0=>?_)
 refine .sr ?_
 refine qy hh (fun t2 ht2 hh=>?_)
 refine .e (qaq ht2 zo_33 rfl ?_)
 refine .nx (.seq (.sr (.M (reg t) (.V (qbq pt_77 rfl rfl) (.nx ?_)))))
 refine CW.cond t.isNone rfl (fun hb=>?_) (fun hb=>?_)
 ·have hh:=hh.1 hb
  refine .sr (.V (qah qo.zero zo_33 pl_33 rfl (rfl) rfl) (.S (qo.zero:qo) 0 sz_33 (qcp _) yn (yn _) (fun x=>qdu x (qo.zero:qo)) hh rfl rfl (fun _ hh=>.nx ?_)))
  refine CW.ret ?_
  refine QN.thenRet ?_
  obtain ⟨r2,⟨xr2,hxr2,hgr2⟩,hh⟩:=hh
  have hr2:=qc3 hxr2 hgr2
  exact retc rfl rfl ag_33 hr2 (yn _) ⟨(r2:qo),rfl,hh⟩
 ·have hh:=hh.2 hb
  refine CW.skip ?_
  refine QN.then_ ?_
  refine CW.seq ?_
  refine CW.drawN 11 rfl ym [0,1,2,3,5,6,7,8,9] ?_
  refine .P 0 rfl (qu (v:=reg t) rfl) ?_
  obtain ⟨p,hp,hh⟩:=hh
  refine .P 1 rfl (qv (congrArg Value.pointer hp)) (.P 2 rfl (qd fl_135_2 rfl) (.KL 3 33 na_133 get_135_leaves rfl hh rfl (fun t9 hh=>.P 5 rfl (qu (v:=reg t) rfl) (.P 6 rfl (qv (congrArg Value.pointer hp)) (.P 7 rfl (qd fl_135_1 rfl) (.KL 8 32 na_3 get_135_height rfl hh rfl (fun t14 hh=>?_)))))))
  refine .w 4 (by kernel_rfl) rfl (by kernel_rfl) (.e (qw fn_52 rfl rfl hh ?_))
  intro h t10 hh
  obtain ⟨hc,hh⟩:=hh
  refine ⟨⟨⟨trivial,.inl (by kernel_rfl)⟩,.inr hc⟩,?_⟩
  refine .P 9 rfl (qah ({ Root:=t10,Height:=t14 }:qo) zo_33 pl_33 rfl (qf rfl rfl (qr (n:=32) _) (yn _) rfl (set_33_Root _ _) (qf rfl rfl (qp _) (yn _) rfl (set_33_Height _ _) (rfl))) rfl) ?_
  obtain ⟨xw_1,hxw_1,hwxw_1,hh⟩:=hh
  refine .w 10 (by kernel_rfl) rfl (by kernel_rfl) (.e (qb7 (p:=t2) (nv:=enc (({ Root:=t10,Height:=t14 }:qo):qo)) 0 rfl rfl rfl sz_33 (qcp _) hxw_1 hwxw_1 (yn _) (yn _) rfl (qdu xw_1 (({ Root:=t10,Height:=t14 }:qo):qo)) ?_))
  refine ⟨⟨⟨trivial,.inl (by kernel_rfl)⟩,.inl (by kernel_rfl)⟩,?_⟩
  refine .done (by kernel_rfl) ?_
  refine QN.then_ ?_
  refine CW.ret ?_
  obtain ⟨r2_1,⟨xr2_1,hxr2_1,hgr2_1⟩,hh⟩:=hh
  have hr2_1:=qc3 hxr2_1 hgr2_1
  exact retc rfl rfl ag_33 hr2_1 (yn _) ⟨(r2_1:qo),rfl,hh⟩
theorem ring_New.ok (k:Pt→H→Prop) (h:H) (hh:ring_New.b k h):CallsH Prog 91 ([]:List Value).toArray h fun v h'=>∃ r:Pt,v = reg r∧k r h':=by
 unfold ring_New.b at hh
 refine CallsH.of 4 Tryz.func91 rfl Tryz.ntmps91 rfl (fun w0=>?_)
 refine .sr (.A (reg ((none:Pt):Pt)) (.nx (.sr ?_)))
 refine .e (qba rfl hh ?_)
 intro h t1 hh
 refine .V (qah ({ list:=t1 }:qa9) zo_288 pl_288 rfl (qf rfl rfl (yq _) (len_ring_Ring _) rfl (set_288_list _ _) (rfl)) rfl) ?_
 refine qy hh (fun t3 ht3 hh=>?_)
 refine .e (qan ht3 rfl rfl rfl ?_)
 refine .A (.pointer (some t3)) (.nx ?_)
 refine CW.ret ?_
 exact ret1 rfl rfl ⟨((some t3):Pt),rfl,hh⟩
theorem qes.ok (r:Pt) (seed:Arr 32 UInt8) (height:Int) (k:(T2 qo Int)→H→Prop) (h:H) (hh:qes.b r seed height k h):CallsH Prog 94 [reg r,reg seed,reg height].toArray h fun v h'=>∃ r:T2 qo Int,v = reg r∧k r h':=by
 unfold qes.b at hh
 refine CallsH.of 44 Tryz.func94 rfl Tryz.ntmps94 rfl (fun w0=>?_)
 refine .sr ?_
 refine qy hh (fun seed_1 hseed_1 hh=>?_)
 refine .e (qan hseed_1 rfl rfl rfl ?_)
 refine qy hh (fun t6 ht6 hh=>?_)
 refine .e (qaq ht6 zo_33 rfl ?_)
 refine .A (reg ((0:Int):Int)) (.nx (.seq (.sr (.M (reg r) (.V (qbq pt_101 rfl rfl) (.nx ?_))))))
 refine CW.cond r.isNone rfl (fun hb=>?_) (fun hb=>?_)
 ·have hh:=hh.1 hb
  refine .sr (.V (qah qo.zero zo_33 pl_33 rfl (rfl) rfl) (.S (qo.zero:qo) 0 sz_33 (qcp _) yn (yn _) (fun x=>qdu x (qo.zero:qo)) hh rfl rfl (fun _ hh=>.A (reg ((2:Int):Int)) (.nx ?_))))
  refine CW.ret ?_
  refine QN.thenRet ?_
  obtain ⟨r6,⟨xr6,hxr6,hgr6⟩,hh⟩:=hh
  have hr6:=qc3 hxr6 hgr6
  exact retc1 rfl rfl ag_33 hr6 (yn _) rfl ⟨(⟨r6,(2:Int)⟩:T2 qo Int),rfl,hh⟩
 ·have hh:=hh.2 hb
  refine CW.skip ?_
  refine QN.then_ ?_
  refine .sr (.LA 0 qco qdt (fun _=>(qr (n:=32) _)) hh rfl (fun t15 hh=>.M (reg height) ?_))
  refine .e (qw fn_25 rfl rfl hh ?_)
  intro h t17 hh
  refine .M (reg (t17:T2 Pt Int)) (.V (qar (v:=reg (t17.a:Pt)) rfl rfl) (.V (qar (v:=reg (t17.b:Int)) rfl rfl) (.A (reg (t17.a:Pt)) (.A (reg (t17.b:Int)) (.nx (.seq (.sr (.M (reg (t17.b:Int)) (.V (qdz rfl rfl) (.nx ?_))))))))))
  refine CW.cond (t17.b != (0:Int)) rfl (fun hb_1=>?_) (fun hb_1=>?_)
  ·have hh:=hh.1 hb_1
   refine .sr (.V (qah qo.zero zo_33 pl_33 rfl (rfl) rfl) (.M (reg (t17.b:Int)) (.S (qo.zero:qo) 0 sz_33 (qcp _) yn (yn _) (fun x=>qdu x (qo.zero:qo)) hh rfl rfl (fun _ hh=>.A (reg (t17.b:Int)) (.nx ?_)))))
   refine CW.ret ?_
   refine QN.thenRet ?_
   obtain ⟨r6_1,⟨xr6_1,hxr6_1,hgr6_1⟩,hh⟩:=hh
   have hr6_1:=qc3 hxr6_1 hgr6_1
   exact retc1 rfl rfl ag_33 hr6_1 (yn _) rfl ⟨(⟨r6_1,t17.b⟩:T2 qo Int),rfl,hh⟩
  ·have hh:=hh.2 hb_1
   refine CW.skip ?_
   refine QN.then_ ?_
   refine .sr (.M (reg (t17.a:Pt)) ?_)
   refine .e (qw fn_26 rfl rfl hh ?_)
   intro h t25 hh
   refine qy hh (fun kv hkv hh=>?_)
   refine .e (qaq hkv zo_33 rfl ?_)
   refine .S (t25:qo) 0 sz_33 (qcp _) yn (yn _) (fun x=>qdu x (t25:qo)) hh rfl rfl (fun _ hh=>.nx (.seq ?_))
   refine CW.seq ?_
   refine CW.drawN 7 rfl ym [0,1,2,3,4,5,6] ?_
   refine .P 0 rfl (qu (v:=reg r) rfl) ?_
   obtain ⟨p,hp,hh⟩:=hh
   refine .P 1 rfl (qv (congrArg Value.pointer hp)) (.P 2 rfl (qd fl_288_0 rfl) (.KL 3 0 na_286 get_288_list rfl hh rfl (fun t29 hh=>.KA 4 0 ag_33 get_33_all (fun _=>(yn _)) rfl hh rfl (fun t30 hh=>?_))))
   obtain ⟨t31,⟨xt31,hxt31,hgt31⟩,hh⟩:=hh
   refine .K 5 (fun h'=>∃ l:List (qo×Pt),MapIs h' t29 l∧(fun (l:List (qo×Pt))=>(mlook (none:Pt) l (t30:qo)).a) l = t31) rfl ⟨xt31,hxt31,hgt31⟩ (fun h' hS=>hS.elim fun _ hS=>qdl mt_286 kt_33 zv_289 rfl rfl hS.1 hS.2) (.P 6 rfl (v_ne_nil pt_289 rfl rfl) ?_)
   refine .done (by kernel_rfl) ?_
   refine QN.then_ ?_
   refine CW.cond t31.isSome rfl (fun hb_2=>?_) (fun hb_2=>?_)
   ·have hh:=hh.1 hb_2
    refine .sr (.V (qah qo.zero zo_33 pl_33 rfl (rfl) rfl) (.S (qo.zero:qo) 0 sz_33 (qcp _) yn (yn _) (fun x=>qdu x (qo.zero:qo)) hh rfl rfl (fun _ hh=>.A (reg ((9:Int):Int)) (.nx ?_))))
    refine CW.ret ?_
    refine QN.thenRet ?_
    obtain ⟨r6_2,⟨xr6_2,hxr6_2,hgr6_2⟩,hh⟩:=hh
    have hr6_2:=qc3 hxr6_2 hgr6_2
    exact retc1 rfl rfl ag_33 hr6_2 (yn _) rfl ⟨(⟨r6_2,(9:Int)⟩:T2 qo Int),rfl,hh⟩
   ·have hh:=hh.2 hb_2
    refine CW.skip ?_
    refine QN.then_ ?_
    refine CW.seq ?_
    refine CW.drawN 10 rfl ym [0,1,2,3,4,5,7] ?_
    refine .P 0 rfl (qu (v:=reg r) rfl) (.P 1 rfl (qv (congrArg Value.pointer hp)) (.P 2 rfl (qd fl_288_0 rfl) (.KL 3 0 na_286 get_288_list rfl hh rfl (fun t37 hh=>.KA 4 0 ag_33 get_33_all (fun _=>(yn _)) rfl hh rfl (fun t38 hh=>.P 5 rfl (qu (v:=reg (t17.a:Pt)) rfl) ?_)))))
    refine .w 6 (by kernel_rfl) rfl (by kernel_rfl) (.e (qba rfl hh ?_))
    intro h t40 hh
    obtain ⟨hc,hh⟩:=hh
    obtain ⟨hc_1,hh⟩:=hh
    refine ⟨⟨⟨trivial,.inr hc⟩,.inr hc_1⟩,?_⟩
    refine .P 7 rfl (qah ({ tree:=t17.a,next:=(0:Int),open_:=t40 }:qbm) zo_292 pl_292 rfl (qf rfl rfl (qx _) (qfs _) rfl (set_292_tree _ _) (qf rfl rfl (qp _) (qfs _) rfl (set_292_next _ _) (qf rfl rfl (yq _) (qfs _) rfl (set_292_open _ _) (rfl)))) rfl) ?_
    refine qy hh (fun t42 ht42 hh=>?_)
    refine .w 8 (by kernel_rfl) rfl (by kernel_rfl) (.e (qan ht42 rfl rfl rfl ?_))
    obtain ⟨hc_2,hh⟩:=hh
    obtain ⟨hc_3,hh⟩:=hh
    refine ⟨⟨⟨trivial,.inr hc_2⟩,.inr hc_3⟩,?_⟩
    refine .w 9 (by kernel_rfl) rfl (by kernel_rfl) (.e (e_mput mt_286 kt_33 rfl rfl rfl hh ?_))
    intro h hh
    refine ⟨⟨⟨trivial,.inl (by kernel_rfl)⟩,.inl (by kernel_rfl)⟩,?_⟩
    refine .done (by kernel_rfl) ?_
    refine QN.then_ ?_
    refine .sr (.LA 0 ag_33 get_33_all (fun _=>(yn _)) hh rfl (fun t43 hh=>.S (t43:qo) 0 sz_33 (qcp _) yn (yn _) (fun x=>qdu x (t43:qo)) hh rfl rfl (fun _ hh=>.A (reg ((0:Int):Int)) (.nx ?_))))
    refine CW.ret ?_
    obtain ⟨r6_3,⟨xr6_3,hxr6_3,hgr6_3⟩,hh⟩:=hh
    have hr6_3:=qc3 hxr6_3 hgr6_3
    exact retc1 rfl rfl ag_33 hr6_3 (yn _) rfl ⟨(⟨r6_3,(0:Int)⟩:T2 qo Int),rfl,hh⟩
theorem rank_At.ok (height:Int) (round:Int) (k:Cx→H→Prop) (h:H) (hh:rank_At.b height round k h):CallsH Prog 139 [reg height,reg round].toArray h fun v h'=>∃ r:Cx,v = reg r∧k r h':=by
 unfold rank_At.b at hh
 refine CallsH.of 10 Tryz.func139 rfl Tryz.ntmps139 rfl (fun w0=>?_)
 refine .sr (.A (reg ((⟨0,0⟩:Cx):Cx)) (.nx (.sr (.M (reg height) (.V (v_conv_fl un_3 un_284 rfl) (.M (reg round) (.V (v_conv_fl un_3 un_284 rfl) (.V (v_complex rfl rfl) (.A (reg ((⟨(fnear height).b,(fnear round).b⟩:Cx):Cx)) (.nx ?_))))))))))
 refine CW.ret ?_
 exact ret1 rfl rfl ⟨((⟨(fnear height).b,(fnear round).b⟩:Cx):Cx),rfl,hh⟩
theorem qdf.ok (r:Cx) (k:Bool→H→Prop) (h:H) (hh:qdf.b r k h):CallsH Prog 138 [reg r].toArray h fun v h'=>∃ r:Bool,v = reg r∧k r h':=by
 unfold qdf.b at hh
 refine CallsH.of 11 Tryz.func138 rfl Tryz.ntmps138 rfl (fun w0=>?_)
 refine .sr (.A (reg false) (.nx ?_))
 refine CW.join (fun ρ h=>∃ (ρ':Env) (t2:Bool),ρ = setl ρ' [(2,reg t2)]∧(qdf.j1 k) t2 h) ?_ ?_
 ·refine CW.region ?_
  refine .M (reg r) (.V (v_real rfl) ?_)
  refine .e (qw fn_231 rfl rfl hh ?_)
  intro h t5 hh
  refine .M (reg t5) ?_
  refine qbl hh (fun hb hh=>?_) (fun hb hh=>?_)
  ·refine .yv 6 rfl (cb hb) rfl (qu (v:=reg (r:Cx)) rfl) rfl (.yv 6 rfl (cb hb) rfl (v_imag rfl) rfl ?_)
   refine .ye 6 rfl (cb hb) rfl (qw fn_231 rfl rfl hh ?_)
   intro h t9 hh
   refine .V (qbx (v:=reg t9) rfl hb rfl) (.A (reg t9) ?_)
   refine .nil ?_
   exact QN.thenJ ⟨_,t9,qn ⟨rfl,trivial⟩,hh⟩
  ·refine .no 6 rfl (cb hb) rfl rfl (.no 6 rfl (cb hb) rfl rfl (.no 6 rfl (cb hb) rfl rfl (.V (qb0 (v:=reg false) rfl hb rfl) (.A (reg false) ?_))))
   refine .nil ?_
   exact QN.thenJ ⟨_,false,qn ⟨rfl,trivial⟩,hh⟩
 ·rintro ρ h ⟨ρ',t2,rfl,hh⟩
  unfold qdf.j1 at hh
  refine CW.ret ?_
  exact ret1 rfl rfl ⟨(t2:Bool),rfl,hh⟩
theorem qfe.ok (r:Cx) (k:Int→H→Prop) (h:H) (hh:qfe.b r k h):CallsH Prog 140 [reg r].toArray h fun v h'=>∃ r:Int,v = reg r∧k r h':=by
 unfold qfe.b at hh
 refine CallsH.of 9 Tryz.func140 rfl Tryz.ntmps140 rfl (fun w0=>?_)
 refine .sr (.A (reg ((0:Int):Int)) (.nx (.seq (.sr (.M (reg r) ?_)))))
 refine .e (qw fn_138 rfl rfl hh ?_)
 intro h t4 hh
 refine .V (v_not rfl) (.nx ?_)
 refine CW.cond (!t4) rfl (fun hb=>?_) (fun hb=>?_)
 ·have hh:=hh.1 hb
  refine .sr (.A (reg ((0:Int):Int)) (.nx ?_))
  refine CW.ret ?_
  refine QN.thenRet ?_
  exact ret1 rfl rfl ⟨((0:Int):Int),rfl,hh⟩
 ·have hh:=hh.2 hb
  refine CW.skip ?_
  refine QN.then_ ?_
  refine .sr (.M (reg r) (.V (v_real rfl) ?_))
  obtain ⟨t8,ht8,hh⟩:=hh
  refine .V (v_conv_cut un_284 un_3 rfl ht8) (.A (reg t8) (.nx ?_))
  refine CW.ret ?_
  exact ret1 rfl rfl ⟨(t8:Int),rfl,hh⟩
theorem qfl.ok (r:Cx) (k:Int→H→Prop) (h:H) (hh:qfl.b r k h):CallsH Prog 88 [reg r].toArray h fun v h'=>∃ r:Int,v = reg r∧k r h':=by
 unfold qfl.b at hh
 refine CallsH.of 9 Tryz.func88 rfl Tryz.ntmps88 rfl (fun w0=>?_)
 refine .sr (.A (reg ((0:Int):Int)) (.nx (.seq (.sr (.M (reg r) ?_)))))
 refine .e (qw fn_138 rfl rfl hh ?_)
 intro h t4 hh
 refine .V (v_not rfl) (.nx ?_)
 refine CW.cond (!t4) rfl (fun hb=>?_) (fun hb=>?_)
 ·have hh:=hh.1 hb
  refine .sr (.A (reg ((0:Int):Int)) (.nx ?_))
  refine CW.ret ?_
  refine QN.thenRet ?_
  exact ret1 rfl rfl ⟨((0:Int):Int),rfl,hh⟩
 ·have hh:=hh.2 hb
  refine CW.skip ?_
  refine QN.then_ ?_
  refine .sr (.M (reg r) (.V (v_imag rfl) ?_))
  obtain ⟨t8,ht8,hh⟩:=hh
  refine .V (v_conv_cut un_284 un_3 rfl ht8) (.A (reg t8) (.nx ?_))
  refine CW.ret ?_
  exact ret1 rfl rfl ⟨(t8:Int),rfl,hh⟩
theorem qcv.ok (x:Fl) (lo:Int) (hi:Int) (k:Bool→H→Prop) (h:H) (hh:qcv.b x lo hi k h):CallsH Prog 231 [reg x,reg lo,reg hi].toArray h fun v h'=>∃ r:Bool,v = reg r∧k r h':=by
 unfold qcv.b at hh
 refine CallsH.of 24 Tryz.func231 rfl Tryz.ntmps231 rfl (fun w0=>?_)
 refine .sr (.A (reg false) (.nx ?_))
 refine CW.join (fun ρ h=>∃ (ρ':Env) (t6:Bool),ρ = setl ρ' [(6,reg t6)]∧(qcv.j1 k) t6 h) ?_ ?_
 ·refine CW.region ?_
  refine .M (reg x) (.M (reg lo) (.V (v_conv_fl un_3 un_284 rfl) (.V (v_fgeq rfl rfl) (.M (reg ((fge x (fnear lo)):Bool)) (.tv 11 rfl rfl rfl (fun hb=>qu (v:=reg (x:Fl)) rfl) rfl (.tv 11 rfl rfl rfl (fun hb=>qu (v:=reg (hi:Int)) rfl) rfl (.tv 11 rfl rfl rfl (fun hb=>v_conv_fl un_3 un_284 (gt hb)) rfl (.tv 11 rfl rfl rfl (fun hb=>v_fleq (gt hb) (gt hb)) rfl (.V (qd4 rfl (fun hb=>gt hb) rfl) ?_)))))))))
  refine .M (reg (((fge x (fnear lo)) && (fle x (fnear hi))):Bool)) ?_
  refine qbl hh (fun hb hh=>?_) (fun hb hh=>?_)
  ·refine .yv 17 rfl (cb hb) rfl (qu (v:=reg (x:Fl)) rfl) rfl (.yv 17 rfl (cb hb) rfl (qu (v:=reg (x:Fl)) rfl) rfl ?_)
   obtain ⟨t20,ht20,hh⟩:=hh
   refine .yv 17 rfl (cb hb) rfl (v_conv_cut un_284 un_3 rfl ht20) rfl (.yv 17 rfl (cb hb) rfl (v_conv_fl un_3 un_284 rfl) rfl (.yv 17 rfl (cb hb) rfl (v_feql rfl rfl) rfl (.V (qbx (v:=reg ((feq x (fnear t20)):Bool)) rfl hb rfl) (.A (reg ((feq x (fnear t20)):Bool)) ?_))))
   refine .nil ?_
   exact QN.thenJ ⟨_,(feq x (fnear t20)),qn ⟨rfl,trivial⟩,hh⟩
  ·refine .no 17 rfl (cb hb) rfl rfl (.no 17 rfl (cb hb) rfl rfl (.no 17 rfl (cb hb) rfl rfl (.no 17 rfl (cb hb) rfl rfl (.no 17 rfl (cb hb) rfl rfl (.V (qb0 (v:=reg false) rfl hb rfl) (.A (reg false) ?_))))))
   refine .nil ?_
   exact QN.thenJ ⟨_,false,qn ⟨rfl,trivial⟩,hh⟩
 ·rintro ρ h ⟨ρ',t6,rfl,hh⟩
  unfold qcv.j1 at hh
  refine CW.ret ?_
  exact ret1 rfl rfl ⟨(t6:Bool),rfl,hh⟩
theorem qcd.ok (n:Int) (r:Cx) (k:Int→H→Prop) (h:H) (hh:qcd.b n r k h):CallsH Prog 232 [reg n,reg r].toArray h fun v h'=>∃ r:Int,v = reg r∧k r h':=by
 unfold qcd.b at hh
 refine CallsH.of 22 Tryz.func232 rfl Tryz.ntmps232 rfl (fun w0=>?_)
 refine .sr (.A (reg ((0:Int):Int)) (.nx (.seq ?_)))
 refine CW.join (fun ρ h=>∃ (ρ':Env) (t12:Bool),ρ = setl ρ' [(0,reg n),(1,reg r),(12,reg t12)]∧(qcd.j1 k) n r t12 h) ?_ ?_
 ·refine CW.region ?_
  refine .M (reg n) (.V (qax rfl rfl) (.M (reg ((decide (n < (1:Int))):Bool)) ?_))
  refine qbl hh (fun hb hh=>?_) (fun hb hh=>?_)
  ·refine .no 8 rfl (cb hb) rfl rfl (.no 8 rfl (cb hb) rfl rfl (.no 8 rfl (cb hb) rfl rfl (.V (qbx (v:=reg true) rfl hb rfl) ?_)))
   refine .nil ?_
   exact QN.thenJ ⟨_,true,qn ⟨rfl,⟨rfl,⟨rfl,trivial⟩⟩⟩,hh⟩
  ·refine .yv 8 rfl (cb hb) rfl (qu (v:=reg (r:Cx)) rfl) rfl ?_
   refine .ye 8 rfl (cb hb) rfl (qw fn_138 rfl rfl hh ?_)
   intro h t10 hh
   refine .yv 8 rfl (cb hb) rfl (v_not rfl) rfl (.V (qb0 (v:=reg ((!t10):Bool)) rfl hb rfl) ?_)
   refine .nil ?_
   exact QN.thenJ ⟨_,(!t10),qn ⟨rfl,⟨rfl,⟨rfl,trivial⟩⟩⟩,hh⟩
 ·rintro ρ h ⟨ρ',t12,rfl,hh⟩
  unfold qcd.j1 at hh
  refine CW.cond t12 rfl (fun hb_1=>?_) (fun hb_1=>?_)
  ·have hh:=hh.1 hb_1
   refine .sr (.A (reg ((0:Int):Int)) (.nx ?_))
   refine CW.ret ?_
   refine QN.thenRet ?_
   exact ret1 rfl rfl ⟨((0:Int):Int),rfl,hh⟩
  ·have hh:=hh.2 hb_1
   refine CW.skip ?_
   refine QN.then_ ?_
   refine .sr (.M (reg r) (.V (v_real rfl) (.M (reg r) (.V (v_imag rfl) ?_))))
   obtain ⟨t17,ht17,hh⟩:=hh
   refine .V (v_fadd rfl rfl ht17) (.A (reg t17) (.nx (.sr (.M (reg t17) ?_))))
   obtain ⟨t19,ht19,hh⟩:=hh
   refine .V (v_conv_cut un_284 un_3 rfl ht19) (.M (reg n) ?_)
   obtain ⟨hm,hh⟩:=hh
   refine .V (v_irem rfl rfl hm) (.A (reg ((irem t19 n):Int)) (.nx ?_))
   refine CW.ret ?_
   exact ret1 rfl rfl ⟨((irem t19 n):Int),rfl,hh⟩
theorem disk_New.ok (k:Pt→H→Prop) (h:H) (hh:disk_New.b k h):CallsH Prog 38 ([]:List Value).toArray h fun v h'=>∃ r:Pt,v = reg r∧k r h':=by
 unfold disk_New.b at hh
 refine CallsH.of 4 Tryz.func38 rfl Tryz.ntmps38 rfl (fun w0=>?_)
 refine .sr (.A (reg ((none:Pt):Pt)) (.nx (.sr ?_)))
 refine .e (qba rfl hh ?_)
 intro h t1 hh
 refine .V (qah ({ qam.zero with files:=t1 }:qam) zo_169 pl_169 rfl (qf rfl rfl (yq _) (qdm _) rfl (set_169_files _ _) (rfl)) rfl) ?_
 refine qy hh (fun t3 ht3 hh=>?_)
 refine .e (qan ht3 rfl rfl rfl ?_)
 refine .A (.pointer (some t3)) (.nx ?_)
 refine CW.ret ?_
 exact ret1 rfl rfl ⟨((some t3):Pt),rfl,hh⟩
theorem state_New.ok (c:qa) (k:qb→H→Prop) (h:H) (hh:state_New.b c k h):CallsH Prog 92 [reg c].toArray h fun v h'=>∃ r:qb,v = reg r∧k r h':=by
 unfold state_New.b at hh
 refine CallsH.of 10 Tryz.func92 rfl Tryz.ntmps92 rfl (fun w0=>?_)
 refine .sr ?_
 refine qy hh (fun c_1 hc_1 hh=>?_)
 refine .e (qan hc_1 rfl rfl rfl ?_)
 refine qy hh (fun t2 ht2 hh=>?_)
 refine .e (qaq ht2 zo_65 rfl ?_)
 refine .nx (.seq ?_)
 refine CW.drawN 8 rfl ym [0,1,2,3,5,6] ?_
 refine .P 0 rfl (qd qfd rfl) (.KL 1 0 na_3 qcu rfl hh rfl (fun t4 hh=>.P 2 rfl (qd qbw rfl) (.KL 3 1 qdr qao rfl hh rfl (fun t6 hh=>?_))))
 refine .w 4 (by kernel_rfl) rfl (by kernel_rfl) (.e (qw fn_35 rfl rfl hh ?_))
 intro h t7 hh
 obtain ⟨hc,hh⟩:=hh
 refine ⟨⟨⟨trivial,.inr hc⟩,.inl (by kernel_rfl)⟩,?_⟩
 refine .P 5 rfl (qah ({ Epoch:=t4,Members:=t7 }:qa) zo_27 pl_27 rfl (qf rfl rfl (qp _) (qh _) rfl (set_27_Epoch _ _) (qf rfl rfl (yj _) (qh _) rfl (qft _ _) (rfl))) rfl) (.P 6 rfl (qah ({ qb.zero with Config:=({ Epoch:=t4,Members:=t7 }:qa) }:qb) zo_65 pl_65 rfl (qf rfl rfl (qh _) (qt _) rfl (set_65_Config _ _) (rfl)) rfl) ?_)
 obtain ⟨xw,hxw,hwxw,hh⟩:=hh
 refine .w 7 (by kernel_rfl) rfl (by kernel_rfl) (.e (qb7 (p:=t2) (nv:=enc (({ qb.zero with Config:=({ Epoch:=t4,Members:=t7 }:qa) }:qb):qb)) 0 rfl rfl rfl sz_65 (qb4 _) hxw hwxw (qt _) (qt _) rfl (qd5 xw (({ qb.zero with Config:=({ Epoch:=t4,Members:=t7 }:qa) }:qb):qb)) ?_))
 refine ⟨⟨⟨trivial,.inl (by kernel_rfl)⟩,.inl (by kernel_rfl)⟩,?_⟩
 refine .done (by kernel_rfl) ?_
 refine QN.then_ ?_
 refine CW.ret ?_
 obtain ⟨r2,⟨xr2,hxr2,hgr2⟩,hh⟩:=hh
 have hr2:=qc3 hxr2 hgr2
 exact retc rfl rfl ag_65 hr2 (qt _) ⟨(r2:qb),rfl,hh⟩
theorem qei.ok (d:Pt) (name:ByteArray) (k:(T2 Sl Int)→H→Prop) (h:H) (hh:qei.b d name k h):CallsH Prog 143 [reg d,reg name].toArray h fun v h'=>∃ r:T2 Sl Int,v = reg r∧k r h':=by
 unfold qei.b at hh
 refine CallsH.of 40 Tryz.func143 rfl Tryz.ntmps143 rfl (fun w0=>?_)
 refine .sr (.A (reg (Sl.nil:Sl)) (.A (reg ((0:Int):Int)) (.nx (.seq ?_))))
 refine CW.block ?_
 refine .sr (.M (reg d) (.V (qbq pt_59 rfl rfl) (.A (reg (d.isNone:Bool)) (.nx ?_))))
 refine CW.cond d.isNone rfl (fun hb=>?_) (fun hb=>?_)
 ·have hh:=hh.1 hb
  refine .sr (.A (reg (Sl.nil:Sl)) (.A (reg ((2:Int):Int)) (.nx ?_)))
  refine CW.ret ?_
  refine QN.blockRet ?_
  refine QN.thenRet ?_
  exact ret2 rfl rfl rfl ⟨(⟨Sl.nil,(2:Int)⟩:T2 Sl Int),rfl,hh⟩
 ·have hh:=hh.2 hb
  refine .sr (.M (reg d) ?_)
  obtain ⟨p,hp,hh⟩:=hh
  refine .V (qv (congrArg Value.pointer hp)) (.V (qd fl_169_1 rfl) (.L 1 na_4 get_169_down hh rfl (fun t14 hh=>.A (reg t14) (.nx ?_))))
  refine CW.cond t14 rfl (fun hb_1=>?_) (fun hb_1=>?_)
  ·have hh:=hh.1 hb_1
   refine .sr (.A (reg (Sl.nil:Sl)) (.A (reg ((21:Int):Int)) (.nx ?_)))
   refine CW.ret ?_
   refine QN.blockRet ?_
   refine QN.thenRet ?_
   exact ret2 rfl rfl rfl ⟨(⟨Sl.nil,(21:Int)⟩:T2 Sl Int),rfl,hh⟩
  ·have hh:=hh.2 hb_1
   refine .sr (.M (reg d) (.V (qv (congrArg Value.pointer hp)) (.V (qd fl_169_0 rfl) (.L 0 na_167 qfx hh rfl (fun t19 hh=>.M (reg name) ?_)))))
   obtain ⟨t21,⟨xt21,hxt21,hgt21⟩,hh⟩:=hh
   refine .V (qdl mt_167 kt_9 zv_172 rfl rfl hxt21 hgt21) (.V (qbq pt_172 rfl rfl) (.A (reg (t21.isNone:Bool)) (.nx ?_)))
   refine CW.cond t21.isNone rfl (fun hb_2=>?_) (fun hb_2=>?_)
   ·have hh:=hh.1 hb_2
    refine .sr (.A (reg (Sl.nil:Sl)) (.A (reg ((7:Int):Int)) (.nx ?_)))
    refine CW.ret ?_
    refine QN.blockRet ?_
    refine QN.thenRet ?_
    exact ret2 rfl rfl rfl ⟨(⟨Sl.nil,(7:Int)⟩:T2 Sl Int),rfl,hh⟩
   ·have hh:=hh.2 hb_2
    refine CW.skip ?_
    refine QN.blockN ?_
    refine QN.then_ ?_
    refine .sr (.M (reg d) (.V (qv (congrArg Value.pointer hp)) (.V (qd fl_169_0 rfl) (.L 0 na_167 qfx hh rfl (fun t26 hh=>.M (reg name) ?_)))))
    obtain ⟨t28,⟨xt28,hxt28,hgt28⟩,hh⟩:=hh
    refine .V (qdl mt_167 kt_9 zv_172 rfl rfl hxt28 hgt28) (.A (reg t28) (.nx (.seq ?_)))
    refine CW.drawN 13 rfl ym [1,2,3,4,6,7,8,9,11,12] ?_
    refine .P 1 rfl (qu (v:=reg t28) rfl) ?_
    obtain ⟨p_1,hp_1,hh⟩:=hh
    refine .P 2 rfl (qv (congrArg Value.pointer hp_1)) (.P 3 rfl (qd fl_175_0 rfl) (.KL 4 0 na_173 get_175_safe rfl hh rfl (fun t33 hh=>.P 6 rfl (qu (v:=reg t28) rfl) (.P 7 rfl (qv (congrArg Value.pointer hp_1)) (.P 8 rfl (qd fl_175_1 rfl) (.KL 9 1 na_173 qfy rfl hh rfl (fun t38 hh=>?_)))))))
    refine qbd hh (fun pt29 t29 hpt29 ht29 hh=>?_)
    refine .w 0 (by kernel_rfl) rfl (by kernel_rfl) (.e (qc1 ([]:List UInt8) hpt29 ht29 zo_5 qbc rfl rfl rfl rfl rfl ?_))
    obtain ⟨hc,hh⟩:=hh
    obtain ⟨hc_1,hh⟩:=hh
    refine ⟨⟨⟨trivial,.inr hc⟩,.inr hc_1⟩,?_⟩
    refine .w 5 (by kernel_rfl) rfl (by kernel_rfl) (.e (e_app qbc zo_5 by_5 rfl rfl rfl hh ?_))
    intro h t34 hh
    obtain ⟨hc_2,hh⟩:=hh
    refine ⟨⟨⟨trivial,.inl (by kernel_rfl)⟩,.inr hc_2⟩,?_⟩
    refine .w 10 (by kernel_rfl) rfl (by kernel_rfl) (.e (e_app qbc zo_5 by_5 rfl rfl rfl hh ?_))
    intro h t39 hh
    refine ⟨⟨⟨trivial,.inl (by kernel_rfl)⟩,.inl (by kernel_rfl)⟩,?_⟩
    refine .P 11 rfl (qad (v:=reg t39) rfl) (.P 12 rfl (qad (v:=reg ((0:Int):Int)) rfl) ?_)
    refine .done (by kernel_rfl) ?_
    refine QN.then_ ?_
    refine CW.ret ?_
    exact ret2 rfl rfl rfl ⟨(⟨t39,(0:Int)⟩:T2 Sl Int),rfl,hh⟩
theorem snap_Load.ok (d:Pt) (name:ByteArray) (k:(T2 yt Int)→H→Prop) (h:H) (hh:snap_Load.b d name k h):CallsH Prog 95 [reg d,reg name].toArray h fun v h'=>∃ r:T2 yt Int,v = reg r∧k r h':=by
 unfold snap_Load.b at hh
 refine CallsH.of 22 Tryz.func95 rfl Tryz.ntmps95 rfl (fun w0=>?_)
 refine .sr ?_
 refine qy hh (fun t4 ht4 hh=>?_)
 refine .e (qaq ht4 zo_217 rfl ?_)
 refine .A (reg ((0:Int):Int)) (.nx (.sr (.M (reg d) (.M (reg name) ?_))))
 refine .e (qw fn_143 rfl rfl hh ?_)
 intro h t11 hh
 refine .M (reg (t11:T2 Sl Int)) (.V (qar (v:=reg (t11.a:Sl)) rfl rfl) (.V (qar (v:=reg (t11.b:Int)) rfl rfl) (.A (reg (t11.a:Sl)) (.A (reg (t11.b:Int)) (.nx (.seq (.sr (.M (reg (t11.b:Int)) (.V (qdz rfl rfl) (.nx ?_))))))))))
 refine CW.cond (t11.b != (0:Int)) rfl (fun hb=>?_) (fun hb=>?_)
 ·have hh:=hh.1 hb
  refine .sr (.V (qah yt.zero zo_217 pl_217 rfl (rfl) rfl) (.M (reg (t11.b:Int)) (.S (yt.zero:yt) 0 sz_217 (one_api_Snap _) qbu (qbu _) (fun x=>set_217_all x (yt.zero:yt)) hh rfl rfl (fun _ hh=>.A (reg (t11.b:Int)) (.nx ?_)))))
  refine CW.ret ?_
  refine QN.thenRet ?_
  obtain ⟨r4,⟨xr4,hxr4,hgr4⟩,hh⟩:=hh
  have hr4:=qc3 hxr4 hgr4
  exact retc1 rfl rfl ag_217 hr4 (qbu _) rfl ⟨(⟨r4,t11.b⟩:T2 yt Int),rfl,hh⟩
 ·have hh:=hh.2 hb
  refine CW.skip ?_
  refine QN.then_ ?_
  refine .sr (.M (reg (t11.a:Sl)) ?_)
  refine .e (qw fn_144 rfl rfl hh ?_)
  intro h t19 hh
  refine .V (qar (v:=reg (t19.a:yt)) rfl rfl) (.V (qar (v:=reg (t19.b:Int)) rfl rfl) (.S (t19.a:yt) 0 sz_217 (one_api_Snap _) qbu (qbu _) (fun x=>set_217_all x (t19.a:yt)) hh rfl rfl (fun _ hh=>.A (reg (t19.b:Int)) (.nx ?_))))
  refine CW.ret ?_
  obtain ⟨r4_1,⟨xr4_1,hxr4_1,hgr4_1⟩,hh⟩:=hh
  have hr4_1:=qc3 hxr4_1 hgr4_1
  exact retc1 rfl rfl ag_217 hr4_1 (qbu _) rfl ⟨(⟨r4_1,t19.b⟩:T2 yt Int),rfl,hh⟩
theorem qd9.ok (d:Pt) (name:ByteArray) (k:(T3 Pt Sl Int)→H→Prop) (h:H) (hh:qd9.b d name k h):CallsH Prog 96 [reg d,reg name].toArray h fun v h'=>∃ r:T3 Pt Sl Int,v = reg r∧k r h':=by
 unfold qd9.b at hh
 refine CallsH.of 57 Tryz.func96 rfl Tryz.ntmps96 rfl (fun w0=>?_)
 refine .sr (.A (reg ((none:Pt):Pt)) (.A (reg (Sl.nil:Sl)) (.A (reg ((0:Int):Int)) (.nx (.sr (.M (reg d) (.M (reg name) ?_)))))))
 refine .e (qw fn_143 rfl rfl hh ?_)
 intro h t16 hh
 refine .M (reg (t16:T2 Sl Int)) (.V (qar (v:=reg (t16.a:Sl)) rfl rfl) (.V (qar (v:=reg (t16.b:Int)) rfl rfl) (.A (reg (t16.a:Sl)) (.A (reg (t16.b:Int)) (.nx (.seq (.sr (.M (reg (t16.b:Int)) (.V (qeh rfl rfl) (.nx ?_))))))))))
 refine CW.cond (t16.b == (7:Int)) rfl (fun hb=>?_) (fun hb=>?_)
 ·have hh:=hh.1 hb
  refine .sr (.M (reg d) (.M (reg name) (.V (qah ({ d:=d,name:=name }:qck) zo_296 pl_296 rfl (qf rfl rfl (qx _) (qfw _) rfl (set_296_d _ _) (qf rfl rfl (len_s _) (qfw _) rfl (set_296_name _ _) (rfl))) rfl) ?_)))
  refine qy hh (fun t24 ht24 hh=>?_)
  refine .e (qan ht24 rfl rfl rfl ?_)
  refine .A (.pointer (some t24)) (.A (reg (Sl.nil:Sl)) (.A (reg ((0:Int):Int)) (.nx ?_)))
  refine CW.ret ?_
  refine QN.thenRet ?_
  exact ret3 rfl rfl rfl rfl ⟨(⟨(some t24),Sl.nil,(0:Int)⟩:T3 Pt Sl Int),rfl,hh⟩
 ·have hh:=hh.2 hb
  refine CW.skip ?_
  refine QN.then_ ?_
  refine CW.seq ?_
  refine .sr (.M (reg (t16.b:Int)) (.V (qdz rfl rfl) (.nx ?_)))
  refine CW.cond (t16.b != (0:Int)) rfl (fun hb_1=>?_) (fun hb_1=>?_)
  ·have hh:=hh.1 hb_1
   refine .sr (.M (reg (t16.b:Int)) (.A (reg ((none:Pt):Pt)) (.A (reg (Sl.nil:Sl)) (.A (reg (t16.b:Int)) (.nx ?_)))))
   refine CW.ret ?_
   refine QN.thenRet ?_
   exact ret3 rfl rfl rfl rfl ⟨(⟨(none:Pt),Sl.nil,t16.b⟩:T3 Pt Sl Int),rfl,hh⟩
  ·have hh:=hh.2 hb_1
   refine CW.skip ?_
   refine QN.then_ ?_
   refine .sr (.M (reg (t16.a:Sl)) ?_)
   refine .e (qw fn_145 rfl rfl hh ?_)
   intro h t30 hh
   refine .M (reg (t30:T2 Sl Int)) (.V (qar (v:=reg (t30.a:Sl)) rfl rfl) (.V (qar (v:=reg (t30.b:Int)) rfl rfl) (.A (reg (t30.a:Sl)) (.A (reg (t30.b:Int)) (.nx ?_)))))
   refine CW.join (fun ρ h=>∃ (ρ':Env),ρ = setl ρ' [(0,reg d),(1,reg name),(9,reg (t30.a:Sl))]∧(qd9.j1 k) d name t30.a h) ?_ ?_
   ·refine .sr (.M (reg (t30.b:Int)) (.M (reg (t16.a:Sl)) (.V (qag (qbc).1 rfl) (.V (qax rfl rfl) (.nx ?_)))))
    refine CW.cond (decide (t30.b < (t16.a.len:Int))) rfl (fun hb_2=>?_) (fun hb_2=>?_)
    ·have hh:=hh.1 hb_2
     refine .sr (.M (reg d) (.M (reg name) (.M (reg (t16.a:Sl)) (.M (reg (t30.b:Int)) ?_))))
     obtain ⟨hm,hh⟩:=hh
     refine .V (v_slice_hh qbc rfl rfl hm.1 hm.2) ?_
     refine .e (qw fn_146 rfl rfl hh ?_)
     intro h t42 hh
     refine .A (reg t42) (.nx (.sr (.M (reg t42) (.V (qdz rfl rfl) (.nx ?_)))))
     refine CW.cond (t42 != (0:Int)) rfl (fun hb_3=>?_) (fun hb_3=>?_)
     ·have hh:=hh.1 hb_3
      refine .sr (.M (reg t42) (.A (reg ((none:Pt):Pt)) (.A (reg (Sl.nil:Sl)) (.A (reg t42) (.nx ?_)))))
      refine CW.ret ?_
      refine QN.thenRet ?_
      exact ret3 rfl rfl rfl rfl ⟨(⟨(none:Pt),Sl.nil,t42⟩:T3 Pt Sl Int),rfl,hh⟩
     ·have hh:=hh.2 hb_3
      refine CW.skip ?_
      exact QN.thenJ ⟨_,qn ⟨rfl,⟨rfl,⟨rfl,trivial⟩⟩⟩,hh⟩
    ·have hh:=hh.2 hb_2
     refine CW.skip ?_
     exact QN.thenJ ⟨_,qn ⟨rfl,⟨rfl,⟨rfl,trivial⟩⟩⟩,hh⟩
   ·rintro ρ h ⟨ρ',rfl,hh⟩
    unfold qd9.j1 at hh
    refine CW.seq ?_
    refine .sr (.M (reg d) (.M (reg name) ?_))
    refine .e (qw fn_147 rfl rfl hh ?_)
    intro h t48 hh
    refine .A (reg t48) (.nx (.sr (.M (reg t48) (.V (qdz rfl rfl) (.nx ?_)))))
    refine CW.cond (t48 != (0:Int)) rfl (fun hb_4=>?_) (fun hb_4=>?_)
    ·have hh:=hh.1 hb_4
     refine .sr (.M (reg t48) (.A (reg ((none:Pt):Pt)) (.A (reg (Sl.nil:Sl)) (.A (reg t48) (.nx ?_)))))
     refine CW.ret ?_
     refine QN.thenRet ?_
     exact ret3 rfl rfl rfl rfl ⟨(⟨(none:Pt),Sl.nil,t48⟩:T3 Pt Sl Int),rfl,hh⟩
    ·have hh:=hh.2 hb_4
     refine CW.skip ?_
     refine QN.then_ ?_
     refine .sr (.M (reg d) (.M (reg name) (.V (qah ({ d:=d,name:=name }:qck) zo_296 pl_296 rfl (qf rfl rfl (qx _) (qfw _) rfl (set_296_d _ _) (qf rfl rfl (len_s _) (qfw _) rfl (set_296_name _ _) (rfl))) rfl) ?_)))
     refine qy hh (fun t55 ht55 hh=>?_)
     refine .e (qan ht55 rfl rfl rfl ?_)
     refine .M (reg (t30.a:Sl)) (.A (.pointer (some t55)) (.A (reg (t30.a:Sl)) (.A (reg ((0:Int):Int)) (.nx ?_))))
     refine CW.ret ?_
     exact ret3 rfl rfl rfl rfl ⟨(⟨(some t55),t30.a,(0:Int)⟩:T3 Pt Sl Int),rfl,hh⟩
theorem qff.ok (k:Pt→H→Prop) (h:H) (hh:qff.b k h):CallsH Prog 288 ([]:List Value).toArray h fun v h'=>∃ r:Pt,v = reg r∧k r h':=by
 unfold qff.b at hh
 refine CallsH.of 4 Tryz.func288 rfl Tryz.ntmps288 rfl (fun w0=>?_)
 refine .sr (.A (reg ((none:Pt):Pt)) (.nx (.sr ?_)))
 refine .e (qba rfl hh ?_)
 intro h t1 hh
 refine .V (qah ({ votes:=t1 }:qdk) zo_378 pl_378 rfl (qf rfl rfl (yq _) (len_vote_Box _) rfl (set_378_votes _ _) (rfl)) rfl) ?_
 refine qy hh (fun t3 ht3 hh=>?_)
 refine .e (qan ht3 rfl rfl rfl ?_)
 refine .A (.pointer (some t3)) (.nx ?_)
 refine CW.ret ?_
 exact ret1 rfl rfl ⟨((some t3):Pt),rfl,hh⟩
theorem qas.ok (c:qa) (me:Int) (height:Int) (base:Int) (k:Pt→H→Prop) (h:H) (hh:qas.b c me height base k h):CallsH Prog 226 [reg c,reg me,reg height,reg base].toArray h fun v h'=>∃ r:Pt,v = reg r∧k r h':=by
 unfold qas.b at hh
 refine CallsH.of 34 Tryz.func226 rfl Tryz.ntmps226 rfl (fun w0=>?_)
 refine .sr ?_
 refine qy hh (fun c_1 hc_1 hh=>?_)
 refine .e (qan hc_1 rfl rfl rfl ?_)
 refine .A (reg ((none:Pt):Pt)) (.nx (.seq ?_))
 refine CW.join (fun ρ h=>∃ (ρ':Env) (t17:Bool),ρ = setl ρ' [(1,reg me),(2,reg height),(3,reg base),(4,.pointer (some c_1)),(17,reg t17)]∧(qas.j1 k) me height base c_1 t17 h) ?_ ?_
 ·refine CW.region ?_
  refine .LA 0 ag_27 qcg (fun _=>(qh _)) hh rfl (fun t9 hh=>?_)
  refine .e (qw fn_36 rfl rfl hh ?_)
  intro h t10 hh
  refine .V (v_not rfl) (.M (reg ((!t10):Bool)) ?_)
  refine qbl hh (fun hb hh=>?_) (fun hb hh=>?_)
  ·refine .no 12 rfl (cb hb) rfl rfl (.no 12 rfl (cb hb) rfl rfl (.no 12 rfl (cb hb) rfl rfl (.no 12 rfl (cb hb) rfl rfl (.V (qbx (v:=reg true) rfl hb rfl) ?_))))
   refine .nil ?_
   exact QN.thenJ ⟨_,true,qn ⟨rfl,⟨rfl,⟨rfl,⟨rfl,⟨rfl,trivial⟩⟩⟩⟩⟩,hh⟩
  ·refine .yv 12 rfl (cb hb) rfl (qu (v:=reg (height:Int)) rfl) rfl ?_
   refine .ye 12 rfl (cb hb) rfl (qw fn_139 rfl rfl hh ?_)
   intro h t14 hh
   refine .ye 12 rfl (cb hb) rfl (qw fn_138 rfl rfl hh ?_)
   intro h t15 hh
   refine .yv 12 rfl (cb hb) rfl (v_not rfl) rfl (.V (qb0 (v:=reg ((!t15):Bool)) rfl hb rfl) ?_)
   refine .nil ?_
   exact QN.thenJ ⟨_,(!t15),qn ⟨rfl,⟨rfl,⟨rfl,⟨rfl,⟨rfl,trivial⟩⟩⟩⟩⟩,hh⟩
 ·rintro ρ h ⟨ρ',t17,rfl,hh⟩
  unfold qas.j1 at hh
  refine CW.cond t17 rfl (fun hb_1=>?_) (fun hb_1=>?_)
  ·have hh:=hh.1 hb_1
   refine .sr (.A (reg ((none:Pt):Pt)) (.nx ?_))
   refine CW.ret ?_
   refine QN.thenRet ?_
   exact ret1 rfl rfl ⟨((none:Pt):Pt),rfl,hh⟩
  ·have hh:=hh.2 hb_1
   refine CW.skip ?_
   refine QN.then_ ?_
   refine .sr (.V (qd qbw rfl) (.L 1 qdr qao hh rfl (fun t19 hh=>?_)))
   refine .e (qw fn_35 rfl rfl hh ?_)
   intro h t20 hh
   refine .V (qd qbw rfl) (.S (t20:Sl) 1 sz_25 (qd1 _) qh (yj _) (fun x=>qft x (t20:Sl)) hh rfl rfl (fun _ hh=>.nx ?_))
   refine CW.join (fun ρ h=>∃ (ρ':Env) (t8:Addr),ρ = setl ρ' [(8,.pointer (some t8))]∧(qas.j2 k) t8 h) ?_ ?_
   ·refine CW.drawN 13 rfl ym [0,1,2,3,5,6,10,12] ?_
    refine .KA 0 0 ag_27 qcg (fun _=>(qh _)) rfl hh rfl (fun t22 hh=>.P 1 rfl (qu (v:=reg me) rfl) (.P 2 rfl (qu (v:=reg base) rfl) (.P 3 rfl (qu (v:=reg height) rfl) (.P 5 rfl (qah ({ qi.zero with round:=(-1:Int) }:qi) zo_202 pl_202 rfl (qf rfl rfl (qp _) (yc _) rfl (set_202_round _ _) (rfl)) rfl) (.P 6 rfl (qah ({ qi.zero with round:=(-1:Int) }:qi) zo_202 pl_202 rfl (qf rfl rfl (qp _) (yc _) rfl (set_202_round _ _) (rfl)) rfl) ?_)))))
    refine .w3 4 7 8 (by kernel_rfl) rfl rfl rfl (by kernel_rfl) (by kernel_rfl) (by kernel_rfl) ?_ ?_ ?_
    ·have hh:=hh.1
     refine .e (qw fn_139 rfl rfl hh ?_)
     intro h t26 hh
     obtain ⟨hc,hh⟩:=hh
     refine ⟨⟨trivial,.inr hc⟩,?_⟩
     refine .w3 7 8 9 (by kernel_rfl) rfl rfl rfl (by kernel_rfl) (by kernel_rfl) (by kernel_rfl) ?_ ?_ ?_
     ·have hh:=hh.1
      refine .e (qba rfl hh ?_)
      intro h t29 hh
      obtain ⟨hc_1,hh⟩:=hh
      refine ⟨⟨trivial,.inr hc_1⟩,?_⟩
      refine .w2 8 9 (by kernel_rfl) rfl rfl (by kernel_rfl) (by kernel_rfl) ?_ ?_
      ·have hh:=hh.1
       refine .e (qba rfl hh ?_)
       intro h t30 hh
       obtain ⟨hc_2,hh⟩:=hh
       refine ⟨⟨trivial,.inr hc_2⟩,?_⟩
       refine .w 9 (by kernel_rfl) rfl (by kernel_rfl) (.e (qw fn_288 rfl rfl hh ?_))
       intro h t31 hh
       obtain ⟨hc_3,hh⟩:=hh
       refine ⟨⟨trivial,.inr hc_3⟩,?_⟩
       refine .P 10 rfl (qah ({ qs.zero with config:=t22,me:=me,base:=base,at_:=t26,locked:=({ qi.zero with round:=(-1:Int) }:qi),valid:=({ qi.zero with round:=(-1:Int) }:qi),plans:=t29,blocks:=t30,box:=t31 }:qs) zo_205 pl_205 rfl (qf rfl rfl (qh _) (qe _) rfl (qbf _ _) (qf rfl rfl (qp _) (qe _) rfl (qch _ _) (qf rfl rfl (qp _) (qe _) rfl (qbv _ _) (qf rfl rfl (qcj _) (qe _) rfl (qcf _ _) (qf rfl rfl (yc _) (qe _) rfl (qbg _ _) (qf rfl rfl (yc _) (qe _) rfl (qbo _ _) (qf rfl rfl (yq _) (qe _) rfl (qbn _ _) (qf rfl rfl (yq _) (qe _) rfl (qbe _ _) (qf rfl rfl (qx _) (qe _) rfl (qb3 _ _) (rfl)))))))))) rfl) ?_
       refine qy hh (fun t33 ht33 hh=>?_)
       refine .w 11 (by kernel_rfl) rfl (by kernel_rfl) (.e (qan ht33 rfl rfl rfl ?_))
       refine ⟨⟨trivial,.inl (by kernel_rfl)⟩,?_⟩
       refine .P 12 rfl (qad (v:=.pointer (some t33)) rfl) ?_
       refine .done (by kernel_rfl) ?_
       exact QN.thenJ ⟨_,t33,qn ⟨rfl,trivial⟩,hh⟩
      ·have hh:=hh.2
       refine .e (qw fn_288 rfl rfl hh ?_)
       intro h t31_1 hh
       obtain ⟨hc_4,hh⟩:=hh
       refine ⟨⟨trivial,.inr hc_4⟩,?_⟩
       refine .w 8 (by kernel_rfl) rfl (by kernel_rfl) (.e (qba rfl hh ?_))
       intro h t30_1 hh
       obtain ⟨hc_5,hh⟩:=hh
       refine ⟨⟨trivial,.inr hc_5⟩,?_⟩
       refine .P 10 rfl (qah ({ qs.zero with config:=t22,me:=me,base:=base,at_:=t26,locked:=({ qi.zero with round:=(-1:Int) }:qi),valid:=({ qi.zero with round:=(-1:Int) }:qi),plans:=t29,blocks:=t30_1,box:=t31_1 }:qs) zo_205 pl_205 rfl (qf rfl rfl (qh _) (qe _) rfl (qbf _ _) (qf rfl rfl (qp _) (qe _) rfl (qch _ _) (qf rfl rfl (qp _) (qe _) rfl (qbv _ _) (qf rfl rfl (qcj _) (qe _) rfl (qcf _ _) (qf rfl rfl (yc _) (qe _) rfl (qbg _ _) (qf rfl rfl (yc _) (qe _) rfl (qbo _ _) (qf rfl rfl (yq _) (qe _) rfl (qbn _ _) (qf rfl rfl (yq _) (qe _) rfl (qbe _ _) (qf rfl rfl (qx _) (qe _) rfl (qb3 _ _) (rfl)))))))))) rfl) ?_
       refine qy hh (fun t33_1 ht33_1 hh=>?_)
       refine .w 11 (by kernel_rfl) rfl (by kernel_rfl) (.e (qan ht33_1 rfl rfl rfl ?_))
       refine ⟨⟨trivial,.inl (by kernel_rfl)⟩,?_⟩
       refine .P 12 rfl (qad (v:=.pointer (some t33_1)) rfl) ?_
       refine .done (by kernel_rfl) ?_
       exact QN.thenJ ⟨_,t33_1,qn ⟨rfl,trivial⟩,hh⟩
     ·have hh:=hh.2.1
      refine .e (qba rfl hh ?_)
      intro h t30_2 hh
      obtain ⟨hc_6,hh⟩:=hh
      refine ⟨⟨trivial,.inr hc_6⟩,?_⟩
      refine .w2 7 9 (by kernel_rfl) rfl rfl (by kernel_rfl) (by kernel_rfl) ?_ ?_
      ·have hh:=hh.1
       refine .e (qba rfl hh ?_)
       intro h t29_1 hh
       obtain ⟨hc_7,hh⟩:=hh
       refine ⟨⟨trivial,.inr hc_7⟩,?_⟩
       refine .w 9 (by kernel_rfl) rfl (by kernel_rfl) (.e (qw fn_288 rfl rfl hh ?_))
       intro h t31_2 hh
       obtain ⟨hc_8,hh⟩:=hh
       refine ⟨⟨trivial,.inr hc_8⟩,?_⟩
       refine .P 10 rfl (qah ({ qs.zero with config:=t22,me:=me,base:=base,at_:=t26,locked:=({ qi.zero with round:=(-1:Int) }:qi),valid:=({ qi.zero with round:=(-1:Int) }:qi),plans:=t29_1,blocks:=t30_2,box:=t31_2 }:qs) zo_205 pl_205 rfl (qf rfl rfl (qh _) (qe _) rfl (qbf _ _) (qf rfl rfl (qp _) (qe _) rfl (qch _ _) (qf rfl rfl (qp _) (qe _) rfl (qbv _ _) (qf rfl rfl (qcj _) (qe _) rfl (qcf _ _) (qf rfl rfl (yc _) (qe _) rfl (qbg _ _) (qf rfl rfl (yc _) (qe _) rfl (qbo _ _) (qf rfl rfl (yq _) (qe _) rfl (qbn _ _) (qf rfl rfl (yq _) (qe _) rfl (qbe _ _) (qf rfl rfl (qx _) (qe _) rfl (qb3 _ _) (rfl)))))))))) rfl) ?_
       refine qy hh (fun t33_2 ht33_2 hh=>?_)
       refine .w 11 (by kernel_rfl) rfl (by kernel_rfl) (.e (qan ht33_2 rfl rfl rfl ?_))
       refine ⟨⟨trivial,.inl (by kernel_rfl)⟩,?_⟩
       refine .P 12 rfl (qad (v:=.pointer (some t33_2)) rfl) ?_
       refine .done (by kernel_rfl) ?_
       exact QN.thenJ ⟨_,t33_2,qn ⟨rfl,trivial⟩,hh⟩
      ·have hh:=hh.2
       refine .e (qw fn_288 rfl rfl hh ?_)
       intro h t31_3 hh
       obtain ⟨hc_9,hh⟩:=hh
       refine ⟨⟨trivial,.inr hc_9⟩,?_⟩
       refine .w 7 (by kernel_rfl) rfl (by kernel_rfl) (.e (qba rfl hh ?_))
       intro h t29_2 hh
       obtain ⟨hc_10,hh⟩:=hh
       refine ⟨⟨trivial,.inr hc_10⟩,?_⟩
       refine .P 10 rfl (qah ({ qs.zero with config:=t22,me:=me,base:=base,at_:=t26,locked:=({ qi.zero with round:=(-1:Int) }:qi),valid:=({ qi.zero with round:=(-1:Int) }:qi),plans:=t29_2,blocks:=t30_2,box:=t31_3 }:qs) zo_205 pl_205 rfl (qf rfl rfl (qh _) (qe _) rfl (qbf _ _) (qf rfl rfl (qp _) (qe _) rfl (qch _ _) (qf rfl rfl (qp _) (qe _) rfl (qbv _ _) (qf rfl rfl (qcj _) (qe _) rfl (qcf _ _) (qf rfl rfl (yc _) (qe _) rfl (qbg _ _) (qf rfl rfl (yc _) (qe _) rfl (qbo _ _) (qf rfl rfl (yq _) (qe _) rfl (qbn _ _) (qf rfl rfl (yq _) (qe _) rfl (qbe _ _) (qf rfl rfl (qx _) (qe _) rfl (qb3 _ _) (rfl)))))))))) rfl) ?_
       refine qy hh (fun t33_3 ht33_3 hh=>?_)
       refine .w 11 (by kernel_rfl) rfl (by kernel_rfl) (.e (qan ht33_3 rfl rfl rfl ?_))
       refine ⟨⟨trivial,.inl (by kernel_rfl)⟩,?_⟩
       refine .P 12 rfl (qad (v:=.pointer (some t33_3)) rfl) ?_
       refine .done (by kernel_rfl) ?_
       exact QN.thenJ ⟨_,t33_3,qn ⟨rfl,trivial⟩,hh⟩
     ·have hh:=hh.2.2
      refine .e (qw fn_288 rfl rfl hh ?_)
      intro h t31_4 hh
      obtain ⟨hc_11,hh⟩:=hh
      refine ⟨⟨trivial,.inr hc_11⟩,?_⟩
      refine .w2 7 8 (by kernel_rfl) rfl rfl (by kernel_rfl) (by kernel_rfl) ?_ ?_
      ·have hh:=hh.1
       refine .e (qba rfl hh ?_)
       intro h t29_3 hh
       obtain ⟨hc_12,hh⟩:=hh
       refine ⟨⟨trivial,.inr hc_12⟩,?_⟩
       refine .w 8 (by kernel_rfl) rfl (by kernel_rfl) (.e (qba rfl hh ?_))
       intro h t30_3 hh
       obtain ⟨hc_13,hh⟩:=hh
       refine ⟨⟨trivial,.inr hc_13⟩,?_⟩
       refine .P 10 rfl (qah ({ qs.zero with config:=t22,me:=me,base:=base,at_:=t26,locked:=({ qi.zero with round:=(-1:Int) }:qi),valid:=({ qi.zero with round:=(-1:Int) }:qi),plans:=t29_3,blocks:=t30_3,box:=t31_4 }:qs) zo_205 pl_205 rfl (qf rfl rfl (qh _) (qe _) rfl (qbf _ _) (qf rfl rfl (qp _) (qe _) rfl (qch _ _) (qf rfl rfl (qp _) (qe _) rfl (qbv _ _) (qf rfl rfl (qcj _) (qe _) rfl (qcf _ _) (qf rfl rfl (yc _) (qe _) rfl (qbg _ _) (qf rfl rfl (yc _) (qe _) rfl (qbo _ _) (qf rfl rfl (yq _) (qe _) rfl (qbn _ _) (qf rfl rfl (yq _) (qe _) rfl (qbe _ _) (qf rfl rfl (qx _) (qe _) rfl (qb3 _ _) (rfl)))))))))) rfl) ?_
       refine qy hh (fun t33_4 ht33_4 hh=>?_)
       refine .w 11 (by kernel_rfl) rfl (by kernel_rfl) (.e (qan ht33_4 rfl rfl rfl ?_))
       refine ⟨⟨trivial,.inl (by kernel_rfl)⟩,?_⟩
       refine .P 12 rfl (qad (v:=.pointer (some t33_4)) rfl) ?_
       refine .done (by kernel_rfl) ?_
       exact QN.thenJ ⟨_,t33_4,qn ⟨rfl,trivial⟩,hh⟩
      ·have hh:=hh.2
       refine .e (qba rfl hh ?_)
       intro h t30_4 hh
       obtain ⟨hc_14,hh⟩:=hh
       refine ⟨⟨trivial,.inr hc_14⟩,?_⟩
       refine .w 7 (by kernel_rfl) rfl (by kernel_rfl) (.e (qba rfl hh ?_))
       intro h t29_4 hh
       obtain ⟨hc_15,hh⟩:=hh
       refine ⟨⟨trivial,.inr hc_15⟩,?_⟩
       refine .P 10 rfl (qah ({ qs.zero with config:=t22,me:=me,base:=base,at_:=t26,locked:=({ qi.zero with round:=(-1:Int) }:qi),valid:=({ qi.zero with round:=(-1:Int) }:qi),plans:=t29_4,blocks:=t30_4,box:=t31_4 }:qs) zo_205 pl_205 rfl (qf rfl rfl (qh _) (qe _) rfl (qbf _ _) (qf rfl rfl (qp _) (qe _) rfl (qch _ _) (qf rfl rfl (qp _) (qe _) rfl (qbv _ _) (qf rfl rfl (qcj _) (qe _) rfl (qcf _ _) (qf rfl rfl (yc _) (qe _) rfl (qbg _ _) (qf rfl rfl (yc _) (qe _) rfl (qbo _ _) (qf rfl rfl (yq _) (qe _) rfl (qbn _ _) (qf rfl rfl (yq _) (qe _) rfl (qbe _ _) (qf rfl rfl (qx _) (qe _) rfl (qb3 _ _) (rfl)))))))))) rfl) ?_
       refine qy hh (fun t33_5 ht33_5 hh=>?_)
       refine .w 11 (by kernel_rfl) rfl (by kernel_rfl) (.e (qan ht33_5 rfl rfl rfl ?_))
       refine ⟨⟨trivial,.inl (by kernel_rfl)⟩,?_⟩
       refine .P 12 rfl (qad (v:=.pointer (some t33_5)) rfl) ?_
       refine .done (by kernel_rfl) ?_
       exact QN.thenJ ⟨_,t33_5,qn ⟨rfl,trivial⟩,hh⟩
    ·have hh:=hh.2.1
     refine .e (qba rfl hh ?_)
     intro h t29_5 hh
     obtain ⟨hc_16,hh⟩:=hh
     refine ⟨⟨trivial,.inr hc_16⟩,?_⟩
     refine .w2 4 8 (by kernel_rfl) rfl rfl (by kernel_rfl) (by kernel_rfl) ?_ ?_
     ·have hh:=hh.1
      refine .e (qw fn_139 rfl rfl hh ?_)
      intro h t26_1 hh
      obtain ⟨hc_17,hh⟩:=hh
      refine ⟨⟨trivial,.inr hc_17⟩,?_⟩
      refine .w2 8 9 (by kernel_rfl) rfl rfl (by kernel_rfl) (by kernel_rfl) ?_ ?_
      ·have hh:=hh.1
       refine .e (qba rfl hh ?_)
       intro h t30_5 hh
       obtain ⟨hc_18,hh⟩:=hh
       refine ⟨⟨trivial,.inr hc_18⟩,?_⟩
       refine .w 9 (by kernel_rfl) rfl (by kernel_rfl) (.e (qw fn_288 rfl rfl hh ?_))
       intro h t31_5 hh
       obtain ⟨hc_19,hh⟩:=hh
       refine ⟨⟨trivial,.inr hc_19⟩,?_⟩
       refine .P 10 rfl (qah ({ qs.zero with config:=t22,me:=me,base:=base,at_:=t26_1,locked:=({ qi.zero with round:=(-1:Int) }:qi),valid:=({ qi.zero with round:=(-1:Int) }:qi),plans:=t29_5,blocks:=t30_5,box:=t31_5 }:qs) zo_205 pl_205 rfl (qf rfl rfl (qh _) (qe _) rfl (qbf _ _) (qf rfl rfl (qp _) (qe _) rfl (qch _ _) (qf rfl rfl (qp _) (qe _) rfl (qbv _ _) (qf rfl rfl (qcj _) (qe _) rfl (qcf _ _) (qf rfl rfl (yc _) (qe _) rfl (qbg _ _) (qf rfl rfl (yc _) (qe _) rfl (qbo _ _) (qf rfl rfl (yq _) (qe _) rfl (qbn _ _) (qf rfl rfl (yq _) (qe _) rfl (qbe _ _) (qf rfl rfl (qx _) (qe _) rfl (qb3 _ _) (rfl)))))))))) rfl) ?_
       refine qy hh (fun t33_6 ht33_6 hh=>?_)
       refine .w 11 (by kernel_rfl) rfl (by kernel_rfl) (.e (qan ht33_6 rfl rfl rfl ?_))
       refine ⟨⟨trivial,.inl (by kernel_rfl)⟩,?_⟩
       refine .P 12 rfl (qad (v:=.pointer (some t33_6)) rfl) ?_
       refine .done (by kernel_rfl) ?_
       exact QN.thenJ ⟨_,t33_6,qn ⟨rfl,trivial⟩,hh⟩
      ·have hh:=hh.2
       refine .e (qw fn_288 rfl rfl hh ?_)
       intro h t31_6 hh
       obtain ⟨hc_20,hh⟩:=hh
       refine ⟨⟨trivial,.inr hc_20⟩,?_⟩
       refine .w 8 (by kernel_rfl) rfl (by kernel_rfl) (.e (qba rfl hh ?_))
       intro h t30_6 hh
       obtain ⟨hc_21,hh⟩:=hh
       refine ⟨⟨trivial,.inr hc_21⟩,?_⟩
       refine .P 10 rfl (qah ({ qs.zero with config:=t22,me:=me,base:=base,at_:=t26_1,locked:=({ qi.zero with round:=(-1:Int) }:qi),valid:=({ qi.zero with round:=(-1:Int) }:qi),plans:=t29_5,blocks:=t30_6,box:=t31_6 }:qs) zo_205 pl_205 rfl (qf rfl rfl (qh _) (qe _) rfl (qbf _ _) (qf rfl rfl (qp _) (qe _) rfl (qch _ _) (qf rfl rfl (qp _) (qe _) rfl (qbv _ _) (qf rfl rfl (qcj _) (qe _) rfl (qcf _ _) (qf rfl rfl (yc _) (qe _) rfl (qbg _ _) (qf rfl rfl (yc _) (qe _) rfl (qbo _ _) (qf rfl rfl (yq _) (qe _) rfl (qbn _ _) (qf rfl rfl (yq _) (qe _) rfl (qbe _ _) (qf rfl rfl (qx _) (qe _) rfl (qb3 _ _) (rfl)))))))))) rfl) ?_
       refine qy hh (fun t33_7 ht33_7 hh=>?_)
       refine .w 11 (by kernel_rfl) rfl (by kernel_rfl) (.e (qan ht33_7 rfl rfl rfl ?_))
       refine ⟨⟨trivial,.inl (by kernel_rfl)⟩,?_⟩
       refine .P 12 rfl (qad (v:=.pointer (some t33_7)) rfl) ?_
       refine .done (by kernel_rfl) ?_
       exact QN.thenJ ⟨_,t33_7,qn ⟨rfl,trivial⟩,hh⟩
     ·have hh:=hh.2
      refine .e (qba rfl hh ?_)
      intro h t30_7 hh
      obtain ⟨hc_22,hh⟩:=hh
      refine ⟨⟨trivial,.inr hc_22⟩,?_⟩
      refine .w 4 (by kernel_rfl) rfl (by kernel_rfl) (.e (qw fn_139 rfl rfl hh ?_))
      intro h t26_2 hh
      obtain ⟨hc_23,hh⟩:=hh
      refine ⟨⟨trivial,.inr hc_23⟩,?_⟩
      refine .w 9 (by kernel_rfl) rfl (by kernel_rfl) (.e (qw fn_288 rfl rfl hh ?_))
      intro h t31_7 hh
      obtain ⟨hc_24,hh⟩:=hh
      refine ⟨⟨trivial,.inr hc_24⟩,?_⟩
      refine .P 10 rfl (qah ({ qs.zero with config:=t22,me:=me,base:=base,at_:=t26_2,locked:=({ qi.zero with round:=(-1:Int) }:qi),valid:=({ qi.zero with round:=(-1:Int) }:qi),plans:=t29_5,blocks:=t30_7,box:=t31_7 }:qs) zo_205 pl_205 rfl (qf rfl rfl (qh _) (qe _) rfl (qbf _ _) (qf rfl rfl (qp _) (qe _) rfl (qch _ _) (qf rfl rfl (qp _) (qe _) rfl (qbv _ _) (qf rfl rfl (qcj _) (qe _) rfl (qcf _ _) (qf rfl rfl (yc _) (qe _) rfl (qbg _ _) (qf rfl rfl (yc _) (qe _) rfl (qbo _ _) (qf rfl rfl (yq _) (qe _) rfl (qbn _ _) (qf rfl rfl (yq _) (qe _) rfl (qbe _ _) (qf rfl rfl (qx _) (qe _) rfl (qb3 _ _) (rfl)))))))))) rfl) ?_
      refine qy hh (fun t33_8 ht33_8 hh=>?_)
      refine .w 11 (by kernel_rfl) rfl (by kernel_rfl) (.e (qan ht33_8 rfl rfl rfl ?_))
      refine ⟨⟨trivial,.inl (by kernel_rfl)⟩,?_⟩
      refine .P 12 rfl (qad (v:=.pointer (some t33_8)) rfl) ?_
      refine .done (by kernel_rfl) ?_
      exact QN.thenJ ⟨_,t33_8,qn ⟨rfl,trivial⟩,hh⟩
    ·have hh:=hh.2.2
     refine .e (qba rfl hh ?_)
     intro h t30_8 hh
     obtain ⟨hc_25,hh⟩:=hh
     refine ⟨⟨trivial,.inr hc_25⟩,?_⟩
     refine .w2 4 7 (by kernel_rfl) rfl rfl (by kernel_rfl) (by kernel_rfl) ?_ ?_
     ·have hh:=hh.1
      refine .e (qw fn_139 rfl rfl hh ?_)
      intro h t26_3 hh
      obtain ⟨hc_26,hh⟩:=hh
      refine ⟨⟨trivial,.inr hc_26⟩,?_⟩
      refine .w2 7 9 (by kernel_rfl) rfl rfl (by kernel_rfl) (by kernel_rfl) ?_ ?_
      ·have hh:=hh.1
       refine .e (qba rfl hh ?_)
       intro h t29_6 hh
       obtain ⟨hc_27,hh⟩:=hh
       refine ⟨⟨trivial,.inr hc_27⟩,?_⟩
       refine .w 9 (by kernel_rfl) rfl (by kernel_rfl) (.e (qw fn_288 rfl rfl hh ?_))
       intro h t31_8 hh
       obtain ⟨hc_28,hh⟩:=hh
       refine ⟨⟨trivial,.inr hc_28⟩,?_⟩
       refine .P 10 rfl (qah ({ qs.zero with config:=t22,me:=me,base:=base,at_:=t26_3,locked:=({ qi.zero with round:=(-1:Int) }:qi),valid:=({ qi.zero with round:=(-1:Int) }:qi),plans:=t29_6,blocks:=t30_8,box:=t31_8 }:qs) zo_205 pl_205 rfl (qf rfl rfl (qh _) (qe _) rfl (qbf _ _) (qf rfl rfl (qp _) (qe _) rfl (qch _ _) (qf rfl rfl (qp _) (qe _) rfl (qbv _ _) (qf rfl rfl (qcj _) (qe _) rfl (qcf _ _) (qf rfl rfl (yc _) (qe _) rfl (qbg _ _) (qf rfl rfl (yc _) (qe _) rfl (qbo _ _) (qf rfl rfl (yq _) (qe _) rfl (qbn _ _) (qf rfl rfl (yq _) (qe _) rfl (qbe _ _) (qf rfl rfl (qx _) (qe _) rfl (qb3 _ _) (rfl)))))))))) rfl) ?_
       refine qy hh (fun t33_9 ht33_9 hh=>?_)
       refine .w 11 (by kernel_rfl) rfl (by kernel_rfl) (.e (qan ht33_9 rfl rfl rfl ?_))
       refine ⟨⟨trivial,.inl (by kernel_rfl)⟩,?_⟩
       refine .P 12 rfl (qad (v:=.pointer (some t33_9)) rfl) ?_
       refine .done (by kernel_rfl) ?_
       exact QN.thenJ ⟨_,t33_9,qn ⟨rfl,trivial⟩,hh⟩
      ·have hh:=hh.2
       refine .e (qw fn_288 rfl rfl hh ?_)
       intro h t31_9 hh
       obtain ⟨hc_29,hh⟩:=hh
       refine ⟨⟨trivial,.inr hc_29⟩,?_⟩
       refine .w 7 (by kernel_rfl) rfl (by kernel_rfl) (.e (qba rfl hh ?_))
       intro h t29_7 hh
       obtain ⟨hc_30,hh⟩:=hh
       refine ⟨⟨trivial,.inr hc_30⟩,?_⟩
       refine .P 10 rfl (qah ({ qs.zero with config:=t22,me:=me,base:=base,at_:=t26_3,locked:=({ qi.zero with round:=(-1:Int) }:qi),valid:=({ qi.zero with round:=(-1:Int) }:qi),plans:=t29_7,blocks:=t30_8,box:=t31_9 }:qs) zo_205 pl_205 rfl (qf rfl rfl (qh _) (qe _) rfl (qbf _ _) (qf rfl rfl (qp _) (qe _) rfl (qch _ _) (qf rfl rfl (qp _) (qe _) rfl (qbv _ _) (qf rfl rfl (qcj _) (qe _) rfl (qcf _ _) (qf rfl rfl (yc _) (qe _) rfl (qbg _ _) (qf rfl rfl (yc _) (qe _) rfl (qbo _ _) (qf rfl rfl (yq _) (qe _) rfl (qbn _ _) (qf rfl rfl (yq _) (qe _) rfl (qbe _ _) (qf rfl rfl (qx _) (qe _) rfl (qb3 _ _) (rfl)))))))))) rfl) ?_
       refine qy hh (fun t33_10 ht33_10 hh=>?_)
       refine .w 11 (by kernel_rfl) rfl (by kernel_rfl) (.e (qan ht33_10 rfl rfl rfl ?_))
       refine ⟨⟨trivial,.inl (by kernel_rfl)⟩,?_⟩
       refine .P 12 rfl (qad (v:=.pointer (some t33_10)) rfl) ?_
       refine .done (by kernel_rfl) ?_
       exact QN.thenJ ⟨_,t33_10,qn ⟨rfl,trivial⟩,hh⟩
     ·have hh:=hh.2
      refine .e (qba rfl hh ?_)
      intro h t29_8 hh
      obtain ⟨hc_31,hh⟩:=hh
      refine ⟨⟨trivial,.inr hc_31⟩,?_⟩
      refine .w 4 (by kernel_rfl) rfl (by kernel_rfl) (.e (qw fn_139 rfl rfl hh ?_))
      intro h t26_4 hh
      obtain ⟨hc_32,hh⟩:=hh
      refine ⟨⟨trivial,.inr hc_32⟩,?_⟩
      refine .w 9 (by kernel_rfl) rfl (by kernel_rfl) (.e (qw fn_288 rfl rfl hh ?_))
      intro h t31_10 hh
      obtain ⟨hc_33,hh⟩:=hh
      refine ⟨⟨trivial,.inr hc_33⟩,?_⟩
      refine .P 10 rfl (qah ({ qs.zero with config:=t22,me:=me,base:=base,at_:=t26_4,locked:=({ qi.zero with round:=(-1:Int) }:qi),valid:=({ qi.zero with round:=(-1:Int) }:qi),plans:=t29_8,blocks:=t30_8,box:=t31_10 }:qs) zo_205 pl_205 rfl (qf rfl rfl (qh _) (qe _) rfl (qbf _ _) (qf rfl rfl (qp _) (qe _) rfl (qch _ _) (qf rfl rfl (qp _) (qe _) rfl (qbv _ _) (qf rfl rfl (qcj _) (qe _) rfl (qcf _ _) (qf rfl rfl (yc _) (qe _) rfl (qbg _ _) (qf rfl rfl (yc _) (qe _) rfl (qbo _ _) (qf rfl rfl (yq _) (qe _) rfl (qbn _ _) (qf rfl rfl (yq _) (qe _) rfl (qbe _ _) (qf rfl rfl (qx _) (qe _) rfl (qb3 _ _) (rfl)))))))))) rfl) ?_
      refine qy hh (fun t33_11 ht33_11 hh=>?_)
      refine .w 11 (by kernel_rfl) rfl (by kernel_rfl) (.e (qan ht33_11 rfl rfl rfl ?_))
      refine ⟨⟨trivial,.inl (by kernel_rfl)⟩,?_⟩
      refine .P 12 rfl (qad (v:=.pointer (some t33_11)) rfl) ?_
      refine .done (by kernel_rfl) ?_
      exact QN.thenJ ⟨_,t33_11,qn ⟨rfl,trivial⟩,hh⟩
   ·rintro ρ h ⟨ρ',t8,rfl,hh⟩
    unfold qas.j2 at hh
    refine CW.ret ?_
    exact ret1 rfl rfl ⟨((some t8):Pt),rfl,hh⟩
theorem qci.ok (r:Pt) (k:Unit→H→Prop) (h:H) (hh:qci.b r k h):CallsH Prog 133 [reg r].toArray h fun v h'=>∃ r:Unit,v = reg r∧k r h':=by
 unfold qci.b at hh
 refine CallsH.of 35 Tryz.func133 rfl Tryz.ntmps133 rfl (fun w0=>?_)
 refine .sr (.M (reg r) (.M (reg r) (.M (reg r) ?_)))
 refine .e (qba rfl hh ?_)
 intro h t5 hh
 refine .e (qba rfl hh ?_)
 intro h t6 hh
 obtain ⟨p,hp,hh⟩:=hh
 refine .V (qv (congrArg Value.pointer hp)) (.V (qd fl_109_18 rfl) (.S (Sl.nil:Sl) 56 sz_69 (qd1 _) yl (yj _) (fun x=>set_109_said x (Sl.nil:Sl)) hh rfl rfl (fun _ hh=>.V (qv (congrArg Value.pointer hp)) (.V (qd fl_109_15 rfl) (.S (t5:Mp) 53 sz_105 (one_mp _) yl (yq _) (fun x=>set_109_blocks x (t5:Mp)) hh rfl rfl (fun _ hh=>.V (qv (congrArg Value.pointer hp)) (.V (qd fl_109_16 rfl) (.S (t6:Mp) 54 sz_106 (one_mp _) yl (yq _) (fun x=>set_109_plans x (t6:Mp)) hh rfl rfl (fun _ hh=>.nx ?_)))))))))
 refine CW.drawN 23 rfl ym [0,1,2,3,4,5,6,7,8,9,10,11,12,13,14,15,16,17,18,20,21] ?_
 refine .P 0 rfl (qu (v:=reg r) rfl) (.P 1 rfl (qu (v:=reg r) rfl) (.P 2 rfl (qv (congrArg Value.pointer hp)) (.P 3 rfl (qd fl_109_7 rfl) (.P 4 rfl (qd fl_65_2 rfl) (.KA 5 10 ag_27 get_109_state_Config (fun _=>(qh _)) rfl hh rfl (fun t18 hh=>.P 6 rfl (qu (v:=reg r) rfl) (.P 7 rfl (qv (congrArg Value.pointer hp)) (.P 8 rfl (qd fl_109_3 rfl) (.KL 9 3 na_3 get_109_me rfl hh rfl (fun t22 hh=>?_))))))))))
 refine .P 10 rfl (qu (v:=reg r) rfl) (.P 11 rfl (qv (congrArg Value.pointer hp)) (.P 12 rfl (qd fl_109_9 rfl) (.KL 13 16 na_3 get_109_height rfl hh rfl (fun t26 hh=>.P 14 rfl (qbp rfl rfl) (.P 15 rfl (qu (v:=reg r) rfl) (.P 16 rfl (qv (congrArg Value.pointer hp)) (.P 17 rfl (qd fl_109_4 rfl) (.KL 18 4 na_3 get_109_base rfl hh rfl (fun t31 hh=>?_)))))))))
 refine .w 19 (by kernel_rfl) rfl (by kernel_rfl) (.e (qw fn_226 rfl rfl hh ?_))
 intro h t32 hh
 refine ⟨⟨⟨⟨⟨trivial,.inl (by kernel_rfl)⟩,.inl (by kernel_rfl)⟩,.inl (by kernel_rfl)⟩,.inl (by kernel_rfl)⟩,?_⟩
 refine .P 20 rfl (qv (congrArg Value.pointer hp)) (.P 21 rfl (qd fl_109_0 rfl) ?_)
 obtain ⟨xw_3,hxw_3,hwxw_3,hh⟩:=hh
 refine .w 22 (by kernel_rfl) rfl (by kernel_rfl) (.e (qb7 (p:=p) (nv:=enc (t32:Pt)) 0 rfl rfl rfl sz_99 (one_pt _) hxw_3 hwxw_3 (yl _) (qx _) rfl (set_109_core xw_3 (t32:Pt)) ?_))
 refine ⟨⟨⟨⟨⟨trivial,.inl (by kernel_rfl)⟩,.inl (by kernel_rfl)⟩,.inl (by kernel_rfl)⟩,.inl (by kernel_rfl)⟩,?_⟩
 refine .done (by kernel_rfl) ?_
 exact ret0n rfl ⟨(),rfl,hh⟩
theorem yf.ok (r:Pt) (list:Sl) (k:Int→H→Prop) (h:H) (hh:yf.b r list k h):CallsH Prog 97 [reg r,reg list].toArray h fun v h'=>∃ r:Int,v = reg r∧k r h':=by
 unfold yf.b at hh
 refine CallsH.of 190 Tryz.func97 rfl Tryz.ntmps97 rfl (fun w0=>?_)
 refine .sr (.A (reg ((0:Int):Int)) (.nx (.sr (.A (reg (Sl.nil:Sl)) (.nx ?_)))))
 refine CW.join (fun ρ h=>∃ (ρ':Env) (own_1:Sl),ρ = setl ρ' [(0,reg r),(5,reg own_1)]∧(yf.j1 k) r own_1 h) ?_ ?_
 ·refine .sr (.M (reg list) (.V (qag (sl_220).1 rfl) (.M (reg ((0:Int):Int)) (.nx ?_))))
  refine CW.block ?_
  unfold yf.l1 at hh
  refine CW.loop (fun (σ0:Sl×Int) ρ=>match σ0 with | (own,t14)=>∃ ρ':Env,ρ = setl ρ' [(0,reg r),(12,reg list),(13,reg ((list.len:Int):Int)),(5,reg own),(14,reg t14)]) hh ⟨_,qn ⟨rfl,⟨rfl,⟨rfl,⟨rfl,⟨rfl,trivial⟩⟩⟩⟩⟩⟩ ?_
  clear hh
  rintro s1 ⟨own,t14⟩ ρ h ⟨ρ',rfl⟩ hh
  refine .sr (.V (qax rfl rfl) (.nx (.seq ?_)))
  refine CW.cond (decide (t14 < (list.len:Int))) rfl (fun hb=>?_) (fun hb=>?_)
  ·exact (hh.1 hb).elim
  ·have hh:=hh.2 hb
   refine CW.exit ?_
   refine QN.thenExit ?_
   refine QN.thenExit ?_
   refine QN.blockExit ?_
   exact QN.thenJ ⟨_,own,qn ⟨rfl,⟨rfl,trivial⟩⟩,hh⟩
 ·rintro ρ h ⟨ρ',own_1,rfl,hh⟩
  unfold yf.j1 at hh
  refine .sr (.M (reg r) ?_)
  refine .e (qw fn_133 rfl rfl hh ?_)
  intro h t123 hh
  refine .nx ?_
  refine CW.join (fun ρ h=>∃ (ρ':Env),ρ = setl ρ' [(0,reg r)]∧(yf.j2 k) r h) ?_ ?_
  ·refine .sr (.M (reg own_1) (.V (qag (sl_278).1 rfl) (.M (reg ((0:Int):Int)) (.nx ?_))))
   refine CW.block ?_
   unfold yf.l2 at hh
   refine CW.loop (fun (σ0:Int) ρ=>match σ0 with | t126=>∃ ρ':Env,ρ = setl ρ' [(0,reg r),(124,reg own_1),(125,reg ((own_1.len:Int):Int)),(126,reg t126)]) hh ⟨_,qn ⟨rfl,⟨rfl,⟨rfl,⟨rfl,trivial⟩⟩⟩⟩⟩ ?_
   clear hh
   rintro s2 t126 ρ h ⟨ρ',rfl⟩ hh
   refine .sr (.V (qax rfl rfl) (.nx (.seq ?_)))
   refine CW.cond (decide (t126 < (own_1.len:Int))) rfl (fun hb_1=>?_) (fun hb_1=>?_)
   ·exact (hh.1 hb_1).elim
   ·have hh:=hh.2 hb_1
    refine CW.exit ?_
    refine QN.thenExit ?_
    refine QN.thenExit ?_
    refine QN.blockExit ?_
    exact QN.thenJ ⟨_,qn ⟨rfl,trivial⟩,hh⟩
  ·rintro ρ h ⟨ρ',rfl,hh⟩
   unfold yf.j2 at hh
   refine .sr (.M (reg r) ?_)
   obtain ⟨p,hp,hh⟩:=hh
   refine .V (qv (congrArg Value.pointer hp)) (.V (qd fl_109_21 rfl) (.S (Sl.nil:Sl) 59 sz_83 (qd1 _) yl (yj _) (fun x=>set_109_out x (Sl.nil:Sl)) hh rfl rfl (fun _ hh=>.nx (.sr (.A (reg ((0:Int):Int)) (.nx ?_))))))
   refine CW.ret ?_
   exact ret1 rfl rfl ⟨((0:Int):Int),rfl,hh⟩
theorem yo.ok (d:Pt) (me:Int) (first:qa) (base:Int) (seeds:Sl) (k:(T2 Pt Int)→H→Prop) (h:H) (hh:yo.b d me first base seeds k h):CallsH Prog 62 [reg d,reg me,reg first,reg base,reg seeds].toArray h fun v h'=>∃ r:T2 Pt Int,v = reg r∧k r h':=by
 unfold yo.b at hh
 refine CallsH.of 122 Tryz.func62 rfl Tryz.ntmps62 rfl (fun w0=>?_)
 refine .sr ?_
 refine qy hh (fun first_1 hfirst_1 hh=>?_)
 refine .e (qan hfirst_1 rfl rfl rfl ?_)
 refine .A (reg ((none:Pt):Pt)) (.A (reg ((0:Int):Int)) (.nx (.seq ?_)))
 refine CW.join (fun ρ h=>∃ (ρ':Env) (t36:Bool),ρ = setl ρ' [(0,reg d),(1,reg me),(3,reg base),(4,reg seeds),(7,.pointer (some first_1)),(36,reg t36)]∧(yo.j1 k) d me base seeds first_1 t36 h) ?_ ?_
 ·refine CW.region ?_
  refine .M (reg d) (.V (qbq pt_59 rfl rfl) (.M (reg (d.isNone:Bool)) ?_))
  refine qbl hh (fun hb hh=>?_) (fun hb hh=>?_)
  ·refine .no 24 rfl (cb hb) rfl rfl (.no 24 rfl (cb hb) rfl rfl (.no 24 rfl (cb hb) rfl rfl (.V (qbx (v:=reg true) rfl hb rfl) (.M (reg true) (.no 29 rfl rfl rfl rfl (.no 29 rfl rfl rfl rfl (.V (qbx (v:=reg true) rfl rfl rfl) (.M (reg true) (.no 33 rfl rfl rfl rfl ?_)))))))))
   refine .no 33 rfl rfl rfl rfl (.V (qbx (v:=reg true) rfl rfl rfl) ?_)
   refine .nil ?_
   exact QN.thenJ ⟨_,true,qn ⟨rfl,⟨rfl,⟨rfl,⟨rfl,⟨rfl,⟨rfl,trivial⟩⟩⟩⟩⟩⟩,hh⟩
  ·obtain ⟨t25,⟨xt25,hxt25,hgt25⟩,hh⟩:=hh
   refine .yv 24 rfl (cb hb) rfl (v_ldA (p:=first_1) 0 ag_27 rfl hxt25 hgt25 qcg (fun _=>(qh _)) (fun _=>rfl)) rfl ?_
   refine .ye 24 rfl (cb hb) rfl (qw fn_36 rfl rfl hh ?_)
   intro h t26 hh
   refine .yv 24 rfl (cb hb) rfl (v_not rfl) rfl (.V (qb0 (v:=reg ((!t26):Bool)) rfl hb rfl) (.M (reg ((!t26):Bool)) (.fv 29 rfl rfl rfl (fun hb=>qu (v:=reg (me:Int)) rfl) rfl (.fv 29 rfl rfl rfl (fun hb=>qax (gf hb) rfl) rfl (.V (qb2 rfl rfl (fun hb=>gf hb)) (.M (reg (((!t26) || (decide (me < (1:Int)))):Bool)) (.fv 33 rfl rfl rfl (fun hb=>qu (v:=reg (me:Int)) rfl) rfl (.fv 33 rfl rfl rfl (fun hb=>qd6 (gf hb) rfl) rfl (.V (qb2 rfl rfl (fun hb=>gf hb)) ?_)))))))))
   refine .nil ?_
   exact QN.thenJ ⟨_,(((!t26) || (decide (me < (1:Int)))) || (decide ((63:Int) < me))),qn ⟨rfl,⟨rfl,⟨rfl,⟨rfl,⟨rfl,⟨rfl,trivial⟩⟩⟩⟩⟩⟩,hh⟩
 ·rintro ρ h ⟨ρ',t36,rfl,hh⟩
  unfold yo.j1 at hh
  refine CW.cond t36 rfl (fun hb_1=>?_) (fun hb_1=>?_)
  ·have hh:=hh.1 hb_1
   refine .sr (.A (reg ((none:Pt):Pt)) (.A (reg ((1:Int):Int)) (.nx ?_)))
   refine CW.ret ?_
   refine QN.thenRet ?_
   exact ret2 rfl rfl rfl ⟨(⟨(none:Pt),(1:Int)⟩:T2 Pt Int),rfl,hh⟩
  ·have hh:=hh.2 hb_1
   refine CW.skip ?_
   refine QN.then_ ?_
   refine CW.seq ?_
   refine CW.drawN 12 rfl ym [0,1,2,3,5,7,9,11] ?_
   refine .P 0 rfl (qu (v:=reg d) rfl) (.P 1 rfl (qu (v:=reg me) rfl) (.P 2 rfl (qu (v:=reg base) rfl) (.KA 3 0 ag_27 qcg (fun _=>(qh _)) rfl hh rfl (fun t40 hh=>.KA 5 0 ag_27 qcg (fun _=>(qh _)) rfl hh rfl (fun t42 hh=>.KA 7 0 ag_27 qcg (fun _=>(qh _)) rfl hh rfl (fun t44 hh=>?_))))))
   refine .w 4 (by kernel_rfl) rfl (by kernel_rfl) (.e (qw fn_91 rfl rfl hh ?_))
   intro h t41 hh
   obtain ⟨hc,hh⟩:=hh
   obtain ⟨hc_1,hh⟩:=hh
   obtain ⟨hc_2,hh⟩:=hh
   refine ⟨⟨⟨⟨trivial,.inr hc⟩,.inr hc_1⟩,.inr hc_2⟩,?_⟩
   refine .w 6 (by kernel_rfl) rfl (by kernel_rfl) (.e (qw fn_92 rfl rfl hh ?_))
   intro h t43 hh
   obtain ⟨hc_3,hh⟩:=hh
   obtain ⟨hc_4,hh⟩:=hh
   refine ⟨⟨⟨⟨trivial,.inr hc_3⟩,.inl (by kernel_rfl)⟩,.inr hc_4⟩,?_⟩
   refine .w 8 (by kernel_rfl) rfl (by kernel_rfl) (.e (qw fn_93 rfl rfl hh ?_))
   intro h t45 hh
   obtain ⟨hc_5,hh⟩:=hh
   refine ⟨⟨⟨⟨trivial,.inr hc_5⟩,.inl (by kernel_rfl)⟩,.inl (by kernel_rfl)⟩,?_⟩
   refine .P 9 rfl (qah ({ qg.zero with d:=d,me:=me,base:=base,first:=t40,ring:=t41,state:=t43,tip:=t45 }:qg) zo_109 pl_109 rfl (qf rfl rfl (qx _) (yl _) rfl (set_109_d _ _) (qf rfl rfl (qp _) (yl _) rfl (set_109_me _ _) (qf rfl rfl (qp _) (yl _) rfl (set_109_base _ _) (qf rfl rfl (qh _) (yl _) rfl (set_109_first _ _) (qf rfl rfl (qx _) (yl _) rfl (set_109_ring _ _) (qf rfl rfl (qt _) (yl _) rfl (set_109_state _ _) (qf rfl rfl (qr (n:=32) _) (yl _) rfl (set_109_tip _ _) (rfl)))))))) rfl) ?_
   refine qy hh (fun t47 ht47 hh=>?_)
   refine .w 10 (by kernel_rfl) rfl (by kernel_rfl) (.e (qan ht47 rfl rfl rfl ?_))
   refine ⟨⟨⟨⟨trivial,.inl (by kernel_rfl)⟩,.inl (by kernel_rfl)⟩,.inl (by kernel_rfl)⟩,?_⟩
   refine .P 11 rfl (qad (v:=.pointer (some t47)) rfl) ?_
   refine .done (by kernel_rfl) ?_
   refine QN.then_ ?_
   refine .sr (.M (.pointer (some t47)) (.V (qd qbw rfl) (.L 1 qdr qao hh rfl (fun t50 hh=>?_))))
   refine .e (qw fn_35 rfl rfl hh ?_)
   intro h t51 hh
   refine .V (qv rfl) (.V (qd fl_109_5 rfl) (.V (qd qbw rfl) (.S (t51:Sl) 6 sz_25 (qd1 _) yl (yj _) (fun x=>set_109_first_Members x (t51:Sl)) hh rfl rfl (fun _ hh=>.nx ?_))))
   refine CW.join (fun ρ h=>∃ (ρ':Env),ρ = setl ρ' [(0,reg d),(12,.pointer (some t47))]∧(yo.j2 k) d t47 h) ?_ ?_
   ·refine .sr (.M (reg seeds) (.V (qag (sl_54).1 rfl) (.M (reg ((0:Int):Int)) (.nx ?_))))
    refine CW.block ?_
    unfold yo.l1 at hh
    refine CW.loop (fun (σ0:Int) ρ=>match σ0 with | t57=>∃ ρ':Env,ρ = setl ρ' [(0,reg d),(12,.pointer (some t47)),(55,reg seeds),(56,reg ((seeds.len:Int):Int)),(57,reg t57)]) hh ⟨_,qn ⟨rfl,⟨rfl,⟨rfl,⟨rfl,⟨rfl,trivial⟩⟩⟩⟩⟩⟩ ?_
    clear hh
    rintro s1 t57 ρ h ⟨ρ',rfl⟩ hh
    refine .sr (.V (qax rfl rfl) (.nx (.seq ?_)))
    refine CW.cond (decide (t57 < (seeds.len:Int))) rfl (fun hb_2=>?_) (fun hb_2=>?_)
    ·have hh:=hh.1 hb_2
     refine CW.skip ?_
     refine QN.then_ ?_
     refine CW.seq ?_
     refine CW.block ?_
     refine .sr ?_
     obtain ⟨t59,ht59,hh⟩:=hh
     refine .V (qaz sl_54 rfl rfl ht59.1 ht59.2.1 ht59.2.2) (.LA 0 ag_53 get_53_all (fun _=>(qbk _)) hh rfl (fun t60 hh=>?_))
     refine qy hh (fun s hs hh=>?_)
     refine .e (qaq hs zo_53 rfl ?_)
     refine .S (t60:yw) 0 sz_53 (one_api_Seed _) qbk (qbk _) (fun x=>set_53_all x (t60:yw)) hh rfl rfl (fun _ hh=>.nx ?_)
     refine CW.join (fun ρ h=>∃ (ρ':Env) (e:Int),ρ = setl ρ' [(0,reg d),(12,.pointer (some t47)),(16,reg e),(55,reg seeds),(56,reg ((seeds.len:Int):Int)),(57,reg t57)]∧(yo.j3 k s1) d t47 e seeds (seeds.len:Int) t57 h) ?_ ?_
     ·refine CW.drawN 15 rfl ym [0,1,2,3,4,5,6,7,9,10,11,14] ?_
      refine .P 0 rfl (qu (v:=.pointer (some t47)) rfl) (.P 1 rfl (qv rfl) (.P 2 rfl (qd fl_109_6 rfl) (.KL 3 7 na_101 get_109_ring rfl hh rfl (fun t65 hh=>.P 4 rfl (qd fl_53_0 rfl) (.KA 5 0 qco get_53_Seed (fun _=>(qr (n:=32) _)) rfl hh rfl (fun t67 hh=>.P 6 rfl (qd fl_53_1 rfl) (.KL 7 32 na_3 get_53_Height rfl hh rfl (fun t69 hh=>?_))))))))
      refine .w2 8 12 (by kernel_rfl) rfl rfl (by kernel_rfl) (by kernel_rfl) ?_ ?_
      ·have hh:=hh.1
       refine .e (qw fn_94 rfl rfl hh ?_)
       intro h t70 hh
       refine ⟨⟨⟨⟨trivial,.inl (by kernel_rfl)⟩,.inl (by kernel_rfl)⟩,.inl (by kernel_rfl)⟩,?_⟩
       refine .P 9 rfl (qu (v:=reg (t70:T2 qo Int)) rfl) (.P 10 rfl (qar (v:=reg (t70.a:qo)) rfl rfl) (.P 11 rfl (qar (v:=reg (t70.b:Int)) rfl rfl) ?_))
       refine qy hh (fun t15 ht15 hh=>?_)
       refine .w 12 (by kernel_rfl) rfl (by kernel_rfl) (.e (qaq ht15 zo_33 rfl ?_))
       obtain ⟨hc_6,hh⟩:=hh
       obtain ⟨hc_7,hh⟩:=hh
       obtain ⟨hc_8,hh⟩:=hh
       refine ⟨⟨⟨⟨trivial,.inr hc_6⟩,.inr hc_7⟩,.inr hc_8⟩,?_⟩
       obtain ⟨xw_2,hxw_2,hwxw_2,hh⟩:=hh
       refine .w 13 (by kernel_rfl) rfl (by kernel_rfl) (.e (qb7 (p:=t15) (nv:=enc (t70.a:qo)) 0 rfl rfl rfl sz_33 (qcp _) hxw_2 hwxw_2 (yn _) (yn _) rfl (qdu xw_2 (t70.a:qo)) ?_))
       refine ⟨⟨⟨⟨trivial,.inl (by kernel_rfl)⟩,.inl (by kernel_rfl)⟩,.inl (by kernel_rfl)⟩,?_⟩
       refine .P 14 rfl (qad (v:=reg (t70.b:Int)) rfl) ?_
       refine .done (by kernel_rfl) ?_
       exact QN.thenJ ⟨_,t70.b,qn ⟨rfl,⟨rfl,⟨rfl,⟨rfl,⟨rfl,⟨rfl,trivial⟩⟩⟩⟩⟩⟩,hh⟩
      ·have hh:=hh.2
       refine qy hh (fun t15_1 ht15_1 hh=>?_)
       refine .e (qaq ht15_1 zo_33 rfl ?_)
       obtain ⟨hc_9,hh⟩:=hh
       obtain ⟨hc_10,hh⟩:=hh
       obtain ⟨hc_11,hh⟩:=hh
       refine ⟨⟨⟨⟨trivial,.inr hc_9⟩,.inr hc_10⟩,.inr hc_11⟩,?_⟩
       refine .w 8 (by kernel_rfl) rfl (by kernel_rfl) (.e (qw fn_94 rfl rfl hh ?_))
       intro h t70_1 hh
       refine ⟨⟨⟨⟨trivial,.inl (by kernel_rfl)⟩,.inl (by kernel_rfl)⟩,.inl (by kernel_rfl)⟩,?_⟩
       refine .P 9 rfl (qu (v:=reg (t70_1:T2 qo Int)) rfl) (.P 10 rfl (qar (v:=reg (t70_1.a:qo)) rfl rfl) (.P 11 rfl (qar (v:=reg (t70_1.b:Int)) rfl rfl) ?_))
       obtain ⟨xw_3,hxw_3,hwxw_3,hh⟩:=hh
       refine .w 13 (by kernel_rfl) rfl (by kernel_rfl) (.e (qb7 (p:=t15_1) (nv:=enc (t70_1.a:qo)) 0 rfl rfl rfl sz_33 (qcp _) hxw_3 hwxw_3 (yn _) (yn _) rfl (qdu xw_3 (t70_1.a:qo)) ?_))
       refine ⟨⟨⟨⟨trivial,.inl (by kernel_rfl)⟩,.inl (by kernel_rfl)⟩,.inl (by kernel_rfl)⟩,?_⟩
       refine .P 14 rfl (qad (v:=reg (t70_1.b:Int)) rfl) ?_
       refine .done (by kernel_rfl) ?_
       exact QN.thenJ ⟨_,t70_1.b,qn ⟨rfl,⟨rfl,⟨rfl,⟨rfl,⟨rfl,⟨rfl,trivial⟩⟩⟩⟩⟩⟩,hh⟩
     ·rintro ρ h ⟨ρ',e,rfl,hh⟩
      unfold yo.j3 at hh
      refine .sr (.M (reg e) (.V (qdz rfl rfl) (.nx ?_)))
      refine CW.cond (e != (0:Int)) rfl (fun hb_3=>?_) (fun hb_3=>?_)
      ·have hh:=hh.1 hb_3
       refine .sr (.A (reg ((none:Pt):Pt)) (.A (reg ((1:Int):Int)) (.nx ?_)))
       refine CW.ret ?_
       refine QN.blockRet ?_
       refine QN.thenRet ?_
       refine QN.thenRet ?_
       refine QN.blockRet ?_
       refine QN.thenRet ?_
       exact ret2 rfl rfl rfl ⟨(⟨(none:Pt),(1:Int)⟩:T2 Pt Int),rfl,hh⟩
      ·have hh:=hh.2 hb_3
       refine CW.skip ?_
       refine QN.blockN ?_
       refine QN.then_ ?_
       refine CW.region ?_
       refine .V (qbp rfl rfl) (.M (reg ((iadd t57 (1:Int)):Int)) ?_)
       refine .nil ?_
       exact QN.thenJ ⟨(iadd t57 (1:Int)),⟨_,qn ⟨rfl,⟨rfl,⟨rfl,⟨rfl,⟨rfl,trivial⟩⟩⟩⟩⟩⟩,hh⟩
    ·have hh:=hh.2 hb_2
     refine CW.exit ?_
     refine QN.thenExit ?_
     refine QN.thenExit ?_
     refine QN.blockExit ?_
     exact QN.thenJ ⟨_,qn ⟨rfl,⟨rfl,trivial⟩⟩,hh⟩
   ·rintro ρ h ⟨ρ',rfl,hh⟩
    unfold yo.j2 at hh
    refine .sr (.M (reg d) ?_)
    refine .e (qw fn_95 rfl rfl hh ?_)
    intro h t78 hh
    refine .M (reg (t78:T2 yt Int)) (.V (qar (v:=reg (t78.a:yt)) rfl rfl) (.V (qar (v:=reg (t78.b:Int)) rfl rfl) ?_))
    refine qy hh (fun s_1 hs_1 hh=>?_)
    refine .e (qaq hs_1 zo_217 rfl ?_)
    refine .S (t78.a:yt) 0 sz_217 (one_api_Snap _) qbu (qbu _) (fun x=>set_217_all x (t78.a:yt)) hh rfl rfl (fun _ hh=>.A (reg (t78.b:Int)) (.nx ?_))
    refine CW.join (fun ρ h=>∃ (ρ':Env),ρ = setl ρ' [(0,reg d),(12,.pointer (some t47))]∧(yo.j4 k) d t47 h) ?_ ?_
    ·refine .sr (.M (reg (t78.b:Int)) (.nx ?_))
     refine CW.block ?_
     refine .sr (.V (qeh rfl rfl) (.A (reg ((t78.b == (0:Int)):Bool)) (.nx ?_)))
     refine CW.cond (t78.b == (0:Int)) rfl (fun hb_4=>?_) (fun hb_4=>?_)
     ·have hh:=hh.1 hb_4
      refine CW.drawN 18 rfl ym [0,1,2,3,4,5,6,7,8,9,10,12,13,15,16] ?_
      refine .P 0 rfl (qu (v:=.pointer (some t47)) rfl) (.P 1 rfl (qu (v:=.pointer (some t47)) rfl) (.P 2 rfl (qu (v:=.pointer (some t47)) rfl) (.P 3 rfl (qd fl_217_2 rfl) (.KA 4 33 ag_65 get_217_State (fun _=>(qt _)) rfl hh rfl (fun t89 hh=>.P 5 rfl (qd fl_217_0 rfl) (.KL 6 0 na_3 get_217_Height rfl hh rfl (fun t91 hh=>.P 7 rfl (qd fl_217_1 rfl) (.KA 8 1 qco get_217_Tip (fun _=>(qr (n:=32) _)) rfl hh rfl (fun t93 hh=>.P 9 rfl (qv rfl) ?_)))))))))
      refine .P 10 rfl (qd fl_109_7 rfl) ?_
      obtain ⟨xw_5,hxw_5,hwxw_5,hh⟩:=hh
      refine .w 11 (by kernel_rfl) rfl (by kernel_rfl) (.e (qb7 (p:=t47) (nv:=enc (t89:qb)) 8 rfl rfl rfl sz_65 (qb4 _) hxw_5 hwxw_5 (yl _) (qt _) rfl (set_109_state xw_5 (t89:qb)) ?_))
      obtain ⟨hc_12,hh⟩:=hh
      obtain ⟨hc_13,hh⟩:=hh
      refine ⟨⟨⟨⟨trivial,.inl (by kernel_rfl)⟩,.inr hc_12⟩,.inr hc_13⟩,?_⟩
      refine .P 12 rfl (qv rfl) (.P 13 rfl (qd fl_109_9 rfl) ?_)
      obtain ⟨xw_6,hxw_6,hwxw_6,hh⟩:=hh
      refine .w 14 (by kernel_rfl) rfl (by kernel_rfl) (.e (qb7 (p:=t47) (nv:=enc (t91:Int)) 16 rfl rfl rfl sz_3 (one_i _) hxw_6 hwxw_6 (yl _) (qp _) rfl (set_109_height xw_6 (t91:Int)) ?_))
      obtain ⟨hc_14,hh⟩:=hh
      refine ⟨⟨⟨⟨trivial,.inl (by kernel_rfl)⟩,.inl (by kernel_rfl)⟩,.inr hc_14⟩,?_⟩
      refine .P 15 rfl (qv rfl) (.P 16 rfl (qd fl_109_10 rfl) ?_)
      obtain ⟨xw_7,hxw_7,hwxw_7,hh⟩:=hh
      refine .w 17 (by kernel_rfl) rfl (by kernel_rfl) (.e (qb7 (p:=t47) (nv:=enc (t93:Arr 32 UInt8)) 17 rfl rfl rfl sz_31 (qb5 (n:=32) (fun _=>rfl) _) hxw_7 hwxw_7 (yl _) (qr (n:=32) _) rfl (set_109_tip xw_7 (t93:Arr 32 UInt8)) ?_))
      refine ⟨⟨⟨⟨trivial,.inl (by kernel_rfl)⟩,.inl (by kernel_rfl)⟩,.inl (by kernel_rfl)⟩,?_⟩
      refine .done (by kernel_rfl) ?_
      refine QN.blockN ?_
      exact QN.thenJ ⟨_,qn ⟨rfl,⟨rfl,trivial⟩⟩,hh⟩
     ·have hh:=hh.2 hb_4
      refine .sr (.V (qeh rfl rfl) (.A (reg ((t78.b == (7:Int)):Bool)) (.nx ?_)))
      refine CW.cond (t78.b == (7:Int)) rfl (fun hb_5=>?_) (fun hb_5=>?_)
      ·have hh:=hh.1 hb_5
       refine CW.skip ?_
       refine QN.blockN ?_
       exact QN.thenJ ⟨_,qn ⟨rfl,⟨rfl,trivial⟩⟩,hh⟩
      ·have hh:=hh.2 hb_5
       refine .sr (.M (reg (t78.b:Int)) (.A (reg ((none:Pt):Pt)) (.A (reg (t78.b:Int)) (.nx ?_))))
       refine CW.ret ?_
       refine QN.blockRet ?_
       refine QN.thenRet ?_
       exact ret2 rfl rfl rfl ⟨(⟨(none:Pt),t78.b⟩:T2 Pt Int),rfl,hh⟩
    ·rintro ρ h ⟨ρ',rfl,hh⟩
     unfold yo.j4 at hh
     refine .sr (.M (reg d) ?_)
     refine .e (qw fn_96 rfl rfl hh ?_)
     intro h t104 hh
     refine .M (reg (t104:T3 Pt Sl Int)) (.V (qar (v:=reg (t104.a:Pt)) rfl rfl) (.V (qar (v:=reg (t104.b:Sl)) rfl rfl) (.V (qar (v:=reg (t104.c:Int)) rfl rfl) (.A (reg (t104.a:Pt)) (.A (reg (t104.b:Sl)) (.A (reg (t104.c:Int)) (.nx (.seq (.sr (.M (reg (t104.c:Int)) ?_))))))))))
     refine .V (qdz rfl rfl) (.nx ?_)
     refine CW.cond (t104.c != (0:Int)) rfl (fun hb_6=>?_) (fun hb_6=>?_)
     ·have hh:=hh.1 hb_6
      refine .sr (.M (reg (t104.c:Int)) (.A (reg ((none:Pt):Pt)) (.A (reg (t104.c:Int)) (.nx ?_))))
      refine CW.ret ?_
      refine QN.thenRet ?_
      exact ret2 rfl rfl rfl ⟨(⟨(none:Pt),t104.c⟩:T2 Pt Int),rfl,hh⟩
     ·have hh:=hh.2 hb_6
      refine CW.skip ?_
      refine QN.then_ ?_
      refine .sr (.M (.pointer (some t47)) (.M (reg (t104.a:Pt)) (.V (qv rfl) (.V (qd fl_109_2 rfl) (.S (t104.a:Pt) 2 sz_100 (one_pt _) yl (qx _) (fun x=>set_109_log x (t104.a:Pt)) hh rfl rfl (fun _ hh=>.nx (.seq (.sr (.M (.pointer (some t47)) (.M (reg (t104.b:Sl)) ?_))))))))))
      refine .e (qw fn_97 rfl rfl hh ?_)
      intro h t117 hh
      refine .A (reg t117) (.nx (.sr (.M (reg t117) (.V (qdz rfl rfl) (.nx ?_)))))
      refine CW.cond (t117 != (0:Int)) rfl (fun hb_7=>?_) (fun hb_7=>?_)
      ·have hh:=hh.1 hb_7
       refine .sr (.M (reg t117) (.A (reg ((none:Pt):Pt)) (.A (reg t117) (.nx ?_))))
       refine CW.ret ?_
       refine QN.thenRet ?_
       exact ret2 rfl rfl rfl ⟨(⟨(none:Pt),t117⟩:T2 Pt Int),rfl,hh⟩
      ·have hh:=hh.2 hb_7
       refine CW.skip ?_
       refine QN.then_ ?_
       refine .sr (.M (.pointer (some t47)) (.A (.pointer (some t47)) (.A (reg ((0:Int):Int)) (.nx ?_))))
       refine CW.ret ?_
       exact ret2 rfl rfl rfl ⟨(⟨(some t47),(0:Int)⟩:T2 Pt Int),rfl,hh⟩
theorem qcy.ok (s:Pt) (w:Pt) (k:Int→H→Prop) (h:H) (hh:qcy.b s w k h):CallsH Prog 39 [reg s,reg w].toArray h fun v h'=>∃ r:Int,v = reg r∧k r h':=by
 unfold qcy.b at hh
 refine CallsH.of 38 Tryz.func39 rfl Tryz.ntmps39 rfl (fun w0=>?_)
 refine .sr (.A (reg ((0:Int):Int)) (.nx (.seq ?_)))
 refine CW.drawN 28 rfl ym [0,1,2,3,4,5,6,7,8,9,10,11,12,13,14,15,16,17,18,19,20,21,23,24,25,26,27] ?_
 refine .P 0 rfl (qu (v:=reg s) rfl) ?_
 obtain ⟨p,hp,hh⟩:=hh
 refine .P 1 rfl (qv (congrArg Value.pointer hp)) (.P 2 rfl (qd fl_97_1 rfl) (.KL 3 2 na_59 get_97_d rfl hh rfl (fun t11 hh=>.P 4 rfl (qu (v:=reg s) rfl) (.P 5 rfl (qv (congrArg Value.pointer hp)) (.P 6 rfl (qd fl_97_0 rfl) (.P 7 rfl (qd fl_56_0 rfl) (.KL 8 0 na_3 get_97_Seat_Id rfl hh rfl (fun t16 hh=>.P 9 rfl (qu (v:=reg w) rfl) ?_))))))))
 obtain ⟨p_1,hp_1,hh⟩:=hh
 refine .P 10 rfl (qv (congrArg Value.pointer hp_1)) (.P 11 rfl (qd fl_93_0 rfl) (.KA 12 0 ag_27 get_93_first (fun _=>(qh _)) rfl hh rfl (fun t20 hh=>.P 13 rfl (qu (v:=reg w) rfl) (.P 14 rfl (qv (congrArg Value.pointer hp_1)) (.P 15 rfl (qd fl_93_1 rfl) (.KL 16 2 na_3 get_93_base rfl hh rfl (fun t24 hh=>.P 17 rfl (qu (v:=reg s) rfl) (.P 18 rfl (qv (congrArg Value.pointer hp)) (.P 19 rfl (qd fl_97_0 rfl) ?_)))))))))
 refine .P 20 rfl (qd fl_56_1 rfl) (.KL 21 1 na_54 get_97_Seat_Seeds rfl hh rfl (fun t29 hh=>?_))
 refine .w 22 (by kernel_rfl) rfl (by kernel_rfl) (.e (qw fn_62 rfl rfl hh ?_))
 intro h t30 hh
 refine ⟨⟨⟨⟨⟨⟨trivial,.inl (by kernel_rfl)⟩,.inl (by kernel_rfl)⟩,.inl (by kernel_rfl)⟩,.inl (by kernel_rfl)⟩,.inl (by kernel_rfl)⟩,?_⟩
 refine .P 23 rfl (qu (v:=reg (t30:T2 Pt Int)) rfl) (.P 24 rfl (qar (v:=reg (t30.a:Pt)) rfl rfl) (.P 25 rfl (qar (v:=reg (t30.b:Int)) rfl rfl) (.P 26 rfl (qad (v:=reg (t30.a:Pt)) rfl) (.P 27 rfl (qad (v:=reg (t30.b:Int)) rfl) ?_))))
 refine .done (by kernel_rfl) ?_
 refine QN.then_ ?_
 refine .sr (.M (reg s) (.M (reg (t30.a:Pt)) (.V (qv (congrArg Value.pointer hp)) (.V (qd fl_97_2 rfl) (.S (t30.a:Pt) 3 sz_44 (one_pt _) qc7 (qx _) (fun x=>set_97_rep x (t30.a:Pt)) hh rfl rfl (fun _ hh=>.nx (.sr (.M (reg (t30.b:Int)) (.A (reg (t30.b:Int)) (.nx ?_))))))))))
 refine CW.ret ?_
 exact ret1 rfl rfl ⟨(t30.b:Int),rfl,hh⟩
theorem qca.ok (first:qa) (base:Int) (seats:Sl) (k:(T2 Pt Int)→H→Prop) (h:H) (hh:qca.b first base seats k h):CallsH Prog 15 [reg first,reg base,reg seats].toArray h fun v h'=>∃ r:T2 Pt Int,v = reg r∧k r h':=by
 unfold qca.b at hh
 refine CallsH.of 64 Tryz.func15 rfl Tryz.ntmps15 rfl (fun w0=>?_)
 refine .sr ?_
 refine qy hh (fun first_1 hfirst_1 hh=>?_)
 refine .e (qan hfirst_1 rfl rfl rfl ?_)
 refine .A (reg ((none:Pt):Pt)) (.A (reg ((0:Int):Int)) (.nx (.sr (.M (reg base) ?_))))
 refine .e (qba rfl hh ?_)
 intro h t13 hh
 refine .e (qba rfl hh ?_)
 intro h t14 hh
 refine .V (qah ({ yi.zero with base:=base,seats:=t13,clients:=t14 }:yi) zo_93 pl_93 rfl (qf rfl rfl (qp _) (qd3 _) rfl (set_93_base _ _) (qf rfl rfl (yq _) (qd3 _) rfl (set_93_seats _ _) (qf rfl rfl (yq _) (qd3 _) rfl (set_93_clients _ _) (rfl)))) rfl) ?_
 refine qy hh (fun t16 ht16 hh=>?_)
 refine .e (qan ht16 rfl rfl rfl ?_)
 refine .A (.pointer (some t16)) (.nx (.seq ?_))
 refine CW.drawN 10 rfl ym [0,1,2,3,4,6,7,8] ?_
 refine .P 0 rfl (qu (v:=.pointer (some t16)) rfl) (.P 1 rfl (qd qfd rfl) (.KL 2 0 na_3 qcu rfl hh rfl (fun t19 hh=>.P 3 rfl (qd qbw rfl) (.KL 4 1 qdr qao rfl hh rfl (fun t21 hh=>?_)))))
 refine .w 5 (by kernel_rfl) rfl (by kernel_rfl) (.e (qw fn_35 rfl rfl hh ?_))
 intro h t22 hh
 obtain ⟨hc,hh⟩:=hh
 refine ⟨⟨⟨trivial,.inr hc⟩,.inl (by kernel_rfl)⟩,?_⟩
 refine .P 6 rfl (qah ({ Epoch:=t19,Members:=t22 }:qa) zo_27 pl_27 rfl (qf rfl rfl (qp _) (qh _) rfl (set_27_Epoch _ _) (qf rfl rfl (yj _) (qh _) rfl (qft _ _) (rfl))) rfl) (.P 7 rfl (qv rfl) (.P 8 rfl (qd fl_93_0 rfl) ?_))
 obtain ⟨xw,hxw,hwxw,hh⟩:=hh
 refine .w 9 (by kernel_rfl) rfl (by kernel_rfl) (.e (qb7 (p:=t16) (nv:=enc (({ Epoch:=t19,Members:=t22 }:qa):qa)) 0 rfl rfl rfl sz_27 (one_api_Config _) hxw hwxw (qd3 _) (qh _) rfl (set_93_first xw (({ Epoch:=t19,Members:=t22 }:qa):qa)) ?_))
 refine ⟨⟨⟨trivial,.inl (by kernel_rfl)⟩,.inl (by kernel_rfl)⟩,?_⟩
 refine .done (by kernel_rfl) ?_
 refine QN.then_ ?_
 refine CW.seq ?_
 refine .sr (.LA 0 ag_27 qcg (fun _=>(qh _)) hh rfl (fun t26 hh=>?_))
 refine .e (qw fn_36 rfl rfl hh ?_)
 intro h t27 hh
 refine .V (v_not rfl) (.nx ?_)
 refine CW.cond (!t27) rfl (fun hb=>?_) (fun hb=>?_)
 ·have hh:=hh.1 hb
  refine .sr (.A (reg ((none:Pt):Pt)) (.A (reg ((1:Int):Int)) (.nx ?_)))
  refine CW.ret ?_
  refine QN.thenRet ?_
  exact ret2 rfl rfl rfl ⟨(⟨(none:Pt),(1:Int)⟩:T2 Pt Int),rfl,hh⟩
 ·have hh:=hh.2 hb
  refine CW.skip ?_
  refine QN.then_ ?_
  refine CW.join (fun ρ h=>∃ (ρ':Env),ρ = setl ρ' [(8,.pointer (some t16))]∧(qca.j1 k) t16 h) ?_ ?_
  ·refine .sr (.M (reg seats) (.V (qag (sl_49).1 rfl) (.M (reg ((0:Int):Int)) (.nx ?_))))
   refine CW.block ?_
   unfold qca.l1 at hh
   refine CW.loop (fun (σ0:Int) ρ=>match σ0 with | t31=>∃ ρ':Env,ρ = setl ρ' [(8,.pointer (some t16)),(29,reg seats),(30,reg ((seats.len:Int):Int)),(31,reg t31)]) hh ⟨_,qn ⟨rfl,⟨rfl,⟨rfl,⟨rfl,trivial⟩⟩⟩⟩⟩ ?_
   clear hh
   rintro s1 t31 ρ h ⟨ρ',rfl⟩ hh
   refine .sr (.V (qax rfl rfl) (.nx (.seq ?_)))
   refine CW.cond (decide (t31 < (seats.len:Int))) rfl (fun hb_1=>?_) (fun hb_1=>?_)
   ·have hh:=hh.1 hb_1
    refine CW.skip ?_
    refine QN.then_ ?_
    refine CW.seq ?_
    refine CW.block ?_
    refine .sr ?_
    obtain ⟨t33,ht33,hh⟩:=hh
    refine .V (qaz sl_49 rfl rfl ht33.1 ht33.2.1 ht33.2.2) (.LA 0 ag_56 get_56_all (fun _=>(qaa _)) hh rfl (fun t34 hh=>?_))
    refine qy hh (fun s hs hh=>?_)
    refine .e (qaq hs zo_56 rfl ?_)
    refine .S (t34:yu) 0 sz_56 (one_api_Seat _) qaa (qaa _) (fun x=>set_56_all x (t34:yu)) hh rfl rfl (fun _ hh=>.nx (.seq ?_))
    refine CW.seq ?_
    refine CW.drawN 8 rfl ym [0,1,2,3,4,5,6,7] ?_
    refine .P 0 rfl (qu (v:=.pointer (some t16)) rfl) (.P 1 rfl (qv rfl) (.P 2 rfl (qd qeu rfl) (.KL 3 3 na_90 qcc rfl hh rfl (fun t38 hh=>.P 4 rfl (qd fl_56_0 rfl) (.KL 5 0 na_3 get_56_Id rfl hh rfl (fun t40 hh=>?_))))))
    obtain ⟨t41,⟨xt41,hxt41,hgt41⟩,hh⟩:=hh
    refine .K 6 (fun h'=>∃ l:List (Int×Pt),MapIs h' t38 l∧(fun (l:List (Int×Pt))=>(mlook (none:Pt) l (t40:Int)).a) l = t41) rfl ⟨xt41,hxt41,hgt41⟩ (fun h' hS=>hS.elim fun _ hS=>qdl mt_90 kt_3 zv_95 rfl rfl hS.1 hS.2) (.P 7 rfl (v_ne_nil pt_95 rfl rfl) ?_)
    refine .done (by kernel_rfl) ?_
    refine QN.then_ ?_
    refine CW.cond t41.isSome rfl (fun hb_2=>?_) (fun hb_2=>?_)
    ·have hh:=hh.1 hb_2
     refine .sr (.A (reg ((none:Pt):Pt)) (.A (reg ((1:Int):Int)) (.nx ?_)))
     refine CW.ret ?_
     refine QN.thenRet ?_
     refine QN.blockRet ?_
     refine QN.thenRet ?_
     refine QN.thenRet ?_
     refine QN.blockRet ?_
     refine QN.thenRet ?_
     exact ret2 rfl rfl rfl ⟨(⟨(none:Pt),(1:Int)⟩:T2 Pt Int),rfl,hh⟩
    ·have hh:=hh.2 hb_2
     refine CW.skip ?_
     refine QN.then_ ?_
     refine .sr (.V (qd fl_56_1 rfl) (.L 1 na_54 get_56_Seeds hh rfl (fun t44 hh=>?_)))
     refine .e (qw fn_37 rfl rfl hh ?_)
     intro h t45 hh
     refine .V (qd fl_56_1 rfl) (.S (t45:Sl) 1 sz_54 (qd1 _) qaa (yj _) (fun x=>set_56_Seeds x (t45:Sl)) hh rfl rfl (fun _ hh=>.nx (.seq ?_)))
     refine CW.drawN 5 rfl ym [0,2,4] ?_
     refine .KA 0 0 ag_56 get_56_all (fun _=>(qaa _)) rfl hh rfl (fun t47 hh=>?_)
     refine .w 1 (by kernel_rfl) rfl (by kernel_rfl) (.e (qw fn_38 rfl rfl hh ?_))
     intro h t48 hh
     obtain ⟨hc_1,hh⟩:=hh
     refine ⟨⟨trivial,.inr hc_1⟩,?_⟩
     refine .P 2 rfl (qah ({ qac.zero with Seat:=t47,d:=t48 }:qac) zo_97 pl_97 rfl (qf rfl rfl (qaa _) (qc7 _) rfl (set_97_Seat _ _) (qf rfl rfl (qx _) (qc7 _) rfl (set_97_d _ _) (rfl))) rfl) ?_
     refine qy hh (fun t50 ht50 hh=>?_)
     refine .w 3 (by kernel_rfl) rfl (by kernel_rfl) (.e (qan ht50 rfl rfl rfl ?_))
     refine ⟨⟨trivial,.inl (by kernel_rfl)⟩,?_⟩
     refine .P 4 rfl (qad (v:=.pointer (some t50)) rfl) ?_
     refine .done (by kernel_rfl) ?_
     refine QN.then_ ?_
     refine CW.seq ?_
     refine .sr (.M (.pointer (some t50)) (.M (.pointer (some t16)) ?_))
     refine .e (qw fn_39 rfl rfl hh ?_)
     intro h t53 hh
     refine .V (qdz rfl rfl) (.nx ?_)
     refine CW.cond (t53 != (0:Int)) rfl (fun hb_3=>?_) (fun hb_3=>?_)
     ·have hh:=hh.1 hb_3
      refine .sr (.A (reg ((none:Pt):Pt)) (.A (reg ((1:Int):Int)) (.nx ?_)))
      refine CW.ret ?_
      refine QN.thenRet ?_
      refine QN.blockRet ?_
      refine QN.thenRet ?_
      refine QN.thenRet ?_
      refine QN.blockRet ?_
      refine QN.thenRet ?_
      exact ret2 rfl rfl rfl ⟨(⟨(none:Pt),(1:Int)⟩:T2 Pt Int),rfl,hh⟩
     ·have hh:=hh.2 hb_3
      refine CW.skip ?_
      refine QN.then_ ?_
      refine CW.drawN 8 rfl ym [0,1,2,3,4,5,6] ?_
      refine .P 0 rfl (qu (v:=.pointer (some t16)) rfl) (.P 1 rfl (qv rfl) (.P 2 rfl (qd qeu rfl) (.KL 3 3 na_90 qcc rfl hh rfl (fun t58 hh=>.P 4 rfl (qd fl_56_0 rfl) (.KL 5 0 na_3 get_56_Id rfl hh rfl (fun t60 hh=>.P 6 rfl (qu (v:=.pointer (some t50)) rfl) ?_))))))
      refine .w 7 (by kernel_rfl) rfl (by kernel_rfl) (.e (e_mput mt_90 kt_3 rfl rfl rfl hh ?_))
      intro h hh
      refine ⟨⟨⟨trivial,.inl (by kernel_rfl)⟩,.inl (by kernel_rfl)⟩,?_⟩
      refine .done (by kernel_rfl) ?_
      refine QN.blockN ?_
      refine QN.then_ ?_
      refine CW.region ?_
      refine .V (qbp rfl rfl) (.M (reg ((iadd t31 (1:Int)):Int)) ?_)
      refine .nil ?_
      exact QN.thenJ ⟨(iadd t31 (1:Int)),⟨_,qn ⟨rfl,⟨rfl,⟨rfl,⟨rfl,trivial⟩⟩⟩⟩⟩,hh⟩
   ·have hh:=hh.2 hb_1
    refine CW.exit ?_
    refine QN.thenExit ?_
    refine QN.thenExit ?_
    refine QN.blockExit ?_
    exact QN.thenJ ⟨_,qn ⟨rfl,trivial⟩,hh⟩
  ·rintro ρ h ⟨ρ',rfl,hh⟩
   unfold qca.j1 at hh
   refine .sr (.M (.pointer (some t16)) (.A (.pointer (some t16)) (.A (reg ((0:Int):Int)) (.nx ?_))))
   refine CW.ret ?_
   exact ret2 rfl rfl rfl ⟨(⟨(some t16),(0:Int)⟩:T2 Pt Int),rfl,hh⟩
theorem qbj.ok (w:Pt) (id:Int) (keep:Int) (k:Unit→H→Prop) (h:H) (hh:qbj.b w id keep k h):CallsH Prog 16 [reg w,reg id,reg keep].toArray h fun v h'=>∃ r:Unit,v = reg r∧k r h':=by
 unfold qbj.b at hh
 refine CallsH.of 36 Tryz.func16 rfl Tryz.ntmps16 rfl (fun w0=>?_)
 refine CW.join (fun ρ h=>∃ (ρ':Env) (t16:Bool),ρ = setl ρ' [(0,reg w),(1,reg id),(2,reg keep),(16,reg t16)]∧(qbj.j1 k) w id keep t16 h) ?_ ?_
 ·refine CW.region ?_
  refine .M (reg w) (.V (v_ne_nil pt_24 rfl rfl) (.M (reg (w.isSome:Bool)) ?_))
  refine qbl hh (fun hb hh=>?_) (fun hb hh=>?_)
  ·refine .yv 8 rfl (cb hb) rfl (qu (v:=reg (w:Pt)) rfl) rfl ?_
   obtain ⟨p,hp,hh⟩:=hh
   refine .yv 8 rfl (cb hb) rfl (qv (congrArg Value.pointer hp)) rfl (.yv 8 rfl (cb hb) rfl (qd qeu rfl) rfl ?_)
   obtain ⟨t12,⟨xt12,hxt12,hgt12⟩,hh⟩:=hh
   refine .yv 8 rfl (cb hb) rfl (qc2 (p:=p) 3 na_90 rfl hxt12 hgt12 qcc) rfl (.yv 8 rfl (cb hb) rfl (qu (v:=reg (id:Int)) rfl) rfl ?_)
   obtain ⟨t14,⟨xt14,hxt14,hgt14⟩,hh⟩:=hh
   refine .yv 8 rfl (cb hb) rfl (qdl mt_90 kt_3 zv_95 rfl rfl hxt14 hgt14) rfl (.yv 8 rfl (cb hb) rfl (v_ne_nil pt_95 rfl rfl) rfl (.V (qbx (v:=reg (t14.isSome:Bool)) rfl hb rfl) ?_))
   refine .nil ?_
   exact QN.thenJ ⟨_,t14.isSome,qn ⟨rfl,⟨rfl,⟨rfl,⟨rfl,trivial⟩⟩⟩⟩,hh⟩
  ·refine .no 8 rfl (cb hb) rfl rfl (.no 8 rfl (cb hb) rfl rfl (.no 8 rfl (cb hb) rfl rfl (.no 8 rfl (cb hb) rfl rfl (.no 8 rfl (cb hb) rfl rfl (.no 8 rfl (cb hb) rfl rfl (.no 8 rfl (cb hb) rfl rfl (.V (qb0 (v:=reg false) rfl hb rfl) ?_)))))))
   refine .nil ?_
   exact QN.thenJ ⟨_,false,qn ⟨rfl,⟨rfl,⟨rfl,⟨rfl,trivial⟩⟩⟩⟩,hh⟩
 ·rintro ρ h ⟨ρ',t16,rfl,hh⟩
  unfold qbj.j1 at hh
  refine CW.cond t16 rfl (fun hb_1=>?_) (fun hb_1=>?_)
  ·have hh:=hh.1 hb_1
   refine .sr (.M (reg w) ?_)
   obtain ⟨p_1,hp_1,hh⟩:=hh
   refine .V (qv (congrArg Value.pointer hp_1)) (.V (qd qeu rfl) (.L 3 na_90 qcc hh rfl (fun t20 hh=>.M (reg id) ?_)))
   obtain ⟨t22,⟨xt22,hxt22,hgt22⟩,hh⟩:=hh
   refine .V (qdl mt_90 kt_3 zv_95 rfl rfl hxt22 hgt22) ?_
   obtain ⟨p_2,hp_2,hh⟩:=hh
   refine .V (qv (congrArg Value.pointer hp_2)) (.V (qd fl_97_1 rfl) (.L 2 na_59 get_97_d hh rfl (fun t25 hh=>.M (reg keep) ?_)))
   refine .e (qw fn_40 rfl rfl hh ?_)
   intro h t27 hh
   refine .nx ?_
   refine CW.region ?_
   refine .M (reg w) (.V (qv (congrArg Value.pointer hp_1)) (.V (qd qeu rfl) (.L 3 na_90 qcc hh rfl (fun t31 hh=>.M (reg id) ?_))))
   obtain ⟨t33,⟨xt33,hxt33,hgt33⟩,hh⟩:=hh
   refine .V (qdl mt_90 kt_3 zv_95 rfl rfl hxt33 hgt33) ?_
   obtain ⟨p_3,hp_3,hh⟩:=hh
   refine .V (qv (congrArg Value.pointer hp_3)) (.V (qd fl_97_2 rfl) (.S ((none:Pt):Pt) 3 sz_44 (one_pt _) qc7 (qx _) (fun x=>set_97_rep x ((none:Pt):Pt)) hh rfl rfl (fun _ hh=>?_)))
   refine .nil ?_
   exact ret0n rfl ⟨(),rfl,hh⟩
  ·have hh:=hh.2 hb_1
   refine CW.skip ?_
   exact ret0n rfl ⟨(),rfl,hh⟩
end Go.Proofs.YtmpmildpioebhaaGreatDoor

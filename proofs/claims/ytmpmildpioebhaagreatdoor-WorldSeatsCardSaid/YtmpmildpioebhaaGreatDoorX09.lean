/-
  The statement WorldSeats (law 23): a seat whose power goes off is gone, and comes back with nothing lost. Part 9 of 27. No condition stands ahead of the statement. Parts of this text were printed by a program of ours.
-/
import Derived.Test.YtmpmildpioebhaaGreatDoorX07
set_option linter.all false
set_option maxRecDepth 100000
set_option maxHeartbeats 4000000
noncomputable section
namespace Go.Vm
open Go Go.Sh
open Go.Sh.Ty (reg)
section
variable {C:Ctx} {ρ:Env} {h:H} {ty:TypeId} {Q:Exit→Act→World→Prop} {J:Env→H→Prop} {dst:Option Tmp} {X:Cx} {θ:Th} {hp:Hp} {T:Tb} {q:K1} {o:Op}
theorem Src.all {P:Program} {V:Value} {sz m:Nat} {ys:List Value} (hx:Src P h V sz m ys) {w:World} (hw:w.heap = h):(Builtin.lenOf V).run P w = .ok m w∧(Builtin.firstCells sz m V).run P w = .ok ys.toArray w:=by
 obtain ⟨h1,h2⟩:=hx.2.2 w hw
 have:=h2 m (Nat.le_refl _)
 rw [← hx.1,List.take_length] at this
 exact ⟨h1,this⟩
set_option maxHeartbeats 1000000 in
theorem e_appG {t u el size bytes:Nat} {z:List Value} {so xo:Operand} {a:Option Addr} {n c m:Nat} {ys:List Value} {d:TypeDesc} (hT:SlT C.P t el size) (hU:C.P.underlying u = some d) (hd':(∃ e',d = .slice e')∨d = .string) (hz:ZeroOf C.P el z) (hb:(C.P.info? el).map (·.bytes) = some bytes)
  (hs:ev ρ so = .slice a n c) (hx:Src C.P h (ev ρ xo) size m ys) (hd:okd C.n dst = true)
  (hfit:n + m≤c→(∀ p,a = some p→WAt h (p.add (n * size)) ys.length)∧J (upo ρ dst (.slice a (n + m) c)) (match a with | some p=>putC h (p.add (n * size)) ys | none=>h))
  (hgrow:c < n + m→∃ xs,(∀ w:World,w.heap = h→(Builtin.firstCells size n (.slice a n c)).run C.P w = .ok xs.toArray w)∧(n + m) * bytes≤maxBytes∧n + m≤9223372036854775807 ∧
   ∀ cap,n + m≤cap→J (upo ρ dst (.slice (some ⟨h.size,0,none⟩) (n + m) cap)) (newC h el (xs ++ ys ++ (List.replicate (cap - (n + m)) z).flatten))):OpE C Q (.call ⟨.builtin .append,#[so,xo],#[t,u]⟩) ty dst J ρ h:=by
 obtain ⟨i,zv,hi,hzv,hzc⟩:=hz
 obtain ⟨hu,i',hi',hsz⟩:=hT
 rw [hi] at hi'
 obtain rfl:=Option.some.inj hi'
 rw [hi] at hb
 have hby:i.bytes = bytes:=Option.some.inj hb
 refine OpE.ofAny hd (fun w hw pos after g=>?_)
 obtain ⟨hlx,hfx⟩:=hx.all hw
 have h1:=hx.2.1
 by_cases hc:n + m≤c
 ·obtain ⟨hwa,hk⟩:=hfit hc
  cases a with
  | none=>
   refine ⟨.slice none (n + m) c,h,w,?_,hw,rfl,rfl,rfl,hk⟩
   simp only [execOp,resolve,invoke,builtin,hs,Builtin.append_,List.map_cons,List.map_nil,List.map_toArray]
   rcases hd' with ⟨e',rfl⟩ | rfl <;> simp [run_underlying hu,run_underlying hU,sizeOf,typeInfo,hi,hsz,hlx,hc,hfx]
  | some p=>
   have hst:=qdw C.P (a:=p.add (n * size)) (ys:=ys) (w:=w) (by rw [hw]; exact hwa p rfl) h1
   refine ⟨.slice (some p) (n + m) c,putC h (p.add (n * size)) ys,{ w with heap:=putC w.heap (p.add (n * size)) ys },?_,by rw [hw],rfl,rfl,rfl,hk⟩
   simp only [execOp,resolve,invoke,builtin,hs,Builtin.append_,List.map_cons,List.map_nil,List.map_toArray]
   rcases hd' with ⟨e',rfl⟩ | rfl <;> simp [run_underlying hu,run_underlying hU,sizeOf,typeInfo,hi,hsz,hlx,hc,hfx,hst]
 ·obtain ⟨xs,hxs,hbb,h63,hk⟩:=hgrow (by omega)
  have hcap:=grownCap_ge w (n + m) c el
  have h48:¬ (281474976710656 < Builtin.nextslicecap (n + m) c * i.bytes):=by
   have:=growslice_fits (need:=n + m) (old:=c) (bytes:=i.bytes) (by omega) (by rw [hby]; exact hbb)
   omega
  have h63':¬ (9223372036854775807 < ((n:Int) + (m:Int))):=by omega
  have hfs:=hxs w.drew (by exact hw)
  obtain ⟨_,hfx'⟩:=hx.all (w:=w.drew) (by exact hw)
  have hzf:=qe9 z (grownCap w (n + m) c el - (n + m))
  refine ⟨.slice (some ⟨h.size,0,none⟩) (n + m) (grownCap w (n + m) c el),newC h el (xs ++ ys ++ (List.replicate (grownCap w (n + m) c el - (n + m)) z).flatten),{ w.drew with heap:=newC h el (xs ++ ys ++ (List.replicate (grownCap w (n + m) c el - (n + m)) z).flatten) },?_,rfl,rfl,rfl,rfl,hk _ hcap⟩
  subst hw
  simp only [execOp,resolve,invoke,builtin,hs,Builtin.append_,List.map_cons,List.map_nil,List.map_toArray]
  rcases hd' with ⟨e',rfl⟩ | rfl
  ·simp [run_underlying hu,run_underlying hU,sizeOf,typeInfo,zeroValue,hi,hzv,hsz,hlx,hc,h63',h48,Question.forced,hfs,hfx',newRow,grownCap,newC] at hzf ⊢
   rw [hzc,hzf]
   simp
   rfl
  ·simp [run_underlying hu,run_underlying hU,sizeOf,typeInfo,zeroValue,hi,hzv,hsz,hlx,hc,h63',h48,Question.forced,hfs,hfx',newRow,grownCap,newC] at hzf ⊢
   rw [hzc,hzf]
   simp
   rfl
theorem newS_ok (hX:CxOk X) (S:SR X θ hp h) {el sz n0 n cap:Nat} {z us:List Value} {cs:CL AV} {vs:List Value} (h0:0 < sz) (hc:RC θ cs vs) (hl:vs.length = n * sz) (hcap:n≤cap) (hus:us.length = (cap - n) * sz) (g:X.G (newS cs n sz hp q)):
  ∃ θ' hp' a,SR X θ' hp' (newC h el (vs ++ us))∧Ext θ θ' (tor hp.nx)∧tor hp.nx≤tor hp'.nx∧RV θ' a (.slice (some ⟨h.size,0,none⟩) n cap)∧X.G (q a hp'):=by
 unfold newS at g
 obtain ⟨_,g⟩:=qak hX.gd g
 have g:=frC_ok hX.gd g
 have g:X.G (hnew hp (.c (Nat.mul n sz) cs) fun r h=>q (.sl r 0 n sz) h):=g
 obtain ⟨θ',hp',f1,f2,f3,f4,g4⟩:=new_ok S hX (E:=el) (us:=us) hc hl g
 refine ⟨θ',hp',_,f2,f3,f4,rv_sl (o:=0) (c:=cap) f1 h0 ?_ hcap,g4⟩
 rw [hus,← Nat.add_mul]
 have:n + (cap - n) = cap:=by omega
 rw [this]; omega
theorem moved_ok (hX:CxOk X) (S:SR X θ hp h) {r:Rid} {b o0 t:Nat} (hr:θ r = some (b,o0,t)) {L:Nat} {cs0:CL AV} (hg:getH hp r = .c L cs0) {o n m c sz:Nat} (h0:0 < sz) (hc:o + c * sz = t) (hnm:n + m≤c) {xs ys:List Value} {cs:CL AV}
  (hxs:RC θ cs (xs ++ ys)) (hxl:xs.length = n * sz) (hyl:ys.length = m * sz) (hat:n = 0∨AtH h ⟨b,o0 + o,none⟩ xs) (hK:X.K r = none) (g:X.G (newS cs (n + m) sz ⟨uR hp.rows r .no,hp.nx,hp.ro⟩ q)):
  WAt h ⟨b,o0 + o + n * sz,none⟩ ys.length∧∃ θ' hp' a,SR X θ' hp' (putC h ⟨b,o0 + o + n * sz,none⟩ ys)∧Ext θ θ' (tor hp.nx)∧tor hp.nx≤tor hp'.nx∧RV θ' a (.slice (some ⟨b,o0 + o,none⟩) (n + m) c)∧X.G (q a hp'):=by
 obtain ⟨arr,E,fr,vs,h1,h2,h3,h4,h5,h6,h7⟩:=rowC_ok S hr hg
 have hmul:(n + m) * sz≤c * sz:=Nat.mul_le_mul_right _ hnm
 have hadd:(n + m) * sz = n * sz + m * sz:=Nat.add_mul _ _ _
 have hw:WAt h ⟨b,o0 + o + n * sz,none⟩ ys.length:=by
  refine ⟨rfl,arr,E,fr,h1,by show o0 + o + n * sz + ys.length≤_; omega,fun i hi ⟨k1,k2⟩=>?_⟩
  have k1:fr.1≤o0 + o + n * sz + i:=k1
  have k2:o0 + o + n * sz + i < fr.2:=k2
  rcases h4 with h4 | h4 <;> omega
 refine ⟨hw,?_⟩
 have S1:=S.drop hr hK
 unfold newS at g
 obtain ⟨_,g⟩:=qak hX.gd g
 have g:=frC_ok hX.gd g
 have g:X.G (hnew ⟨uR hp.rows r .no,hp.nx,hp.ro⟩ (.c (Nat.mul (n + m) sz) cs) fun r h=>q (.sl r 0 (n + m) sz) h):=g
 obtain ⟨nx',hnx,g⟩:=hnew_ok S1 hX g
 have e:=putC_at (h:=h) (p:=⟨b,o0 + o + n * sz,none⟩) h1 ys
 have hb:b < h.size:=by rw [Array.getElem?_eq_some_iff] at h1; exact h1.1
 have hgr:getH ⟨uR hp.rows r .no,hp.nx,hp.ro⟩ r = .no:=by rw [qcz,if_pos rfl]
 have S2:=S1.add (x:=(b,o0 + o,t - o)) (row:=.c (Nat.mul (n + m) sz) cs) (h':=putC h ⟨b,o0 + o + n * sz,none⟩ ys) hnx (by rw [e]; simp) (by rw [e]; simpa using hb)
  (fun b' hb' hne=>by rw [e,Array.getElem?_setIfInBounds_ne (Ne.symm hne)])
  (fun r' y hy hl'=>by
   have hne:r' ≠ r:=fun e1=>by subst e1; rw [hgr] at hl'; exact hl'
   have hl2:live (getH hp r'):=by rw [qcz,if_neg hne] at hl'; exact hl'
   have:=S.dist r' r y (b,o0,t) hy hr hl2 (by rw [hg]; trivial) hne
   exact this)
  (by have:=S.own r (b,o0,t) hr (by rw [hg]; trivial); exact this) ?_
 ·refine ⟨_,_,_,S2,S1.ext_new _,?_,rv_sl (o:=0) (c:=c) (qb1 _ _ _) h0 (by omega) hnm,g⟩
  show tor hp.nx≤tor nx'
  have:tor nx' = tor hp.nx + 1:=hnx
  omega
 ·have hsl:(arr.toList.drop (o0 + o)).take (n * sz) = xs:=by
   rcases hat with h00 | hat
   ·subst h00; have:xs = []:=List.eq_nil_of_length_eq_zero (by omega); subst this; simp
   ·obtain ⟨_,arr',E',fr',hb',hcc⟩:=hat
    have hb':h[b]? = some (.cells arr' E' fr'):=hb'
    rw [h1] at hb'
    injection hb' with hb'; injection hb' with e1 e2 e3; subst e1
    apply List.ext_getElem?
    intro j
    rw [List.getElem?_take]
    split
    ·rename_i hj
     rw [List.getElem?_drop]
     have:=hcc j xs[j] (List.getElem?_eq_getElem (by omega))
     rw [List.getElem?_eq_getElem (by omega:j < xs.length),← this]
     simp
    ·rw [List.getElem?_eq_none (by omega)]
  refine ⟨splice arr (o0 + o + n * sz) ys,E,fr,xs ++ ys,?_,?_,?_,?_,RC.mono (qe0 S1.nx_none _) hxs,by rw [List.length_append,hxl,hyl]; exact hadd.symm,?_⟩
  ·rw [e]
   show (h.setIfInBounds b _)[b]? = _
   simp [hb]
  ·show (o0 + o) + (t - o) = _
   simp [splice]; omega
  ·show (n + m) * sz≤t - o
   omega
  ·have:(splice arr (o0 + o + n * sz) ys).size = arr.size:=by simp [splice]; omega
   rw [this]; exact h4
  ·show ((splice arr (o0 + o + n * sz) ys).toList.drop (o0 + o)).take ((n + m) * sz) = xs ++ ys
   show ((arr.toList.take (o0 + o + n * sz) ++ ys ++ arr.toList.drop (o0 + o + n * sz + ys.length)).drop (o0 + o)).take ((n + m) * sz) = xs ++ ys
   have hl1:(arr.toList.take (o0 + o + n * sz)).length = o0 + o + n * sz:=by simp; omega
   rw [List.append_assoc,List.drop_append_of_le_length (by omega)]
   have e3:(arr.toList.take (o0 + o + n * sz)).drop (o0 + o) = xs:=by
    rw [List.drop_take,show o0 + o + n * sz - (o0 + o) = n * sz by omega,hsl]
   rw [e3,← List.append_assoc,List.take_left' (by rw [List.length_append,hxl,hyl]; exact hadd.symm)]
theorem e_app0 {t u el size:Nat} {so xo:Operand} {a:Option Addr} {n c:Nat} {ys:List Value} {d:TypeDesc} (hT:SlT C.P t el size) (hU:C.P.underlying u = some d) (hd':(∃ e',d = .slice e')∨d = .string)
  (hs:ev ρ so = .slice a n c) (hx:Src C.P h (ev ρ xo) size 0 ys) (hd:okd C.n dst = true) (hnc:n≤c) (hj:J (upo ρ dst (.slice a n c)) h):OpE C Q (.call ⟨.builtin .append,#[so,xo],#[t,u]⟩) ty dst J ρ h:=by
 obtain ⟨hu,i,hi,hsz⟩:=hT
 refine OpE.ofAny hd (fun w hw pos after g=>⟨.slice a n c,h,w,?_,hw,rfl,rfl,rfl,hj⟩)
 obtain ⟨hlx,hfx⟩:=hx.all hw
 have hy0:ys = []:=List.eq_nil_of_length_eq_zero (by have:=hx.1; omega)
 subst hy0
 simp only [execOp,resolve,invoke,builtin,hs,Builtin.append_,List.map_cons,List.map_nil,List.map_toArray]
 rcases hd' with ⟨e',rfl⟩ | rfl <;> cases a <;> simp [run_underlying hu,run_underlying hU,sizeOf,typeInfo,hi,hsz,hlx,hnc,hfx,storeCells]
end
end Go.Vm

/-
  The statement WorldSeats (law 23): a seat whose power goes off is gone, and comes back with nothing lost. Part 8 of 27. No condition stands ahead of the statement. Parts of this text were printed by a program of ours.
-/
import Derived.Test.YtmpmildpioebhaaGreatDoorX06
import Derived.Laws.BytesString
set_option linter.all false
set_option maxRecDepth 100000
set_option maxHeartbeats 4000000
noncomputable section
namespace Go.Sh
open Go
open Go.Sh.Ty (reg)
structure Fr (S:List Nat) (h h':H):Prop where
 size:h.size≤h'.size
 same:∀ i,i < h.size→i ∉ S→h'[i]? = h[i]?
abbrev Ext (h h':H):Prop:=Fr [] h h'
theorem Fr.refl (S:List Nat) (h:H):Fr S h h:=⟨Nat.le_refl _,fun _ _ _=>rfl⟩
theorem Fr.trans {S S':List Nat} {h h' h'':H} (a:Fr S h h') (b:Fr S' h' h'') (hs:∀ x ∈ S',x ∈ S∨h.size≤x):Fr S h h'':=
 ⟨Nat.le_trans a.size b.size,fun i hi hn=>by
  have h1:=a.same i hi hn
  have h2:=b.same i (Nat.lt_of_lt_of_le hi a.size) (fun hx=>by rcases hs i hx with h | h; exact hn h; omega)
  rw [h2,h1]⟩
theorem Ext.trans {h h' h'':H} (a:Ext h h') (b:Ext h' h''):Ext h h'':=Fr.trans a b (fun _ hx=>by cases hx)
theorem Fr.mono {S S':List Nat} {h h':H} (a:Fr S h h') (hs:∀ x ∈ S,x ∈ S'):Fr S' h h':=⟨a.size,fun i hi hn=>a.same i hi fun hx=>hn (hs i hx)⟩
theorem Fr.push (h:H) (o:Obj):Ext h (h.push o):=⟨by simp,fun i hi _=>by rw [Array.getElem?_push_lt hi]; simp [hi]⟩
theorem Fr.set (h:H) (b:Nat) (o:Obj):Fr [b] h (h.setIfInBounds b o):=⟨by simp,fun i hi hn=>by rw [Array.getElem?_setIfInBounds_ne]; simp at hn; omega⟩
theorem AtH.fr {S:List Nat} {h h':H} (f:Fr S h h') {p:Addr} {cs:List Value} (H:AtH h p cs) (hp:p.block ∉ S):AtH h' p cs:=by
 obtain ⟨hs,arr,T,fr,hb,hc⟩:=H
 refine ⟨hs,arr,T,fr,?_,hc⟩
 rw [f.same _ (by rw [Array.getElem?_eq_some_iff] at hb; exact hb.1) hp,hb]
theorem SlC.fr {S:List Nat} {h h':H} (f:Fr S h h') {s:Sl} {sz:Nat} {cs:List Value} (H:SlC h s sz cs) (hp:∀ a,s.a = some a→a.block ∉ S):SlC h' s sz cs:=by
 rcases H with H | ⟨a,ha,hat,hl⟩
 ·exact .inl H
 ·exact .inr ⟨a,ha,hat.fr f (hp a ha),hl⟩
theorem AtH.ext {h h':H} (f:Ext h h') {p:Addr} {cs:List Value} (H:AtH h p cs):AtH h' p cs:=H.fr f fun hx=>by cases hx
def Cel (T:Nat) (p:Addr) (cs:List Value) (h:H):Prop:=p = ⟨p.block,0,none⟩∧h[p.block]? = some (.cells cs.toArray T (0,0))
theorem Cel.lt {T:Nat} {p:Addr} {cs:List Value} {h:H} (H:Cel T p cs h):p.block < h.size:=by
 have:=H.2; rw [Array.getElem?_eq_some_iff] at this; exact this.1
theorem Cel.at_ {T:Nat} {p:Addr} {cs:List Value} {h:H} (H:Cel T p cs h):AtH h p cs:=by
 obtain ⟨hp,hb⟩:=H
 rw [hp]
 exact ⟨rfl,_,T,_,hb,fun i v hi=>by simpa using hi⟩
theorem Cel.w {T:Nat} {p:Addr} {cs:List Value} {h:H} (H:Cel T p cs h):WAt h p cs.length:=by
 obtain ⟨hp,hb⟩:=H
 rw [hp]
 exact ⟨rfl,_,T,_,hb,by simp,fun i hi=>by simp⟩
theorem Cel.put {T:Nat} {p:Addr} {cs:List Value} {h:H} (H:Cel T p cs h) (off:Nat) (ys:List Value) (hl:off + ys.length≤cs.length):
  Cel T p (cs.take off ++ ys ++ cs.drop (off + ys.length)) (putC h (p.add off) ys)∧Fr [p.block] h (putC h (p.add off) ys)∧WAt h (p.add off) ys.length:=by
 obtain ⟨hp,hb⟩:=H
 obtain ⟨blk,o,sp⟩:=p
 simp only [Addr.mk.injEq,true_and] at hp
 obtain ⟨rfl,rfl⟩:=hp
 simp only at hb
 have e:(⟨blk,0,none⟩:Addr).add off = ⟨blk,off,none⟩:=by rw [qdb rfl]; simp
 rw [e]
 have e2:putC h ⟨blk,off,none⟩ ys = h.setIfInBounds blk (.cells (splice cs.toArray off ys) T (0,0)):=by unfold putC; simp only [hb]
 rw [e2]
 refine ⟨⟨rfl,?_⟩,Fr.set _ _ _,rfl,_,T,_,hb,by simpa using hl,fun i hi=>by simp⟩
 rw [Array.getElem?_eq_some_iff] at hb
 obtain ⟨hlt,hb⟩:=hb
 simp [hlt,splice]
theorem Cel.set {T:Nat} {p:Addr} {cs:List Value} {h:H} (H:Cel T p cs h) (ys:List Value) (hl:ys.length = cs.length):
  Cel T p ys (putC h p ys)∧Fr [p.block] h (putC h p ys):=by
 have:=H.put 0 ys (by omega)
 have e:p.add 0 = p:=rfl
 rw [e,Nat.zero_add,hl] at this
 simp at this
 exact ⟨this.1,this.2.1⟩
theorem Cel.new (h:H) (T:Nat) (cs:List Value):Cel T ⟨h.size,0,none⟩ cs (newC h T cs):=⟨rfl,by simp [newC]⟩
structure En where
 F:List Nat
 A:H→Prop
def Loc (e:En):Prop:=∀ h h':H,(∀ b ∈ e.F,h'[b]? = h[b]?)→e.A h→e.A h'
def cel (T:Nat) (p:Addr) (cs:List Value):En:=⟨[p.block],Cel T p cs⟩
theorem qcm (T:Nat) (p:Addr) (cs:List Value):Loc (cel T p cs):=fun h h' hb H=>⟨H.1,by rw [hb p.block (by simp [cel])]; exact H.2⟩
structure Sat (h0:H) (S:List Nat) (h:H) (L:List En):Prop where
 fr:Fr S h0 h
 ok:∀ e ∈ L,e.A h∧Loc e∧∀ b ∈ e.F,b < h.size∧(b ∈ S∨h0.size≤b)
 dis:L.Pairwise fun a b=>∀ x ∈ a.F,x ∉ b.F
section
variable {h0 h h':H} {S:List Nat} {L:List En}
theorem Sat.init (h:H):Sat h [] h []:=⟨Fr.refl _ _,by simp,.nil⟩
theorem Sat.init1 {h:H} {e:En} (ha:e.A h) (hl:Loc e) (hb:∀ b ∈ e.F,b < h.size):Sat h e.F h [e]:=
 ⟨Fr.refl _ _,by intro e' he; simp only [List.mem_singleton] at he; subst he; exact ⟨ha,hl,fun b h=>⟨hb b h,.inl h⟩⟩,by simp⟩
theorem Sat.get (hs:Sat h0 S h L) {e:En} (he:e ∈ L):e.A h:=(hs.ok e he).1
theorem Sat.at_ (hs:Sat h0 S h L) {e:En} {i:Nat} (he:L[i]? = some e):e.A h:=(hs.ok e (List.mem_of_getElem? he)).1
theorem Sat.ext (hs:Sat h0 S h L) (f:Ext h h'):Sat h0 S h' L:=
 ⟨hs.fr.trans f (fun _ hx=>by cases hx),fun e he=>by
  obtain ⟨h1,h2,h3⟩:=hs.ok e he
  exact ⟨h2 h h' (fun b hb=>f.same b (h3 b hb).1 (by simp)) h1,h2,fun b hb=>⟨Nat.lt_of_lt_of_le (h3 b hb).1 f.size,(h3 b hb).2⟩⟩,hs.dis⟩
theorem Sat.add (hs:Sat h0 S h L) {e:En} (f:Ext h h') (ha:e.A h') (hl:Loc e) (hb:∀ b ∈ e.F,h.size≤b∧b < h'.size):Sat h0 S h' (e :: L):=by
 have h1:=hs.ext f
 refine ⟨h1.fr,fun e' he=>?_,?_⟩
 ·rcases List.mem_cons.1 he with rfl | he
  ·exact ⟨ha,hl,fun b h=>⟨(hb b h).2,.inr (Nat.le_trans hs.fr.size (hb b h).1)⟩⟩
  ·exact h1.ok e' he
 ·refine List.Pairwise.cons (fun e' he x hx hx'=>?_) hs.dis
  have:=(hb x hx).1
  have:=((hs.ok e' he).2.2 x hx').1
  omega
theorem pairwise_set {α:Type} {R:α→α→Prop} (sym:∀ a b,R a b→R b a):∀ {L:List α} {i:Nat} {e e':α},L.Pairwise R→L[i]? = some e→(∀ (j:Nat) x,j ≠ i→L[j]? = some x→R e x→R e' x)→(L.set i e').Pairwise R
 | [],_,_,_,h,_,_=>by simpa using h
 | a :: L,0,e,e',h,hi,hr=>by
  simp only [List.getElem?_cons_zero,Option.some.injEq] at hi
  subst hi
  rw [List.set_cons_zero]
  rw [List.pairwise_cons] at h ⊢
  refine ⟨fun x hx=>?_,h.2⟩
  obtain ⟨j,hj⟩:=List.mem_iff_getElem?.1 hx
  exact hr (j + 1) x (by omega) (by simpa using hj) (h.1 x hx)
 | a :: L,i + 1,e,e',h,hi,hr=>by
  simp only [List.getElem?_cons_succ] at hi
  rw [List.set_cons_succ]
  rw [List.pairwise_cons] at h ⊢
  refine ⟨fun x hx=>?_,pairwise_set sym h.2 hi (fun j x hj hx=>hr (j + 1) x (by omega) (by simpa using hx))⟩
  rcases List.mem_or_eq_of_mem_set hx with hx | rfl
  ·exact h.1 x hx
  ·exact sym _ _ (hr 0 a (by omega) (by simp) (sym _ _ (h.1 e (List.mem_of_getElem? hi))))
theorem Sat.upd (hs:Sat h0 S h L) {i:Nat} {e e':En} (hi:L[i]? = some e) (f:Fr e.F h h') (ha:e'.A h') (hl:Loc e') (hb:∀ b ∈ e'.F,b < h'.size∧(b ∈ e.F∨h.size≤b)):Sat h0 S h' (L.set i e'):=by
 have hei:=List.mem_of_getElem? hi
 have hdis:∀ (j:Nat) x,j ≠ i→L[j]? = some x→∀ b ∈ x.F,b ∉ e.F:=by
  intro j x hj hx b hb hbe
  obtain ⟨hil,hie⟩:=List.getElem?_eq_some_iff.1 hi
  obtain ⟨hjl,hje⟩:=List.getElem?_eq_some_iff.1 hx
  rcases Nat.lt_or_gt_of_ne hj with h1 | h1
  ·have:=List.pairwise_iff_getElem.1 hs.dis j i hjl hil h1 b (by rw [hje]; exact hb)
   rw [hie] at this; exact this hbe
  ·have:=List.pairwise_iff_getElem.1 hs.dis i j hil hjl h1 b (by rw [hie]; exact hbe)
   rw [hje] at this; exact this hb
 refine ⟨hs.fr.trans f (fun x hx=>((hs.ok e hei).2.2 x hx).2),fun x hx=>?_,?_⟩
 ·obtain ⟨j,hj⟩:=List.mem_iff_getElem?.1 hx
  rw [List.getElem?_set] at hj
  by_cases hij:i = j
  ·subst hij
   split at hj
   ·split at hj
    ·obtain rfl:=Option.some.inj hj
     refine ⟨ha,hl,fun b hb'=>⟨(hb b hb').1,?_⟩⟩
     rcases (hb b hb').2 with h1 | h1
     ·exact ((hs.ok e hei).2.2 b h1).2
     ·exact .inr (Nat.le_trans hs.fr.size h1)
    ·cases hj
   ·rename_i hne; exact absurd rfl hne
  ·rw [if_neg hij] at hj
   obtain ⟨h1,h2,h3⟩:=hs.ok x (List.mem_of_getElem? hj)
   exact ⟨h2 h h' (fun b hb'=>f.same b (h3 b hb').1 (hdis j x (Ne.symm hij) hj b hb')) h1,h2,fun b hb'=>⟨Nat.lt_of_lt_of_le (h3 b hb').1 f.size,(h3 b hb').2⟩⟩
 ·refine pairwise_set (fun a b hab x hx hx'=>hab x hx' hx) hs.dis hi (fun j x hj hx _ b hb' hbx=>?_)
  rcases (hb b hb').2 with h1 | h1
  ·exact hdis j x hj hx b hbx h1
  ·have:=((hs.ok x (List.mem_of_getElem? hx)).2.2 b hbx).1; omega
theorem Sat.drop (hs:Sat h0 S h L) {L':List En} (hl:L'.Sublist L):Sat h0 S h L':=
 ⟨hs.fr,fun e he=>hs.ok e (hl.subset he),hs.dis.sublist hl⟩
theorem Sat.box_ {α:Type} [Ty α] {T:Nat} {x:α} {k:Addr→H→Prop} (hs:Sat h0 S h L) (hk:∀ p h',Sat h0 S h' (cel T p (enc x) :: L)→p.block = h.size→Ext h h'→k p h'):box T x k h:=by
 intro p hp
 subst hp
 exact hk _ _ (hs.add (Fr.push _ _) (Cel.new h T _) (qcm _ _ _) (by intro b hb; simp only [cel,List.mem_singleton] at hb; subst hb; simp [newC])) rfl (Fr.push _ _)
theorem Sat.ld_ {σ α:Type} [Ty σ] {T:Nat} {x:σ} {p:Addr} {g:σ→α} {k:α→H→Prop} (i:Nat) (hs:Sat h0 S h L) (hi:L[i]? = some (cel T p (enc x))) (hk:k (g x) h):ld p g k h:=
 ⟨_,⟨x,Cel.at_ (hs.at_ hi),rfl⟩,hk⟩
theorem Sat.chk_ {σ α:Type} [Ty σ] {T:Nat} {x:σ} {p:Addr} {g:σ→α} {y:α} {k:H→Prop} (i:Nat) (hs:Sat h0 S h L) (hi:L[i]? = some (cel T p (enc x))) (hg:g x = y) (hk:k h):chk p g y k h:=
 ⟨⟨x,Cel.at_ (hs.at_ hi),hg⟩,hk⟩
theorem Sat.st_ {σ:Type} [Ty σ] {T n:Nat} {x:σ} {p:Addr} {u:σ→σ} {k:H→Prop} (i:Nat) (hs:Sat h0 S h L) (hi:L[i]? = some (cel T p (enc x))) (hl:∀ y:σ,(enc y).length = n)
  (hk:∀ h',Sat h0 S h' (L.set i (cel T p (enc (u x))))→h'.size = h.size→k h'):st p u k h:=by
 have hc:Cel T p (enc x) h:=hs.at_ hi
 have:=hc.set (enc (u x)) (by rw [hl,hl])
 refine ⟨x,hc.at_,hc.w,hk _ (hs.upd hi this.2 this.1 (qcm _ _ _) ?_) ?_⟩
 ·intro b hb
  simp only [cel,List.mem_singleton] at hb
  subst hb
  exact ⟨Nat.lt_of_lt_of_le hc.lt this.2.size,.inl (by simp [cel])⟩
 ·unfold putC; split <;> simp
theorem qdy {σ α:Type} [Ty σ] {x:σ} {p:Addr} {g:σ→α} {k:α→H→Prop} (H:AtH h p (enc x)) (hk:k (g x) h):ld p g k h:=⟨_,⟨x,H,rfl⟩,hk⟩
theorem nn_i {p:Addr} {k:Addr→H→Prop} (hk:k p h):nn (some p) k h:=⟨p,rfl,hk⟩
theorem qz {b:Bool} {x y:H→Prop} (h1:b = true→x h) (h2:b = false→y h):ifb b x y h:=⟨h1,h2⟩
end
theorem wrap_eq {n:Int} (h1:-9223372036854775808≤n) (h2:n < 9223372036854775808):IntKind.i64.wrap n = n:=by
 simp only [IntKind.wrap,IntKind.signed,IntKind.bits,Bool.true_and]
 split <;> simp_all <;> omega
theorem qby {a b:Int} (h1:-9223372036854775808≤a + b) (h2:a + b < 9223372036854775808):iadd a b = a + b:=wrap_eq h1 h2
theorem qfa {a b:Int} (h1:-9223372036854775808≤a - b) (h2:a - b < 9223372036854775808):isub a b = a - b:=wrap_eq h1 h2
theorem imul_eq {a b:Int} (h1:-9223372036854775808≤a * b) (h2:a * b < 9223372036854775808):imul a b = a * b:=wrap_eq h1 h2
def SV {α:Type} [Ty α] (n:Nat) (h:H) (s:Sl) (l:List α):Prop:=SlC h s n (l.map enc).flatten∧s.len = l.length∧s.len≤s.cap
section
variable {α:Type} [Ty α] {n:Nat} {h h':H} {s:Sl} {l:List α}
theorem SV.fr {S:List Nat} (f:Fr S h h') (hv:SV n h s l) (hp:∀ a,s.a = some a→a.block ∉ S):SV n h' s l:=⟨hv.1.fr f hp,hv.2⟩
theorem SV.ext (f:Ext h h') (hv:SV n h s l):SV n h' s l:=hv.fr f fun _ _ hx=>by cases hx
theorem AtH.elem {sz:Nat} {p:Addr} {L:List (List Value)} (hsz:∀ x ∈ L,x.length = sz) (H:AtH h p L.flatten) {i:Nat} {x:List Value} (hi:L[i]? = some x):AtH h (p.add (i * sz)) x:=by
 have:=H.sub (i * sz) sz
 rwa [flatten_get sz L i x hsz hi] at this
theorem SV.elem (hn:∀ y:α,(enc y).length = n) (hv:SV n h s l) {j:Int} {x:α} (h0:0≤j) (hx:l[j.toNat]? = some x):∃ a,s.a = some a∧AtH h (a.add (j.toNat * n)) (enc x)∧j < s.len:=by
 have hlt:j.toNat < l.length:=by rw [List.getElem?_eq_some_iff] at hx; exact hx.1
 obtain ⟨hc,hl,hcap⟩:=hv
 rcases hc with ⟨ha,h1,h2⟩ | ⟨a,ha,hat,hlen⟩
 ·omega
 ·refine ⟨a,ha,hat.elem (L:=l.map enc) (by intro x hx; simp only [List.mem_map] at hx; obtain ⟨y,_,rfl⟩:=hx; exact hn y) (by simp [hx]),by omega⟩
theorem qbs {β:Type} (hn:∀ y:α,(enc y).length = n) (hv:SV n h s l) {j:Int} {x:α} (h0:0≤j) (hx:l[j.toNat]? = some x) {g:α→β} {K:β→H→Prop} (hk:K (g x) h):sidx s j n (fun t=>ld t g K) h:=by
 obtain ⟨a,ha,hat,hlt⟩:=hv.elem hn h0 hx
 exact ⟨_,⟨⟨a,ha,rfl⟩,h0,hlt⟩,qdy hat hk⟩
theorem SV.cut (hn:∀ y:α,(enc y).length = n) (hv:SV n h s l) {lo hi mx:Nat} (h1:lo≤hi) (h2:hi≤s.len) (h3:hi≤mx):SV n h (s.cut n lo hi mx) ((l.drop lo).take (hi - lo)):=by
 obtain ⟨hc,hl,hcap⟩:=hv
 have hlen:((l.drop lo).take (hi - lo)).length = hi - lo:=by simp; omega
 refine ⟨?_,by simp only [Sl.cut]; omega,by simp only [Sl.cut]; omega⟩
 have hfl:∀ (L:List α),(L.map enc).flatten.length = L.length * n:=fun L=>by
  rw [qdc n]
  ·simp
  ·intro x hx; simp only [List.mem_map] at hx; obtain ⟨y,_,rfl⟩:=hx; exact hn y
 rcases hc with ⟨ha,h6,h4⟩ | ⟨a,ha,hat,hlen2⟩
 ·left
  have:l = []:=List.eq_nil_of_length_eq_zero (by omega)
  subst this
  refine ⟨by simp [Sl.cut,ha],by simp only [Sl.cut]; omega,by simp⟩
 ·right
  by_cases hm:mx = lo
  ·have hd:hi = lo:=by omega
   subst hd
   refine ⟨a,by simp [Sl.cut,hm,ha],?_,by simp [Sl.cut]⟩
   have:=hat.sub 0 0
   rw [show a.add 0 = a from rfl] at this
   simpa using this
  ·refine ⟨a.add (lo * n),by simp [Sl.cut,hm,ha],?_,by rw [hfl,hlen]; simp [Sl.cut]⟩
   have hsub:=hat.sub (lo * n) ((hi - lo) * n)
   have e:((l.map enc).flatten.drop (lo * n)).take ((hi - lo) * n) = (((l.drop lo).take (hi - lo)).map enc).flatten:=by
    have e1:l = l.take lo ++ (l.drop lo).take (hi - lo) ++ l.drop hi:=by
     rw [List.append_assoc]
     conv=>lhs; rw [← List.take_append_drop lo l]
     congr 1
     conv=>lhs; rw [← List.take_append_drop (hi - lo) (l.drop lo)]
     rw [List.drop_drop]
     congr 2
     omega
    have e2:(l.map enc).flatten = ((l.take lo).map enc).flatten ++ (((l.drop lo).take (hi - lo)).map enc).flatten ++ ((l.drop hi).map enc).flatten:=by
     conv=>lhs; rw [e1]
     simp
    rw [e2,List.append_assoc,List.drop_left' (by rw [hfl,List.length_take,Nat.min_eq_left (by omega)]),List.take_left' (by rw [hfl,hlen])]
   rwa [e] at hsub
end
def itF {α:Type} (f:Nat→α→α):Nat→α→α
 | 0,a=>a
 | n + 1,a=>f n (itF f n a)
def updN {n:Nat} {α:Type} (x:Arr n α) (i:Nat) (v:α):Arr n α:=fun j=>if j.val = i then v else x j
def getN {n:Nat} {α:Type} [Inhabited α] (x:Arr n α) (i:Nat):α:=if h:i < n then x ⟨i,h⟩ else default
theorem upd_N {n:Nat} {α:Type} (x:Arr n α) (i:Fin n) (v:α):upd x i v = updN x i.val v:=by
 funext j; simp only [upd,updN,Fin.ext_iff]
theorem bnd_N {n:Nat} {j:Int} {h:H} {k:Fin n→H→Prop} (h0:0≤j) (h1:j < n) (hk:∀ i:Fin n,i.val = j.toNat→k i h):bnd j n k h:=⟨⟨j.toNat,by omega⟩,by simp; omega,hk _ rfl⟩
theorem getN_fin {n:Nat} {α:Type} [Inhabited α] (x:Arr n α) (i:Fin n) (m:Nat) (h:i.val = m):x i = getN x m:=by subst h; simp [getN]
theorem Sat.bld {h0 h:H} {S:List Nat} {L:List En} {n T:Nat} {α:Type} [Ty α] [Inhabited α] {x:Arr n α} {p:Addr} {j:Int} {K:α→H→Prop} (i:Nat) (hs:Sat h0 S h L) (hi:L[i]? = some (cel T p (enc x))) (h0':0≤j) (h1:j < n) (hk:K (getN x j.toNat) h):
  bnd j n (fun f=>ld p (fun (x:Arr n α)=>x f) K) h:=by
 refine bnd_N h0' h1 (fun f hf=>?_)
 refine hs.ld_ i hi ?_
 rw [getN_fin x f _ hf]; exact hk
theorem old_bld {h:H} {n:Nat} {α:Type} [Ty α] [Inhabited α] {x:Arr n α} {p:Addr} {j:Int} {K:α→H→Prop} (hp:AtH h p (enc x)) (h0':0≤j) (h1:j < n) (hk:K (getN x j.toNat) h):
  bnd j n (fun f=>ld p (fun (x:Arr n α)=>x f) K) h:=by
 refine bnd_N h0' h1 (fun f hf=>?_)
 refine qdy hp ?_
 rw [getN_fin x f _ hf]; exact hk
theorem Sat.bst {h0 h:H} {S:List Nat} {L:List En} {n T m:Nat} {α:Type} [Ty α] {x:Arr n α} {p:Addr} {j:Int} {v:α} {k:H→Prop} (i:Nat) (hs:Sat h0 S h L) (hi:L[i]? = some (cel T p (enc x))) (hl:∀ y:Arr n α,(enc y).length = m) (h0':0≤j) (h1:j < n) (hk:∀ h',Sat h0 S h' (L.set i (cel T p (enc (updN x j.toNat v))))→k h'):
  bnd j n (fun f=>Sh.st p (fun (x:Arr n α)=>Sh.upd x f v) k) h:=by
 refine bnd_N h0' h1 (fun f hf=>?_)
 refine hs.st_ i hi hl (fun h' hs' _=>hk h' ?_)
 rw [upd_N,hf] at hs'
 exact hs'
theorem map_enc8 (l:List UInt8):(l.map enc).flatten = l.map (reg:UInt8→Value):=by
 induction l with
 | nil=>rfl
 | cons a l ih=>simp only [List.map_cons,List.flatten_cons,ih]; rfl
theorem enc_arrOf {n:Nat} (l:List UInt8) (hl:l.length = n):enc (arrOf l:Arr n UInt8) = l.map (reg:UInt8→Value):=by
 have e:enc (arrOf l:Arr n UInt8) = List.ofFn fun i=>reg ((arrOf l:Arr n UInt8) i):=rfl
 rw [e]
 apply List.ext_getElem
 ·simp [hl]
 ·intro i h1 h2
  simp at h1 h2
  simp [arrOf,h2]
theorem arrOf_ofFn {n:Nat} (x:Arr n UInt8):(arrOf (List.ofFn x):Arr n UInt8) = x:=by
 funext i; simp [arrOf]
theorem updN_arrOf {n:Nat} (l:List UInt8) (i:Nat) (v:UInt8) (hi:i < l.length):updN (arrOf l:Arr n UInt8) i v = arrOf (l.set i v):=by
 funext j
 simp only [updN,arrOf,List.getD_eq_getElem?_getD,List.getElem?_set]
 by_cases h:j.val = i
 ·simp [h,hi]
 ·simp [h,Ne.symm h]
theorem one_bytes (l:List UInt8):(l.map (reg:UInt8→Value)).all (·.oneCell') = true:=by
 rw [List.all_eq_true]; intro v hv; simp only [List.mem_map] at hv; obtain ⟨b,_,rfl⟩:=hv; rfl
theorem SV.bytes {h:H} {s:Sl} {l:List UInt8} (hv:SV 1 h s l):SlC h s 1 (l.map reg):=by
 have:=hv.1; rwa [map_enc8] at this
theorem arr_SV {h:H} {p:Addr} {n:Nat} {l:List UInt8} (hl:l.length = n) (H:AtH h p (enc (arrOf l:Arr n UInt8))):SV 1 h ⟨some p,n,n⟩ l:=by
 refine ⟨.inr ⟨p,rfl,?_,?_⟩,hl.symm,Nat.le_refl _⟩
 ·rw [map_enc8,← enc_arrOf l hl]; exact H
 ·rw [map_enc8]; simp [hl]
section
variable {h0 h:H} {S:List Nat} {L:List En} {n T:Nat} {p:Addr} {l:List UInt8}
theorem Sat.arrSV (i:Nat) (hs:Sat h0 S h L) (hi:L[i]? = some (cel T p (enc (arrOf l:Arr n UInt8)))) (hl:l.length = n):SV 1 h ⟨some p,n,n⟩ l:=arr_SV hl (Cel.at_ (hs.at_ hi))
theorem Sat.putB (i:Nat) (hs:Sat h0 S h L) (hi:L[i]? = some (cel T p (enc (arrOf l:Arr n UInt8)))) (hl:l.length = n) (off:Nat) (ys:List UInt8) (ho:off + ys.length≤n):
  Sat h0 S (putC h (p.add off) (ys.map reg)) (L.set i (cel T p (enc (arrOf (l.take off ++ ys ++ l.drop (off + ys.length)):Arr n UInt8))))∧WAt h (p.add off) ys.length:=by
 have hc:Cel T p (enc (arrOf l:Arr n UInt8)) h:=hs.at_ hi
 rw [enc_arrOf l hl] at hc
 obtain ⟨h1,h2,h3⟩:=hc.put off (ys.map reg) (by simp [hl]; omega)
 have hl2:(l.take off ++ ys ++ l.drop (off + ys.length)).length = n:=by simp; omega
 refine ⟨hs.upd hi h2 ?_ (qcm _ _ _) ?_,by simpa using h3⟩
 ·show Cel _ _ _ _
  rw [enc_arrOf _ hl2]
  simpa [List.map_take,List.map_drop] using h1
 ·intro b hb
  simp only [cel,List.mem_singleton] at hb
  subst hb
  exact ⟨Nat.lt_of_lt_of_le hc.lt h2.size,.inl (by simp [cel])⟩
theorem Sat.cpy_ {x:Sl} {xs:List UInt8} {k:Int→H→Prop} (i:Nat) (hs:Sat h0 S h L) (hi:L[i]? = some (cel T p (enc (arrOf l:Arr n UInt8)))) (hl:l.length = n) (off:Nat) (ho:off < n) (hx:SV 1 h x xs)
  (hk:∀ h',Sat h0 S h' (L.set i (cel T p (enc (arrOf (l.take off ++ xs.take (n - off) ++ l.drop (off + (xs.take (n - off)).length)):Arr n UInt8))))→k ((min xs.length (n - off):Nat):Int) h'):
  cpy 1 ((⟨some p,n,n⟩:Sl).cut 1 off n n) x k h:=by
 have hput:=hs.putB i hi hl off (xs.take (n - off)) (by simp; omega)
 have hd:((⟨some p,n,n⟩:Sl).cut 1 off n n).a = some (p.add off):=by simp [Sl.cut,show ¬ n = off by omega]
 have hdl:((⟨some p,n,n⟩:Sl).cut 1 off n n).len = n - off:=rfl
 have hmin:min x.len (n - off) = (xs.take (n - off)).length:=by rw [hx.2.1]; simp; omega
 refine ⟨(xs.take (n - off)).map reg,?_,one_bytes _,?_,?_⟩
 ·rw [hdl,hmin]
  rcases hx.bytes with ⟨h1,h2,h3⟩ | ⟨a,ha,hat,hlen⟩
  ·left
   have:xs = []:=by simpa using h3
   subst this
   exact ⟨h1,by simp,by simp⟩
  ·refine .inr ⟨a,ha,?_,by simp⟩
   have:=hat.sub 0 (n - off)
   rw [show a.add 0 = a from rfl] at this
   simpa [List.map_take] using this
 ·intro a ha
  rw [hd] at ha
  obtain rfl:=Option.some.inj ha
  simpa using hput.2
 ·rw [hd,hdl]
  have e:min x.len (n - off) = min xs.length (n - off):=by rw [hx.2.1]
  rw [e]
  exact hk _ hput.1
theorem Sat.clr_ {k:H→Prop} (i:Nat) (hs:Sat h0 S h L) (hi:L[i]? = some (cel T p (enc (arrOf l:Arr n UInt8)))) (hl:l.length = n) (off:Nat) (ho:off≤n)
  (hk:∀ h',Sat h0 S h' (L.set i (cel T p (enc (arrOf (l.take off ++ List.replicate (n - off) 0):Arr n UInt8))))→k h'):
  clr (enc (0:UInt8)) ((⟨some p,n,n⟩:Sl).cut 1 off n n) k h:=by
 have hdl:((⟨some p,n,n⟩:Sl).cut 1 off n n).len = n - off:=rfl
 by_cases h1:off = n
 ·subst h1
  refine ⟨fun _=>hk _ ?_,fun a _ hne=>absurd (by rw [hdl]; omega) hne⟩
  have e:l.take off ++ List.replicate (off - off) 0 = l:=by simp [← hl]
  rw [e]
  have:L.set i (cel T p (enc (arrOf l:Arr off UInt8))) = L:=by
   apply List.ext_getElem?
   intro j
   rw [List.getElem?_set]
   split
   ·rename_i h; subst h; split <;> simp_all
   ·rfl
  rw [this]; exact hs
 ·have hd:((⟨some p,n,n⟩:Sl).cut 1 off n n).a = some (p.add off):=by simp [Sl.cut,show ¬ n = off by omega]
  have hput:=hs.putB i hi hl off (List.replicate (n - off) 0) (by simp; omega)
  refine ⟨fun h=>?_,fun a ha _=>?_⟩
  ·rcases h with h | h
   ·rw [hd] at h; cases h
   ·rw [hdl] at h; omega
  ·rw [hd] at ha
   obtain rfl:=Option.some.inj ha
   refine ⟨by rw [hdl,show (enc (0:UInt8)).length = 1 from rfl,Nat.mul_one]; simpa using hput.2,?_⟩
   have e1:(List.replicate ((⟨some p,n,n⟩:Sl).cut 1 off n n).len (enc (0:UInt8))).flatten = (List.replicate (n - off) (0:UInt8)).map reg:=by
    rw [hdl]
    rw [← map_enc8]; simp
   rw [e1]
   refine hk _ ?_
   have:=hput.1
   rwa [show l.drop (off + (List.replicate (n - off) (0:UInt8)).length) = [] by simp; omega,List.append_nil] at this
end
def blk (s:Sl):List Nat:=match s.a with | some a=>[a.block] | none=>[]
theorem qep {s:Sl} {a:Addr} (h:s.a = some a):blk s = [a.block]:=by unfold blk; rw [h]
theorem blk_none {s:Sl} (h:s.a = none):blk s = []:=by unfold blk; rw [h]
theorem SV.fr' {α:Type} [Ty α] {n:Nat} {h h':H} {s:Sl} {l:List α} {S:List Nat} (f:Fr S h h') (hv:SV n h s l) (hp:∀ b ∈ blk s,b ∉ S):SV n h' s l:=
 hv.fr f fun a ha=>hp _ (by rw [qep ha]; simp)
def OwnA {α:Type} [Ty α] (T n:Nat) (s:Sl) (l:List α) (h:H):Prop:=
 (s.a = none∧s.len = 0∧s.cap = 0∧l = [])∨∃ b spare,s.a = some ⟨b,0,none⟩∧Cel T ⟨b,0,none⟩ ((l.map enc).flatten ++ spare) h∧s.len = l.length∧l.length≤s.cap∧spare.length = (s.cap - l.length) * n
def own {α:Type} [Ty α] (T n:Nat) (s:Sl) (l:List α):En:=⟨blk s,OwnA T n s l⟩
theorem qc9 {α:Type} [Ty α] (T n:Nat) (s:Sl) (l:List α):Loc (own T n s l):=by
 intro h h' hb H
 rcases H with H | ⟨b,spare,ha,hc,h1⟩
 ·exact .inl H
 ·refine .inr ⟨b,spare,ha,⟨rfl,?_⟩,h1⟩
  rw [hb b (by simp only [own]; rw [qep ha]; simp)]; exact hc.2
def rdo {α:Type} [Ty α] (n:Nat) (s:Sl) (l:List α):En:=⟨blk s,fun h=>SV n h s l⟩
theorem rdo_loc {α:Type} [Ty α] (n:Nat) (s:Sl) (l:List α):Loc (rdo n s l):=by
 intro h h' hb H
 refine ⟨?_,H.2⟩
 rcases H.1 with H1 | ⟨a,ha,⟨hs,arr,T,fr,hbk,hc⟩,hl⟩
 ·exact .inl H1
 ·refine .inr ⟨a,ha,⟨hs,arr,T,fr,?_,hc⟩,hl⟩
  rw [hb a.block (by simp only [rdo]; rw [qep ha]; simp)]; exact hbk
theorem qef {α:Type} [Ty α] {n:Nat} (hn:∀ y:α,(enc y).length = n) (l:List α):(l.map enc).flatten.length = l.length * n:=by
 rw [qdc n]
 ·simp
 ·intro x hx; simp only [List.mem_map] at hx; obtain ⟨y,_,rfl⟩:=hx; exact hn y
theorem OwnA.sv {α:Type} [Ty α] {T n:Nat} {s:Sl} {l:List α} {h:H} (hn:∀ y:α,(enc y).length = n) (H:OwnA T n s l h):SV n h s l:=by
 rcases H with ⟨h1,h2,h3,h4⟩ | ⟨b,spare,ha,hc,h1,h2,h3⟩
 ·subst h4; exact ⟨.inl ⟨h1,h2,rfl⟩,h2,by omega⟩
 ·refine ⟨.inr ⟨_,ha,?_,by rw [qef hn,h1]⟩,h1,by omega⟩
  have:=hc.at_.sub 0 (l.map enc).flatten.length
  simpa [Addr.add] using this
theorem OwnA.lt {α:Type} [Ty α] {T n:Nat} {s:Sl} {l:List α} {h:H} (H:OwnA T n s l h):∀ b ∈ blk s,b < h.size:=by
 rcases H with ⟨h1,_⟩ | ⟨b,spare,ha,hc,_⟩
 ·rw [blk_none h1]; simp
 ·rw [qep ha]; intro b' hb'; simp only [List.mem_singleton] at hb'; subst hb'; exact hc.lt
theorem SV.lt {α:Type} [Ty α] {n:Nat} {s:Sl} {l:List α} {h:H} (hv:SV n h s l):∀ b ∈ blk s,b < h.size:=by
 rcases hv.1 with ⟨h1,_⟩ | ⟨a,ha,⟨_,arr,T,fr,hb,_⟩,_⟩
 ·rw [blk_none h1]; simp
 ·rw [qep ha]; intro b' hb'; simp only [List.mem_singleton] at hb'; subst hb'
  rw [Array.getElem?_eq_some_iff] at hb; exact hb.1
section
variable {h0 h h':H} {S:List Nat} {L:List En} {α:Type} [Ty α] {T n:Nat}
theorem Sat.disj (hs:Sat h0 S h L) {i j:Nat} {e e':En} (hi:L[i]? = some e) (hj:L[j]? = some e') (hne:i ≠ j):∀ x ∈ e.F,x ∉ e'.F:=by
 intro x hx hx'
 obtain ⟨h1,h2⟩:=List.getElem?_eq_some_iff.1 hi
 obtain ⟨h3,h4⟩:=List.getElem?_eq_some_iff.1 hj
 rcases Nat.lt_or_gt_of_ne hne with hl | hl
 ·have:=List.pairwise_iff_getElem.1 hs.dis i j h1 h3 hl x (by rw [h2]; exact hx)
  rw [h4] at this; exact this hx'
 ·have:=List.pairwise_iff_getElem.1 hs.dis j i h3 h1 hl x (by rw [h4]; exact hx')
  rw [h2] at this; exact this hx
theorem Sat.add0 (hs:Sat h0 S h L) {e:En} (ha:e.A h) (hl:Loc e) (hF:e.F = []):Sat h0 S h (e :: L):=
 hs.add (Fr.refl _ _) ha hl (by rw [hF]; simp)
theorem Sat.nilOwn (hs:Sat h0 S h L):Sat h0 S h (own T n Sl.nil ([]:List α) :: L):=hs.add0 (.inl ⟨rfl,rfl,rfl,rfl⟩) (qc9 _ _ _ _) rfl
theorem Sat.ownSV (i:Nat) {s:Sl} {l:List α} (hs:Sat h0 S h L) (hi:L[i]? = some (own T n s l)) (hn:∀ y:α,(enc y).length = n):SV n h s l:=OwnA.sv hn (hs.at_ hi)
theorem Sat.rdoSV (i:Nat) {s:Sl} {l:List α} (hs:Sat h0 S h L) (hi:L[i]? = some (rdo n s l)):SV n h s l:=hs.at_ hi
theorem Sat.mks_ {l:List α} {k:Sl→H→Prop} (hs:Sat h0 S h L) (hk:∀ s h',Sat h0 S h' (own T n s l :: L)→s.len = l.length→Ext h h'→k s h'):mks T l k h:=by
 intro p s hp hss
 subst hp; subst hss
 refine hk _ _ (hs.add (Fr.push _ _) (.inr ⟨h.size,[],rfl,?_,rfl,Nat.le_refl _,by simp⟩) (qc9 _ _ _ _) ?_) rfl (Fr.push _ _)
 ·rw [List.append_nil]; exact Cel.new h T _
 ·intro b hb; simp only [own,blk,List.mem_singleton] at hb; subst hb; simp [newC]
theorem Sat.appR_ {s x:Sl} {l xl:List α} {bytes:Nat} {z:List Value} {k:Sl→H→Prop} (i:Nat) (hs:Sat h0 S h L) (hi:L[i]? = some (own T n s l)) (hx:SlR h x n (xl.map enc).flatten) (hxl:x.len = xl.length) (hn:∀ y:α,(enc y).length = n) (h1:∀ y:α,(enc y).all (·.oneCell') = true) (hz:z.length = n)
  (hbig:(l.length + xl.length) * bytes≤maxBytes) (hlen:l.length + xl.length≤9223372036854775807) (hk:∀ r h',Sat h0 S h' (L.set i (own T n r (l ++ xl)))→r.len = l.length + xl.length→k r h'):app T n bytes z s x k h:=by
 have ho:OwnA T n s l h:=hs.at_ hi
 have hsl:s.len = l.length:=(ho.sv hn).2.1
 have hone:((xl.map enc).flatten).all (·.oneCell') = true:=by
  rw [List.all_eq_true]; intro v hv
  simp only [List.mem_flatten,List.mem_map] at hv
  obtain ⟨_,⟨y,_,rfl⟩,hv⟩:=hv
  exact List.all_eq_true.1 (h1 y) v hv
 refine ⟨(l.map enc).flatten,(xl.map enc).flatten,(ho.sv hn).1,hx,hone,fun hroom=>?_,fun hgrow=>⟨by rw [hsl,hxl]; exact hbig,by omega,fun p cap r hp hcap hr=>?_⟩⟩
 ·rcases ho with ⟨ha,hl0,hc0,hl⟩ | ⟨b,spare,ha,hc,h2,h3,h4⟩
  ·have hx0:xl = []:=List.eq_nil_of_length_eq_zero (by omega)
   subst hx0; subst hl
   refine ⟨fun a h=>(by rw [ha] at h; cases h),fun r hr=>?_⟩
   rw [ha]
   refine hk r h ?_ (by subst hr; simp only; omega)
   have:own T n r (([]:List α) ++ []) = own T n s ([]:List α):=by
    have:r = s:=by subst hr; cases s; simp only at hl0 hc0 ha hxl ⊢; simp_all
    rw [this]; rfl
   rw [this]
   have:L.set i (own T n s ([]:List α)) = L:=by
    apply List.ext_getElem?
    intro j
    rw [List.getElem?_set]
    split
    ·rename_i h; subst h; split <;> simp_all
    ·rfl
   rw [this]; exact hs
  ·have hput:=hc.put (s.len * n) (xl.map enc).flatten (by
    rw [List.length_append,qef hn,qef hn,h4,hsl,← Nat.add_mul,← Nat.add_mul]
    exact Nat.mul_le_mul_right _ (by omega))
   obtain ⟨p1,p2,p3⟩:=hput
   refine ⟨fun a h=>(by rw [ha] at h; obtain rfl:=Option.some.inj h; exact p3),fun r hr=>?_⟩
   rw [ha]
   refine hk r _ (hs.upd hi (by simp only [own]; rw [qep ha]; exact p2) (.inr ⟨b,spare.drop (xl.length * n),by subst hr; exact ha,?_,by subst hr; simp [hsl,hxl],by subst hr; simp; omega,?_⟩) (qc9 _ _ _ _) ?_) (by subst hr; simp [hsl,hxl])
   ·have e1:((l.map enc).flatten ++ spare).take (s.len * n) = (l.map enc).flatten:=List.take_left' (by rw [qef hn,hsl])
    have e2:((l.map enc).flatten ++ spare).drop (s.len * n + (xl.map enc).flatten.length) = spare.drop (xl.length * n):=by
     rw [← List.drop_drop,List.drop_left' (by rw [qef hn,hsl]),qef hn]
    rw [e1,e2] at p1
    simpa using p1
   ·subst hr
    simp only [List.length_drop,h4,List.length_append,← Nat.sub_mul]
    congr 1; omega
   ·subst hr
    intro b' hb'
    simp only [own] at hb' ⊢
    have e:blk (⟨s.a,s.len + x.len,s.cap⟩:Sl) = blk s:=rfl
    rw [e] at hb'
    refine ⟨?_,.inl hb'⟩
    rw [qep ha] at hb'
    simp only [List.mem_singleton] at hb'
    subst hb'
    exact Nat.lt_of_lt_of_le hc.lt p2.size
 ·subst hp
  have hnew:=Cel.new h T ((l.map enc).flatten ++ (xl.map enc).flatten ++ (List.replicate (cap - (s.len + x.len)) z).flatten)
  refine hk r _ (hs.upd hi ((Fr.push _ _).mono (by simp)) (.inr ⟨h.size,(List.replicate (cap - (s.len + x.len)) z).flatten,by subst hr; rfl,?_,by subst hr; simp [hsl,hxl],by subst hr; simp; omega,?_⟩) (qc9 _ _ _ _) ?_) (by subst hr; simp [hsl,hxl])
  ·simpa using hnew
  ·subst hr
   rw [qdc n _ (by intro y hy; simp only [List.mem_replicate] at hy; rw [hy.2]; exact hz)]
   simp only [List.length_replicate,List.length_append,hsl,hxl]
  ·subst hr
   intro b' hb'
   simp only [own,blk,List.mem_singleton] at hb'
   subst hb'
   exact ⟨by simp [newC],.inr (Nat.le_refl _)⟩
theorem Sat.app_ {s x:Sl} {l xl:List α} {bytes:Nat} {z:List Value} {k:Sl→H→Prop} (i:Nat) (hs:Sat h0 S h L) (hi:L[i]? = some (own T n s l)) (hx:SV n h x xl) (hn:∀ y:α,(enc y).length = n) (h1:∀ y:α,(enc y).all (·.oneCell') = true) (hz:z.length = n)
  (hbig:(l.length + xl.length) * bytes≤maxBytes) (hlen:l.length + xl.length≤9223372036854775807) (hk:∀ r h',Sat h0 S h' (L.set i (own T n r (l ++ xl)))→r.len = l.length + xl.length→k r h'):app T n bytes z s x k h:=
 hs.appR_ i hi (.inl hx.1) hx.2.1 hn h1 hz hbig hlen hk
theorem Sat.strish_ {s:Sl} {l:List UInt8} {k:Sl→H→Prop} (i:Nat) (hs:Sat h0 S h L) (hi:L[i]? = some (own T 1 s l)) (hne:l ≠ []) (hk:∀ h',Sat h0 S h' (L.set i (rdo 1 s l))→k s h'):strish s k h:=by
 have ho:OwnA T 1 s l h:=hs.at_ hi
 have hsv:=ho.sv qb6
 rcases ho with ⟨_,_,_,hl⟩ | ⟨b,spare,ha,hc,h2,h3,h4⟩
 ·exact absurd hl hne
 ·have hb:=hc.2
  simp only at hb
  refine ⟨_,_,_,_,ha,hb,hk _ (hs.upd hi ?_ ?_ (rdo_loc _ _ _) ?_)⟩
  ·simp only [own]; rw [qep ha]
   unfold frz
   simp only [hb]
   exact Fr.set _ _ _
  ·refine ⟨?_,hsv.2⟩
   rcases hsv.1 with h5 | ⟨a,ha',⟨hsp,arr,T',fr,hb',hcc⟩,hl'⟩
   ·exact .inl h5
   ·rw [ha] at ha'
    obtain rfl:=Option.some.inj ha'
    have hlt:b < h.size:=hc.lt
    have hfz:∃ fr',(frz h b)[b]? = some (.cells arr T' fr'):=by
     unfold frz
     simp only at hb'
     simp only [hb']
     rw [Array.getElem?_setIfInBounds]
     simp only [hlt,if_true]
     exact ⟨_,rfl⟩
    obtain ⟨fr',hfz⟩:=hfz
    exact .inr ⟨_,ha,⟨rfl,arr,T',fr',hfz,hcc⟩,hl'⟩
  ·intro b' hb'
   simp only [rdo,own] at hb' ⊢
   refine ⟨?_,.inl hb'⟩
   rw [qep ha] at hb'
   simp only [List.mem_singleton] at hb'
   subst hb'
   unfold frz
   simp only [hb]
   simpa using hc.lt
end
end Go.Sh
namespace Go.Proofs.YtmpmildpioebhaaGreatDoor
open Go Go.Sh
open Go.Sh.Ty (reg)
def qm.j3 (s2:(Bool×Int)→H→Prop) (ids_3:Sl) (off_3:Int) (keep_3:Int) (first_4:Addr) (list_2:Sl) (bad_2:Bool) (i_1:Int) (id_1:Int) (kv_1:Int) (t33_2:Sl) (t34_2:Int) (t35_2:Int):H→Prop:=
 s2 (bad_2,(iadd kv_1 (1:Int)))
def qm.l2 (j2:Sl→Int→Int→Addr→Sl→Bool→Sl→Int→Int→H→Prop) (ids_2:Sl) (off_2:Int) (keep_2:Int) (first_3:Addr) (list_1:Sl) (i:Int) (id:Int) (t33_1:Sl) (t34_1:Int) (t35_1:Int):(Bool×Int)→H→Prop:=Lp fun s2 (bad_1,kv)=>
 ifb (decide (kv < i)) (ifb bad_1 ((qm.j3 s2) ids_2 off_2 keep_2 first_3 list_1 true i id kv t33_1 t34_1 t35_1) (sidx ids_2 kv 1 fun t67=>ld t67 (fun (x:Int)=>x) fun t68=>(qm.j3 s2) ids_2 off_2 keep_2 first_3 list_1 (t68 == id) i id kv t33_1 t34_1 t35_1)) (j2 ids_2 off_2 keep_2 first_3 list_1 bad_1 t33_1 t34_1 t35_1)
def qm.j2 (s1:(Sl×Bool×Int)→H→Prop) (ids_4:Sl) (off_4:Int) (keep_4:Int) (first_5:Addr) (list_3:Sl) (bad_3:Bool) (t33_3:Sl) (t34_3:Int) (t35_3:Int):H→Prop:=
 s1 (list_3,bad_3,(iadd t35_3 (1:Int)))
def qm.l1 (j1:Sl→Int→Int→Addr→Sl→Bool→H→Prop) (ids_1:Sl) (off_1:Int) (keep_1:Int) (first_2:Addr) (t33:Sl) (t34:Int):(Sl×Bool×Int)→H→Prop:=Lp fun s1 (list,bad,t35)=>
 ifb (decide (t35 < t34)) (sidx t33 t35 1 fun t38=>ld t38 (fun (x:Int)=>x) fun t39=>call (β:=Arr 32 UInt8) Prog 14 [reg ((1:Int):Int),reg (t35:Int)] fun t43=>mks 53 [(({ Seed:=t43,Height:=(1:Int) }:yw):yw)] fun t45=>mks 56 [(({ Id:=t39,Seeds:=t45 }:yu):yu)] fun t47=>app 56 2 32 (enc (yu.zero:yu)) list t47 fun t48=>qm.l2 (qm.j2 s1) ids_1 off_1 keep_1 first_2 t48 t35 t39 t33 t34 t35 (((bad || (decide (t39 < (1:Int)))) || (decide ((63:Int) < t39))),(0:Int))) (j1 ids_1 off_1 keep_1 first_2 list bad)
def qm.j5 (k:Bool→H→Prop) (s3:(Bool×Int)→H→Prop) (off_7:Int) (first_8:Addr) (w_1:Pt) (there_1:Bool) (t92_1:Sl) (t93_1:Int) (t94_1:Int) (t118:Bool):H→Prop:=
 ifb t118 (k (false:Bool)) (s3 (there_1,(iadd t94_1 (1:Int))))
def qm.l3 (j4:Int→Addr→Pt→Bool→H→Prop) (k:Bool→H→Prop) (off_6:Int) (first_7:Addr) (w:Pt) (t92:Sl) (t93:Int):(Bool×Int)→H→Prop:=Lp fun s3 (there,t94)=>
 ifb (decide (t94 < t93)) (sidx t92 t94 1 fun t96=>ld t96 (fun (x:Int)=>x) fun t97=>ifb (t97 != off_6) (call (β:=Pt) Prog 11 [reg (w:Pt),reg (t97:Int)] fun t110=>ifb t110.isNone ((qm.j5 k s3) off_6 first_7 w (there || (t97 == off_6)) t92 t93 t94 true) (call (β:=Pt) Prog 17 [reg (w:Pt),reg (t97:Int)] fun t115=>(qm.j5 k s3) off_6 first_7 w (there || (t97 == off_6)) t92 t93 t94 t115.isNone)) ((qm.j5 k s3) off_6 first_7 w (there || (t97 == off_6)) t92 t93 t94 false)) (j4 off_6 first_7 w there)
def qm.j6 (k:Bool→H→Prop) (t8:Bool):H→Prop:=
 k (t8:Bool)
def qm.j4 (k:Bool→H→Prop) (off_8:Int) (first_9:Addr) (w_2:Pt) (there_2:Bool):H→Prop:=
 call (β:=Pt) Prog 11 [reg (w_2:Pt),reg (off_8:Int)] fun t122=>ifb t122.isSome (k (false:Bool)) (call (β:=Int) Prog 18 [reg (w_2:Pt),reg (off_8:Int)] fun t126=>ifb (!there_2) (k ((t126 == (7:Int)):Bool)) (ifb (t126 == (0:Int)) (call (β:=Pt) Prog 11 [reg (w_2:Pt),reg (off_8:Int)] fun t136=>call (β:=Int) Prog 12 [reg (t136:Pt)] fun t137=>ifb (t137 == (0:Int)) (ld first_9 (fun (x:qa)=>x) fun t145=>call (β:=Pt) Prog 11 [reg (w_2:Pt),reg (off_8:Int)] fun t143=>chk first_9 (fun (x:qa)=>x) t145 <| call (β:=qb) Prog 20 [reg (t143:Pt)] fun t144=>chk first_9 (fun (x:qa)=>x) t145 <| call (β:=Bool) Prog 19 [reg (t144:qb),reg (({ qb.zero with Config:=t145 }:qb):qb)] fun t147=>(qm.j6 k) t147) ((qm.j6 k) false)) ((qm.j6 k) false)))
def qm.j1 (k:Bool→H→Prop) (ids_5:Sl) (off_5:Int) (keep_5:Int) (first_6:Addr) (list_4:Sl) (bad_4:Bool):H→Prop:=
 ld first_6 (fun (x:qa)=>x) fun t74=>call (β:=T2 Pt Int) Prog 15 [reg (t74:qa),reg ((1:Int):Int),reg (list_4:Sl)] fun t76=>ifb bad_4 (k (((t76.b == (1:Int)) && t76.a.isNone):Bool)) (ifb (t76.b != (0:Int)) (k (false:Bool)) (call (β:=Unit) Prog 16 [reg (t76.a:Pt),reg (off_5:Int),reg (keep_5:Int)] fun t91=>qm.l3 (qm.j4 k) k off_5 first_6 t76.a ids_5 (ids_5.len:Int) (false,(0:Int))))
def qm.b (first:qa) (ids:Sl) (off:Int) (keep:Int) (k:Bool→H→Prop):H→Prop:=
 box 27 (first:qa) fun first_1=>call (β:=Bool) Prog 5 [] fun t19=>ifb (!t19) (k (false:Bool)) (ld first_1 (fun (x:qa)=>x.Members) fun t22=>ifb ((decide ((20:Int) < (t22.len:Int))) || (decide ((4:Int) < (ids.len:Int)))) (k (true:Bool)) (ld first_1 (fun (x:qa)=>x) fun t30=>call (β:=Bool) Prog 13 [reg (t30:qa)] fun t31=>qm.l1 (qm.j1 k) ids off keep first_1 ids (ids.len:Int) (Sl.nil,(!t31),(0:Int))))
def qau.j1 (k:Pt→H→Prop) (w_1:Pt) (id_1:Int) (t15:Bool):H→Prop:=
 ifb t15 (k ((none:Pt):Pt)) (nn w_1 fun p_1=>ld p_1 (fun (x:yi)=>x.seats) fun t19=>mget t19 (fun (l:List (Int×Pt))=>(mlook (none:Pt) l (id_1:Int)).a) fun t21=>nn t21 fun p_2=>ld p_2 (fun (x:qac)=>x.rep) fun t24=>k (t24:Pt))
def qau.b (w:Pt) (id:Int) (k:Pt→H→Prop):H→Prop:=
 ifb w.isNone ((qau.j1 k) w id true) (nn w fun p=>ld p (fun (x:yi)=>x.seats) fun t11=>mget t11 (fun (l:List (Int×Pt))=>(mlook (none:Pt) l (id:Int)).a) fun t13=>(qau.j1 k) w id t13.isNone)
def qce.b (r:Pt) (k:Int→H→Prop):H→Prop:=
 ifb r.isNone (k ((0:Int):Int)) (nn r fun p=>ld p (fun (x:qg)=>x.height) fun t8=>k (t8:Int))
def qa2.j2 (k:Bool→H→Prop) (s1:Int→H→Prop) (c_3:Addr) (t26_2:Sl) (t27_1:Int) (t28_1:Int) (t49:Bool):H→Prop:=
 ifb t49 (k (false:Bool)) (s1 (iadd t28_1 (1:Int)))
def qa2.l1 (j1:H→Prop) (k:Bool→H→Prop) (c_2:Addr) (t26_1:Sl) (t27:Int):Int→H→Prop:=Lp fun s1 t28=>
 ifb (decide (t28 < t27)) (sidx t26_1 t28 34 fun t31=>ld t31 (fun (x:qj)=>x) fun t32=>box 82 (qj.zero:qj) fun m=>st m (fun (_:qj)=>t32) <| ld m (fun (x:qj)=>x) fun t33=>call (β:=Bool) Prog 34 [reg (t33:qj)] fun t34=>ifb (!t34) (k (false:Bool)) (ifb (decide ((0:Int) < t28)) (ld m (fun (x:qj)=>x.Id) fun t40=>ld c_2 (fun (x:qa)=>x.Members) fun t42=>sidx t42 (isub t28 (1:Int)) 34 fun t45=>ld t45 (fun (x:qj)=>x.Id) fun t47=>(qa2.j2 k s1) c_2 t26_1 t27 t28 (decide (t40≤t47))) ((qa2.j2 k s1) c_2 t26_1 t27 t28 false))) (j1)
def qa2.j1 (k:Bool→H→Prop):H→Prop:=
 k (true:Bool)
def qa2.b (c:qa) (k:Bool→H→Prop):H→Prop:=
 box 27 (c:qa) fun c_1=>ld c_1 (fun (x:qa)=>x.Members) fun t7=>ld c_1 (fun (x:qa)=>x.Epoch) fun t10=>ld c_1 (fun (x:qa)=>x.Epoch) fun t14=>ifb ((((decide (t10 < (0:Int))) || (decide ((1073741824:Int) < t14))) || (decide ((t7.len:Int) < (1:Int)))) || (decide ((10:Int) < (t7.len:Int)))) (k (false:Bool)) (ld c_1 (fun (x:qa)=>x.Members) fun t26=>qa2.l1 (qa2.j1 k) k c_1 t26 (t26.len:Int) (0:Int))
def qfi.b (m:qj) (k:Bool→H→Prop):H→Prop:=
 box 82 (m:qj) fun m_1=>ld m_1 (fun (x:qj)=>x.Id) fun t4=>ld m_1 (fun (x:qj)=>x.Id) fun t8=>ld m_1 (fun (x:qj)=>x.Key.Height) fun t14=>ld m_1 (fun (x:qj)=>x.Key.Height) fun t20=>k (((((decide ((0:Int) < t4)) && (decide (t8 < (64:Int)))) && (decide ((0:Int)≤t14))) && (decide (t20 < (7:Int)))):Bool)
def qfm.b (id:Int) (n:Int) (k:(Arr 32 UInt8)→H→Prop):H→Prop:=
 box 31 ((fun _=>0):Arr 32 UInt8) fun t4=>st t4 (fun (_:Arr 32 UInt8)=>(arrOf [(toU8 id),(toU8 n),(77:UInt8),0,0,0,0,0,0,0,0,0,0,0,0,0,0,0,0,0,0,0,0,0,0,0,0,0,0,0,0,0]:Arr 32 UInt8)) <| ld t4 (fun (x:Arr 32 UInt8)=>x) fun r4=>k (r4:Arr 32 UInt8)
def qca.l1 (j1:Addr→H→Prop) (k:(T2 Pt Int)→H→Prop) (w_1:Addr) (t29:Sl) (t30:Int):Int→H→Prop:=Lp fun s1 t31=>
 ifb (decide (t31 < t30)) (sidx t29 t31 2 fun t33=>ld t33 (fun (x:yu)=>x) fun t34=>box 56 (yu.zero:yu) fun s=>st s (fun (_:yu)=>t34) <| ld w_1 (fun (x:yi)=>x.seats) fun t38=>ld s (fun (x:yu)=>x.Id) fun t40=>mget t38 (fun (l:List (Int×Pt))=>(mlook (none:Pt) l (t40:Int)).a) fun t41=>ifb t41.isSome (k (⟨(none:Pt),(1:Int)⟩:T2 Pt Int)) (ld s (fun (x:yu)=>x.Seeds) fun t44=>call (β:=Sl) Prog 37 [reg (t44:Sl)] fun t45=>st s (fun (x:yu)=>{ x with Seeds:=t45 }) <| ld s (fun (x:yu)=>x) fun t47=>call (β:=Pt) Prog 38 [] fun t48=>chk s (fun (x:yu)=>x) t47 <| box 97 (({ qac.zero with Seat:=t47,d:=t48 }:qac):qac) fun t50=>call (β:=Int) Prog 39 [reg ((some t50):Pt),reg ((some w_1):Pt)] fun t53=>ifb (t53 != (0:Int)) (k (⟨(none:Pt),(1:Int)⟩:T2 Pt Int)) (ld w_1 (fun (x:yi)=>x.seats) fun t58=>ld s (fun (x:yu)=>x.Id) fun t60=>mput t58 (t60:Int) ((some t50):Pt) <| s1 (iadd t31 (1:Int))))) (j1 w_1)
def qca.j1 (k:(T2 Pt Int)→H→Prop) (w_4:Addr):H→Prop:=
 k (⟨(some w_4),(0:Int)⟩:T2 Pt Int)
def qca.b (first:qa) (base:Int) (seats:Sl) (k:(T2 Pt Int)→H→Prop):H→Prop:=
 box 27 (first:qa) fun first_1=>mkmap fun t13=>mkmap fun t14=>box 93 (({ yi.zero with base:=base,seats:=t13,clients:=t14 }:yi):yi) fun t16=>ld first_1 (fun (x:qa)=>x.Epoch) fun t19=>ld first_1 (fun (x:qa)=>x.Members) fun t21=>call (β:=Sl) Prog 35 [reg (t21:Sl)] fun t22=>chk first_1 (fun (x:qa)=>x.Epoch) t19 <| st t16 (fun (x:yi)=>{ x with first:=({ Epoch:=t19,Members:=t22 }:qa) }) <| ld first_1 (fun (x:qa)=>x) fun t26=>call (β:=Bool) Prog 36 [reg (t26:qa)] fun t27=>ifb (!t27) (k (⟨(none:Pt),(1:Int)⟩:T2 Pt Int)) (qca.l1 (qca.j1 k) k t16 seats (seats.len:Int) (0:Int))
def qc4.b (s:Sl) (k:Sl→H→Prop):H→Prop:=
 ifb s.a.isNone (k (Sl.nil:Sl)) (mks 82 ([]:List qj) fun t5=>app 82 34 48 (enc (qj.zero:qj)) t5 s fun t7=>k (t7:Sl))
def qat.j2 (k:Bool→H→Prop) (s1:Int→H→Prop) (c_3:Addr) (t26_2:Sl) (t27_1:Int) (t28_1:Int) (t51:Bool):H→Prop:=
 ifb t51 (k (false:Bool)) (s1 (iadd t28_1 (1:Int)))
def qat.l1 (j1:H→Prop) (k:Bool→H→Prop) (c_2:Addr) (t26_1:Sl) (t27:Int):Int→H→Prop:=Lp fun s1 t28=>
 ifb (decide (t28 < t27)) (sidx t26_1 t28 34 fun t31=>ld t31 (fun (x:qj)=>x) fun t32=>box 82 (qj.zero:qj) fun m=>st m (fun (_:qj)=>t32) <| ld m (fun (x:qj)=>x) fun t33=>call (β:=Bool) Prog 61 [reg (t33:qj)] fun t34=>ifb (!t34) ((qat.j2 k s1) c_2 t26_1 t27 t28 true) (ifb (decide ((0:Int) < t28)) (ld c_2 (fun (x:qa)=>x.Members) fun t41=>sidx t41 (isub t28 (1:Int)) 34 fun t44=>ld t44 (fun (x:qj)=>x.Id) fun t46=>ld m (fun (x:qj)=>x.Id) fun t48=>(qat.j2 k s1) c_2 t26_1 t27 t28 (decide (t48≤t46))) ((qat.j2 k s1) c_2 t26_1 t27 t28 false))) (j1)
def qat.j1 (k:Bool→H→Prop):H→Prop:=
 k (true:Bool)
def qat.b (c:qa) (k:Bool→H→Prop):H→Prop:=
 box 27 (c:qa) fun c_1=>ld c_1 (fun (x:qa)=>x.Epoch) fun t6=>ld c_1 (fun (x:qa)=>x.Epoch) fun t10=>ld c_1 (fun (x:qa)=>x.Members) fun t15=>ld c_1 (fun (x:qa)=>x.Members) fun t21=>ifb ((((decide (t6 < (0:Int))) || (decide ((1073741824:Int) < t10))) || ((t15.len:Int) == (0:Int))) || (decide ((10:Int) < (t21.len:Int)))) (k (false:Bool)) (ld c_1 (fun (x:qa)=>x.Members) fun t26=>qat.l1 (qat.j1 k) k c_1 t26 (t26.len:Int) (0:Int))
def qe1.b (m:qj) (k:Bool→H→Prop):H→Prop:=
 box 82 (m:qj) fun m_1=>ld m_1 (fun (x:qj)=>x.Id) fun t4=>ld m_1 (fun (x:qj)=>x.Id) fun t8=>ld m_1 (fun (x:qj)=>x.Key.Height) fun t14=>ld m_1 (fun (x:qj)=>x.Key.Height) fun t20=>k (((((decide ((1:Int)≤t4)) && (decide (t8≤(63:Int)))) && (decide ((0:Int)≤t14))) && (decide (t20≤(6:Int)))):Bool)
def qdo.b (s:Sl) (k:Sl→H→Prop):H→Prop:=
 ifb s.a.isNone (k (Sl.nil:Sl)) (mks 53 ([]:List yw) fun t5=>app 53 33 40 (enc (yw.zero:yw)) t5 s fun t7=>k (t7:Sl))
def disk_New.b (k:Pt→H→Prop):H→Prop:=
 mkmap fun t1=>box 169 (({ qam.zero with files:=t1 }:qam):qam) fun t3=>k ((some t3):Pt)
def qcy.b (s:Pt) (w:Pt) (k:Int→H→Prop):H→Prop:=
 nn s fun p=>ld p (fun (x:qac)=>x.d) fun t11=>ld p (fun (x:qac)=>x.Seat.Id) fun t16=>nn w fun p_1=>ld p_1 (fun (x:yi)=>x.first) fun t20=>ld p_1 (fun (x:yi)=>x.base) fun t24=>ld p (fun (x:qac)=>x.Seat.Seeds) fun t29=>call (β:=T2 Pt Int) Prog 62 [reg (t11:Pt),reg (t16:Int),reg (t20:qa),reg (t24:Int),reg (t29:Sl)] fun t30=>st p (fun (x:qac)=>{ x with rep:=t30.a }) <| k (t30.b:Int)
def yo.j3 (k:(T2 Pt Int)→H→Prop) (s1:Int→H→Prop) (d_3:Pt) (r_1:Addr) (e:Int) (t55_1:Sl) (t56_1:Int) (t57_1:Int):H→Prop:=
 ifb (e != (0:Int)) (k (⟨(none:Pt),(1:Int)⟩:T2 Pt Int)) (s1 (iadd t57_1 (1:Int)))
def yo.l1 (j2:Pt→Addr→H→Prop) (k:(T2 Pt Int)→H→Prop) (d_2:Pt) (r:Addr) (t55:Sl) (t56:Int):Int→H→Prop:=Lp fun s1 t57=>
 ifb (decide (t57 < t56)) (sidx t55 t57 33 fun t59=>ld t59 (fun (x:yw)=>x) fun t60=>box 53 (yw.zero:yw) fun s=>st s (fun (_:yw)=>t60) <| ld r (fun (x:qg)=>x.ring) fun t65=>ld s (fun (x:yw)=>x.Seed) fun t67=>ld s (fun (x:yw)=>x.Height) fun t69=>both (call (β:=T2 qo Int) Prog 94 [reg (t65:Pt),reg (t67:Arr 32 UInt8),reg (t69:Int)] fun t70=>box 33 (qo.zero:qo) fun t15=>chk r (fun (x:qg)=>x.ring) t65 <| chk s (fun (x:yw)=>x.Seed) t67 <| chk s (fun (x:yw)=>x.Height) t69 <| st t15 (fun (_:qo)=>t70.a) <| (yo.j3 k s1) d_2 r t70.b t55 t56 t57) (box 33 (qo.zero:qo) fun t15_1=>chk r (fun (x:qg)=>x.ring) t65 <| chk s (fun (x:yw)=>x.Seed) t67 <| chk s (fun (x:yw)=>x.Height) t69 <| call (β:=T2 qo Int) Prog 94 [reg (t65:Pt),reg (t67:Arr 32 UInt8),reg (t69:Int)] fun t70_1=>st t15_1 (fun (_:qo)=>t70_1.a) <| (yo.j3 k s1) d_2 r t70_1.b t55 t56 t57)) (j2 d_2 r)
def yo.j4 (k:(T2 Pt Int)→H→Prop) (d_5:Pt) (r_3:Addr):H→Prop:=
 call (β:=T3 Pt Sl Int) Prog 96 [reg (d_5:Pt),reg ((⟨#[108,111,103]⟩:ByteArray):ByteArray)] fun t104=>ifb (t104.c != (0:Int)) (k (⟨(none:Pt),t104.c⟩:T2 Pt Int)) (st r_3 (fun (x:qg)=>{ x with log:=t104.a }) <| call (β:=Int) Prog 97 [reg ((some r_3):Pt),reg (t104.b:Sl)] fun t117=>ifb (t117 != (0:Int)) (k (⟨(none:Pt),t117⟩:T2 Pt Int)) (k (⟨(some r_3),(0:Int)⟩:T2 Pt Int)))
def yo.j2 (k:(T2 Pt Int)→H→Prop) (d_4:Pt) (r_2:Addr):H→Prop:=
 call (β:=T2 yt Int) Prog 95 [reg (d_4:Pt),reg ((⟨#[115,110,97,112]⟩:ByteArray):ByteArray)] fun t78=>box 217 (yt.zero:yt) fun s_1=>st s_1 (fun (_:yt)=>t78.a) <| ifb (t78.b == (0:Int)) (ld s_1 (fun (x:yt)=>x.State) fun t89=>ld s_1 (fun (x:yt)=>x.Height) fun t91=>ld s_1 (fun (x:yt)=>x.Tip) fun t93=>st r_2 (fun (x:qg)=>{ x with state:=t89 }) <| chk s_1 (fun (x:yt)=>x.Height) t91 <| chk s_1 (fun (x:yt)=>x.Tip) t93 <| st r_2 (fun (x:qg)=>{ x with height:=t91 }) <| chk s_1 (fun (x:yt)=>x.Tip) t93 <| st r_2 (fun (x:qg)=>{ x with tip:=t93 }) <| (yo.j4 k) d_4 r_2) (ifb (t78.b == (7:Int)) ((yo.j4 k) d_4 r_2) (k (⟨(none:Pt),t78.b⟩:T2 Pt Int)))
def yo.j1 (k:(T2 Pt Int)→H→Prop) (d_1:Pt) (me_1:Int) (base_1:Int) (seeds_1:Sl) (first_2:Addr) (t36:Bool):H→Prop:=
 ifb t36 (k (⟨(none:Pt),(1:Int)⟩:T2 Pt Int)) (ld first_2 (fun (x:qa)=>x) fun t40=>ld first_2 (fun (x:qa)=>x) fun t42=>ld first_2 (fun (x:qa)=>x) fun t44=>call (β:=Pt) Prog 91 [] fun t41=>chk first_2 (fun (x:qa)=>x) t40 <| chk first_2 (fun (x:qa)=>x) t42 <| chk first_2 (fun (x:qa)=>x) t44 <| call (β:=qb) Prog 92 [reg (t42:qa)] fun t43=>chk first_2 (fun (x:qa)=>x) t40 <| chk first_2 (fun (x:qa)=>x) t44 <| call (β:=Arr 32 UInt8) Prog 93 [reg (t44:qa)] fun t45=>chk first_2 (fun (x:qa)=>x) t40 <| box 109 (({ qg.zero with d:=d_1,me:=me_1,base:=base_1,first:=t40,ring:=t41,state:=t43,tip:=t45 }:qg):qg) fun t47=>ld first_2 (fun (x:qa)=>x.Members) fun t50=>call (β:=Sl) Prog 35 [reg (t50:Sl)] fun t51=>st t47 (fun (x:qg)=>{ x with first.Members:=t51 }) <| yo.l1 (yo.j2 k) k d_1 t47 seeds_1 (seeds_1.len:Int) (0:Int))
def yo.b (d:Pt) (me:Int) (first:qa) (base:Int) (seeds:Sl) (k:(T2 Pt Int)→H→Prop):H→Prop:=
 box 27 (first:qa) fun first_1=>ifb d.isNone ((yo.j1 k) d me base seeds first_1 true) (ld first_1 (fun (x:qa)=>x) fun t25=>call (β:=Bool) Prog 36 [reg (t25:qa)] fun t26=>(yo.j1 k) d me base seeds first_1 (((!t26) || (decide (me < (1:Int)))) || (decide ((63:Int) < me))))
def ring_New.b (k:Pt→H→Prop):H→Prop:=
 mkmap fun t1=>box 288 (({ list:=t1 }:qa9):qa9) fun t3=>k ((some t3):Pt)
def state_New.b (c:qa) (k:qb→H→Prop):H→Prop:=
 box 27 (c:qa) fun c_1=>box 65 (qb.zero:qb) fun t2=>ld c_1 (fun (x:qa)=>x.Epoch) fun t4=>ld c_1 (fun (x:qa)=>x.Members) fun t6=>call (β:=Sl) Prog 35 [reg (t6:Sl)] fun t7=>chk c_1 (fun (x:qa)=>x.Epoch) t4 <| st t2 (fun (_:qb)=>({ qb.zero with Config:=({ Epoch:=t4,Members:=t7 }:qa) }:qb)) <| ld t2 (fun (x:qb)=>x) fun r2=>k (r2:qb)
def qfg.b (c:qa) (k:(Arr 32 UInt8)→H→Prop):H→Prop:=
 box 27 (c:qa) fun c_1=>box 31 ((fun _=>0):Arr 32 UInt8) fun t2=>ld c_1 (fun (x:qa)=>x) fun t4=>call (β:=Arr 32 UInt8) Prog 121 [reg (t4:qa)] fun t5=>box 31 ((fun _=>0):Arr 32 UInt8) fun d=>st d (fun (_:Arr 32 UInt8)=>t5) <| mks 5 [((102:UInt8):UInt8),((105:UInt8):UInt8),((114:UInt8):UInt8),((115:UInt8):UInt8),((116:UInt8):UInt8)] fun t6=>strish t6 fun t7=>mks 173 [(t7:Sl),(((⟨some d,32,32⟩:Sl).cut 1 0 32 32):Sl)] fun t9=>call (β:=Arr 32 UInt8) Prog 76 [reg (t9:Sl)] fun t10=>st t2 (fun (_:Arr 32 UInt8)=>t10) <| ld t2 (fun (x:Arr 32 UInt8)=>x) fun r2=>k (r2:Arr 32 UInt8)
def qer.b (c:qa) (k:(Arr 32 UInt8)→H→Prop):H→Prop:=
 box 27 (c:qa) fun c_1=>box 31 ((fun _=>0):Arr 32 UInt8) fun t2=>box 246 (yx.zero:yx) fun t5=>ld c_1 (fun (x:qa)=>x) fun t7=>call (β:=Unit) Prog 212 [reg ((some t5):Pt),reg (t7:qa)] fun t8=>mks 5 [((99:UInt8):UInt8),((111:UInt8):UInt8),((110:UInt8):UInt8),((102:UInt8):UInt8),((105:UInt8):UInt8),((103:UInt8):UInt8)] fun t9=>strish t9 fun t10=>call (β:=Sl) Prog 113 [reg ((some t5):Pt)] fun t12=>mks 173 [(t10:Sl),(t12:Sl)] fun t13=>call (β:=Arr 32 UInt8) Prog 76 [reg (t13:Sl)] fun t14=>st t2 (fun (_:Arr 32 UInt8)=>t14) <| ld t2 (fun (x:Arr 32 UInt8)=>x) fun r2=>k (r2:Arr 32 UInt8)
def qcs.l1 (k:Unit→H→Prop) (w_1:Pt) (t15_1:Sl) (t16:Int):Int→H→Prop:=Lp fun s1 t17=>
 ifb (decide (t17 < t16)) (sidx t15_1 t17 34 fun t19=>ld t19 (fun (x:qj)=>x) fun t20=>box 82 (qj.zero:qj) fun m=>st m (fun (_:qj)=>t20) <| ld m (fun (x:qj)=>x.Id) fun t23=>ld m (fun (x:qj)=>x.Key.Height) fun t26=>mks 3 [(t23:Int),(t26:Int)] fun t27=>call (β:=Unit) Prog 116 [reg (w_1:Pt),reg (t27:Sl)] fun t28=>ld m (fun (x:qj)=>x.Key.Root) fun t32=>mks 31 [(t32:Arr 32 UInt8)] fun t33=>call (β:=Unit) Prog 112 [reg (w_1:Pt),reg (t33:Sl)] fun t34=>s1 (iadd t17 (1:Int))) (k ())
def qcs.b (w:Pt) (c:qa) (k:Unit→H→Prop):H→Prop:=
 box 27 (c:qa) fun c_1=>ld c_1 (fun (x:qa)=>x.Epoch) fun t8=>ld c_1 (fun (x:qa)=>x.Members) fun t10=>mks 3 [(t8:Int),((t10.len:Int):Int)] fun t12=>call (β:=Unit) Prog 116 [reg (w:Pt),reg (t12:Sl)] fun t13=>ld c_1 (fun (x:qa)=>x.Members) fun t15=>qcs.l1 k w t15 (t15.len:Int) (0:Int)
def qes.b (r:Pt) (seed:Arr 32 UInt8) (height:Int) (k:(T2 qo Int)→H→Prop):H→Prop:=
 box 31 (seed:Arr 32 UInt8) fun seed_1=>box 33 (qo.zero:qo) fun t6=>ifb r.isNone (st t6 (fun (_:qo)=>qo.zero) <| ld t6 (fun (x:qo)=>x) fun r6=>k (⟨r6,(2:Int)⟩:T2 qo Int)) (ld seed_1 (fun (x:Arr 32 UInt8)=>x) fun t15=>call (β:=T2 Pt Int) Prog 25 [reg (t15:Arr 32 UInt8),reg (height:Int)] fun t17=>ifb (t17.b != (0:Int)) (st t6 (fun (_:qo)=>qo.zero) <| ld t6 (fun (x:qo)=>x) fun r6_1=>k (⟨r6_1,t17.b⟩:T2 qo Int)) (call (β:=qo) Prog 26 [reg (t17.a:Pt)] fun t25=>box 33 (qo.zero:qo) fun kv=>st kv (fun (_:qo)=>t25) <| nn r fun p=>ld p (fun (x:qa9)=>x.list) fun t29=>ld kv (fun (x:qo)=>x) fun t30=>mget t29 (fun (l:List (qo×Pt))=>(mlook (none:Pt) l (t30:qo)).a) fun t31=>ifb t31.isSome (st t6 (fun (_:qo)=>qo.zero) <| ld t6 (fun (x:qo)=>x) fun r6_2=>k (⟨r6_2,(9:Int)⟩:T2 qo Int)) (ld p (fun (x:qa9)=>x.list) fun t37=>ld kv (fun (x:qo)=>x) fun t38=>mkmap fun t40=>chk p (fun (x:qa9)=>x.list) t37 <| chk kv (fun (x:qo)=>x) t38 <| box 292 (({ tree:=t17.a,next:=(0:Int),open_:=t40 }:qbm):qbm) fun t42=>chk p (fun (x:qa9)=>x.list) t37 <| chk kv (fun (x:qo)=>x) t38 <| mput t37 (t38:qo) ((some t42):Pt) <| ld kv (fun (x:qo)=>x) fun t43=>st t6 (fun (_:qo)=>t43) <| ld t6 (fun (x:qo)=>x) fun r6_3=>k (⟨r6_3,(0:Int)⟩:T2 qo Int))))
def qcr.l1 (j1:Addr→H→Prop) (seed_2:Addr) (t:Addr) (t19:Int):Int→H→Prop:=Lp fun s1 t20=>
 ifb (decide (t20 < t19)) (ld t (fun (x:qae)=>x.leaves) fun t27=>ld seed_2 (fun (x:Arr 32 UInt8)=>x) fun t28=>call (β:=Arr 32 UInt8) Prog 51 [reg (t28:Arr 32 UInt8),reg (t20:Int)] fun t30=>chk t (fun (x:qae)=>x.leaves) t27 <| call (β:=Arr 32 UInt8) Prog 50 [reg (t30:Arr 32 UInt8)] fun t31=>chk t (fun (x:qae)=>x.leaves) t27 <| mks 31 [(t31:Arr 32 UInt8)] fun t32=>chk t (fun (x:qae)=>x.leaves) t27 <| app 31 32 32 (enc ((fun _=>0):Arr 32 UInt8)) t27 t32 fun t33=>st t (fun (x:qae)=>{ x with leaves:=t33 }) <| s1 (iadd t20 (1:Int))) (j1 t)
def qcr.j1 (k:(T2 Pt Int)→H→Prop) (t_1:Addr):H→Prop:=
 k (⟨(some t_1),(0:Int)⟩:T2 Pt Int)
def qcr.b (seed:Arr 32 UInt8) (height:Int) (k:(T2 Pt Int)→H→Prop):H→Prop:=
 box 31 (seed:Arr 32 UInt8) fun seed_1=>ifb ((decide (height < (0:Int))) || (decide ((6:Int) < height))) (k (⟨(none:Pt),(1:Int)⟩:T2 Pt Int)) (ld seed_1 (fun (x:Arr 32 UInt8)=>x) fun t14=>box 135 (({ qae.zero with seed:=t14,height:=height }:qae):qae) fun t17=>must (0≤height) <| qcr.l1 (qcr.j1 k) seed_1 t17 (ishl (1:Int) height.toNat) (0:Int))
def keys_leaf.b (p:Arr 32 UInt8) (k:(Arr 32 UInt8)→H→Prop):H→Prop:=
 box 31 (p:Arr 32 UInt8) fun p_1=>box 31 ((fun _=>0):Arr 32 UInt8) fun t2=>call (β:=Arr 32 UInt8) Prog 72 [reg (((⟨some p_1,32,32⟩:Sl).cut 1 0 32 32):Sl)] fun t4=>st t2 (fun (_:Arr 32 UInt8)=>t4) <| ld t2 (fun (x:Arr 32 UInt8)=>x) fun r2=>k (r2:Arr 32 UInt8)
def tree_Leaf.b (b:Sl) (k:(Arr 32 UInt8)→H→Prop):H→Prop:=
 box 31 ((fun _=>0):Arr 32 UInt8) fun t2=>mks 5 [((0:UInt8):UInt8)] fun t3=>mks 173 [(t3:Sl),(b:Sl)] fun t5=>call (β:=Arr 32 UInt8) Prog 76 [reg (t5:Sl)] fun t6=>st t2 (fun (_:Arr 32 UInt8)=>t6) <| ld t2 (fun (x:Arr 32 UInt8)=>x) fun r2=>k (r2:Arr 32 UInt8)
def qeq.b (t:Pt) (k:qo→H→Prop):H→Prop:=
 box 33 (qo.zero:qo) fun t2=>ifb t.isNone (st t2 (fun (_:qo)=>qo.zero) <| ld t2 (fun (x:qo)=>x) fun r2=>k (r2:qo)) (nn t fun p=>ld p (fun (x:qae)=>x.leaves) fun t9=>ld p (fun (x:qae)=>x.height) fun t14=>call (β:=Arr 32 UInt8) Prog 52 [reg (t9:Sl)] fun t10=>chk p (fun (x:qae)=>x.height) t14 <| st t2 (fun (_:qo)=>({ Root:=t10,Height:=t14 }:qo)) <| ld t2 (fun (x:qo)=>x) fun r2_1=>k (r2_1:qo))
def qb9.l1 (j1:Addr→Sl→H→Prop) (t2_1:Addr):Sl→H→Prop:=Lp fun s1 row=>
 ifb (decide ((1:Int) < (row.len:Int))) (call (β:=Sl) Prog 77 [reg (row:Sl)] fun t15=>s1 t15) (j1 t2_1 row)
def qb9.j1 (k:(Arr 32 UInt8)→H→Prop) (t2_2:Addr) (row_1:Sl):H→Prop:=
 sidx row_1 (0:Int) 32 fun t17=>ld t17 (fun (x:Arr 32 UInt8)=>x) fun t18=>st t2_2 (fun (_:Arr 32 UInt8)=>t18) <| ld t2_2 (fun (x:Arr 32 UInt8)=>x) fun r2_1=>k (r2_1:Arr 32 UInt8)
def qb9.b (leaves:Sl) (k:(Arr 32 UInt8)→H→Prop):H→Prop:=
 box 31 ((fun _=>0):Arr 32 UInt8) fun t2=>ifb ((leaves.len:Int) == (0:Int)) (call (β:=Arr 32 UInt8) Prog 76 [reg (Sl.nil:Sl)] fun t7=>st t2 (fun (_:Arr 32 UInt8)=>t7) <| ld t2 (fun (x:Arr 32 UInt8)=>x) fun r2=>k (r2:Arr 32 UInt8)) (mks 31 ([]:List (Arr 32 UInt8)) fun t8=>app 31 32 32 (enc ((fun _=>0):Arr 32 UInt8)) t8 leaves fun t10=>qb9.l1 (qb9.j1 k) t2 t10)
def qdi.l1 (j1:Sl→H→Prop) (row_1:Sl):(Sl×Int)→H→Prop:=Lp fun s1 (out,i)=>
 ifb (decide (i < (row_1.len:Int))) (ifb ((iadd i (1:Int)) == (row_1.len:Int)) (sidx row_1 i 32 fun t19=>ld t19 (fun (x:Arr 32 UInt8)=>x) fun t20=>mks 31 [(t20:Arr 32 UInt8)] fun t21=>app 31 32 32 (enc ((fun _=>0):Arr 32 UInt8)) out t21 fun t22=>j1 t22) (sidx row_1 i 32 fun t26=>ld t26 (fun (x:Arr 32 UInt8)=>x) fun t27=>sidx row_1 (iadd i (1:Int)) 32 fun t31=>ld t31 (fun (x:Arr 32 UInt8)=>x) fun t32=>call (β:=Arr 32 UInt8) Prog 115 [reg ((1:UInt8):UInt8),reg (t27:Arr 32 UInt8),reg (t32:Arr 32 UInt8)] fun t33=>mks 31 [(t33:Arr 32 UInt8)] fun t34=>app 31 32 32 (enc ((fun _=>0):Arr 32 UInt8)) out t34 fun t35=>s1 (t35,(iadd i (2:Int))))) (j1 out)
def qdi.j1 (k:Sl→H→Prop) (out_1:Sl):H→Prop:=
 k (out_1:Sl)
def qdi.b (row:Sl) (k:Sl→H→Prop):H→Prop:=
 qdi.l1 (qdi.j1 k) row (Sl.nil,(0:Int))
def sha_Pair.b (mark:UInt8) (a:Arr 32 UInt8) (b:Arr 32 UInt8) (k:(Arr 32 UInt8)→H→Prop):H→Prop:=
 box 31 (a:Arr 32 UInt8) fun a_1=>box 31 (b:Arr 32 UInt8) fun b_1=>box 31 ((fun _=>0):Arr 32 UInt8) fun t6=>mks 5 [(mark:UInt8)] fun t8=>mks 173 [(t8:Sl),(((⟨some a_1,32,32⟩:Sl).cut 1 0 32 32):Sl),(((⟨some b_1,32,32⟩:Sl).cut 1 0 32 32):Sl)] fun t11=>call (β:=Arr 32 UInt8) Prog 76 [reg (t11:Sl)] fun t12=>st t6 (fun (_:Arr 32 UInt8)=>t12) <| ld t6 (fun (x:Arr 32 UInt8)=>x) fun r6=>k (r6:Arr 32 UInt8)
def snap_Load.b (d:Pt) (name:ByteArray) (k:(T2 yt Int)→H→Prop):H→Prop:=
 box 217 (yt.zero:yt) fun t4=>call (β:=T2 Sl Int) Prog 143 [reg (d:Pt),reg (name:ByteArray)] fun t11=>ifb (t11.b != (0:Int)) (st t4 (fun (_:yt)=>yt.zero) <| ld t4 (fun (x:yt)=>x) fun r4=>k (⟨r4,t11.b⟩:T2 yt Int)) (call (β:=T2 yt Int) Prog 144 [reg (t11.a:Sl)] fun t19=>st t4 (fun (_:yt)=>t19.a) <| ld t4 (fun (x:yt)=>x) fun r4_1=>k (⟨r4_1,t19.b⟩:T2 yt Int))
def qei.b (d:Pt) (name:ByteArray) (k:(T2 Sl Int)→H→Prop):H→Prop:=
 ifb d.isNone (k (⟨Sl.nil,(2:Int)⟩:T2 Sl Int)) (nn d fun p=>ld p (fun (x:qam)=>x.down) fun t14=>ifb t14 (k (⟨Sl.nil,(21:Int)⟩:T2 Sl Int)) (ld p (fun (x:qam)=>x.files) fun t19=>mget t19 (fun (l:List (ByteArray×Pt))=>(mlook (none:Pt) l (name:ByteArray)).a) fun t21=>ifb t21.isNone (k (⟨Sl.nil,(7:Int)⟩:T2 Sl Int)) (ld p (fun (x:qam)=>x.files) fun t26=>mget t26 (fun (l:List (ByteArray×Pt))=>(mlook (none:Pt) l (name:ByteArray)).a) fun t28=>nn t28 fun p_1=>ld p_1 (fun (x:qbi)=>x.safe) fun t33=>ld p_1 (fun (x:qbi)=>x.waits) fun t38=>mks 5 ([]:List UInt8) fun t29=>chk p_1 (fun (x:qbi)=>x.safe) t33 <| chk p_1 (fun (x:qbi)=>x.waits) t38 <| app 5 1 1 (enc (0:UInt8)) t29 t33 fun t34=>chk p_1 (fun (x:qbi)=>x.waits) t38 <| app 5 1 1 (enc (0:UInt8)) t34 t38 fun t39=>k (⟨t39,(0:Int)⟩:T2 Sl Int))))
def qd9.j1 (k:(T3 Pt Sl Int)→H→Prop) (d_1:Pt) (name_1:ByteArray) (out:Sl):H→Prop:=
 call (β:=Int) Prog 147 [reg (d_1:Pt),reg (name_1:ByteArray)] fun t48=>ifb (t48 != (0:Int)) (k (⟨(none:Pt),Sl.nil,t48⟩:T3 Pt Sl Int)) (box 296 (({ d:=d_1,name:=name_1 }:qck):qck) fun t55=>k (⟨(some t55),out,(0:Int)⟩:T3 Pt Sl Int))
def qd9.b (d:Pt) (name:ByteArray) (k:(T3 Pt Sl Int)→H→Prop):H→Prop:=
 call (β:=T2 Sl Int) Prog 143 [reg (d:Pt),reg (name:ByteArray)] fun t16=>ifb (t16.b == (7:Int)) (box 296 (({ d:=d,name:=name }:qck):qck) fun t24=>k (⟨(some t24),Sl.nil,(0:Int)⟩:T3 Pt Sl Int)) (ifb (t16.b != (0:Int)) (k (⟨(none:Pt),Sl.nil,t16.b⟩:T3 Pt Sl Int)) (call (β:=T2 Sl Int) Prog 145 [reg (t16.a:Sl)] fun t30=>ifb (decide (t30.b < (t16.a.len:Int))) (must (0≤t30.b∧t30.b≤(t16.a.cap:Int)) <| call (β:=Int) Prog 146 [reg (d:Pt),reg (name:ByteArray),reg ((t16.a.cut 1 0 t30.b.toNat t16.a.cap):Sl)] fun t42=>ifb (t42 != (0:Int)) (k (⟨(none:Pt),Sl.nil,t42⟩:T3 Pt Sl Int)) ((qd9.j1 k) d name t30.a)) ((qd9.j1 k) d name t30.a)))
def yf.l1 (j1:Pt→Sl→H→Prop) (r_1:Pt) (t12:Sl) (t13:Int):(Sl×Int)→H→Prop:=Lp fun s1 (own,t14)=>
 ifb (decide (t14 < t13)) (fun _=>False) (j1 r_1 own)
def yf.l2 (j2:Pt→H→Prop) (r_3:Pt) (t124:Sl) (t125:Int):Int→H→Prop:=Lp fun s2 t126=>
 ifb (decide (t126 < t125)) (fun _=>False) (j2 r_3)
def yf.j2 (k:Int→H→Prop) (r_4:Pt):H→Prop:=
 nn r_4 fun p=>st p (fun (x:qg)=>{ x with out:=Sl.nil }) <| k ((0:Int):Int)
def yf.j1 (k:Int→H→Prop) (r_2:Pt) (own_1:Sl):H→Prop:=
 call (β:=Unit) Prog 133 [reg (r_2:Pt)] fun t123=>yf.l2 (yf.j2 k) r_2 own_1 (own_1.len:Int) (0:Int)
def yf.b (r:Pt) (list:Sl) (k:Int→H→Prop):H→Prop:=
 yf.l1 (yf.j1 k) r list (list.len:Int) (Sl.nil,(0:Int))
def qci.b (r:Pt) (k:Unit→H→Prop):H→Prop:=
 mkmap fun t5=>mkmap fun t6=>nn r fun p=>st p (fun (x:qg)=>{ x with said:=Sl.nil }) <| st p (fun (x:qg)=>{ x with blocks:=t5 }) <| st p (fun (x:qg)=>{ x with plans:=t6 }) <| ld p (fun (x:qg)=>x.state.Config) fun t18=>ld p (fun (x:qg)=>x.me) fun t22=>ld p (fun (x:qg)=>x.height) fun t26=>ld p (fun (x:qg)=>x.base) fun t31=>call (β:=Pt) Prog 226 [reg (t18:qa),reg (t22:Int),reg ((iadd t26 (1:Int)):Int),reg (t31:Int)] fun t32=>st p (fun (x:qg)=>{ x with core:=t32 }) <| k ()
def qas.j2 (k:Pt→H→Prop) (t8:Addr):H→Prop:=
 k ((some t8):Pt)
def qas.j1 (k:Pt→H→Prop) (me_1:Int) (height_1:Int) (base_1:Int) (c_2:Addr) (t17:Bool):H→Prop:=
 ifb t17 (k ((none:Pt):Pt)) (ld c_2 (fun (x:qa)=>x.Members) fun t19=>call (β:=Sl) Prog 35 [reg (t19:Sl)] fun t20=>st c_2 (fun (x:qa)=>{ x with Members:=t20 }) <| ld c_2 (fun (x:qa)=>x) fun t22=>both (call (β:=Cx) Prog 139 [reg (height_1:Int),reg ((0:Int):Int)] fun t26=>chk c_2 (fun (x:qa)=>x) t22 <| both (mkmap fun t29=>chk c_2 (fun (x:qa)=>x) t22 <| both (mkmap fun t30=>chk c_2 (fun (x:qa)=>x) t22 <| call (β:=Pt) Prog 288 [] fun t31=>chk c_2 (fun (x:qa)=>x) t22 <| box 205 (({ qs.zero with config:=t22,me:=me_1,base:=base_1,at_:=t26,locked:=({ qi.zero with round:=(-1:Int) }:qi),valid:=({ qi.zero with round:=(-1:Int) }:qi),plans:=t29,blocks:=t30,box:=t31 }:qs):qs) fun t33=>(qas.j2 k) t33) (call (β:=Pt) Prog 288 [] fun t31_1=>chk c_2 (fun (x:qa)=>x) t22 <| mkmap fun t30_1=>chk c_2 (fun (x:qa)=>x) t22 <| box 205 (({ qs.zero with config:=t22,me:=me_1,base:=base_1,at_:=t26,locked:=({ qi.zero with round:=(-1:Int) }:qi),valid:=({ qi.zero with round:=(-1:Int) }:qi),plans:=t29,blocks:=t30_1,box:=t31_1 }:qs):qs) fun t33_1=>(qas.j2 k) t33_1)) (both (mkmap fun t30_2=>chk c_2 (fun (x:qa)=>x) t22 <| both (mkmap fun t29_1=>chk c_2 (fun (x:qa)=>x) t22 <| call (β:=Pt) Prog 288 [] fun t31_2=>chk c_2 (fun (x:qa)=>x) t22 <| box 205 (({ qs.zero with config:=t22,me:=me_1,base:=base_1,at_:=t26,locked:=({ qi.zero with round:=(-1:Int) }:qi),valid:=({ qi.zero with round:=(-1:Int) }:qi),plans:=t29_1,blocks:=t30_2,box:=t31_2 }:qs):qs) fun t33_2=>(qas.j2 k) t33_2) (call (β:=Pt) Prog 288 [] fun t31_3=>chk c_2 (fun (x:qa)=>x) t22 <| mkmap fun t29_2=>chk c_2 (fun (x:qa)=>x) t22 <| box 205 (({ qs.zero with config:=t22,me:=me_1,base:=base_1,at_:=t26,locked:=({ qi.zero with round:=(-1:Int) }:qi),valid:=({ qi.zero with round:=(-1:Int) }:qi),plans:=t29_2,blocks:=t30_2,box:=t31_3 }:qs):qs) fun t33_3=>(qas.j2 k) t33_3)) (call (β:=Pt) Prog 288 [] fun t31_4=>chk c_2 (fun (x:qa)=>x) t22 <| both (mkmap fun t29_3=>chk c_2 (fun (x:qa)=>x) t22 <| mkmap fun t30_3=>chk c_2 (fun (x:qa)=>x) t22 <| box 205 (({ qs.zero with config:=t22,me:=me_1,base:=base_1,at_:=t26,locked:=({ qi.zero with round:=(-1:Int) }:qi),valid:=({ qi.zero with round:=(-1:Int) }:qi),plans:=t29_3,blocks:=t30_3,box:=t31_4 }:qs):qs) fun t33_4=>(qas.j2 k) t33_4) (mkmap fun t30_4=>chk c_2 (fun (x:qa)=>x) t22 <| mkmap fun t29_4=>chk c_2 (fun (x:qa)=>x) t22 <| box 205 (({ qs.zero with config:=t22,me:=me_1,base:=base_1,at_:=t26,locked:=({ qi.zero with round:=(-1:Int) }:qi),valid:=({ qi.zero with round:=(-1:Int) }:qi),plans:=t29_4,blocks:=t30_4,box:=t31_4 }:qs):qs) fun t33_5=>(qas.j2 k) t33_5)))) (both (mkmap fun t29_5=>chk c_2 (fun (x:qa)=>x) t22 <| both (call (β:=Cx) Prog 139 [reg (height_1:Int),reg ((0:Int):Int)] fun t26_1=>chk c_2 (fun (x:qa)=>x) t22 <| both (mkmap fun t30_5=>chk c_2 (fun (x:qa)=>x) t22 <| call (β:=Pt) Prog 288 [] fun t31_5=>chk c_2 (fun (x:qa)=>x) t22 <| box 205 (({ qs.zero with config:=t22,me:=me_1,base:=base_1,at_:=t26_1,locked:=({ qi.zero with round:=(-1:Int) }:qi),valid:=({ qi.zero with round:=(-1:Int) }:qi),plans:=t29_5,blocks:=t30_5,box:=t31_5 }:qs):qs) fun t33_6=>(qas.j2 k) t33_6) (call (β:=Pt) Prog 288 [] fun t31_6=>chk c_2 (fun (x:qa)=>x) t22 <| mkmap fun t30_6=>chk c_2 (fun (x:qa)=>x) t22 <| box 205 (({ qs.zero with config:=t22,me:=me_1,base:=base_1,at_:=t26_1,locked:=({ qi.zero with round:=(-1:Int) }:qi),valid:=({ qi.zero with round:=(-1:Int) }:qi),plans:=t29_5,blocks:=t30_6,box:=t31_6 }:qs):qs) fun t33_7=>(qas.j2 k) t33_7)) (mkmap fun t30_7=>chk c_2 (fun (x:qa)=>x) t22 <| call (β:=Cx) Prog 139 [reg (height_1:Int),reg ((0:Int):Int)] fun t26_2=>chk c_2 (fun (x:qa)=>x) t22 <| call (β:=Pt) Prog 288 [] fun t31_7=>chk c_2 (fun (x:qa)=>x) t22 <| box 205 (({ qs.zero with config:=t22,me:=me_1,base:=base_1,at_:=t26_2,locked:=({ qi.zero with round:=(-1:Int) }:qi),valid:=({ qi.zero with round:=(-1:Int) }:qi),plans:=t29_5,blocks:=t30_7,box:=t31_7 }:qs):qs) fun t33_8=>(qas.j2 k) t33_8)) (mkmap fun t30_8=>chk c_2 (fun (x:qa)=>x) t22 <| both (call (β:=Cx) Prog 139 [reg (height_1:Int),reg ((0:Int):Int)] fun t26_3=>chk c_2 (fun (x:qa)=>x) t22 <| both (mkmap fun t29_6=>chk c_2 (fun (x:qa)=>x) t22 <| call (β:=Pt) Prog 288 [] fun t31_8=>chk c_2 (fun (x:qa)=>x) t22 <| box 205 (({ qs.zero with config:=t22,me:=me_1,base:=base_1,at_:=t26_3,locked:=({ qi.zero with round:=(-1:Int) }:qi),valid:=({ qi.zero with round:=(-1:Int) }:qi),plans:=t29_6,blocks:=t30_8,box:=t31_8 }:qs):qs) fun t33_9=>(qas.j2 k) t33_9) (call (β:=Pt) Prog 288 [] fun t31_9=>chk c_2 (fun (x:qa)=>x) t22 <| mkmap fun t29_7=>chk c_2 (fun (x:qa)=>x) t22 <| box 205 (({ qs.zero with config:=t22,me:=me_1,base:=base_1,at_:=t26_3,locked:=({ qi.zero with round:=(-1:Int) }:qi),valid:=({ qi.zero with round:=(-1:Int) }:qi),plans:=t29_7,blocks:=t30_8,box:=t31_9 }:qs):qs) fun t33_10=>(qas.j2 k) t33_10)) (mkmap fun t29_8=>chk c_2 (fun (x:qa)=>x) t22 <| call (β:=Cx) Prog 139 [reg (height_1:Int),reg ((0:Int):Int)] fun t26_4=>chk c_2 (fun (x:qa)=>x) t22 <| call (β:=Pt) Prog 288 [] fun t31_10=>chk c_2 (fun (x:qa)=>x) t22 <| box 205 (({ qs.zero with config:=t22,me:=me_1,base:=base_1,at_:=t26_4,locked:=({ qi.zero with round:=(-1:Int) }:qi),valid:=({ qi.zero with round:=(-1:Int) }:qi),plans:=t29_8,blocks:=t30_8,box:=t31_10 }:qs):qs) fun t33_11=>(qas.j2 k) t33_11))))
def qas.b (c:qa) (me:Int) (height:Int) (base:Int) (k:Pt→H→Prop):H→Prop:=
 box 27 (c:qa) fun c_1=>ld c_1 (fun (x:qa)=>x) fun t9=>call (β:=Bool) Prog 36 [reg (t9:qa)] fun t10=>ifb (!t10) ((qas.j1 k) me height base c_1 true) (call (β:=Cx) Prog 139 [reg (height:Int),reg ((0:Int):Int)] fun t14=>call (β:=Bool) Prog 138 [reg (t14:Cx)] fun t15=>(qas.j1 k) me height base c_1 (!t15))
def qff.b (k:Pt→H→Prop):H→Prop:=
 mkmap fun t1=>box 378 (({ votes:=t1 }:qdk):qdk) fun t3=>k ((some t3):Pt)
def qbj.j1 (k:Unit→H→Prop) (w_1:Pt) (id_1:Int) (keep_1:Int) (t16:Bool):H→Prop:=
 ifb t16 (nn w_1 fun p_1=>ld p_1 (fun (x:yi)=>x.seats) fun t20=>mget t20 (fun (l:List (Int×Pt))=>(mlook (none:Pt) l (id_1:Int)).a) fun t22=>nn t22 fun p_2=>ld p_2 (fun (x:qac)=>x.d) fun t25=>call (β:=Unit) Prog 40 [reg (t25:Pt),reg (keep_1:Int)] fun t27=>ld p_1 (fun (x:yi)=>x.seats) fun t31=>mget t31 (fun (l:List (Int×Pt))=>(mlook (none:Pt) l (id_1:Int)).a) fun t33=>nn t33 fun p_3=>st p_3 (fun (x:qac)=>{ x with rep:=(none:Pt) }) <| k ()) (k ())
def qbj.b (w:Pt) (id:Int) (keep:Int) (k:Unit→H→Prop):H→Prop:=
 ifb w.isSome (nn w fun p=>ld p (fun (x:yi)=>x.seats) fun t12=>mget t12 (fun (l:List (Int×Pt))=>(mlook (none:Pt) l (id:Int)).a) fun t14=>(qbj.j1 k) w id keep t14.isSome) ((qbj.j1 k) w id keep false)
def qap.l1 (j2:Pt→H→Prop) (d_2:Pt) (keep_2:Int) (t19_1:Addr):Unit→H→Prop:=Lp fun s1 _=>
 nxt (κ:=ByteArray) (ν:=Pt) t19_1 fun t20=>ifb t20.o.isSome (ent (κ:=ByteArray) (ν:=Pt) t19_1 fun t22=>nn t22.b fun p_2=>ld p_2 (fun (x:qbi)=>x.waits) fun t29=>ld p_2 (fun (x:qbi)=>x.safe) fun t37=>ld p_2 (fun (x:qbi)=>x.waits) fun t41=>must (0≤(imin (imax keep_2 (0:Int)) (t29.len:Int))∧(imin (imax keep_2 (0:Int)) (t29.len:Int))≤(t41.cap:Int)) <| app 5 1 1 (enc (0:UInt8)) t37 (t41.cut 1 0 (imin (imax keep_2 (0:Int)) (t29.len:Int)).toNat t41.cap) fun t44=>st p_2 (fun (x:qbi)=>{ x with safe:=t44 }) <| st p_2 (fun (x:qbi)=>{ x with waits:=Sl.nil }) <| s1 ()) (j2 d_2)
def qap.j2 (k:Unit→H→Prop) (d_3:Pt):H→Prop:=
 nn d_3 fun p_3=>st p_3 (fun (x:qam)=>{ x with down:=true }) <| st p_3 (fun (x:qam)=>{ x with fuse:=(0:Int) }) <| k ()
def qap.j1 (k:Unit→H→Prop) (d_1:Pt) (keep_1:Int) (t14:Bool):H→Prop:=
 ifb t14 (k ()) (nn d_1 fun p_1=>ld p_1 (fun (x:qam)=>x.files) fun t18=>rng t18 ([]:List (ByteArray×Pt)) fun t19=>qap.l1 (qap.j2 k) d_1 keep_1 t19 ())
def qap.b (d:Pt) (keep:Int) (k:Unit→H→Prop):H→Prop:=
 ifb d.isNone ((qap.j1 k) d keep true) (nn d fun p=>ld p (fun (x:qam)=>x.down) fun t13=>(qap.j1 k) d keep t13)
def qa7.j1 (k:Pt→H→Prop) (w_1:Pt) (id_1:Int) (t15:Bool):H→Prop:=
 ifb t15 (k ((none:Pt):Pt)) (nn w_1 fun p_1=>ld p_1 (fun (x:yi)=>x.seats) fun t19=>mget t19 (fun (l:List (Int×Pt))=>(mlook (none:Pt) l (id_1:Int)).a) fun t21=>nn t21 fun p_2=>ld p_2 (fun (x:qac)=>x.d) fun t24=>k (t24:Pt))
def qa7.b (w:Pt) (id:Int) (k:Pt→H→Prop):H→Prop:=
 ifb w.isNone ((qa7.j1 k) w id true) (nn w fun p=>ld p (fun (x:yi)=>x.seats) fun t11=>mget t11 (fun (l:List (Int×Pt))=>(mlook (none:Pt) l (id:Int)).a) fun t13=>(qa7.j1 k) w id t13.isNone)
def qem.b (w:Pt) (id:Int) (k:Int→H→Prop):H→Prop:=
 ifb w.isNone (k ((2:Int):Int)) (nn w fun p=>ld p (fun (x:yi)=>x.seats) fun t11=>mget t11 (fun (l:List (Int×Pt))=>(mlook (none:Pt) l (id:Int)).a) fun t13=>ifb t13.isNone (k ((7:Int):Int)) (nn t13 fun p_1=>ld p_1 (fun (x:qac)=>x.d) fun t19=>call (β:=Unit) Prog 41 [reg (t19:Pt)] fun t20=>call (β:=Int) Prog 39 [reg (t13:Pt),reg (w:Pt)] fun t23=>k (t23:Int)))
def qey.b (d:Pt) (k:Unit→H→Prop):H→Prop:=
 ifb d.isSome (nn d fun p=>st p (fun (x:qam)=>{ x with down:=false }) <| k ()) (k ())
def qal.l1 (j2:Addr→Addr→H→Prop) (a_3:Addr) (b_3:Addr) (t33:Int):Int→H→Prop:=Lp fun s1 t34=>
 ifb (decide (t34 < t33)) (fun _=>False) (j2 a_3 b_3)
def qal.l2 (j3:H→Prop) (a_5:Addr) (b_5:Addr) (t51:Int):Int→H→Prop:=Lp fun s2 t52=>
 ifb (decide (t52 < t51)) (fun _=>False) (j3)
def qal.j3 (k:Bool→H→Prop):H→Prop:=
 k (true:Bool)
def qal.j2 (k:Bool→H→Prop) (a_4:Addr) (b_4:Addr):H→Prop:=
 ld a_4 (fun (x:qb)=>x.Replies) fun t50=>qal.l2 (qal.j3 k) a_4 b_4 (t50.len:Int) (0:Int)
def qal.j1 (k:Bool→H→Prop) (a_2:Addr) (b_2:Addr) (t30:Bool):H→Prop:=
 ifb t30 (k (false:Bool)) (ld a_2 (fun (x:qb)=>x.Pairs) fun t32=>qal.l1 (qal.j2 k) a_2 b_2 (t32.len:Int) (0:Int))
def qal.b (a:qb) (b:qb) (k:Bool→H→Prop):H→Prop:=
 box 65 (a:qb) fun a_1=>box 65 (b:qb) fun b_1=>ld a_1 (fun (x:qb)=>x.Pairs) fun t8=>ld b_1 (fun (x:qb)=>x.Pairs) fun t11=>ld a_1 (fun (x:qb)=>x.Replies) fun t16=>ld b_1 (fun (x:qb)=>x.Replies) fun t19=>ifb (((t8.len:Int) != (t11.len:Int)) || ((t16.len:Int) != (t19.len:Int))) ((qal.j1 k) a_1 b_1 true) (ld a_1 (fun (x:qb)=>x.Config) fun t25=>ld b_1 (fun (x:qb)=>x.Config) fun t27=>call (β:=Bool) Prog 42 [reg (t25:qa),reg (t27:qa)] fun t28=>(qal.j1 k) a_1 b_1 (!t28))
def qbz.l1 (j1:H→Prop) (k:Bool→H→Prop) (a_2:Addr) (b_2:Addr) (t22:Int):Int→H→Prop:=Lp fun s1 t23=>
 ifb (decide (t23 < t22)) (ld a_2 (fun (x:qa)=>x.Members) fun t27=>sidx t27 t23 34 fun t29=>ld t29 (fun (x:qj)=>x) fun t30=>ld b_2 (fun (x:qa)=>x.Members) fun t32=>sidx t32 t23 34 fun t34=>ld t34 (fun (x:qj)=>x) fun t35=>ifb (!decide (t30 = t35)) (k (false:Bool)) (s1 (iadd t23 (1:Int)))) (j1)
def qbz.j1 (k:Bool→H→Prop):H→Prop:=
 k (true:Bool)
def qbz.b (a:qa) (b:qa) (k:Bool→H→Prop):H→Prop:=
 box 27 (a:qa) fun a_1=>box 27 (b:qa) fun b_1=>ld a_1 (fun (x:qa)=>x.Epoch) fun t7=>ld b_1 (fun (x:qa)=>x.Epoch) fun t9=>ld a_1 (fun (x:qa)=>x.Members) fun t13=>ld b_1 (fun (x:qa)=>x.Members) fun t16=>ifb ((t7 != t9) || ((t13.len:Int) != (t16.len:Int))) (k (false:Bool)) (ld a_1 (fun (x:qa)=>x.Members) fun t21=>qbz.l1 (qbz.j1 k) k a_1 b_1 (t21.len:Int) (0:Int))
def qcn.b (r:Pt) (k:qb→H→Prop):H→Prop:=
 box 65 (qb.zero:qb) fun t2=>ifb r.isNone (st t2 (fun (_:qb)=>qb.zero) <| ld t2 (fun (x:qb)=>x) fun r2=>k (r2:qb)) (nn r fun p=>ld p (fun (x:qg)=>x.state) fun t12=>call (β:=T2 qb Sl) Prog 44 [reg (t12:qb),reg (Sl.nil:Sl)] fun t13=>box 65 (qb.zero:qb) fun s=>st s (fun (_:qb)=>t13.a) <| ld s (fun (x:qb)=>x) fun t16=>st t2 (fun (_:qb)=>t16) <| ld t2 (fun (x:qb)=>x) fun r2_1=>k (r2_1:qb))
def qbh.l1 (j1:Addr→Addr→H→Prop) (t2_1:Addr) (out_1:Addr) (t14_1:Sl) (t15:Int):Int→H→Prop:=Lp fun s1 t16=>
 ifb (decide (t16 < t15)) (fun _=>False) (j1 t2_1 out_1)
def qbh.j1 (k:qb→H→Prop) (t2_2:Addr) (out_2:Addr):H→Prop:=
 ld out_2 (fun (x:qb)=>x) fun t31=>st t2_2 (fun (_:qb)=>t31) <| ld t2_2 (fun (x:qb)=>x) fun r2=>k (r2:qb)
def qbh.b (s:qb) (k:qb→H→Prop):H→Prop:=
 box 65 (s:qb) fun s_1=>box 65 (qb.zero:qb) fun t2=>ld s_1 (fun (x:qb)=>x.Config) fun t7=>call (β:=qb) Prog 92 [reg (t7:qa)] fun t8=>box 65 (qb.zero:qb) fun out=>st out (fun (_:qb)=>t8) <| ld s_1 (fun (x:qb)=>x.Pairs) fun t10=>call (β:=Sl) Prog 98 [reg (t10:Sl)] fun t11=>st out (fun (x:qb)=>{ x with Pairs:=t11 }) <| ld s_1 (fun (x:qb)=>x.Replies) fun t14=>qbh.l1 (qbh.j1 k) t2 out t14 (t14.len:Int) (0:Int)
def qdp.b (s:Sl) (k:Sl→H→Prop):H→Prop:=
 ifb s.a.isNone (k (Sl.nil:Sl)) (mks 117 ([]:List qen) fun t5=>app 117 2 32 (enc (qen.zero:qen)) t5 s fun t7=>k (t7:Sl))
def qai.l2 (j2:Addr→Addr→Addr→Int→Int→Sl→Int→Int→H→Prop) (t2_2:Addr) (hv_2:Addr) (buf_2:Addr) (n_1:Int) (t14_1:Sl) (t15_1:Int) (t16_1:Int):(Int×Sl)→H→Prop:=Lp fun s2 (at__1,p)=>
 ifb (decide ((0:Int) < (p.len:Int))) (must (0≤at__1∧at__1≤(64:Int)) <| cpy 1 ((⟨some buf_2,64,64⟩:Sl).cut 1 at__1.toNat 64 64) p fun t30=>must (0≤t30∧t30≤(p.len:Int)) <| ifb ((iadd at__1 t30) == (64:Int)) (call (β:=Unit) Prog 114 [reg ((some hv_2):Pt),reg (((⟨some buf_2,64,64⟩:Sl).cut 1 0 64 64):Sl)] fun t40=>s2 ((0:Int),(p.cut 1 t30.toNat p.len p.cap))) (s2 ((iadd at__1 t30),(p.cut 1 t30.toNat p.len p.cap)))) (j2 t2_2 hv_2 buf_2 n_1 at__1 t14_1 t15_1 t16_1)
def qai.j2 (s1:(Int×Int×Int)→H→Prop) (t2_3:Addr) (hv_3:Addr) (buf_3:Addr) (n_2:Int) (at__2:Int) (t14_2:Sl) (t15_2:Int) (t16_2:Int):H→Prop:=
 s1 (n_2,at__2,(iadd t16_2 (1:Int)))
def qai.l1 (j1:Addr→Addr→Addr→Int→Int→H→Prop) (t2_1:Addr) (hv_1:Addr) (buf_1:Addr) (t14:Sl) (t15:Int):(Int×Int×Int)→H→Prop:=Lp fun s1 (n,at_,t16)=>
 ifb (decide (t16 < t15)) (sidx t14 t16 1 fun t18=>ld t18 (fun (x:Sl)=>x) fun t19=>qai.l2 (qai.j2 s1) t2_1 hv_1 buf_1 (iadd n (t19.len:Int)) t14 t15 t16 (at_,t19)) (j1 t2_1 hv_1 buf_1 n at_)
def qai.l3 (j4:Addr→Addr→Addr→H→Prop) (t2_6:Addr) (hv_6:Addr) (buf_6:Addr) (n_5:Int):Int→H→Prop:=Lp fun s3 t52=>
 ifb (decide (t52 < (8:Int))) (must (0≤(isub (56:Int) (imul (8:Int) t52))) <| bnd (iadd (56:Int) t52) 64 fun i65=>st buf_6 (fun (x:Arr 64 UInt8)=>upd x i65 (toU8 ((shr64 (shl64 (toU64 n_5) 3) (isub (56:Int) (imul (8:Int) t52)).toNat).toNat:Int))) <| s3 (iadd t52 (1:Int))) (j4 t2_6 hv_6 buf_6)
def qai.l4 (j5:Addr→Addr→H→Prop) (t2_8:Addr) (hv_8:Addr) (out_1:Addr):Int→H→Prop:=Lp fun s4 t69=>
 ifb (decide (t69 < (32:Int))) (bnd (iquo t69 (4:Int)) 8 fun i75=>ld hv_8 (fun (x:Arr 8 UInt32)=>x i75) fun t76=>must (0≤(isub (24:Int) (imul (8:Int) (irem t69 (4:Int))))) <| bnd t69 32 fun i83=>st out_1 (fun (x:Arr 32 UInt8)=>upd x i83 (toU8 ((shr32 t76 (isub (24:Int) (imul (8:Int) (irem t69 (4:Int)))).toNat).toNat:Int))) <| s4 (iadd t69 (1:Int))) (j5 t2_8 out_1)
def qai.j5 (k:(Arr 32 UInt8)→H→Prop) (t2_9:Addr) (out_2:Addr):H→Prop:=
 ld out_2 (fun (x:Arr 32 UInt8)=>x) fun t85=>st t2_9 (fun (_:Arr 32 UInt8)=>t85) <| ld t2_9 (fun (x:Arr 32 UInt8)=>x) fun r2=>k (r2:Arr 32 UInt8)
def qai.j4 (k:(Arr 32 UInt8)→H→Prop) (t2_7:Addr) (hv_7:Addr) (buf_7:Addr):H→Prop:=
 call (β:=Unit) Prog 114 [reg ((some hv_7):Pt),reg (((⟨some buf_7,64,64⟩:Sl).cut 1 0 64 64):Sl)] fun t68=>box 31 ((fun _=>0):Arr 32 UInt8) fun out=>qai.l4 (qai.j5 k) t2_7 hv_7 out (0:Int)
def qai.j3 (k:(Arr 32 UInt8)→H→Prop) (t2_5:Addr) (hv_5:Addr) (buf_5:Addr) (n_4:Int):H→Prop:=
 qai.l3 (qai.j4 k) t2_5 hv_5 buf_5 n_4 (0:Int)
def qai.j1 (k:(Arr 32 UInt8)→H→Prop) (t2_4:Addr) (hv_4:Addr) (buf_4:Addr) (n_3:Int) (at__3:Int):H→Prop:=
 bnd at__3 64 fun i43=>st buf_4 (fun (x:Arr 64 UInt8)=>upd x i43 (128:UInt8)) <| must (0≤(iadd at__3 (1:Int))∧(iadd at__3 (1:Int))≤(64:Int)) <| clr (enc (0:UInt8)) ((⟨some buf_4,64,64⟩:Sl).cut 1 (iadd at__3 (1:Int)).toNat 64 64) <| ifb (decide ((56:Int)≤at__3)) (call (β:=Unit) Prog 114 [reg ((some hv_4):Pt),reg (((⟨some buf_4,64,64⟩:Sl).cut 1 0 64 64):Sl)] fun t50=>clr (enc (0:UInt8)) ((⟨some buf_4,64,64⟩:Sl).cut 1 0 64 64) <| (qai.j3 k) t2_4 hv_4 buf_4 n_3) ((qai.j3 k) t2_4 hv_4 buf_4 n_3)
def qai.b (pieces:Sl) (k:(Arr 32 UInt8)→H→Prop):H→Prop:=
 box 31 ((fun _=>0):Arr 32 UInt8) fun t2=>box 251 ((fun _=>0):Arr 8 UInt32) fun hv=>st hv (fun (_:Arr 8 UInt32)=>(arrOf [(1779033703:UInt32),(3144134277:UInt32),(1013904242:UInt32),(2773480762:UInt32),(1359893119:UInt32),(2600822924:UInt32),(528734635:UInt32),(1541459225:UInt32)]:Arr 8 UInt32)) <| box 252 ((fun _=>0):Arr 64 UInt8) fun buf=>qai.l1 (qai.j1 k) t2 hv buf pieces (pieces.len:Int) ((0:Int),(0:Int),(0:Int))
def yb.l1 (j1:Pt→Addr→H→Prop) (hv_1:Pt) (b_1:Sl) (w_1:Addr):Int→H→Prop:=Lp fun s1 t26=>
 ifb (decide (t26 < (16:Int))) (must (0≤(imul (4:Int) t26)∧(imul (4:Int) t26)≤(b_1.len:Int)) <| call (β:=UInt32) Prog 198 [reg ((b_1.cut 1 (imul (4:Int) t26).toNat b_1.len b_1.cap):Sl)] fun t34=>bnd t26 64 fun i35=>st w_1 (fun (x:Arr 64 UInt32)=>upd x i35 t34) <| s1 (iadd t26 (1:Int))) (j1 hv_1 w_1)
def yb.l2 (j2:Pt→Addr→H→Prop) (hv_3:Pt) (w_4:Addr):Int→H→Prop:=Lp fun s2 i=>
 ifb (decide (i < (64:Int))) (bnd (isub i (15:Int)) 64 fun i43=>ld w_4 (fun (x:Arr 64 UInt32)=>x i43) fun t44=>bnd (isub i (2:Int)) 64 fun i47=>ld w_4 (fun (x:Arr 64 UInt32)=>x i47) fun t48=>call (β:=UInt32) Prog 199 [reg (t44:UInt32),reg ((-7:Int):Int)] fun t50=>call (β:=UInt32) Prog 199 [reg (t44:UInt32),reg ((-18:Int):Int)] fun t52=>call (β:=UInt32) Prog 199 [reg (t48:UInt32),reg ((-17:Int):Int)] fun t58=>call (β:=UInt32) Prog 199 [reg (t48:UInt32),reg ((-19:Int):Int)] fun t60=>bnd (isub i (16:Int)) 64 fun i68=>ld w_4 (fun (x:Arr 64 UInt32)=>x i68) fun t69=>bnd (isub i (7:Int)) 64 fun i74=>ld w_4 (fun (x:Arr 64 UInt32)=>x i74) fun t75=>bnd i 64 fun i79=>st w_4 (fun (x:Arr 64 UInt32)=>upd x i79 (((t69 + ((t50 ^^^ t52) ^^^ (shr32 t44 3))) + t75) + ((t58 ^^^ t60) ^^^ (shr32 t48 10)))) <| s2 (iadd i (1:Int))) (j2 hv_3 w_4)
def yb.l3 (j3:Pt→UInt32→UInt32→UInt32→UInt32→UInt32→UInt32→UInt32→UInt32→H→Prop) (hv_5:Pt) (t112_1:Arr 64 UInt32):(UInt32×UInt32×UInt32×UInt32×UInt32×UInt32×UInt32×UInt32×Int)→H→Prop:=Lp fun s3 (a,c,d,e,f,g,kv,l,t113)=>
 ifb (decide (t113 < (64:Int))) (bnd t113 64 fun i116=>call (β:=UInt32) Prog 199 [reg (f:UInt32),reg ((-6:Int):Int)] fun t118=>call (β:=UInt32) Prog 199 [reg (f:UInt32),reg ((-11:Int):Int)] fun t120=>call (β:=UInt32) Prog 199 [reg (f:UInt32),reg ((-25:Int):Int)] fun t123=>bnd t113 64 fun i138=>ld (⟨0,0,none⟩:Addr) (fun (x:Arr 64 UInt32)=>x i138) fun t139=>call (β:=UInt32) Prog 199 [reg (a:UInt32),reg ((-2:Int):Int)] fun t144=>call (β:=UInt32) Prog 199 [reg (a:UInt32),reg ((-13:Int):Int)] fun t146=>call (β:=UInt32) Prog 199 [reg (a:UInt32),reg ((-22:Int):Int)] fun t149=>s3 ((((((l + ((t118 ^^^ t120) ^^^ t123)) + ((f &&& g) ^^^ ((~~~f) &&& kv))) + t139) + (t112_1 i116)) + (((t144 ^^^ t146) ^^^ t149) + (((a &&& c) ^^^ (a &&& d)) ^^^ (c &&& d)))),a,c,d,(e + ((((l + ((t118 ^^^ t120) ^^^ t123)) + ((f &&& g) ^^^ ((~~~f) &&& kv))) + t139) + (t112_1 i116))),f,g,kv,(iadd t113 (1:Int)))) (j3 hv_5 a c d e f g kv l)
def yb.l4 (k:Unit→H→Prop) (hv_7:Pt) (t185:Arr 8 UInt32):Int→H→Prop:=Lp fun s4 t186=>
 ifb (decide (t186 < (8:Int))) (bnd t186 8 fun i189=>nn hv_7 fun p_1=>bnd t186 8 fun i193=>ld p_1 (fun (x:Arr 8 UInt32)=>x i193) fun t194=>bnd t186 8 fun i198=>st p_1 (fun (x:Arr 8 UInt32)=>upd x i198 (t194 + (t185 i189))) <| s4 (iadd t186 (1:Int))) (k ())
def yb.j3 (k:Unit→H→Prop) (hv_6:Pt) (a_1:UInt32) (c_1:UInt32) (d_1:UInt32) (e_1:UInt32) (f_1:UInt32) (g_1:UInt32) (kv_1:UInt32) (l_1:UInt32):H→Prop:=
 yb.l4 k hv_6 (arrOf [a_1,c_1,d_1,e_1,f_1,g_1,kv_1,l_1]:Arr 8 UInt32) (0:Int)
def yb.j2 (k:Unit→H→Prop) (hv_4:Pt) (w_6:Addr):H→Prop:=
 nn hv_4 fun p=>bnd (0:Int) 8 fun i82=>ld p (fun (x:Arr 8 UInt32)=>x i82) fun t83=>bnd (1:Int) 8 fun i86=>ld p (fun (x:Arr 8 UInt32)=>x i86) fun t87=>bnd (2:Int) 8 fun i90=>ld p (fun (x:Arr 8 UInt32)=>x i90) fun t91=>bnd (3:Int) 8 fun i94=>ld p (fun (x:Arr 8 UInt32)=>x i94) fun t95=>bnd (4:Int) 8 fun i98=>ld p (fun (x:Arr 8 UInt32)=>x i98) fun t99=>bnd (5:Int) 8 fun i102=>ld p (fun (x:Arr 8 UInt32)=>x i102) fun t103=>bnd (6:Int) 8 fun i106=>ld p (fun (x:Arr 8 UInt32)=>x i106) fun t107=>bnd (7:Int) 8 fun i110=>ld p (fun (x:Arr 8 UInt32)=>x i110) fun t111=>ld w_6 (fun (x:Arr 64 UInt32)=>x) fun t112=>yb.l3 (yb.j3 k) hv_4 t112 (t83,t87,t91,t95,t99,t103,t107,t111,(0:Int))
def yb.j1 (k:Unit→H→Prop) (hv_2:Pt) (w_3:Addr):H→Prop:=
 yb.l2 (yb.j2 k) hv_2 w_3 (16:Int)
def yb.b (hv:Pt) (b:Sl) (k:Unit→H→Prop):H→Prop:=
 box 350 ((fun _=>0):Arr 64 UInt32) fun w=>yb.l1 (yb.j1 k) hv b w (0:Int)
def sha_word.b (b:Sl) (k:UInt32→H→Prop):H→Prop:=
 sidx b (0:Int) 1 fun t4=>ld t4 (fun (x:UInt8)=>x) fun t5=>sidx b (1:Int) 1 fun t9=>ld t9 (fun (x:UInt8)=>x) fun t10=>sidx b (2:Int) 1 fun t15=>ld t15 (fun (x:UInt8)=>x) fun t16=>sidx b (3:Int) 1 fun t21=>ld t21 (fun (x:UInt8)=>x) fun t22=>k (((((shl32 (toU32 (t5.toNat:Int)) 24) ||| (shl32 (toU32 (t10.toNat:Int)) 16)) ||| (shl32 (toU32 (t16.toNat:Int)) 8)) ||| (toU32 (t22.toNat:Int))):UInt32)
def qab.b (x:UInt32) (kv:Int) (k:UInt32→H→Prop):H→Prop:=
 k (((shl32 x ((toU64 kv) &&& (31:UInt64)).toNat) ||| (shr32 x ((32:UInt64) - ((toU64 kv) &&& (31:UInt64))).toNat)):UInt32)
def qcv.j1 (k:Bool→H→Prop) (t6:Bool):H→Prop:=
 k (t6:Bool)
def qcv.b (x:Fl) (lo:Int) (hi:Int) (k:Bool→H→Prop):H→Prop:=
 ifb ((fge x (fnear lo)) && (fle x (fnear hi))) (getS (fcut x) fun t20=>(qcv.j1 k) (feq x (fnear t20))) ((qcv.j1 k) false)
def qdf.j1 (k:Bool→H→Prop) (t2:Bool):H→Prop:=
 k (t2:Bool)
def qdf.b (r:Cx) (k:Bool→H→Prop):H→Prop:=
 call (β:=Bool) Prog 231 [reg ((⟨r.re⟩:Fl):Fl),reg ((1:Int):Int),reg ((1024:Int):Int)] fun t5=>ifb t5 (call (β:=Bool) Prog 231 [reg ((⟨r.im⟩:Fl):Fl),reg ((0:Int):Int),reg ((1024:Int):Int)] fun t9=>(qdf.j1 k) t9) ((qdf.j1 k) false)
def rank_At.b (height:Int) (round:Int) (k:Cx→H→Prop):H→Prop:=
 k ((⟨(fnear height).b,(fnear round).b⟩:Cx):Cx)
def qfe.b (r:Cx) (k:Int→H→Prop):H→Prop:=
 call (β:=Bool) Prog 138 [reg (r:Cx)] fun t4=>ifb (!t4) (k ((0:Int):Int)) (getS (fcut (⟨r.re⟩:Fl)) fun t8=>k (t8:Int))
def qfl.b (r:Cx) (k:Int→H→Prop):H→Prop:=
 call (β:=Bool) Prog 138 [reg (r:Cx)] fun t4=>ifb (!t4) (k ((0:Int):Int)) (getS (fcut (⟨r.im⟩:Fl)) fun t8=>k (t8:Int))
def qcd.j1 (k:Int→H→Prop) (n_1:Int) (r_1:Cx) (t12:Bool):H→Prop:=
 ifb t12 (k ((0:Int):Int)) (getS (fadd (⟨r_1.re⟩:Fl) (⟨r_1.im⟩:Fl)) fun t17=>getS (fcut t17) fun t19=>must (n_1 ≠ 0) <| k ((irem t19 n_1):Int))
def qcd.b (n:Int) (r:Cx) (k:Int→H→Prop):H→Prop:=
 ifb (decide (n < (1:Int))) ((qcd.j1 k) n r true) (call (β:=Bool) Prog 138 [reg (r:Cx)] fun t10=>(qcd.j1 k) n r (!t10))
def qaj.l2 (j1:Pt→Sl→Int→Int→H→Prop) (w_2:Pt) (n:Int) (t9_1:Sl) (t10_1:Int) (t11_1:Int):Int→H→Prop:=Lp fun s2 i=>
 ifb (decide ((0:Int)≤i)) (nn w_2 fun p=>ld p (fun (x:yx)=>x.b) fun t23=>must (0≤i) <| mks 5 [((toU8 ((shr64 (toU64 n) i.toNat).toNat:Int)):UInt8)] fun t29=>chk p (fun (x:yx)=>x.b) t23 <| app 5 1 1 (enc (0:UInt8)) t23 t29 fun t30=>st p (fun (x:yx)=>{ x with b:=t30 }) <| s2 (isub i (8:Int))) (j1 w_2 t9_1 t10_1 t11_1)
def qaj.j1 (s1:Int→H→Prop) (w_4:Pt) (t9_2:Sl) (t10_2:Int) (t11_2:Int):H→Prop:=
 s1 (iadd t11_2 (1:Int))
def qaj.l1 (k:Unit→H→Prop) (w_1:Pt) (t9:Sl) (t10:Int):Int→H→Prop:=Lp fun s1 t11=>
 ifb (decide (t11 < t10)) (sidx t9 t11 1 fun t13=>ld t13 (fun (x:Int)=>x) fun t14=>qaj.l2 (qaj.j1 s1) w_1 t14 t9 t10 t11 (56:Int)) (k ())
def qaj.b (w:Pt) (list:Sl) (k:Unit→H→Prop):H→Prop:=
 ifb w.isNone (k ()) (qaj.l1 k w list (list.len:Int) (0:Int))
def qa5.l1 (k:Unit→H→Prop) (w_1:Pt) (t8:Sl) (t9:Int):Int→H→Prop:=Lp fun s1 t10=>
 ifb (decide (t10 < t9)) (sidx t8 t10 32 fun t12=>ld t12 (fun (x:Arr 32 UInt8)=>x) fun t13=>box 31 ((fun _=>0):Arr 32 UInt8) fun d=>st d (fun (_:Arr 32 UInt8)=>t13) <| nn w_1 fun p=>ld p (fun (x:yx)=>x.b) fun t18=>app 5 1 1 (enc (0:UInt8)) t18 ((⟨some d,32,32⟩:Sl).cut 1 0 32 32) fun t20=>st p (fun (x:yx)=>{ x with b:=t20 }) <| s1 (iadd t10 (1:Int))) (k ())
def qa5.b (w:Pt) (list:Sl) (k:Unit→H→Prop):H→Prop:=
 ifb w.isNone (k ()) (qa5.l1 k w list (list.len:Int) (0:Int))
def qc0.b (w:Pt) (k:Sl→H→Prop):H→Prop:=
 ifb w.isNone (k (Sl.nil:Sl)) (nn w fun p=>ld p (fun (x:yx)=>x.b) fun t8=>must (0≤(0:Int)∧(0:Int)≤(0:Int)∧(0:Int)≤(t8.cap:Int)) <| ld p (fun (x:yx)=>x.b) fun t13=>app 5 1 1 (enc (0:UInt8)) (t8.cut 1 0 (0:Int).toNat (0:Int).toNat) t13 fun t14=>k (t14:Sl))
end Go.Proofs.YtmpmildpioebhaaGreatDoor

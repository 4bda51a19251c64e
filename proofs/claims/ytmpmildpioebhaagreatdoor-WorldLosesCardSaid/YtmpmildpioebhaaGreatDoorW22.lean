/-
  The statement WorldLoses (law 23): where all letters are lost nobody decides anything. Part 22 of 30. No condition stands ahead of the statement. Parts of this text were printed by a program of ours.
-/
import Derived.Test.YtmpmildpioebhaaGreatDoorW17
set_option linter.all false
set_option maxRecDepth 100000
set_option maxHeartbeats 4000000
noncomputable section
namespace Go.Proofs.YtmpmildpioebhaaGreatDoor
open Go Go.Sh
open Go.Sh.Ty (reg)
theorem b2s_i {h:H} {s:Sl} {l:List UInt8} {k:ByteArray→H→Prop} (hv:SV 1 h s l) (hk:k ⟨l.toArray⟩ h):b2s s k h:=by
 refine ⟨l,?_,hv.2.1,hk⟩
 have e:∀ l:List UInt8,(l.map enc).flatten = l.map fun b=>Value.int .u8 (b.toNat:Int):=by
  intro l
  induction l with
  | nil=>rfl
  | cons a l ih=>
   show enc a ++ (l.map enc).flatten = _
   rw [ih]; rfl
 rw [← e]; exact hv.1
section
variable {h0 h:H} {S:List Nat} {L:List En}
theorem _root_.Go.Sh.Sat.rtext_ {p : Addr} {B : List Nat} {o : Option (List UInt8)} {m : Int} {k : ByteArray → H → Prop} (i : Nat) (hs : Sat h0 S h L) (hi : L[i]? = some (rdw p B o))
    (hk : ∀ v o' h', Sat h0 S h' (L.set i (rdw p B o')) → k v h') : call (β := ByteArray) Prog 239 [reg ((some p : Pt) : Pt), reg (m : Int)] k h := by
  refine code_Reader_Text.ok _ _ _ _ ?_
  unfold code_Reader_Text.b
  refine hs.take_ i hi (fun r rs o' h1 hs1 hv hb hl hv2 => ?_)
  have hlt : i < L.length := by rw [List.getElem?_eq_some_iff] at hi; exact hi.1
  have hg : (L.set i (rdw p B o'))[i]? = some (rdw p B o') := List.getElem?_set_self hlt
  have hlen := hv.2.1
  have fin : ∀ n : Int, code_Reader_Text.j2 k (some p) n h1 := by
    intro n
    unfold code_Reader_Text.j2
    refine hs1.take_ i hg (fun r2 rs2 o2 h2 hs2 hv3 _ _ _ => ?_)
    rw [List.set_set] at hs2
    exact b2s_i hv3 (hk _ o2 h2 hs2)
  unfold code_Reader_Text.l1
  refine ⟨fun (s : Int × Int) h' => h' = h1 ∧ ∃ j : Nat, s.2 = j ∧ j ≤ rs.length, fun s _ => (rs.length - s.2).toNat, ⟨rfl, 0, rfl, Nat.zero_le _⟩, ?_⟩
  rintro ⟨n, t⟩ h2 ⟨rfl, j, e1, hj⟩
  have e1 : t = j := e1
  subst e1
  refine ifb_i (fun hc => ?_) (fun hc => ?_)
  · have hj' : j < rs.length := by have : (j : Int) < r.len := by simpa using hc
                                   omega
    have hgi : rs[j]? = some rs[j] := List.getElem?_eq_getElem hj'
    refine sidx_ld len_u8 hv (Int.natCast_nonneg _) (by rw [Int.toNat_natCast]; exact hgi) ?_
    have hl40 : rs.length ≤ 4 := by
      rcases hl with hl | hl
      · rw [hl]; simp
      · omega
    have e : iadd (j : Int) 1 = ((j + 1 : Nat) : Int) := by rw [iadd_eq (by omega) (by omega)]; omega
    rw [e]
    exact ⟨⟨rfl, j + 1, rfl, hj'⟩, by dsimp only; omega⟩
  · unfold code_Reader_Text.j1
    exact ifb_i (fun _ => fin _) (fun _ => fin _)
theorem _root_.Go.Sh.Sat.rgood_ {p:Addr} {B:List Nat} {o:Option (List UInt8)} {k:Bool→H→Prop} (i:Nat) (hs:Sat h0 S h L) (hi:L[i]? = some (rdw p B o)) (hk:∀ v,k v h):call (β:=Bool) Prog 171 [reg ((some p:Pt):Pt)] k h:=by
 refine code_Reader_Good.ok _ _ _ ?_
 unfold code_Reader_Good.b
 obtain ⟨hB,sl,bad,bs,hc',hv',hb,ho⟩:=(hs.at_ hi:RdW p B o h)
 refine ifb_i (fun _=>?_) (fun _=>hk _)
 exact nn_i (ld_old (Cel.at_ hc') (hk _))
theorem _root_.Go.Sh.Sat.rend_ {p:Addr} {B:List Nat} {o:Option (List UInt8)} {k:Bool→H→Prop} (i:Nat) (hs:Sat h0 S h L) (hi:L[i]? = some (rdw p B o)) (hk:∀ v,k v h):call (β:=Bool) Prog 174 [reg ((some p:Pt):Pt)] k h:=by
 refine code_Reader_End.ok _ _ _ ?_
 unfold code_Reader_End.b
 refine hs.rgood_ i hi (fun v=>?_)
 obtain ⟨hB,sl,bad,bs,hc',hv',hb,ho⟩:=(hs.at_ hi:RdW p B o h)
 refine ifb_i (fun _=>?_) (fun _=>hk _)
 exact nn_i (ld_old (Cel.at_ hc') (hk _))
theorem _root_.Go.Sh.Sat.rdig_ {p:Addr} {B:List Nat} {o:Option (List UInt8)} {k:Arr 32 UInt8→H→Prop} (i:Nat) (hs:Sat h0 S h L) (hi:L[i]? = some (rdw p B o))
  (hk:∀ v o' h',Sat h0 S h' (L.set i (rdw p B o'))→k v h'):call (β:=Arr 32 UInt8) Prog 238 [reg ((some p:Pt):Pt)] k h:=by
 refine code_Reader_Digest.ok _ _ _ ?_
 unfold code_Reader_Digest.b
 refine hs.box_ (fun t2 h1 hs1 _ _=>?_)
 refine hs1.box_ (fun d h2 hs2 _ _=>?_)
 refine hs2.take_ (i + 2) (by simpa using hi) (fun r rs o' h3 hs3 hv hb hl hv2=>?_)
 simp only [List.set_cons_succ] at hs3
 have e0:(fun _=>0:Arr 32 UInt8) = arrOf (List.replicate 32 0):=by
  funext i
  show (0:UInt8) = (List.replicate 32 (0:UInt8)).getD i.val default
  rw [List.getD_eq_getElem?_getD,List.getElem?_replicate,if_pos i.isLt]; rfl
 refine hs3.cpy_ (T:=31) (n:=32) (l:=List.replicate 32 0) 0 (by rw [← e0]; rfl) (by simp) 0 (by decide) hv (fun h4 hs4=>?_)
 refine hs4.ld_ 0 rfl ?_
 refine hs4.st_ 1 rfl arr_len (fun h5 hs5 _=>?_)
 refine hs5.ld_ 1 rfl ?_
 exact hk _ o' h5 (hs5.drop ((List.sublist_cons_self _ _).trans (List.sublist_cons_self _ _)))
theorem _root_.Go.Sh.Sat.rupd2 {p:Addr} {B:List Nat} {o o':Option (List UInt8)} {h':H} (i:Nat) (hs:Sat h0 S h L) (hi:L[i]? = some (rdw p B o)) (hf:Fr (p.block :: B) h h') (hw:RdW p B o' h'):Sat h0 S h' (L.set i (rdw p B o')):=by
 have hb:=(hs.ok _ (List.mem_of_getElem? hi)).2.2
 exact hs.upd hi hf hw (rdw_loc _ _ _) (fun b hb'=>⟨Nat.lt_of_lt_of_le (hb b hb').1 hf.size,.inl hb'⟩)
theorem _root_.Go.Sh.Sat.rinit {p:Addr} {B:List Nat} {o:Option (List UInt8)} (i:Nat) (hs:Sat h0 S h L) (hi:L[i]? = some (rdw p B o)):Sat h (p.block :: B) h [rdw p B o]:=
 Sat.init1 (e:=rdw p B o) (hs.at_ hi) (rdw_loc _ _ _) (fun b hb=>((hs.ok _ (List.mem_of_getElem? hi)).2.2 b hb).1)
end
set_option maxHeartbeats 4000000 in
theorem Read_spec {p:Addr} {B:List Nat} {o:Option (List UInt8)} {h:H} {k:api_Request→H→Prop} (hs:Sat h (p.block :: B) h [rdw p B o])
  (hk:∀ v o' h',Fr (p.block :: B) h h'→RdW p B o' h'→k v h'):request_Read.b (some p) k h:=by
 unfold request_Read.b
 refine hs.box_ (fun t2 h1 hs1 _ _=>?_)
 refine hs1.in_ 1 rfl (fun v1 o1 h2 hs2 _=>?_)
 refine hs2.in_ 1 rfl (fun v2 o2 h3 hs3 _=>?_)
 refine hs3.box_ (fun q h4 hs4 _ _=>?_)
 refine hs4.st_ 0 rfl len_api_Request (fun h5 hs5 _=>?_)
 refine hs5.in_ 2 rfl (fun v3 o3 h6 hs6 _=>?_)
 refine hs6.st_ 0 rfl len_api_Request (fun h7 hs7 _=>?_)
 refine hs7.rtext_ 2 rfl (fun v4 o4 h8 hs8=>?_)
 refine hs8.rtext_ 2 rfl (fun v5 o5 h9 hs9=>?_)
 refine hs9.rtext_ 2 rfl (fun v6 o6 h10 hs10=>?_)
 refine hs10.st_ 0 rfl len_api_Request (fun h11 hs11 _=>?_)
 refine hs11.st_ 0 rfl len_api_Request (fun h12 hs12 _=>?_)
 refine hs12.st_ 0 rfl len_api_Request (fun h13 hs13 _=>?_)
 refine hs13.rnum_ 2 rfl (fun v7 o7 h14 hs14 _=>?_)
 refine hs14.rnum_ 2 rfl (fun v8 o8 h15 hs15 _=>?_)
 refine hs15.rnum_ 2 rfl (fun v9 o9 h16 hs16 _=>?_)
 refine hs16.rnum_ 2 rfl (fun v10 o10 h17 hs17 _=>?_)
 refine hs17.st_ 0 rfl len_api_Request (fun h18 hs18 _=>?_)
 refine hs18.rdig_ 2 rfl (fun v11 o11 h19 hs19=>?_)
 refine hs19.st_ 0 rfl len_api_Request (fun h20 hs20 _=>?_)
 refine hs20.rgood_ 2 rfl (fun v12=>?_)
 refine ifb_i (fun _=>?_) (fun _=>?_)
 ·refine hs20.st_ 1 rfl len_api_Request (fun h21 hs21 _=>?_)
  refine hs21.ld_ 1 rfl ?_
  exact hk _ o11 h21 hs21.fr (hs21.at_ (i:=2) rfl)
 ·refine hs20.ld_ 0 rfl ?_
  refine hs20.st_ 1 rfl len_api_Request (fun h21 hs21 _=>?_)
  refine hs21.ld_ 1 rfl ?_
  exact hk _ o11 h21 hs21.fr (hs21.at_ (i:=2) rfl)
section
variable {h0 h:H} {S:List Nat} {L:List En}
theorem _root_.Go.Sh.Sat.rreq_ {p:Addr} {B:List Nat} {o:Option (List UInt8)} {k:api_Request→H→Prop} (i:Nat) (hs:Sat h0 S h L) (hi:L[i]? = some (rdw p B o))
  (hk:∀ v o' h',Sat h0 S h' (L.set i (rdw p B o'))→k v h'):call (β:=api_Request) Prog 167 [reg ((some p:Pt):Pt)] k h:=
 request_Read.ok _ _ _ (Read_spec (hs.rinit i hi) fun v o' h' hf hw=>hk v o' h' (hs.rupd2 i hi hf hw))
theorem _root_.Go.Sh.Sat.rcomb {p:Addr} {r:Sl} {l:List UInt8} (hs:Sat h0 S h (cel 408 p (enc (⟨r,false⟩:code_Reader)) :: own 5 1 r l :: L)):Sat h0 S h (rdw p (blk r) (some l) :: L):=by
 have h1:=hs.ok _ (List.mem_cons_self ..)
 have h2:=hs.ok (own 5 1 r l) (by simp)
 have hd:=hs.dis
 rw [List.pairwise_cons] at hd
 obtain ⟨d1,d2⟩:=hd
 rw [List.pairwise_cons] at d2
 obtain ⟨d2,d3⟩:=d2
 have hpB:p.block ∉ blk r:=d1 (own 5 1 r l) (by simp) p.block (by simp [cel])
 refine ⟨hs.fr,?_,?_⟩
 ·intro e he
  rcases List.mem_cons.1 he with rfl | he
  ·refine ⟨⟨hpB,r,false,l,h1.1,OwnA.sv len_u8 h2.1,fun b hb=>hb,fun l' e=>by cases e; exact ⟨rfl,rfl⟩⟩,rdw_loc _ _ _,fun b hb=>?_⟩
   rcases List.mem_cons.1 hb with rfl | hb
   ·exact h1.2.2 _ (by simp [cel])
   ·exact h2.2.2 b hb
  ·exact hs.ok e (by simp [he])
 ·rw [List.pairwise_cons]
  refine ⟨fun e he x hx=>?_,d3⟩
  rcases List.mem_cons.1 hx with rfl | hx
  ·exact d1 e (by simp [he]) _ (by simp [cel])
  ·exact d2 e he x hx
theorem _root_.Go.Sh.Sat.newR {s:Sl} {l:List UInt8} {k:Pt→H→Prop} (hs:Sat h0 S h L) (hv:SV 1 h s l) (hbig:l.length < 2 ^ 40)
  (hk:∀ p B h',Sat h0 S h' (rdw p B (some l) :: L)→k (some p) h'):call (β:=Pt) Prog 163 [reg (s:Sl)] k h:=by
 refine code_Read.ok _ _ _ ?_
 unfold code_Read.b
 refine hs.mks_ (n:=1) (fun t h1 hs1 _ hx1=>?_)
 refine hs1.app_ 0 rfl (hv.ext hx1) len_u8 one_u8 rfl ?_ ?_ (fun r h2 hs2 _=>?_)
 ·simp only [List.length_nil,maxBytes]; omega
 ·simp only [List.length_nil]; omega
 refine hs2.box_ (fun p h3 hs3 _ _=>?_)
 exact hk p (blk r) h3 (Sat.rcomb hs3)
end
end Go.Proofs.YtmpmildpioebhaaGreatDoor

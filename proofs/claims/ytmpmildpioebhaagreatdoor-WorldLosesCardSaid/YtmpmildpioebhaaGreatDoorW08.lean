/-
  The statement WorldLoses (law 23): where all letters are lost nobody decides anything. Part 8 of 30. No condition stands ahead of the statement. Parts of this text were printed by a program of ours.
-/
import Derived.Test.YtmpmildpioebhaaGreatDoorW07
set_option linter.all false
set_option maxRecDepth 100000
set_option maxHeartbeats 4000000
noncomputable section
namespace Go.Proofs.YtmpmildpioebhaaGreatDoor
open Go Go.Sh
open Go.Sh.Ty (reg)
def sha_Of.l2 (j2:Addr→Addr→Addr→Int→Int→Sl→Int→Int→H→Prop) (t2_2:Addr) (hv_2:Addr) (buf_2:Addr) (n_1:Int) (t14_1:Sl) (t15_1:Int) (t16_1:Int):(Int×Sl)→H→Prop:=Lp fun s2 (at__1,p)=>
 ifb (decide ((0:Int) < (p.len:Int))) (must (0≤at__1∧at__1≤(64:Int)) <| cpy 1 ((⟨some buf_2,64,64⟩:Sl).cut 1 at__1.toNat 64 64) p fun t30=>must (0≤t30∧t30≤(p.len:Int)) <| ifb ((iadd at__1 t30) == (64:Int)) (call (β:=Unit) Prog 114 [reg ((some hv_2):Pt),reg (((⟨some buf_2,64,64⟩:Sl).cut 1 0 64 64):Sl)] fun t40=>s2 ((0:Int),(p.cut 1 t30.toNat p.len p.cap))) (s2 ((iadd at__1 t30),(p.cut 1 t30.toNat p.len p.cap)))) (j2 t2_2 hv_2 buf_2 n_1 at__1 t14_1 t15_1 t16_1)
def sha_Of.j2 (s1:(Int×Int×Int)→H→Prop) (t2_3:Addr) (hv_3:Addr) (buf_3:Addr) (n_2:Int) (at__2:Int) (t14_2:Sl) (t15_2:Int) (t16_2:Int):H→Prop:=
 s1 (n_2,at__2,(iadd t16_2 (1:Int)))
def sha_Of.l1 (j1:Addr→Addr→Addr→Int→Int→H→Prop) (t2_1:Addr) (hv_1:Addr) (buf_1:Addr) (t14:Sl) (t15:Int):(Int×Int×Int)→H→Prop:=Lp fun s1 (n,at_,t16)=>
 ifb (decide (t16 < t15)) (sidx t14 t16 1 fun t18=>ld t18 (fun (x:Sl)=>x) fun t19=>sha_Of.l2 (sha_Of.j2 s1) t2_1 hv_1 buf_1 (iadd n (t19.len:Int)) t14 t15 t16 (at_,t19)) (j1 t2_1 hv_1 buf_1 n at_)
def sha_Of.l3 (j4:Addr→Addr→Addr→H→Prop) (t2_6:Addr) (hv_6:Addr) (buf_6:Addr) (n_5:Int):Int→H→Prop:=Lp fun s3 t52=>
 ifb (decide (t52 < (8:Int))) (must (0≤(isub (56:Int) (imul (8:Int) t52))) <| bnd (iadd (56:Int) t52) 64 fun i65=>st buf_6 (fun (x:Arr 64 UInt8)=>upd x i65 (toU8 ((shr64 (shl64 (toU64 n_5) 3) (isub (56:Int) (imul (8:Int) t52)).toNat).toNat:Int))) <| s3 (iadd t52 (1:Int))) (j4 t2_6 hv_6 buf_6)
def sha_Of.l4 (j5:Addr→Addr→H→Prop) (t2_8:Addr) (hv_8:Addr) (out_1:Addr):Int→H→Prop:=Lp fun s4 t69=>
 ifb (decide (t69 < (32:Int))) (bnd (iquo t69 (4:Int)) 8 fun i75=>ld hv_8 (fun (x:Arr 8 UInt32)=>x i75) fun t76=>must (0≤(isub (24:Int) (imul (8:Int) (irem t69 (4:Int))))) <| bnd t69 32 fun i83=>st out_1 (fun (x:Arr 32 UInt8)=>upd x i83 (toU8 ((shr32 t76 (isub (24:Int) (imul (8:Int) (irem t69 (4:Int)))).toNat).toNat:Int))) <| s4 (iadd t69 (1:Int))) (j5 t2_8 out_1)
def sha_Of.j5 (k:(Arr 32 UInt8)→H→Prop) (t2_9:Addr) (out_2:Addr):H→Prop:=
 ld out_2 (fun (x:Arr 32 UInt8)=>x) fun t85=>st t2_9 (fun (_:Arr 32 UInt8)=>t85) <| ld t2_9 (fun (x:Arr 32 UInt8)=>x) fun r2=>k (r2:Arr 32 UInt8)
def sha_Of.j4 (k:(Arr 32 UInt8)→H→Prop) (t2_7:Addr) (hv_7:Addr) (buf_7:Addr):H→Prop:=
 call (β:=Unit) Prog 114 [reg ((some hv_7):Pt),reg (((⟨some buf_7,64,64⟩:Sl).cut 1 0 64 64):Sl)] fun t68=>box 31 ((fun _=>0):Arr 32 UInt8) fun out=>sha_Of.l4 (sha_Of.j5 k) t2_7 hv_7 out (0:Int)
def sha_Of.j3 (k:(Arr 32 UInt8)→H→Prop) (t2_5:Addr) (hv_5:Addr) (buf_5:Addr) (n_4:Int):H→Prop:=
 sha_Of.l3 (sha_Of.j4 k) t2_5 hv_5 buf_5 n_4 (0:Int)
def sha_Of.j1 (k:(Arr 32 UInt8)→H→Prop) (t2_4:Addr) (hv_4:Addr) (buf_4:Addr) (n_3:Int) (at__3:Int):H→Prop:=
 bnd at__3 64 fun i43=>st buf_4 (fun (x:Arr 64 UInt8)=>upd x i43 (128:UInt8)) <| must (0≤(iadd at__3 (1:Int))∧(iadd at__3 (1:Int))≤(64:Int)) <| clr (enc (0:UInt8)) ((⟨some buf_4,64,64⟩:Sl).cut 1 (iadd at__3 (1:Int)).toNat 64 64) <| ifb (decide ((56:Int)≤at__3)) (call (β:=Unit) Prog 114 [reg ((some hv_4):Pt),reg (((⟨some buf_4,64,64⟩:Sl).cut 1 0 64 64):Sl)] fun t50=>clr (enc (0:UInt8)) ((⟨some buf_4,64,64⟩:Sl).cut 1 0 64 64) <| (sha_Of.j3 k) t2_4 hv_4 buf_4 n_3) ((sha_Of.j3 k) t2_4 hv_4 buf_4 n_3)
def sha_Of.b (pieces:Sl) (k:(Arr 32 UInt8)→H→Prop):H→Prop:=
 box 31 ((fun _=>0):Arr 32 UInt8) fun t2=>box 251 ((fun _=>0):Arr 8 UInt32) fun hv=>st hv (fun (_:Arr 8 UInt32)=>(arrOf [(1779033703:UInt32),(3144134277:UInt32),(1013904242:UInt32),(2773480762:UInt32),(1359893119:UInt32),(2600822924:UInt32),(528734635:UInt32),(1541459225:UInt32)]:Arr 8 UInt32)) <| box 252 ((fun _=>0):Arr 64 UInt8) fun buf=>sha_Of.l1 (sha_Of.j1 k) t2 hv buf pieces (pieces.len:Int) ((0:Int),(0:Int),(0:Int))
def sha_state_block.l1 (j1:Pt→Addr→H→Prop) (hv_1:Pt) (b_1:Sl) (w_1:Addr):Int→H→Prop:=Lp fun s1 t26=>
 ifb (decide (t26 < (16:Int))) (must (0≤(imul (4:Int) t26)∧(imul (4:Int) t26)≤(b_1.len:Int)) <| call (β:=UInt32) Prog 198 [reg ((b_1.cut 1 (imul (4:Int) t26).toNat b_1.len b_1.cap):Sl)] fun t34=>bnd t26 64 fun i35=>st w_1 (fun (x:Arr 64 UInt32)=>upd x i35 t34) <| s1 (iadd t26 (1:Int))) (j1 hv_1 w_1)
def sha_state_block.l2 (j2:Pt→Addr→H→Prop) (hv_3:Pt) (w_4:Addr):Int→H→Prop:=Lp fun s2 i=>
 ifb (decide (i < (64:Int))) (bnd (isub i (15:Int)) 64 fun i43=>ld w_4 (fun (x:Arr 64 UInt32)=>x i43) fun t44=>bnd (isub i (2:Int)) 64 fun i47=>ld w_4 (fun (x:Arr 64 UInt32)=>x i47) fun t48=>call (β:=UInt32) Prog 199 [reg (t44:UInt32),reg ((-7:Int):Int)] fun t50=>call (β:=UInt32) Prog 199 [reg (t44:UInt32),reg ((-18:Int):Int)] fun t52=>call (β:=UInt32) Prog 199 [reg (t48:UInt32),reg ((-17:Int):Int)] fun t58=>call (β:=UInt32) Prog 199 [reg (t48:UInt32),reg ((-19:Int):Int)] fun t60=>bnd (isub i (16:Int)) 64 fun i68=>ld w_4 (fun (x:Arr 64 UInt32)=>x i68) fun t69=>bnd (isub i (7:Int)) 64 fun i74=>ld w_4 (fun (x:Arr 64 UInt32)=>x i74) fun t75=>bnd i 64 fun i79=>st w_4 (fun (x:Arr 64 UInt32)=>upd x i79 (((t69 + ((t50 ^^^ t52) ^^^ (shr32 t44 3))) + t75) + ((t58 ^^^ t60) ^^^ (shr32 t48 10)))) <| s2 (iadd i (1:Int))) (j2 hv_3 w_4)
def sha_state_block.l3 (j3:Pt→UInt32→UInt32→UInt32→UInt32→UInt32→UInt32→UInt32→UInt32→H→Prop) (hv_5:Pt) (t112_1:Arr 64 UInt32):(UInt32×UInt32×UInt32×UInt32×UInt32×UInt32×UInt32×UInt32×Int)→H→Prop:=Lp fun s3 (a,c,d,e,f,g,kv,l,t113)=>
 ifb (decide (t113 < (64:Int))) (bnd t113 64 fun i116=>call (β:=UInt32) Prog 199 [reg (f:UInt32),reg ((-6:Int):Int)] fun t118=>call (β:=UInt32) Prog 199 [reg (f:UInt32),reg ((-11:Int):Int)] fun t120=>call (β:=UInt32) Prog 199 [reg (f:UInt32),reg ((-25:Int):Int)] fun t123=>bnd t113 64 fun i138=>ld (⟨0,0,none⟩:Addr) (fun (x:Arr 64 UInt32)=>x i138) fun t139=>call (β:=UInt32) Prog 199 [reg (a:UInt32),reg ((-2:Int):Int)] fun t144=>call (β:=UInt32) Prog 199 [reg (a:UInt32),reg ((-13:Int):Int)] fun t146=>call (β:=UInt32) Prog 199 [reg (a:UInt32),reg ((-22:Int):Int)] fun t149=>s3 ((((((l + ((t118 ^^^ t120) ^^^ t123)) + ((f &&& g) ^^^ ((~~~f) &&& kv))) + t139) + (t112_1 i116)) + (((t144 ^^^ t146) ^^^ t149) + (((a &&& c) ^^^ (a &&& d)) ^^^ (c &&& d)))),a,c,d,(e + ((((l + ((t118 ^^^ t120) ^^^ t123)) + ((f &&& g) ^^^ ((~~~f) &&& kv))) + t139) + (t112_1 i116))),f,g,kv,(iadd t113 (1:Int)))) (j3 hv_5 a c d e f g kv l)
def sha_state_block.l4 (k:Unit→H→Prop) (hv_7:Pt) (t185:Arr 8 UInt32):Int→H→Prop:=Lp fun s4 t186=>
 ifb (decide (t186 < (8:Int))) (bnd t186 8 fun i189=>nn hv_7 fun p_1=>bnd t186 8 fun i193=>ld p_1 (fun (x:Arr 8 UInt32)=>x i193) fun t194=>bnd t186 8 fun i198=>st p_1 (fun (x:Arr 8 UInt32)=>upd x i198 (t194 + (t185 i189))) <| s4 (iadd t186 (1:Int))) (k ())
def sha_state_block.j3 (k:Unit→H→Prop) (hv_6:Pt) (a_1:UInt32) (c_1:UInt32) (d_1:UInt32) (e_1:UInt32) (f_1:UInt32) (g_1:UInt32) (kv_1:UInt32) (l_1:UInt32):H→Prop:=
 sha_state_block.l4 k hv_6 (arrOf [a_1,c_1,d_1,e_1,f_1,g_1,kv_1,l_1]:Arr 8 UInt32) (0:Int)
def sha_state_block.j2 (k:Unit→H→Prop) (hv_4:Pt) (w_6:Addr):H→Prop:=
 nn hv_4 fun p=>bnd (0:Int) 8 fun i82=>ld p (fun (x:Arr 8 UInt32)=>x i82) fun t83=>bnd (1:Int) 8 fun i86=>ld p (fun (x:Arr 8 UInt32)=>x i86) fun t87=>bnd (2:Int) 8 fun i90=>ld p (fun (x:Arr 8 UInt32)=>x i90) fun t91=>bnd (3:Int) 8 fun i94=>ld p (fun (x:Arr 8 UInt32)=>x i94) fun t95=>bnd (4:Int) 8 fun i98=>ld p (fun (x:Arr 8 UInt32)=>x i98) fun t99=>bnd (5:Int) 8 fun i102=>ld p (fun (x:Arr 8 UInt32)=>x i102) fun t103=>bnd (6:Int) 8 fun i106=>ld p (fun (x:Arr 8 UInt32)=>x i106) fun t107=>bnd (7:Int) 8 fun i110=>ld p (fun (x:Arr 8 UInt32)=>x i110) fun t111=>ld w_6 (fun (x:Arr 64 UInt32)=>x) fun t112=>sha_state_block.l3 (sha_state_block.j3 k) hv_4 t112 (t83,t87,t91,t95,t99,t103,t107,t111,(0:Int))
def sha_state_block.j1 (k:Unit→H→Prop) (hv_2:Pt) (w_3:Addr):H→Prop:=
 sha_state_block.l2 (sha_state_block.j2 k) hv_2 w_3 (16:Int)
def sha_state_block.b (hv:Pt) (b:Sl) (k:Unit→H→Prop):H→Prop:=
 box 350 ((fun _=>0):Arr 64 UInt32) fun w=>sha_state_block.l1 (sha_state_block.j1 k) hv b w (0:Int)
def sha_word.b (b:Sl) (k:UInt32→H→Prop):H→Prop:=
 sidx b (0:Int) 1 fun t4=>ld t4 (fun (x:UInt8)=>x) fun t5=>sidx b (1:Int) 1 fun t9=>ld t9 (fun (x:UInt8)=>x) fun t10=>sidx b (2:Int) 1 fun t15=>ld t15 (fun (x:UInt8)=>x) fun t16=>sidx b (3:Int) 1 fun t21=>ld t21 (fun (x:UInt8)=>x) fun t22=>k (((((shl32 (toU32 (t5.toNat:Int)) 24) ||| (shl32 (toU32 (t10.toNat:Int)) 16)) ||| (shl32 (toU32 (t16.toNat:Int)) 8)) ||| (toU32 (t22.toNat:Int))):UInt32)
def math_bits_RotateLeft32.b (x:UInt32) (kv:Int) (k:UInt32→H→Prop):H→Prop:=
 k (((shl32 x ((toU64 kv) &&& (31:UInt64)).toNat) ||| (shr32 x ((32:UInt64) - ((toU64 kv) &&& (31:UInt64))).toNat)):UInt32)
def rank_whole.j1 (k:Bool→H→Prop) (t6:Bool):H→Prop:=
 k (t6:Bool)
def rank_whole.b (x:Fl) (lo:Int) (hi:Int) (k:Bool→H→Prop):H→Prop:=
 ifb ((fge x (fnear lo)) && (fle x (fnear hi))) (getS (fcut x) fun t20=>(rank_whole.j1 k) (feq x (fnear t20))) ((rank_whole.j1 k) false)
def rank_Good.j1 (k:Bool→H→Prop) (t2:Bool):H→Prop:=
 k (t2:Bool)
def rank_Good.b (r:Cx) (k:Bool→H→Prop):H→Prop:=
 call (β:=Bool) Prog 231 [reg ((⟨r.re⟩:Fl):Fl),reg ((1:Int):Int),reg ((1024:Int):Int)] fun t5=>ifb t5 (call (β:=Bool) Prog 231 [reg ((⟨r.im⟩:Fl):Fl),reg ((0:Int):Int),reg ((1024:Int):Int)] fun t9=>(rank_Good.j1 k) t9) ((rank_Good.j1 k) false)
def rank_At.b (height:Int) (round:Int) (k:Cx→H→Prop):H→Prop:=
 k ((⟨(fnear height).b,(fnear round).b⟩:Cx):Cx)
def rank_Height.b (r:Cx) (k:Int→H→Prop):H→Prop:=
 call (β:=Bool) Prog 138 [reg (r:Cx)] fun t4=>ifb (!t4) (k ((0:Int):Int)) (getS (fcut (⟨r.re⟩:Fl)) fun t8=>k (t8:Int))
def rank_Round.b (r:Cx) (k:Int→H→Prop):H→Prop:=
 call (β:=Bool) Prog 138 [reg (r:Cx)] fun t4=>ifb (!t4) (k ((0:Int):Int)) (getS (fcut (⟨r.im⟩:Fl)) fun t8=>k (t8:Int))
def rank_Leader.j1 (k:Int→H→Prop) (n_1:Int) (r_1:Cx) (t12:Bool):H→Prop:=
 ifb t12 (k ((0:Int):Int)) (getS (fadd (⟨r_1.re⟩:Fl) (⟨r_1.im⟩:Fl)) fun t17=>getS (fcut t17) fun t19=>must (n_1 ≠ 0) <| k ((irem t19 n_1):Int))
def rank_Leader.b (n:Int) (r:Cx) (k:Int→H→Prop):H→Prop:=
 ifb (decide (n < (1:Int))) ((rank_Leader.j1 k) n r true) (call (β:=Bool) Prog 138 [reg (r:Cx)] fun t10=>(rank_Leader.j1 k) n r (!t10))
def request_Good.j1 (k:Bool→H→Prop) (t2:Bool):H→Prop:=
 k (t2:Bool)
def request_Good.b (q:api_Request) (k:Bool→H→Prop):H→Prop:=
 box 128 (q:api_Request) fun q_1=>ld q_1 (fun (x:api_Request)=>x.Op) fun t5=>box 37 (api_Op.zero:api_Op) fun o=>st o (fun (_:api_Op)=>t5) <| ld q_1 (fun (x:api_Request)=>x.Client) fun t7=>ld q_1 (fun (x:api_Request)=>x.Client) fun t11=>ld q_1 (fun (x:api_Request)=>x.Num) fun t16=>ld q_1 (fun (x:api_Request)=>x.Num) fun t21=>ld o (fun (x:api_Op)=>x.Kind) fun t26=>ld o (fun (x:api_Op)=>x.Kind) fun t31=>ifb ((((((decide ((1:Int)≤t7)) && (decide (t11≤(64:Int)))) && (decide ((1:Int)≤t16))) && (decide (t21≤(1099511627776:Int)))) && (decide ((1:Int)≤t26))) && (decide (t31≤(7:Int)))) (ld o (fun (x:api_Op)=>x.Key) fun t36=>ld o (fun (x:api_Op)=>x.Val) fun t38=>ld o (fun (x:api_Op)=>x.Old) fun t40=>mks 9 [(t36:ByteArray),(t38:ByteArray),(t40:ByteArray)] fun t41=>call (β:=Bool) Prog 78 [reg (t41:Sl)] fun t42=>(request_Good.j1 k) t42) ((request_Good.j1 k) false)
def request_short.l1 (j1:H→Prop) (k:Bool→H→Prop) (t5:Sl) (t6:Int):Int→H→Prop:=Lp fun s1 t7=>
 ifb (decide (t7 < t6)) (sidx t5 t7 1 fun t9=>ld t9 (fun (x:ByteArray)=>x) fun t10=>ifb (decide ((1024:Int) < (t10.size:Int))) (k (false:Bool)) (s1 (iadd t7 (1:Int)))) (j1)
def request_short.j1 (k:Bool→H→Prop):H→Prop:=
 k (true:Bool)
def request_short.b (list:Sl) (k:Bool→H→Prop):H→Prop:=
 request_short.l1 (request_short.j1 k) k list (list.len:Int) (0:Int)
def client_post.b (m:api_Mail) (k:Sl→H→Prop):H→Prop:=
 box 158 (m:api_Mail) fun m_1=>ld m_1 (fun (x:api_Mail)=>x) fun t6=>call (β:=T2 Sl Int) Prog 79 [reg (t6:api_Mail)] fun t7=>ifb (t7.b != (0:Int)) (k (Sl.nil:Sl)) (b2s t7.a fun t13=>mks 160 [(({ api_Post.zero with Frame:=t13 }:api_Post):api_Post)] fun t15=>k (t15:Sl))
def mail_Encode.b (m:api_Mail) (k:(T2 Sl Int)→H→Prop):H→Prop:=
 box 158 (m:api_Mail) fun m_1=>box 246 (code_Writer.zero:code_Writer) fun t9=>ld m_1 (fun (x:api_Mail)=>x.Kind) fun t12=>mks 3 [(t12:Int)] fun t13=>call (β:=Unit) Prog 116 [reg ((some t9):Pt),reg (t13:Sl)] fun t14=>ld m_1 (fun (x:api_Mail)=>x) fun t16=>call (β:=Bool) Prog 117 [reg ((some t9):Pt),reg (t16:api_Mail)] fun t17=>ifb (!t17) (k (⟨Sl.nil,(1:Int)⟩:T2 Sl Int)) (call (β:=Sl) Prog 113 [reg ((some t9):Pt)] fun t20=>ifb (decide ((262144:Int) < (t20.len:Int))) (k (⟨Sl.nil,(3:Int)⟩:T2 Sl Int)) (call (β:=T2 api_Mail Int) Prog 103 [reg (t20:Sl)] fun t26=>box 158 (api_Mail.zero:api_Mail) fun t6=>st t6 (fun (_:api_Mail)=>t26.a) <| ifb (t26.b != (0:Int)) (k (⟨Sl.nil,(1:Int)⟩:T2 Sl Int)) (k (⟨t20,(0:Int)⟩:T2 Sl Int))))
def mail_body.j2 (k:Bool→H→Prop) (t4:Bool):H→Prop:=
 k (t4:Bool)
def mail_body.j1 (k:Bool→H→Prop):H→Prop:=
 k (true:Bool)
def mail_body.b (w:Pt) (m:api_Mail) (k:Bool→H→Prop):H→Prop:=
 box 158 (m:api_Mail) fun m_1=>ld m_1 (fun (x:api_Mail)=>x.Kind) fun t6=>ifb (t6 == (1:Int)) (ld m_1 (fun (x:api_Mail)=>x.Plan) fun t11=>call (β:=Bool) Prog 200 [reg (w:Pt),reg (t11:api_Plan)] fun t12=>k (t12:Bool)) (ifb (t6 == (2:Int)) (ld m_1 (fun (x:api_Mail)=>x.Vote) fun t17=>call (β:=Bool) Prog 201 [reg (w:Pt),reg (t17:api_Vote)] fun t18=>k (t18:Bool)) (ifb (t6 == (3:Int)) (ld m_1 (fun (x:api_Mail)=>x.Request) fun t23=>call (β:=Unit) Prog 202 [reg (w:Pt),reg (t23:api_Request)] fun t24=>(mail_body.j1 k)) (ifb (t6 == (4:Int)) (ld m_1 (fun (x:api_Mail)=>x.Height) fun t29=>mks 3 [(t29:Int)] fun t30=>call (β:=Unit) Prog 116 [reg (w:Pt),reg (t30:Sl)] fun t31=>ld m_1 (fun (x:api_Mail)=>x.Reply) fun t34=>call (β:=Unit) Prog 203 [reg (w:Pt),reg (t34:api_Reply)] fun t35=>(mail_body.j1 k)) (ifb (t6 == (5:Int)) (ld m_1 (fun (x:api_Mail)=>x.Block) fun t40=>call (β:=Unit) Prog 204 [reg (w:Pt),reg (t40:api_Block)] fun t41=>ld m_1 (fun (x:api_Mail)=>x.Cert) fun t44=>call (β:=Bool) Prog 205 [reg (w:Pt),reg (t44:api_Cert)] fun t45=>k (t45:Bool)) (ifb (t6 == (6:Int)) (ld m_1 (fun (x:api_Mail)=>x.Height) fun t50=>mks 3 [(t50:Int)] fun t51=>call (β:=Unit) Prog 116 [reg (w:Pt),reg (t51:Sl)] fun t52=>(mail_body.j1 k)) (ifb (t6 == (8:Int)) (ld m_1 (fun (x:api_Mail)=>x) fun t56=>call (β:=Bool) Prog 206 [reg (w:Pt),reg (t56:api_Mail)] fun t57=>k (t57:Bool)) (ifb (t6 == (9:Int)) (ld m_1 (fun (x:api_Mail)=>x.Block) fun t62=>call (β:=Unit) Prog 204 [reg (w:Pt),reg (t62:api_Block)] fun t63=>ld m_1 (fun (x:api_Mail)=>x.Cert) fun t66=>call (β:=Bool) Prog 205 [reg (w:Pt),reg (t66:api_Cert)] fun t67=>ifb t67 (ld m_1 (fun (x:api_Mail)=>x) fun t70=>call (β:=Bool) Prog 206 [reg (w:Pt),reg (t70:api_Mail)] fun t71=>(mail_body.j2 k) t71) ((mail_body.j2 k) false)) ((mail_body.j1 k)))))))))
def request_Write.b (w:Pt) (q:api_Request) (k:Unit→H→Prop):H→Prop:=
 box 128 (q:api_Request) fun q_1=>ld q_1 (fun (x:api_Request)=>x.Op.Change) fun t7=>box 35 (api_Change.zero:api_Change) fun x=>st x (fun (_:api_Change)=>t7) <| ld q_1 (fun (x:api_Request)=>x.Client) fun t10=>ld q_1 (fun (x:api_Request)=>x.Num) fun t12=>ld q_1 (fun (x:api_Request)=>x.Op.Kind) fun t15=>mks 3 [(t10:Int),(t12:Int),(t15:Int)] fun t16=>call (β:=Unit) Prog 116 [reg (w:Pt),reg (t16:Sl)] fun t17=>ld q_1 (fun (x:api_Request)=>x.Op.Key) fun t21=>ld q_1 (fun (x:api_Request)=>x.Op.Val) fun t24=>ld q_1 (fun (x:api_Request)=>x.Op.Old) fun t27=>mks 9 [(t21:ByteArray),(t24:ByteArray),(t27:ByteArray)] fun t28=>call (β:=Unit) Prog 280 [reg (w:Pt),reg (t28:Sl)] fun t29=>ld x (fun (x:api_Change)=>x.Kind) fun t32=>ld x (fun (x:api_Change)=>x.Id) fun t34=>ld x (fun (x:api_Change)=>x.New) fun t36=>ld x (fun (x:api_Change)=>x.Key.Height) fun t39=>mks 3 [(t32:Int),(t34:Int),(t36:Int),(t39:Int)] fun t40=>call (β:=Unit) Prog 116 [reg (w:Pt),reg (t40:Sl)] fun t41=>ld x (fun (x:api_Change)=>x.Key.Root) fun t45=>mks 31 [(t45:Arr 32 UInt8)] fun t46=>call (β:=Unit) Prog 112 [reg (w:Pt),reg (t46:Sl)] fun t47=>k ()
def code_Writer_Num.l2 (j1:Pt→Sl→Int→Int→H→Prop) (w_2:Pt) (n:Int) (t9_1:Sl) (t10_1:Int) (t11_1:Int):Int→H→Prop:=Lp fun s2 i=>
 ifb (decide ((0:Int)≤i)) (nn w_2 fun p=>ld p (fun (x:code_Writer)=>x.b) fun t23=>must (0≤i) <| mks 5 [((toU8 ((shr64 (toU64 n) i.toNat).toNat:Int)):UInt8)] fun t29=>chk p (fun (x:code_Writer)=>x.b) t23 <| app 5 1 1 (enc (0:UInt8)) t23 t29 fun t30=>st p (fun (x:code_Writer)=>{ x with b:=t30 }) <| s2 (isub i (8:Int))) (j1 w_2 t9_1 t10_1 t11_1)
def code_Writer_Num.j1 (s1:Int→H→Prop) (w_4:Pt) (t9_2:Sl) (t10_2:Int) (t11_2:Int):H→Prop:=
 s1 (iadd t11_2 (1:Int))
def code_Writer_Num.l1 (k:Unit→H→Prop) (w_1:Pt) (t9:Sl) (t10:Int):Int→H→Prop:=Lp fun s1 t11=>
 ifb (decide (t11 < t10)) (sidx t9 t11 1 fun t13=>ld t13 (fun (x:Int)=>x) fun t14=>code_Writer_Num.l2 (code_Writer_Num.j1 s1) w_1 t14 t9 t10 t11 (56:Int)) (k ())
def code_Writer_Num.b (w:Pt) (list:Sl) (k:Unit→H→Prop):H→Prop:=
 ifb w.isNone (k ()) (code_Writer_Num.l1 k w list (list.len:Int) (0:Int))
def code_Writer_Text.l1 (k:Unit→H→Prop) (w_1:Pt) (t9:Sl) (t10:Int):Int→H→Prop:=Lp fun s1 t11=>
 ifb (decide (t11 < t10)) (sidx t9 t11 1 fun t13=>ld t13 (fun (x:ByteArray)=>x) fun t14=>nn w_1 fun p=>ld p (fun (x:code_Writer)=>x.b) fun t21=>mks 5 [((toU8 (ishr (t14.size:Int) 24)):UInt8),((toU8 (ishr (t14.size:Int) 16)):UInt8),((toU8 (ishr (t14.size:Int) 8)):UInt8),((toU8 (t14.size:Int)):UInt8)] fun t33=>app 5 1 1 (enc (0:UInt8)) t21 t33 fun t34=>st p (fun (x:code_Writer)=>{ x with b:=t34 }) <| ld p (fun (x:code_Writer)=>x.b) fun t41=>apps 5 1 (enc (0:UInt8)) t41 t14 fun t43=>st p (fun (x:code_Writer)=>{ x with b:=t43 }) <| s1 (iadd t11 (1:Int))) (k ())
def code_Writer_Text.b (w:Pt) (list:Sl) (k:Unit→H→Prop):H→Prop:=
 ifb w.isNone (k ()) (code_Writer_Text.l1 k w list (list.len:Int) (0:Int))
def code_Writer_Digest.l1 (k:Unit→H→Prop) (w_1:Pt) (t8:Sl) (t9:Int):Int→H→Prop:=Lp fun s1 t10=>
 ifb (decide (t10 < t9)) (sidx t8 t10 32 fun t12=>ld t12 (fun (x:Arr 32 UInt8)=>x) fun t13=>box 31 ((fun _=>0):Arr 32 UInt8) fun d=>st d (fun (_:Arr 32 UInt8)=>t13) <| nn w_1 fun p=>ld p (fun (x:code_Writer)=>x.b) fun t18=>app 5 1 1 (enc (0:UInt8)) t18 ((⟨some d,32,32⟩:Sl).cut 1 0 32 32) fun t20=>st p (fun (x:code_Writer)=>{ x with b:=t20 }) <| s1 (iadd t10 (1:Int))) (k ())
def code_Writer_Digest.b (w:Pt) (list:Sl) (k:Unit→H→Prop):H→Prop:=
 ifb w.isNone (k ()) (code_Writer_Digest.l1 k w list (list.len:Int) (0:Int))
def code_Writer_Bytes.b (w:Pt) (k:Sl→H→Prop):H→Prop:=
 ifb w.isNone (k (Sl.nil:Sl)) (nn w fun p=>ld p (fun (x:code_Writer)=>x.b) fun t8=>must (0≤(0:Int)∧(0:Int)≤(0:Int)∧(0:Int)≤(t8.cap:Int)) <| ld p (fun (x:code_Writer)=>x.b) fun t13=>app 5 1 1 (enc (0:UInt8)) (t8.cut 1 0 (0:Int).toNat (0:Int).toNat) t13 fun t14=>k (t14:Sl))
def mail_Decode.j2 (j1:Addr→Pt→Addr→H→Prop) (s1:Int→H→Prop) (t2_3:Addr) (r_2:Pt) (m_3:Addr) (n_1:Int) (t64:Bool):H→Prop:=
 ifb t64 (ld m_3 (fun (x:api_Mail)=>x.Links) fun t68=>call (β:=api_Link) Prog 172 [reg (r_2:Pt)] fun t70=>chk m_3 (fun (x:api_Mail)=>x.Links) t68 <| mks 269 [(t70:api_Link)] fun t71=>chk m_3 (fun (x:api_Mail)=>x.Links) t68 <| app 269 103 200 (enc (api_Link.zero:api_Link)) t68 t71 fun t72=>st m_3 (fun (x:api_Mail)=>{ x with Links:=t72 }) <| s1 (isub n_1 (1:Int))) (j1 t2_3 r_2 m_3)
def mail_Decode.l1 (j1:Addr→Pt→Addr→H→Prop) (t2_2:Addr) (r_1:Pt) (m_2:Addr):Int→H→Prop:=Lp fun s1 n=>
 ifb (decide ((0:Int) < n)) (call (β:=Bool) Prog 171 [reg (r_1:Pt)] fun t63=>(mail_Decode.j2 j1 s1) t2_2 r_1 m_2 n t63) ((mail_Decode.j2 j1 s1) t2_2 r_1 m_2 n false)
def mail_Decode.j3 (j1:Addr→Pt→Addr→H→Prop) (s2:Int→H→Prop) (t2_5:Addr) (r_4:Pt) (m_5:Addr) (n_3:Int) (t89:Bool):H→Prop:=
 ifb t89 (ld m_5 (fun (x:api_Mail)=>x.Pieces) fun t93=>call (β:=api_Piece) Prog 173 [reg (r_4:Pt)] fun t95=>chk m_5 (fun (x:api_Mail)=>x.Pieces) t93 <| mks 329 [(t95:api_Piece)] fun t96=>chk m_5 (fun (x:api_Mail)=>x.Pieces) t93 <| app 329 36 88 (enc (api_Piece.zero:api_Piece)) t93 t96 fun t97=>st m_5 (fun (x:api_Mail)=>{ x with Pieces:=t97 }) <| s2 (isub n_3 (1:Int))) (j1 t2_5 r_4 m_5)
def mail_Decode.l2 (j1:Addr→Pt→Addr→H→Prop) (t2_4:Addr) (r_3:Pt) (m_4:Addr):Int→H→Prop:=Lp fun s2 n_2=>
 ifb (decide ((0:Int) < n_2)) (call (β:=Bool) Prog 171 [reg (r_3:Pt)] fun t88=>(mail_Decode.j3 j1 s2) t2_4 r_3 m_4 n_2 t88) ((mail_Decode.j3 j1 s2) t2_4 r_3 m_4 n_2 false)
def mail_Decode.j1 (k:(T2 api_Mail Int)→H→Prop) (t2_1:Addr) (r:Pt) (m_1:Addr):H→Prop:=
 call (β:=Bool) Prog 174 [reg (r:Pt)] fun t100=>ifb (!t100) (st t2_1 (fun (_:api_Mail)=>api_Mail.zero) <| ld t2_1 (fun (x:api_Mail)=>x) fun r2_1=>k (⟨r2_1,(4:Int)⟩:T2 api_Mail Int)) (ld m_1 (fun (x:api_Mail)=>x) fun t103=>st t2_1 (fun (_:api_Mail)=>t103) <| ld t2_1 (fun (x:api_Mail)=>x) fun r2_2=>k (⟨r2_2,(0:Int)⟩:T2 api_Mail Int))
def mail_Decode.b (b:Sl) (k:(T2 api_Mail Int)→H→Prop):H→Prop:=
 box 158 (api_Mail.zero:api_Mail) fun t2=>ifb (decide ((262144:Int) < (b.len:Int))) (st t2 (fun (_:api_Mail)=>api_Mail.zero) <| ld t2 (fun (x:api_Mail)=>x) fun r2=>k (⟨r2,(3:Int)⟩:T2 api_Mail Int)) (call (β:=Pt) Prog 163 [reg (b:Sl)] fun t13=>call (β:=Int) Prog 164 [reg (t13:Pt),reg ((1:Int):Int),reg ((9:Int):Int)] fun t15=>box 158 (api_Mail.zero:api_Mail) fun m=>st m (fun (_:api_Mail)=>({ api_Mail.zero with Kind:=t15 }:api_Mail)) <| ld m (fun (x:api_Mail)=>x.Kind) fun t18=>ifb (t18 == (1:Int)) (call (β:=api_Plan) Prog 165 [reg (t13:Pt)] fun t22=>st m (fun (x:api_Mail)=>{ x with Plan:=t22 }) <| (mail_Decode.j1 k) t2 t13 m) (ifb (t18 == (2:Int)) (call (β:=api_Vote) Prog 166 [reg (t13:Pt)] fun t27=>st m (fun (x:api_Mail)=>{ x with Vote:=t27 }) <| (mail_Decode.j1 k) t2 t13 m) (ifb (t18 == (3:Int)) (call (β:=api_Request) Prog 167 [reg (t13:Pt)] fun t32=>st m (fun (x:api_Mail)=>{ x with Request:=t32 }) <| (mail_Decode.j1 k) t2 t13 m) (ifb (t18 == (4:Int)) (call (β:=Int) Prog 164 [reg (t13:Pt),reg ((0:Int):Int),reg ((1024:Int):Int)] fun t37=>call (β:=api_Reply) Prog 168 [reg (t13:Pt)] fun t39=>st m (fun (x:api_Mail)=>{ x with Height:=t37 }) <| st m (fun (x:api_Mail)=>{ x with Reply:=t39 }) <| (mail_Decode.j1 k) t2 t13 m) (ifb (t18 == (5:Int)) (call (β:=api_Block) Prog 169 [reg (t13:Pt)] fun t45=>call (β:=api_Cert) Prog 170 [reg (t13:Pt)] fun t47=>st m (fun (x:api_Mail)=>{ x with Block:=t45 }) <| st m (fun (x:api_Mail)=>{ x with Cert:=t47 }) <| (mail_Decode.j1 k) t2 t13 m) (ifb (t18 == (6:Int)) (call (β:=Int) Prog 164 [reg (t13:Pt),reg ((1:Int):Int),reg ((1025:Int):Int)] fun t53=>st m (fun (x:api_Mail)=>{ x with Height:=t53 }) <| (mail_Decode.j1 k) t2 t13 m) (ifb (t18 == (8:Int)) (call (β:=Int) Prog 164 [reg (t13:Pt),reg ((0:Int):Int),reg ((1024:Int):Int)] fun t58=>mail_Decode.l1 (mail_Decode.j1 k) t2 t13 m t58) (ifb (t18 == (9:Int)) (call (β:=api_Block) Prog 169 [reg (t13:Pt)] fun t77=>call (β:=api_Cert) Prog 170 [reg (t13:Pt)] fun t79=>st m (fun (x:api_Mail)=>{ x with Block:=t77 }) <| st m (fun (x:api_Mail)=>{ x with Cert:=t79 }) <| call (β:=Int) Prog 164 [reg (t13:Pt),reg ((0:Int):Int),reg ((1024:Int):Int)] fun t83=>mail_Decode.l2 (mail_Decode.j1 k) t2 t13 m t83) ((mail_Decode.j1 k) t2 t13 m)))))))))
def code_Read.b (b:Sl) (k:Pt→H→Prop):H→Prop:=
 mks 5 ([]:List UInt8) fun t3=>app 5 1 1 (enc (0:UInt8)) t3 b fun t5=>box 408 (({ code_Reader.zero with b:=t5 }:code_Reader):code_Reader) fun t7=>k ((some t7):Pt)
def code_Reader_In.j1 (k:Int→H→Prop) (r_1:Pt) (n:Int) (t28:Bool):H→Prop:=
 ifb t28 (k (n:Int)) (nn r_1 fun p_1=>st p_1 (fun (x:code_Reader)=>{ x with bad:=true }) <| st p_1 (fun (x:code_Reader)=>{ x with b:=Sl.nil }) <| k ((0:Int):Int))
def code_Reader_In.b (r:Pt) (lo:Int) (hi:Int) (k:Int→H→Prop):H→Prop:=
 call (β:=Int) Prog 244 [reg (r:Pt)] fun t9=>ifb r.isNone ((code_Reader_In.j1 k) r t9 true) (ifb ((decide (lo≤t9)) && (decide (t9≤hi))) (nn r fun p=>ld p (fun (x:code_Reader)=>x.bad) fun t25=>(code_Reader_In.j1 k) r t9 (!t25)) ((code_Reader_In.j1 k) r t9 false))
def request_Read.b (r:Pt) (k:api_Request→H→Prop):H→Prop:=
 box 128 (api_Request.zero:api_Request) fun t2=>call (β:=Int) Prog 164 [reg (r:Pt),reg ((1:Int):Int),reg ((64:Int):Int)] fun t5=>call (β:=Int) Prog 164 [reg (r:Pt),reg ((1:Int):Int),reg ((1099511627776:Int):Int)] fun t7=>box 128 (api_Request.zero:api_Request) fun q=>st q (fun (_:api_Request)=>({ api_Request.zero with Client:=t5,Num:=t7 }:api_Request)) <| call (β:=Int) Prog 164 [reg (r:Pt),reg ((1:Int):Int),reg ((7:Int):Int)] fun t10=>st q (fun (x:api_Request)=>{ x with Op.Kind:=t10 }) <| call (β:=ByteArray) Prog 239 [reg (r:Pt),reg ((1024:Int):Int)] fun t14=>call (β:=ByteArray) Prog 239 [reg (r:Pt),reg ((1024:Int):Int)] fun t16=>call (β:=ByteArray) Prog 239 [reg (r:Pt),reg ((1024:Int):Int)] fun t18=>st q (fun (x:api_Request)=>{ x with Op.Key:=t14 }) <| st q (fun (x:api_Request)=>{ x with Op.Val:=t16 }) <| st q (fun (x:api_Request)=>{ x with Op.Old:=t18 }) <| call (β:=Int) Prog 244 [reg (r:Pt)] fun t26=>call (β:=Int) Prog 244 [reg (r:Pt)] fun t28=>call (β:=Int) Prog 244 [reg (r:Pt)] fun t30=>call (β:=Int) Prog 244 [reg (r:Pt)] fun t32=>st q (fun (x:api_Request)=>{ x with Op.Change:=({ Kind:=t26,Id:=t28,New:=t30,Key:=({ api_Key.zero with Height:=t32 }:api_Key) }:api_Change) }) <| call (β:=Arr 32 UInt8) Prog 238 [reg (r:Pt)] fun t38=>st q (fun (x:api_Request)=>{ x with Op.Change.Key.Root:=t38 }) <| call (β:=Bool) Prog 171 [reg (r:Pt)] fun t44=>ifb (!t44) (st t2 (fun (_:api_Request)=>api_Request.zero) <| ld t2 (fun (x:api_Request)=>x) fun r2=>k (r2:api_Request)) (ld q (fun (x:api_Request)=>x) fun t47=>st t2 (fun (_:api_Request)=>t47) <| ld t2 (fun (x:api_Request)=>x) fun r2_1=>k (r2_1:api_Request))
def code_Reader_Num.l1 (j1:UInt64→H→Prop) (t7_1:Sl) (t8:Int):(UInt64×Int)→H→Prop:=Lp fun s1 (n,t9)=>
 ifb (decide (t9 < t8)) (sidx t7_1 t9 1 fun t11=>ld t11 (fun (x:UInt8)=>x) fun t12=>s1 (((shl64 n 8) ||| (toU64 (t12.toNat:Int))),(iadd t9 (1:Int)))) (j1 n)
def code_Reader_Num.j1 (k:Int→H→Prop) (n_1:UInt64):H→Prop:=
 k ((toI64 (n_1.toNat:Int)):Int)
def code_Reader_Num.b (r:Pt) (k:Int→H→Prop):H→Prop:=
 call (β:=Sl) Prog 297 [reg (r:Pt),reg ((8:Int):Int)] fun t7=>code_Reader_Num.l1 (code_Reader_Num.j1 k) t7 (t7.len:Int) ((0:UInt64),(0:Int))
def code_Reader_Text.l1 (j1:Pt→Int→Int→H→Prop) (r_1:Pt) (most_1:Int) (t9_1:Sl) (t10:Int):(Int×Int)→H→Prop:=Lp fun s1 (n,t11)=>
 ifb (decide (t11 < t10)) (sidx t9_1 t11 1 fun t13=>ld t13 (fun (x:UInt8)=>x) fun t14=>s1 ((ior (ishl n 8) (toI64 (t14.toNat:Int))),(iadd t11 (1:Int)))) (j1 r_1 most_1 n)
def code_Reader_Text.j2 (k:ByteArray→H→Prop) (r_3:Pt) (n_2:Int):H→Prop:=
 call (β:=Sl) Prog 297 [reg (r_3:Pt),reg (n_2:Int)] fun t26=>b2s t26 fun t27=>k (t27:ByteArray)
def code_Reader_Text.j1 (k:ByteArray→H→Prop) (r_2:Pt) (most_2:Int) (n_1:Int):H→Prop:=
 ifb (decide (most_2 < n_1)) ((code_Reader_Text.j2 k) r_2 (-1:Int)) ((code_Reader_Text.j2 k) r_2 n_1)
def code_Reader_Text.b (r:Pt) (most:Int) (k:ByteArray→H→Prop):H→Prop:=
 call (β:=Sl) Prog 297 [reg (r:Pt),reg ((4:Int):Int)] fun t9=>code_Reader_Text.l1 (code_Reader_Text.j1 k) r most t9 (t9.len:Int) ((0:Int),(0:Int))
def code_Reader_Digest.b (r:Pt) (k:(Arr 32 UInt8)→H→Prop):H→Prop:=
 box 31 ((fun _=>0):Arr 32 UInt8) fun t2=>box 31 ((fun _=>0):Arr 32 UInt8) fun d=>call (β:=Sl) Prog 297 [reg (r:Pt),reg ((32:Int):Int)] fun t6=>cpy 1 ((⟨some d,32,32⟩:Sl).cut 1 0 32 32) t6 fun t7=>ld d (fun (x:Arr 32 UInt8)=>x) fun t8=>st t2 (fun (_:Arr 32 UInt8)=>t8) <| ld t2 (fun (x:Arr 32 UInt8)=>x) fun r2=>k (r2:Arr 32 UInt8)
def code_Reader_Good.j1 (k:Bool→H→Prop) (t2:Bool):H→Prop:=
 k (t2:Bool)
def code_Reader_Good.b (r:Pt) (k:Bool→H→Prop):H→Prop:=
 ifb r.isSome (nn r fun p=>ld p (fun (x:code_Reader)=>x.bad) fun t9=>(code_Reader_Good.j1 k) (!t9)) ((code_Reader_Good.j1 k) false)
def code_Reader_End.j1 (k:Bool→H→Prop) (t2:Bool):H→Prop:=
 k (t2:Bool)
def code_Reader_End.b (r:Pt) (k:Bool→H→Prop):H→Prop:=
 call (β:=Bool) Prog 171 [reg (r:Pt)] fun t4=>ifb t4 (nn r fun p=>ld p (fun (x:code_Reader)=>x.b) fun t9=>(code_Reader_End.j1 k) ((t9.len:Int) == (0:Int))) ((code_Reader_End.j1 k) false)
def code_Reader_take.j1 (k:Sl→H→Prop) (r_1:Pt) (n_1:Int) (t24:Bool):H→Prop:=
 ifb t24 (nn r_1 fun p_1=>st p_1 (fun (x:code_Reader)=>{ x with bad:=true }) <| st p_1 (fun (x:code_Reader)=>{ x with b:=Sl.nil }) <| k (Sl.nil:Sl)) (nn r_1 fun p_2=>ld p_2 (fun (x:code_Reader)=>x.b) fun t28=>must (0≤n_1∧n_1≤(t28.cap:Int)) <| ld p_2 (fun (x:code_Reader)=>x.b) fun t35=>must (0≤n_1∧n_1≤(t35.len:Int)) <| st p_2 (fun (x:code_Reader)=>{ x with b:=(t35.cut 1 n_1.toNat t35.len t35.cap) }) <| k ((t28.cut 1 0 n_1.toNat t28.cap):Sl))
def code_Reader_take.b (r:Pt) (n:Int) (k:Sl→H→Prop):H→Prop:=
 ifb r.isNone (k (Sl.nil:Sl)) (nn r fun p=>ld p (fun (x:code_Reader)=>x.bad) fun t11=>ifb (t11 || (decide (n < (0:Int)))) ((code_Reader_take.j1 k) r n true) (ld p (fun (x:code_Reader)=>x.b) fun t21=>(code_Reader_take.j1 k) r n (decide ((t21.len:Int) < n))))
end Go.Proofs.YtmpmildpioebhaaGreatDoor
namespace Go.Sh
open Go
open Go.Sh.Ty (reg)
def blk (s:Sl):List Nat:=match s.a with | some a=>[a.block] | none=>[]
theorem blk_some {s:Sl} {a:Addr} (h:s.a = some a):blk s = [a.block]:=by unfold blk; rw [h]
theorem blk_none {s:Sl} (h:s.a = none):blk s = []:=by unfold blk; rw [h]
theorem SV.fr' {α:Type} [Ty α] {n:Nat} {h h':H} {s:Sl} {l:List α} {S:List Nat} (f:Fr S h h') (hv:SV n h s l) (hp:∀ b ∈ blk s,b ∉ S):SV n h' s l:=
 hv.fr f fun a ha=>hp _ (by rw [blk_some ha]; simp)
def OwnA {α:Type} [Ty α] (T n:Nat) (s:Sl) (l:List α) (h:H):Prop:=
 (s.a = none∧s.len = 0∧s.cap = 0∧l = [])∨∃ b spare,s.a = some ⟨b,0,none⟩∧Cel T ⟨b,0,none⟩ ((l.map enc).flatten ++ spare) h∧s.len = l.length∧l.length≤s.cap∧spare.length = (s.cap - l.length) * n
def own {α:Type} [Ty α] (T n:Nat) (s:Sl) (l:List α):En:=⟨blk s,OwnA T n s l⟩
theorem own_loc {α:Type} [Ty α] (T n:Nat) (s:Sl) (l:List α):Loc (own T n s l):=by
 intro h h' hb H
 rcases H with H | ⟨b,spare,ha,hc,h1⟩
 ·exact .inl H
 ·refine .inr ⟨b,spare,ha,⟨rfl,?_⟩,h1⟩
  rw [hb b (by simp only [own]; rw [blk_some ha]; simp)]; exact hc.2
theorem enc_flat_len {α:Type} [Ty α] {n:Nat} (hn:∀ y:α,(enc y).length = n) (l:List α):(l.map enc).flatten.length = l.length * n:=by
 rw [flatten_len n]
 ·simp
 ·intro x hx; simp only [List.mem_map] at hx; obtain ⟨y,_,rfl⟩:=hx; exact hn y
theorem OwnA.sv {α:Type} [Ty α] {T n:Nat} {s:Sl} {l:List α} {h:H} (hn:∀ y:α,(enc y).length = n) (H:OwnA T n s l h):SV n h s l:=by
 rcases H with ⟨h1,h2,h3,h4⟩ | ⟨b,spare,ha,hc,h1,h2,h3⟩
 ·subst h4; exact ⟨.inl ⟨h1,h2,rfl⟩,h2,by omega⟩
 ·refine ⟨.inr ⟨_,ha,?_,by rw [enc_flat_len hn,h1]⟩,h1,by omega⟩
  have:=hc.at_.sub 0 (l.map enc).flatten.length
  simpa [Addr.add] using this
theorem OwnA.lt {α:Type} [Ty α] {T n:Nat} {s:Sl} {l:List α} {h:H} (H:OwnA T n s l h):∀ b ∈ blk s,b < h.size:=by
 rcases H with ⟨h1,_⟩ | ⟨b,spare,ha,hc,_⟩
 ·rw [blk_none h1]; simp
 ·rw [blk_some ha]; intro b' hb'; simp only [List.mem_singleton] at hb'; subst hb'; exact hc.lt
section
variable {h0 h h':H} {S:List Nat} {L:List En} {α:Type} [Ty α] {T n:Nat}
theorem Sat.disj (hs:Sat h0 S h L) {i j:Nat} {e e':En} (hi:L[i]? = some e) (hj:L[j]? = some e') (hne:i ≠ j):∀ x ∈ e.F,x ∉ e'.F:=by
 intro x hx hx'
 obtain ⟨h1,h2⟩:=List.getElem?_eq_some_iff.1 hi
 obtain ⟨h3,h4⟩:=List.getElem?_eq_some_iff.1 hj
 rcases Nat.lt_or_gt_of_ne hne with hl | hl
 ·have:=List.pairwise_iff_getElem.1 hs.dis i j h1 h3 hl x (by rw [h2]; exact hx)
  rw [h4] at this; exact this hx'
 ·have:=List.pairwise_iff_getElem.1 hs.dis j i h3 h1 hl x (by rw [h4]; exact hx')
  rw [h2] at this; exact this hx
theorem Sat.ownSV (i:Nat) {s:Sl} {l:List α} (hs:Sat h0 S h L) (hi:L[i]? = some (own T n s l)) (hn:∀ y:α,(enc y).length = n):SV n h s l:=OwnA.sv hn (hs.at_ hi)
theorem Sat.mks_ {l:List α} {k:Sl→H→Prop} (hs:Sat h0 S h L) (hk:∀ s h',Sat h0 S h' (own T n s l :: L)→s.len = l.length→Ext h h'→k s h'):mks T l k h:=by
 intro p s hp hss
 subst hp; subst hss
 refine hk _ _ (hs.add (Fr.push _ _) (.inr ⟨h.size,[],rfl,?_,rfl,Nat.le_refl _,by simp⟩) (own_loc _ _ _ _) ?_) rfl (Fr.push _ _)
 ·rw [List.append_nil]; exact Cel.new h T _
 ·intro b hb; simp only [own,blk,List.mem_singleton] at hb; subst hb; simp [newC]
theorem Sat.appR_ {s x:Sl} {l xl:List α} {bytes:Nat} {z:List Value} {k:Sl→H→Prop} (i:Nat) (hs:Sat h0 S h L) (hi:L[i]? = some (own T n s l)) (hx:SlR h x n (xl.map enc).flatten) (hxl:x.len = xl.length) (hn:∀ y:α,(enc y).length = n) (h1:∀ y:α,(enc y).all (·.oneCell') = true) (hz:z.length = n)
  (hbig:(l.length + xl.length) * bytes≤maxBytes) (hlen:l.length + xl.length≤9223372036854775807) (hk:∀ r h',Sat h0 S h' (L.set i (own T n r (l ++ xl)))→r.len = l.length + xl.length→k r h'):app T n bytes z s x k h:=by
 have ho:OwnA T n s l h:=hs.at_ hi
 have hsl:s.len = l.length:=(ho.sv hn).2.1
 have hone:((xl.map enc).flatten).all (·.oneCell') = true:=by
  rw [List.all_eq_true]; intro v hv
  simp only [List.mem_flatten,List.mem_map] at hv
  obtain ⟨_,⟨y,_,rfl⟩,hv⟩:=hv
  exact List.all_eq_true.1 (h1 y) v hv
 refine ⟨(l.map enc).flatten,(xl.map enc).flatten,(ho.sv hn).1,hx,hone,fun hroom=>?_,fun hgrow=>⟨by rw [hsl,hxl]; exact hbig,by omega,fun p cap r hp hcap hr=>?_⟩⟩
 ·rcases ho with ⟨ha,hl0,hc0,hl⟩ | ⟨b,spare,ha,hc,h2,h3,h4⟩
  ·have hx0:xl = []:=List.eq_nil_of_length_eq_zero (by omega)
   subst hx0; subst hl
   refine ⟨fun a h=>(by rw [ha] at h; cases h),fun r hr=>?_⟩
   rw [ha]
   refine hk r h ?_ (by subst hr; simp only; omega)
   have:own T n r (([]:List α) ++ []) = own T n s ([]:List α):=by
    have:r = s:=by subst hr; cases s; simp only at hl0 hc0 ha hxl ⊢; simp_all
    rw [this]; rfl
   rw [this]
   have:L.set i (own T n s ([]:List α)) = L:=by
    apply List.ext_getElem?
    intro j
    rw [List.getElem?_set]
    split
    ·rename_i h; subst h; split <;> simp_all
    ·rfl
   rw [this]; exact hs
  ·have hput:=hc.put (s.len * n) (xl.map enc).flatten (by
    rw [List.length_append,enc_flat_len hn,enc_flat_len hn,h4,hsl,← Nat.add_mul,← Nat.add_mul]
    exact Nat.mul_le_mul_right _ (by omega))
   obtain ⟨p1,p2,p3⟩:=hput
   refine ⟨fun a h=>(by rw [ha] at h; obtain rfl:=Option.some.inj h; exact p3),fun r hr=>?_⟩
   rw [ha]
   refine hk r _ (hs.upd hi (by simp only [own]; rw [blk_some ha]; exact p2) (.inr ⟨b,spare.drop (xl.length * n),by subst hr; exact ha,?_,by subst hr; simp [hsl,hxl],by subst hr; simp; omega,?_⟩) (own_loc _ _ _ _) ?_) (by subst hr; simp [hsl,hxl])
   ·have e1:((l.map enc).flatten ++ spare).take (s.len * n) = (l.map enc).flatten:=List.take_left' (by rw [enc_flat_len hn,hsl])
    have e2:((l.map enc).flatten ++ spare).drop (s.len * n + (xl.map enc).flatten.length) = spare.drop (xl.length * n):=by
     rw [← List.drop_drop,List.drop_left' (by rw [enc_flat_len hn,hsl]),enc_flat_len hn]
    rw [e1,e2] at p1
    simpa using p1
   ·subst hr
    simp only [List.length_drop,h4,List.length_append,← Nat.sub_mul]
    congr 1; omega
   ·subst hr
    intro b' hb'
    simp only [own] at hb' ⊢
    have e:blk (⟨s.a,s.len + x.len,s.cap⟩:Sl) = blk s:=rfl
    rw [e] at hb'
    refine ⟨?_,.inl hb'⟩
    rw [blk_some ha] at hb'
    simp only [List.mem_singleton] at hb'
    subst hb'
    exact Nat.lt_of_lt_of_le hc.lt p2.size
 ·subst hp
  have hnew:=Cel.new h T ((l.map enc).flatten ++ (xl.map enc).flatten ++ (List.replicate (cap - (s.len + x.len)) z).flatten)
  refine hk r _ (hs.upd hi ((Fr.push _ _).mono (by simp)) (.inr ⟨h.size,(List.replicate (cap - (s.len + x.len)) z).flatten,by subst hr; rfl,?_,by subst hr; simp [hsl,hxl],by subst hr; simp; omega,?_⟩) (own_loc _ _ _ _) ?_) (by subst hr; simp [hsl,hxl])
  ·simpa using hnew
  ·subst hr
   rw [flatten_len n _ (by intro y hy; simp only [List.mem_replicate] at hy; rw [hy.2]; exact hz)]
   simp only [List.length_replicate,List.length_append,hsl,hxl]
  ·subst hr
   intro b' hb'
   simp only [own,blk,List.mem_singleton] at hb'
   subst hb'
   exact ⟨by simp [newC],.inr (Nat.le_refl _)⟩
theorem Sat.app_ {s x:Sl} {l xl:List α} {bytes:Nat} {z:List Value} {k:Sl→H→Prop} (i:Nat) (hs:Sat h0 S h L) (hi:L[i]? = some (own T n s l)) (hx:SV n h x xl) (hn:∀ y:α,(enc y).length = n) (h1:∀ y:α,(enc y).all (·.oneCell') = true) (hz:z.length = n)
  (hbig:(l.length + xl.length) * bytes≤maxBytes) (hlen:l.length + xl.length≤9223372036854775807) (hk:∀ r h',Sat h0 S h' (L.set i (own T n r (l ++ xl)))→r.len = l.length + xl.length→k r h'):app T n bytes z s x k h:=
 hs.appR_ i hi (.inl hx.1) hx.2.1 hn h1 hz hbig hlen hk
end
end Go.Sh
namespace Go.Proofs.YtmpmildpioebhaaGreatDoor
open Go Go.Sh
open Go.Sh.Ty (reg)
theorem fn_5:FnOk Prog 5:=⟨_,Tryz.func5,by kernel_rfl,by kernel_rfl⟩
theorem fn_6:FnOk Prog 6:=⟨_,Tryz.func6,by kernel_rfl,by kernel_rfl⟩
theorem get_37_all (x:api_Op):((enc x).drop 0).take 40 = enc x:=get_last (len_api_Op x)
theorem set_27_all (x:api_Config) (v:api_Config):(enc x).take 0 ++ enc v ++ (enc x).drop (0 + (enc v).length) = enc v:=set_last (((len_api_Config _)).trans ((len_api_Config _)).symm)
theorem sl_22:SlT Prog 22 37 40:=⟨by kernel_rfl,SizeOf.of (by kernel_rfl)⟩
theorem sz_27:SizeOf Prog 27 2:=SizeOf.of (by kernel_rfl)
theorem zo_27:ZeroOf Prog 27 (enc (api_Config.zero:api_Config)):=ZeroOf.of (by kernel_rfl)
end Go.Proofs.YtmpmildpioebhaaGreatDoor
namespace Go.Sh
open Go
open Go.Sh.Ty (reg)
theorem set_push {α:Type} (h:Array α) (x y:α):(h.push x).setIfInBounds h.size y = h.push y:=by
 apply Array.ext_getElem?
 intro i
 by_cases e:i = h.size
 ·subst e; simp
 ·rw [Array.getElem?_setIfInBounds_ne (Ne.symm e),Array.getElem?_push,Array.getElem?_push,if_neg e,if_neg e]
theorem put_new (h:H) (T:TypeId) {cs vs:List Value} (hl:cs.length = vs.length):putC (newC h T cs) ⟨h.size,0,none⟩ vs = newC h T vs:=by
 have hb:(newC h T cs)[(⟨h.size,0,none⟩:Addr).block]? = some (.cells cs.toArray T (0,0)):=by simp [newC]
 rw [putC_at hb]
 have:splice cs.toArray 0 vs = vs.toArray:=by
  unfold splice
  simp [hl]
 show (newC h T cs).setIfInBounds h.size (.cells (splice cs.toArray 0 vs) T (0,0)) = _
 rw [this]
 exact set_push _ _ _
theorem CW.loopI {C:Ctx} {Q:Exit→Act→World→Prop} {ρ:Env} {h:H} {c:Code} (I:Nat→Env→H→Prop) (N:Nat) (hN:∀ t ρ h,I t ρ h→t≤N) (h0:I 0 ρ h)
  (hb:∀ t ρ h,I t ρ h→CW C c (Exit.then (JA C fun ρ' h'=>I (t + 1) ρ' h') Q) ρ h):CW C (.loop c) Q ρ h:=by
 refine CW.loop (σ:=Nat×Env) (fun s ρ=>ρ = s.2) (F:=fun K s h=>CW C c (Exit.then (JA C fun ρ' h'=>∃ s':Nat×Env,ρ' = s'.2∧K s' h') Q) s.2 h) (s:=(0,ρ)) ⟨fun s h=>I s.1 s.2 h,fun s _=>N + 1 - s.1,h0,?_⟩ rfl ?_
 ·rintro ⟨t,ρ⟩ h hI
  refine fun a w s=>wp_mono (hb t ρ h hI a w s) ?_
  intro e a w hq
  cases e <;> first | exact hq | skip
  obtain ⟨ρ',h',s',hI'⟩:=hq
  have:=hN _ _ _ hI'
  exact ⟨ρ',h',s',(t + 1,ρ'),rfl,hI',by show N + 1 - (t + 1) < N + 1 - t; omega⟩
 ·rintro K ⟨t,ρ0⟩ ρ h rfl hF
  exact hF
end Go.Sh

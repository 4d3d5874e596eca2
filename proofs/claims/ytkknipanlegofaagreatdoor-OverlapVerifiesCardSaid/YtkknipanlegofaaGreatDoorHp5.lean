import Derived.Test.YtkknipanlegofaaGreatDoorHp4
set_option synthInstance.checkSynthOrder false
set_option synthInstance.maxSize 10000
set_option synthInstance.maxHeartbeats 400000
set_option maxRecDepth 100000
set_option maxHeartbeats 4000000
set_option linter.unusedVariables false
set_option linter.unusedSimpArgs false
namespace Go.Pn
open Go Go.RowKit Go.Proofs Go.Proofs.Tryz
theorem s257 (f:Nat) (n0:Nat) (n1:Value) (n2:Value) (n3:Value) (n4:Value) (n5:Value) (n6:Value) (n7:Value) (n8:Value) (n9:Value) (v0:Int) (v1:Int) (v2:List ByteArray) (v3:List Signal) (v4:List Int) (v5:List Int) (v6:List Int) (v7:List Bool) (v8:List Bool) (v9:List Bool) (v10:List Int) (r:(List Bool)) (hm:m257 f v0 v1 v2 v3 v4 v5 v6 v7 v8 v9 v10=some r):Cg Tryz.prog 257 [Qv (pb n0 0)] [Mr n0 [(.int .i64 v0),n1,n2,n3,n4,n5,n6,n7,n8,n9,(.int .i64 v1)],At n1 (Va v2),At n2 (Va v3),At n3 (Va v4),At n4 (Va v5),Ow 3 n5 v6,Ow 4 n6 v7,Ow 4 n7 v8,Ow 4 n8 v9,Ow 3 n9 v10] (Rz (λx:Value=>Qv x) (λx=>[Mr n0 [(.int .i64 v0),n1,n2,n3,n4,n5,n6,n7,n8,n9,(.int .i64 v1)],At n1 (Va v2),At n2 (Va v3),At n3 (Va v4),At n4 (Va v5),Ow 3 n5 v6,Ow 4 n6 v7,Ow 4 n7 v8,Ow 4 n8 v9,Ow 3 n9 v10,Ow 4 x r])):=by
 unfold m257 at hm;refine eng func257 kr_ I ntmps257 I I λM W a hM hD s=>?_;refine R 1 s λa w s=>?_;refine R 1 s λa w s=>?_;refine se (R 7 s λa w s=>?_);refine nilt (α:=Bool) (d:=3) 1010 4 s I I λc3 s=>?_;refine lA1 hm [0,2,10,11,1000,1001,1002,1003,1004,1005,1006,1007,1008,1009] s (λz1 z1c0=>[(3,Qv z1c0),(12,Va z1.1),(1010,Ow 4 z1c0 z1.2)]) ⟨c3,s.fi⟩ (λ_=>I) (λo2s hko2 n z1 a w hm s=>?_) λo2s hm a w s=>?_
 ·obtain ⟨z1c0,s⟩:=s;unfold m257_l1 at hm;refine R 1 s λa w s=>?_;refine se (cmt s hm (λhb hm=>?_) λhb hm=>?_)
  ·refine se (wpIn_block ?_);obtain ⟨x4,hx4,hm⟩:=bk hm;refine R 3 s λa w s=>?_;obtain ⟨x5,hx5,hm⟩:=bk hm;refine rg (ru 6 s λa w s=>apd (α:=Bool) (k:=1010) s (t I) I (t I) hx5.e I I λc6 a w s=>ru 1 s λa w s=>nl ?_);refine R0 2 s λa w s=>?_;exact ⟨_,hm,⟨c6,s.fi⟩⟩
  ·refine wpIn_exit ?_;obtain rfl:=si hm;exact ⟨z1c0,s.fi⟩
 ·obtain ⟨o2sc0,s⟩:=s;obtain ⟨x7,hx7,hm⟩:=bk hm;refine se (flow s (m:=13) (.cons (.cons (.cons (.cons (.cons (.cons (.cons (.cons (.cons (.cons (.cons (.cons (.cons .nil I (mvq (t I))) I (mvq (t I))) I (nkq (t I))) I (fm_ (off:=5) (m:=4) (q:=5) (t I) kr_ I)) I (fm_ (off:=2) (m:=0) (q:=7) (t I) kr_ I)) I (lrc (K:=1000) (List Bool) (t I) I I I I)) I (mvq (t I))) I (nkq (t I))) I (fm_ (off:=5) (m:=4) (q:=5) (t I) kr_ I)) I (fm_ (off:=3) (m:=0) (q:=8) (t I) kr_ I)) I (lrc (K:=1000) (List Bool) (t I) I I I I)) I (bsw (β:=Bool) (cd1 (t I) (oco (k:=1010) I) (cd1 (t I) (oco (k:=1007) I) (cd1 (t I) (oco (k:=1008) I) cd0))) I I kr_)) I (tfg (k:=1010) (flz (λ_=>flq) (λ_=>(flc flo fln))) I (tfg (k:=1007) (flz (λ_=>flq) (λ_=>(flc flo fln))) I (tfg (k:=1008) (flz (λ_=>flq) (λ_=>(flc flo fln))) I (cc I (oc (rwd (t I) (rl1 (rpz (k:=1010) I) (rl1 (rpz (k:=1007) I) (rl1 (rpz (k:=1008) I) rl0)))) on) (s260 f _ _ hx7.e)))))) kr_ I I λa w s=>opz (d:=36) [1012] s I (λ_=>I) I λy8 s=>sq s (saq (t I)) I λa w s=>nl ?_);obtain rfl:=si hm;refine wpIn_ret ?_;exact rz [1000,1001,1002,1003,1004,1005,1006,1007,1008,1009,1012] y8 hM hD s I (rv1 (rt I)) (kc I (kc I (kc I (kc I (kc I (kc I (kc I (kc I (kc I (kc I (kc I kn))))))))))) I
def m256_l1 (f:Nat) (v1:Int) (v3:List Signal):Nat->(Int×(List Bool)×(List Bool))->Option (Int×(List Bool)×(List Bool))
 | 0,_=>none
 | n+1,z3=>(bif (decide (z3.1 < (v3.length:Int))) then (idx v3 z3.1).bind λx5=>(bif (x5.Kind == (0:Int)) then (m259 f x5.On z3.2.2).bind λx8=>(idx z3.2.1 z3.1).bind λx9=>(idx z3.2.2 (wr (v1 + z3.1))).bind λx10=>some ((z3.2.1.set z3.1.toNat x8),(z3.2.2.set (wr (v1 + z3.1)).toNat x8)) else some (z3.2.1,z3.2.2)).bind λz7=>m256_l1 f v1 v3 n ((wr (z3.1 + (1:Int))),z7.1,z7.2) else some (z3.1,z3.2.1,z3.2.2))
def m256 (f:Nat) (v0:Int) (v1:Int) (v2:List ByteArray) (v3:List Signal) (v4:List Int) (v5:List Int) (v6:List Int) (v7:List Bool) (v8:List Bool) (v9:List Bool) (v10:List Int):Option ((List Bool)):=(m257 f v0 v1 v2 v3 v4 v5 v6 v7 v8 v9 v10).bind λx1=>(m256_l1 f v1 v3 f ((0:Int),v9,x1)).bind λo4s=>some o4s.2.1
theorem s256 (f:Nat) (n0:Nat) (n1:Value) (n2:Value) (n3:Value) (n4:Value) (n5:Value) (n6:Value) (n7:Value) (n8:Value) (n9:Value) (v0:Int) (v1:Int) (v2:List ByteArray) (v3:List Signal) (v4:List Int) (v5:List Int) (v6:List Int) (v7:List Bool) (v8:List Bool) (v9:List Bool) (v10:List Int) (r:(List Bool)) (hm:m256 f v0 v1 v2 v3 v4 v5 v6 v7 v8 v9 v10=some r):Cg Tryz.prog 256 [Qv (pb n0 0)] [Mr n0 [(.int .i64 v0),n1,n2,n3,n4,n5,n6,n7,n8,n9,(.int .i64 v1)],At n1 (Va v2),At n2 (Va v3),At n3 (Va v4),At n4 (Va v5),Ow 3 n5 v6,Ow 4 n6 v7,Ow 4 n7 v8,Ow 4 n8 v9,Ow 3 n9 v10] (Rz (λx:Unit=>Dd) (λx=>[Mr n0 [(.int .i64 v0),n1,n2,n3,n4,n5,n6,n7,n8,n9,(.int .i64 v1)],At n1 (Va v2),At n2 (Va v3),At n3 (Va v4),At n4 (Va v5),Ow 3 n5 v6,Ow 4 n6 v7,Ow 4 n7 v8,Ow 4 n8 r,Ow 3 n9 v10])):=by
 unfold m256 at hm;refine eng func256 kr_ I ntmps256 I I λM W a hM hD s=>?_;obtain ⟨x1,hx1,hm⟩:=bk hm;refine se (rg (ru 1 s λa w s=>cgv [1000,1001,1002,1003,1004,1005,1006,1007,1008,1009] [1000,1001,1002,1003,1004,1005,1006,1007,1008,1009,1010] hM s qf I (oc (t I) on) vn vn (s257 f n0 n1 n2 n3 n4 n5 n6 n7 n8 n9 _ _ _ _ _ _ _ _ _ _ _ _ hx1.e) (kc I (kc I (kc I (kc I (kc I (kc I (kc I (kc I (kc I (kc I kn)))))))))) I (λ_=>I) I I I λy2 a w s=>ru 1 s λa w s=>nl ?_));refine se (rg (ru 5 s λa w s=>sq s (ln (ta (k:=1002) (t I) I)) I λa w s=>ru 1 s λa w s=>nl ?_));refine lA hm [0,2,12,13,1000,1001,1002,1003,1004,1005,1006,1007,1009] s (λz3=>[(14,Va z3.1),(1008,Ow 4 n8 z3.2.1),(1010,Ow 4 y2 z3.2.2)]) s.fi (λ_=>I) (λo4s hko4 n z3 a w hm s=>?_) λo4s hm a w s=>?_
 ·unfold m256_l1 at hm;refine R 1 s λa w s=>?_;refine se (cmt s hm (λhb hm=>?_) λhb hm=>?_)
  ·refine se (wpIn_block ?_);obtain ⟨x5,hx5,hm⟩:=bk hm;refine se (rg (ru 1 s λa w s=>sq s (ix (ta (k:=1002) (t I) I) (t I) hx5.e) I λa w s=>ru 1 s λa w s=>aR 1011 s λb6 a w s=>ru 1 s λa w s=>sW s I λw s=>nl ?_));refine R 3 s λa w s=>?_;obtain ⟨z7,hz7,hkz7⟩:=bs hm;refine cP [0,2,3,4,12,13,14,1000,1001,1002,1003,1004,1005,1006,1007,1009,1011] s [(1008,Ow 4 n8 z7.1),(1010,Ow 4 y2 z7.2)] ?_ λa w s=>?_
   ·refine cm s I hz7 (λhb hm=>?_) (λhb hm=>?_)
    ·obtain ⟨x8,hx8,hm⟩:=bk hm;refine se (rg (ru 3 s λa w s=>sq s (tfg (k:=1010) fl1 I (cc I (oc (t I) (oc (ta (k:=1010) (t I) I) on)) (s259 f _ _ _ hx8.e))) I λa w s=>ru 1 s λa w s=>nl ?_));obtain ⟨x9,hx9,hm⟩:=bk hm;obtain ⟨x10,hx10,hm⟩:=bk hm;refine flow2 [(2,Qv y2),(3,Va z3.1),(5,Va x8)] [0,1,2,3,4,5,7,8,9,10,13,15] [26,27,28,29,30,31,33,34,35,36,39,41] [36] [37] [40,38,37,32] [(16,[]),(17,[40,38,37,32]),(18,[])] s (.skip (.skip (.skip (.cons (.late (.cons (.late (.late (.cons (.cons (.cons (.cons (.late (.cons (.cons (.cons (.cons (.cons (.cons .nil I I (mvq (t I))) I I (nkq (t I))) I I (fm_ (off:=5) (m:=4) (q:=5) (t I) kr_ I)) I I (fm_ (off:=3) (m:=0) (q:=8) (t I) kr_ I)) I I (lrc (K:=1000) (List Bool) (t I) I I I I)) I I (mv (t I))) I I (mvq (t I))) I I (mvq (t I))) I I (nkq (t I))) I I (fm_ (off:=10) (m:=0) (q:=10) (t I) kr_ I)) I I (lrc (K:=1000) Int (t I) I I I I)) I I (mv (t I))) I I (ad (qi (t I)) (t I))) I I (mv (t I))) I I (mv (t I))) I I (ixq (α:=Bool) (k:=1008) (t I) I (t I) hx9.e)) I) I) I) kr_ kr_ I I (sb1 I (sb1 I (sb1 I sb0))) I (by decide) I I ?_;refine ⟨⟨λ_=>I,I,.inr ⟨(sb1 I (sb1 I (sb1 I sb0))),(sb1 I sb0),(sn2 I sn0)⟩⟩,by kernel_rfl,_,I,λΨ a w s=>stq (k:=1008) s (t I) I (idxg hx9.e) (t I) λw s=>nl ?_⟩;refine nxt Ψ s ?_;refine ⟨⟨λ_=>I,I,.inr ⟨(sb1 I (sb1 I (sb1 I sb0))),(sb1 I sb0),(sn2 I sn0)⟩⟩,by kernel_rfl,_,I,λΨ a w s=>sq s (ixq (α:=Bool) (k:=1010) (t I) I (t I) hx10.e) I λa w s=>nl ?_⟩;refine nxt Ψ s ?_;refine ⟨⟨λ_=>I,I,.inl I⟩,by kernel_rfl,_,I,λΨ a w s=>stq (k:=1010) s (t I) I (idxg hx10.e) (t I) λw s=>nl ?_⟩;refine nxt Ψ s ?_;refine ⟨⟨λ_=>I,I,.inl I⟩,λa w s=>?_⟩;replace s:St M W 44 [(0,Qv (pb n0 0)),(2,Qv y2),(3,Va z3.1),(4,Qv (pb b6 0)),(5,Va x8),(12,Qv n2),(13,Va ((v3.length:Int))),(14,Va z3.1),(1000,Mr n0 [(.int .i64 v0),n1,n2,n3,n4,n5,n6,n7,n8,n9,(.int .i64 v1)]),(1001,At n1 (Va v2)),(1002,At n2 (Va v3)),(1003,At n3 (Va v4)),(1004,At n4 (Va v5)),(1005,Ow 3 n5 v6),(1006,Ow 4 n6 v7),(1007,Ow 4 n7 v8),(1008,Ow 4 n8 ((z3.2.1.set z3.1.toNat x8))),(1009,Ow 3 n9 v10),(1010,Ow 4 y2 ((z3.2.2.set (wr (v1 + z3.1)).toNat x8))),(1011,Mg b6 x5)] a w:=s.pick [0,2,3,4,5,12,13,14,1000,1001,1002,1003,1004,1005,1006,1007,1008,1009,1010,1011];obtain rfl:=si hm;exact s.fi
    ·refine wpIn_skip ?_;obtain rfl:=si hm;exact s.fi
   ·replace hm:=hkz7;refine R0 2 s λa w s=>?_;exact ⟨_,hm,s.fi⟩
  ·refine wpIn_exit ?_;obtain rfl:=si hm;exact s.fi
 ·obtain rfl:=si hm;exact rze [1000,1001,1002,1003,1004,1005,1006,1007,1008,1009] () hM hD s I rv0 (kc I (kc I (kc I (kc I (kc I (kc I (kc I (kc I (kc I (kc I kn)))))))))) I
def m252_l1 (f:Nat) (v1:Int) (v3:List Signal) (x6:(List Bool)):Nat->(Int×(List Bool)×(List Int)×(List Int))->Option (Int×(List Bool)×(List Int)×(List Int))
 | 0,_=>none
 | n+1,z10=>(bif (decide (z10.1 < (v3.length:Int))) then (idx v3 z10.1).bind λx13=>(idx (List.range 3) x13.Kind).bind λx15=>(idx z10.2.1 z10.1).bind λx16=>(idx z10.2.2.1 z10.1).bind λx17=>(m259 f x13.On x6).bind λx18=>(bif (x13.Kind == (1:Int)) then (m259 f x13.Off x6).bind λx19=>some x19 else some false).bind λr20=>((bif x15 == 0 then m261 f (⟨x16,x17,false⟩:Change) x18 r20 else bif x15 == 1 then m262 f (⟨x16,x17,false⟩:Change) x18 r20 else bif x15 == 2 then m263 f (⟨x16,x17,false⟩:Change) x18 r20 else none)).bind λx24=>(idx z10.2.1 z10.1).bind λx26=>(idx z10.2.2.1 z10.1).bind λx27=>(bif x24.conflict then (app z10.2.2.2 ([(wr (v1 + z10.1))]:List Int)).bind λx29=>some x29 else some z10.2.2.2).bind λz28=>m252_l1 f v1 v3 x6 n ((wr (z10.1 + (1:Int))),(z10.2.1.set z10.1.toNat x24.value),(z10.2.2.1.set z10.1.toNat x24.timer),z28) else some (z10.1,z10.2.1,z10.2.2.1,z10.2.2.2))
def m252 (f:Nat) (v0:Int) (v1:Int) (v2:List ByteArray) (v3:List Signal) (v4:List Int) (v5:List Int) (v6:List Int) (v7:List Bool) (v8:List Bool) (v9:List Bool) (v10:List Int):Option (Bool×(List Int)×(List Bool)×(List Int)):=(m251 f (⟨v6,v7,v8,v9,v10⟩:State)).bind λx1=>(m256 f v0 v1 v2 v3 v4 v5 v6 v7 v8 v9 v10).bind λx4=>(m257 f v0 v1 v2 v3 v4 v5 v6 v7 v8 x4 v10).bind λx6=>(m258 f).bind λx8=>(m252_l1 f v1 v3 x6 f ((0:Int),x4,v10,([]:List Int))).bind λo11s=>(m43 f (⟨x1.1,x1.2.1,x1.2.2.1,x1.2.2.2.1,x1.2.2.2.2⟩:State) (⟨v6,v7,v8,o11s.2.1,o11s.2.2.1⟩:State)).bind λx31=>some ((!x31),o11s.2.2.2,o11s.2.1,o11s.2.2.1)
theorem s252 (f:Nat) (n0:Nat) (n1:Value) (n2:Value) (n3:Value) (n4:Value) (n5:Value) (n6:Value) (n7:Value) (n8:Value) (n9:Value) (v0:Int) (v1:Int) (v2:List ByteArray) (v3:List Signal) (v4:List Int) (v5:List Int) (v6:List Int) (v7:List Bool) (v8:List Bool) (v9:List Bool) (v10:List Int) (r:Bool×(List Int)×(List Bool)×(List Int)) (hm:m252 f v0 v1 v2 v3 v4 v5 v6 v7 v8 v9 v10=some r):Cg Tryz.prog 252 [Qv (pb n0 0)] [Mr n0 [(.int .i64 v0),n1,n2,n3,n4,n5,n6,n7,n8,n9,(.int .i64 v1)],At n1 (Va v2),At n2 (Va v3),At n3 (Va v4),At n4 (Va v5),Ow 3 n5 v6,Ow 4 n6 v7,Ow 4 n7 v8,Ow 4 n8 v9,Ow 3 n9 v10] (Rz (λx:Unit=>T2 (Va r.1) (Va r.2.1)) (λx=>[Mr n0 [(.int .i64 v0),n1,n2,n3,n4,n5,n6,n7,n8,n9,(.int .i64 v1)],At n1 (Va v2),At n2 (Va v3),At n3 (Va v4),At n4 (Va v5),Ow 3 n5 v6,Ow 4 n6 v7,Ow 4 n7 v8,Ow 4 n8 r.2.2.1,Ow 3 n9 r.2.2.2])):=by
 unfold m252 at hm;refine eng func252 kr_ I ntmps252 I I λM W a hM hD s=>?_;refine R 2 s λa w s=>?_;obtain ⟨x1,hx1,hm⟩:=bk hm;refine se (rg (ru 3 s λa w s=>sq s (lra (K:=1000) (ds:=[n5,n6,n7,n8,n9]) State (t I) I I I I) I λa w s=>sqz [1010,1011,1012,1013,1014] hM s (tfg (k:=1009) (flz (λ_=>fla) (λ_=>(flc flo (flc flo (flc flo (flc flo (flc flo fln))))))) I (tfg (k:=1008) (flz (λ_=>fla) (λ_=>(flc flo (flc flo (flc flo (flc flo (flc flo fln))))))) I (tfg (k:=1007) (flz (λ_=>fla) (λ_=>(flc flo (flc flo (flc flo (flc flo (flc flo fln))))))) I (tfg (k:=1006) (flz (λ_=>fla) (λ_=>(flc flo (flc flo (flc flo (flc flo (flc flo fln))))))) I (tfg (k:=1005) (flz (λ_=>fla) (λ_=>(flc flo (flc flo (flc flo (flc flo (flc flo fln))))))) I (cc I (oc (qad (y:=(⟨v6,v7,v8,v9,v10⟩:State)) (t I) (rpS76 (l:=([n5],[n6],[n7],[n8],[n9])) (rpz (k:=1005) I) (rpz (k:=1006) I) (rpz (k:=1007) I) (rpz (k:=1008) I) (rpz (k:=1009) I)) I) on) (s251 f _ _ hx1.e))))))) (λ_=>I) I I λy2 a w s=>aR 1015 s λb3 a w s=>sra (K:=1015) (m:=[y2.1,y2.2.1,y2.2.2.1,y2.2.2.2.1,y2.2.2.2.2]) (cs':=[y2.1,y2.2.1,y2.2.2.1,y2.2.2.2.1,y2.2.2.2.2]) s (t I) I (t I) kr_ I I I λw s=>nl ?_));obtain ⟨x4,hx4,hm⟩:=bk hm;refine se (rg (ru 1 s λa w s=>cgv [1000,1001,1002,1003,1004,1005,1006,1007,1008,1009] [1000,1001,1002,1003,1004,1005,1006,1007,1008,1009] hM s qf I (oc (t I) on) vn vn (s256 f n0 n1 n2 n3 n4 n5 n6 n7 n8 n9 _ _ _ _ _ _ _ _ _ _ _ _ hx4.e) (kc I (kc I (kc I (kc I (kc I (kc I (kc I (kc I (kc I (kc I kn)))))))))) I (λ_=>I) I I I λy5 a w s=>nl ?_));obtain ⟨x6,hx6,hm⟩:=bk hm;refine se (rg (ru 1 s λa w s=>cgv [1000,1001,1002,1003,1004,1005,1006,1007,1008,1009] [1000,1001,1002,1003,1004,1005,1006,1007,1008,1009,1016] hM s qf I (oc (t I) on) vn vn (s257 f n0 n1 n2 n3 n4 n5 n6 n7 n8 n9 _ _ _ _ _ _ _ _ _ _ _ _ hx6.e) (kc I (kc I (kc I (kc I (kc I (kc I (kc I (kc I (kc I (kc I kn)))))))))) I (λ_=>I) I I I λy7 a w s=>cB s hm (s258 f) λx8 hm a w s=>aR 1017 s λb9 a w s=>ru 1 s λa w s=>sra (K:=1017) (m:=[(fv 261 [] []),(fv 262 [] []),(fv 263 [] [])]) (cs':=[(fv 261 [] []),(fv 262 [] []),(fv 263 [] [])]) s (t I) I (t I) kr_ I I I λw s=>nl ?_));refine R 1 s λa w s=>?_;refine se (se (rg (ru 5 s λa w s=>sq s (ln (ta (k:=1002) (t I) I)) I λa w s=>ru 1 s λa w s=>nl ?_)));refine nilt (α:=Int) (d:=7) 1018 3 s I I λc12 s=>?_;refine lA1 hm [0,2,3,4,5,6,25,26,1000,1001,1002,1003,1004,1005,1006,1007,1015,1010,1011,1012,1013,1014,1016,1017] s (λz10 z10c0=>[(7,Qv z10c0),(27,Va z10.1),(1008,Ow 4 n8 z10.2.1),(1009,Ow 3 n9 z10.2.2.1),(1018,Ow 3 z10c0 z10.2.2.2)]) ⟨c12,s.fi⟩ (λ_=>I) (λo11s hko11 n z10 a w hm s=>?_) λo11s hm a w s=>?_
 ·obtain ⟨z10c0,s⟩:=s;unfold m252_l1 at hm;refine R 1 s λa w s=>?_;refine se (cmt s hm (λhb hm=>?_) λhb hm=>?_)
  ·refine se (wpIn_block ?_);obtain ⟨x13,hx13,hm⟩:=bk hm;refine se (rg (ru 1 s λa w s=>sq s (ix (ta (k:=1002) (t I) I) (t I) hx13.e) I λa w s=>ru 1 s λa w s=>aR 1019 s λb14 a w s=>ru 1 s λa w s=>sW s I λw s=>nl ?_));obtain ⟨x15,hx15,hm⟩:=bk hm;obtain ⟨x16,hx16,hm⟩:=bk hm;obtain ⟨x17,hx17,hm⟩:=bk hm;obtain ⟨x18,hx18,hm⟩:=bk hm;obtain ⟨r20,hr20,hm⟩:=bs hm;have gr20:=gT hr20;have er20:=gF hr20;obtain ⟨x19,hx19,gr20⟩:=gk gr20;obtain ⟨x24,hx24,hm⟩:=bk hm;have:=pka gr20 er20;refine se (flow s (m:=36) (.cons (.cons (.cons (.cong (.cong (.cong (.cong (.cons (.cons (.cons (.cons (.cons (.cons (.cons (.cons (.cons (.cons (.cons (.cons (.cons (.cons (.cons (.cons (.cons (.cons (.cons (.cons (.cons (.cons (.cons (.cons (.cons (.cons (.cons (.cons (.cons .nil I (fm_ (off:=1) (m:=0) (q:=1) (t I) kr_ I)) I (lf (K:=1019) (f:=Signal.Kind) (t I) I)) I (iax (e:=327) (t I) (t I) kr_ kr_ hx15.e)) I (lsel (K:=1017) (ds:=[(fv 261 [] []),(fv 262 [] []),(fv 263 [] [])]) (t I) I I (idxr hx15.e).1 (Nat.le_of_ble_eq_true I) kr_)) I (mvq (t I))) I (nkq (t I))) I (fm_ (off:=5) (m:=4) (q:=5) (t I) kr_ I)) I (fm_ (off:=3) (m:=0) (q:=8) (t I) kr_ I)) I (lrc (K:=1000) (List Bool) (t I) I I I I)) I (mv (t I))) I (ixq (α:=Bool) (k:=1008) (t I) I (t I) hx16.e)) I (lq (k:=1008) (t I) I (idxg hx16.e))) I (mvq (t I))) I (nkq (t I))) I (fm_ (off:=5) (m:=4) (q:=5) (t I) kr_ I)) I (fm_ (off:=4) (m:=0) (q:=9) (t I) kr_ I)) I (lrc (K:=1000) (List Int) (t I) I I I I)) I (mv (t I))) I (ixq (α:=Int) (k:=1009) (t I) I (t I) hx17.e)) I (lq (k:=1009) (t I) I (idxg hx17.e))) I (bl331_0_1_2 (t I) (t I) cb)) I (fm_ (off:=2) (m:=2) (q:=2) (t I) kr_ I)) I (lf (K:=1019) (f:=Signal.On) (t I) I)) I (mvq (t I))) I (tfg (k:=1016) fl1 I (cc I (oc (t I) (oc (ta (k:=1016) (t I) I) on)) (s259 f _ _ _ hx18.e)))) I (fm_ (off:=1) (m:=0) (q:=1) (t I) kr_ I)) I (lf (K:=1019) (f:=Signal.Kind) (t I) I)) I (eq (t I) ci)) I (mv (t I))) I I I (λhb=>(fm_ (off:=5) (m:=2) (q:=5) (t I) kr_ I))) I I I (λhb=>(lf (K:=1019) (f:=Signal.Off) (tg I hb) I))) I I I (λhb=>(mvq (t I)))) I I I (λhb=>(tfg (k:=1016) fl1 I (cc I (oc (tg I hb) (oc (ta (k:=1016) (tg I hb) I) on)) (s259 f _ _ _ (hx19.h hb)))))) I (pa (t I) I (λh=>si (gr20 h)) (λh=>(si (er20 h)).symm))) I (bifE hx24.e (λhj hx=>(ccv (qsel hj (t I) I) I (oc (t I) (oc (t I) (oc (t I) on))) vn vn (s261 f _ _ _ _ hx))) (λ_ hx=>(bifE hx (λhj hx=>(ccv (qsel hj (t I) I) I (oc (t I) (oc (t I) (oc (t I) on))) vn vn (s262 f _ _ _ _ hx))) (λ_ hx=>(bifE hx (λhj hx=>(ccv (qsel hj (t I) I) I (oc (t I) (oc (t I) (oc (t I) on))) vn vn (s263 f _ _ _ _ hx))) (λ_ hx=>(bifN hx)))))))) I (al (z:=(⟨false,(0:Int),false⟩:Change)))) kr_ I I λa w s=>opb (d:=10) 1020 s I I λb25 s=>sw (K:=1020) s (t I) I (t I) I λw s=>nl ?_);obtain ⟨x26,hx26,hm⟩:=bk hm;obtain ⟨x27,hx27,hm⟩:=bk hm;refine se (flow2 [(8,Va z10.1),(10,Qv (pb b25 0)),(1020,Mg b25 x24)] [0,1,2,3,4,5,6,7,8,9,10,12,13,16] [67,68,69,70,71,72,73,74,75,76,77,79,80,83] [] [81] [82,81,78] [(17,[]),(18,[82,81,78]),(19,[])] s (.skip (.skip (.skip (.cons (.late (.late (.cons (.cons (.late (.cons (.cons (.cons (.cons (.cons (.cons (.cons (.cons (.cons (.cons (.cons .nil I I (mvq (t I))) I I (nkq (t I))) I I (fm_ (off:=5) (m:=4) (q:=5) (t I) kr_ I)) I I (fm_ (off:=3) (m:=0) (q:=8) (t I) kr_ I)) I I (lrc (K:=1000) (List Bool) (t I) I I I I)) I I (mv (t I))) I I (mvq (t I))) I I (nkq (t I))) I I (fm_ (off:=5) (m:=4) (q:=5) (t I) kr_ I)) I I (fm_ (off:=4) (m:=0) (q:=9) (t I) kr_ I)) I I (lrc (K:=1000) (List Int) (t I) I I I I)) I I (mv (t I))) I I (fm_ (off:=0) (m:=0) (q:=0) (t I) kr_ I)) I I (lf (K:=1020) (f:=Change.value) (t I) I)) I I (fm_ (off:=1) (m:=0) (q:=1) (t I) kr_ I)) I I (lf (K:=1020) (f:=Change.timer) (t I) I)) I I (ixq (α:=Bool) (k:=1008) (t I) I (t I) hx26.e)) I) I) I) kr_ kr_ I I (sb1 I (sb1 I (sb1 I sb0))) I (by decide) I I ?_)
   refine ⟨⟨λ_=>I,I,.inr ⟨(sb1 I (sb1 I (sb1 I sb0))),sb0,(sn2 I sn0)⟩⟩,by kernel_rfl,_,I,λΨ a w s=>stq (k:=1008) s (t I) I (idxg hx26.e) (t I) λw s=>nl ?_⟩;refine nxt Ψ s ?_;refine ⟨⟨λ_=>I,I,.inr ⟨(sb1 I (sb1 I (sb1 I sb0))),sb0,(sn2 I sn0)⟩⟩,by kernel_rfl,_,I,λΨ a w s=>sq s (ixq (α:=Int) (k:=1009) (t I) I (t I) hx27.e) I λa w s=>nl ?_⟩;refine nxt Ψ s ?_;refine ⟨⟨λ_=>I,I,.inl I⟩,by kernel_rfl,_,I,λΨ a w s=>stq (k:=1009) s (t I) I (idxg hx27.e) (t I) λw s=>nl ?_⟩;refine nxt Ψ s ?_;refine ⟨⟨λ_=>I,I,.inl I⟩,λa w s=>?_⟩;replace s:St M W 105 [(0,Qv (pb n0 0)),(2,Va false),(3,Qv nz),(4,Qv (pb b3 0)),(5,Qv y7),(6,Qv (pb b9 0)),(7,Qv z10c0),(8,Va z10.1),(9,Qv (pb b14 0)),(10,Qv (pb b25 0)),(25,Qv n2),(26,Va ((v3.length:Int))),(27,Va z10.1),(1000,Mr n0 [(.int .i64 v0),n1,n2,n3,n4,n5,n6,n7,n8,n9,(.int .i64 v1)]),(1001,At n1 (Va v2)),(1002,At n2 (Va v3)),(1003,At n3 (Va v4)),(1004,At n4 (Va v5)),(1005,Ow 3 n5 v6),(1006,Ow 4 n6 v7),(1007,Ow 4 n7 v8),(1008,Ow 4 n8 ((z10.2.1.set z10.1.toNat x24.value))),(1009,Ow 3 n9 ((z10.2.2.1.set z10.1.toNat x24.timer))),(1015,Mr b3 [y2.1,y2.2.1,y2.2.2.1,y2.2.2.2.1,y2.2.2.2.2]),(1010,Ow 3 y2.1 x1.1),(1011,Ow 4 y2.2.1 x1.2.1),(1012,Ow 4 y2.2.2.1 x1.2.2.1),(1013,Ow 4 y2.2.2.2.1 x1.2.2.2.1),(1014,Ow 3 y2.2.2.2.2 x1.2.2.2.2),(1016,Ow 4 y7 x6),(1017,Mr b9 [(fv 261 [] []),(fv 262 [] []),(fv 263 [] [])]),(1018,Ow 3 z10c0 z10.2.2.2),(1019,Mg b14 x13),(1020,Mg b25 x24)] a w:=s.pick [0,2,3,4,5,6,7,8,9,10,25,26,27,1000,1001,1002,1003,1004,1005,1006,1007,1008,1009,1015,1010,1011,1012,1013,1014,1016,1017,1018,1019,1020];refine R 2 s λa w s=>?_;obtain ⟨z28,hz28,hkz28⟩:=bs hm;refine cP1 [0,2,3,4,5,6,8,9,10,25,26,27,1000,1001,1002,1003,1004,1005,1006,1007,1008,1009,1015,1010,1011,1012,1013,1014,1016,1017,1019,1020] s (λz28c0=>[(7,Qv z28c0),(1018,Ow 3 z28c0 z28)]) ?_ λa w s=>?_
   ·refine cm s I hz28 (λhb hm=>?_) (λhb hm=>?_)
    ·obtain ⟨x29,hx29,hm⟩:=bk hm;refine rg (ru 6 s λa w s=>sq s (ad (qi (t I)) (t I)) I λa w s=>ru 1 s λa w s=>apd (α:=Int) (k:=1018) s (t I) I (t I) hx29.e I I λc30 a w s=>ru 1 s λa w s=>nl ?_);obtain rfl:=si hm;exact ⟨c30,s.fi⟩
    ·refine wpIn_skip ?_;obtain rfl:=si hm;exact ⟨z10c0,s.fi⟩
   ·obtain ⟨z28c0,s⟩:=s;replace hm:=hkz28;refine R0 2 s λa w s=>?_;exact ⟨_,hm,⟨z28c0,s.fi⟩⟩
  ·refine wpIn_exit ?_;obtain rfl:=si hm;exact ⟨z10c0,s.fi⟩
 ·obtain ⟨o11sc0,s⟩:=s;obtain ⟨x31,hx31,hm⟩:=bk hm;refine se (flow2 [(7,Qv o11sc0)] [0,1,2,3,4,5,6] [97,98,99,100,101,102,103] [] [] [104] [(8,[]),(9,[104])] s (.skip (.skip (.late (.cons (.cons (.cons (.cons (.cons (.cons (.cons .nil I I (lra (K:=1015) (ds:=[y2.1,y2.2.1,y2.2.2.1,y2.2.2.2.1,y2.2.2.2.2]) State (t I) I I I I)) I I (mvq (t I))) I I (nkq (t I))) I I (fm_ (off:=5) (m:=4) (q:=5) (t I) kr_ I)) I I (lra (K:=1000) (ds:=[n5,n6,n7,n8,n9]) State (t I) I I I I)) I I (tfg (k:=1009) fl1 I (tfg (k:=1008) fl1 I (tfg (k:=1007) fl1 I (tfg (k:=1006) fl1 I (tfg (k:=1005) fl1 I (tfg (k:=1014) fl1 I (tfg (k:=1013) fl1 I (tfg (k:=1012) fl1 I (tfg (k:=1011) fl1 I (tfg (k:=1010) fl1 I (cc I (oc (qad (y:=(⟨x1.1,x1.2.1,x1.2.2.1,x1.2.2.2.1,x1.2.2.2.2⟩:State)) (t I) (rpS76 (l:=([y2.1],[y2.2.1],[y2.2.2.1],[y2.2.2.2.1],[y2.2.2.2.2])) (rpz (k:=1010) I) (rpz (k:=1011) I) (rpz (k:=1012) I) (rpz (k:=1013) I) (rpz (k:=1014) I)) I) (oc (qad (y:=(⟨v6,v7,v8,o11s.2.1,o11s.2.2.1⟩:State)) (t I) (rpS76 (l:=([n5],[n6],[n7],[n8],[n9])) (rpz (k:=1005) I) (rpz (k:=1006) I) (rpz (k:=1007) I) (rpz (k:=1008) I) (rpz (k:=1009) I)) I) on)) (s43 f _ _ _ hx31.e))))))))))))) I I (nt (t I))) I I (mvq (t I))) I) I) kr_ kr_ I I (sb1 I sb0) I (by decide) I I ?_);refine ⟨⟨λ_=>I,I,.inr ⟨(sb1 I sb0),sb0,sn0⟩⟩,by kernel_rfl,_,I,λΨ a w s=>sq s (sa (t I)) I λa w s=>nl ?_⟩;refine nxt Ψ s ?_;refine ⟨⟨λ_=>I,I,.inr ⟨(sb1 I sb0),sb0,sn0⟩⟩,by kernel_rfl,_,I,λΨ a w s=>sq s (saq (t I)) I λa w s=>nl ?_⟩;refine nxt Ψ s ?_;refine ⟨⟨λ_=>I,I,.inl I⟩,λa w s=>?_⟩;replace s:St M W 105 [(0,Qv (pb n0 0)),(2,Va ((!x31))),(3,Qv o11sc0),(4,Qv (pb b3 0)),(5,Qv y7),(6,Qv (pb b9 0)),(7,Qv o11sc0),(25,Qv n2),(26,Va ((v3.length:Int))),(27,Va o11s.1),(1000,Mr n0 [(.int .i64 v0),n1,n2,n3,n4,n5,n6,n7,n8,n9,(.int .i64 v1)]),(1001,At n1 (Va v2)),(1002,At n2 (Va v3)),(1003,At n3 (Va v4)),(1004,At n4 (Va v5)),(1005,Ow 3 n5 v6),(1006,Ow 4 n6 v7),(1007,Ow 4 n7 v8),(1008,Ow 4 n8 o11s.2.1),(1009,Ow 3 n9 o11s.2.2.1),(1018,Ow 3 o11sc0 o11s.2.2.2),(1015,Mr b3 [y2.1,y2.2.1,y2.2.2.1,y2.2.2.2.1,y2.2.2.2.2]),(1010,Ow 3 y2.1 x1.1),(1011,Ow 4 y2.2.1 x1.2.1),(1012,Ow 4 y2.2.2.1 x1.2.2.1),(1013,Ow 4 y2.2.2.2.1 x1.2.2.2.1),(1014,Ow 3 y2.2.2.2.2 x1.2.2.2.2),(1016,Ow 4 y7 x6),(1017,Mr b9 [(fv 261 [] []),(fv 262 [] []),(fv 263 [] [])])] a w:=s.pick [0,2,3,4,5,6,7,25,26,27,1000,1001,1002,1003,1004,1005,1006,1007,1008,1009,1018,1015,1010,1011,1012,1013,1014,1016,1017];obtain rfl:=si hm;refine fzk (α:=Int) (k:=1018) hM s I λs=>?_;refine wpIn_ret ?_;exact rz [1000,1001,1002,1003,1004,1005,1006,1007,1008,1009] () hM hD s I (rv2 (rt I) (ro (ta (k:=1018) (t I) I))) (kc I (kc I (kc I (kc I (kc I (kc I (kc I (kc I (kc I (kc I kn)))))))))) I
def m243_l1 (f:Nat) (v0:Int) (v1:Int) (v2:List ByteArray) (v3:List Signal) (v4:List Int) (v5:List Int) (v6:List Int) (v7:List Bool) (v8:List Bool):Nat->(Int×(List Bool)×(List Int)×(List Int))->Option (Lo (Int×(List Bool)×(List Int)×(List Int)) (Int×Int×(List Bool)×(List Int)×(List Int)))
 | 0,_=>none
 | n+1,z1=>(bif (decide (z1.1<=(64:Int))) then (m252 f v0 v1 v2 v3 v4 v5 v6 v7 v8 z1.2.1 z1.2.2.1).bind λx4=>(app z1.2.2.2 x4.2.1).bind λx6=>(bif (!x4.1) then (m112 f x6).bind λx8=>(m58 f x8).bind λx10=>some (.ret (z1.1,(0:Int),x4.2.2.1,x4.2.2.2,x10)) else m243_l1 f v0 v1 v2 v3 v4 v5 v6 v7 v8 n ((wr (z1.1 + (1:Int))),x4.2.2.1,x4.2.2.2,x6)) else some (.brk (z1.1,z1.2.1,z1.2.2.1,z1.2.2.2)))
def m243 (f:Nat) (v0:Int) (v1:Int) (v2:List ByteArray) (v3:List Signal) (v4:List Int) (v5:List Int) (v6:List Int) (v7:List Bool) (v8:List Bool) (v9:List Bool) (v10:List Int):Option (Int×Int×(List Bool)×(List Int)×(List Int)):=((m243_l1 f v0 v1 v2 v3 v4 v5 v6 v7 v8 f ((0:Int),v9,v10,([]:List Int))).bind λo2=>match o2 with | .brk o2s=>some ((0:Int),(21:Int),o2s.2.1,o2s.2.2.1,([]:List Int)) | .ret r=>some r)
theorem s243 (f:Nat) (n0:Nat) (n1:Value) (n2:Value) (n3:Value) (n4:Value) (n5:Value) (n6:Value) (n7:Value) (n8:Value) (n9:Value) (v0:Int) (v1:Int) (v2:List ByteArray) (v3:List Signal) (v4:List Int) (v5:List Int) (v6:List Int) (v7:List Bool) (v8:List Bool) (v9:List Bool) (v10:List Int) (r:Int×Int×(List Bool)×(List Int)×(List Int)) (hm:m243 f v0 v1 v2 v3 v4 v5 v6 v7 v8 v9 v10=some r):Cg Tryz.prog 243 [Qv (pb n0 0)] [Mr n0 [(.int .i64 v0),n1,n2,n3,n4,n5,n6,n7,n8,n9,(.int .i64 v1)],At n1 (Va v2),At n2 (Va v3),At n3 (Va v4),At n4 (Va v5),Ow 3 n5 v6,Ow 4 n6 v7,Ow 4 n7 v8,Ow 4 n8 v9,Ow 3 n9 v10] (Rz (λx:Value=>T3 (Va r.1) (Qv x) (Va r.2.1)) (λx=>[Mr n0 [(.int .i64 v0),n1,n2,n3,n4,n5,n6,n7,n8,n9,(.int .i64 v1)],At n1 (Va v2),At n2 (Va v3),At n3 (Va v4),At n4 (Va v5),Ow 3 n5 v6,Ow 4 n6 v7,Ow 4 n7 v8,Ow 4 n8 r.2.2.1,Ow 3 n9 r.2.2.2.1,Ow 3 x r.2.2.2.2])):=by
 unfold m243 at hm;refine eng func243 kr_ I ntmps243 I I λM W a hM hD s=>?_;refine R 3 s λa w s=>?_;refine R 1 s λa w s=>?_;refine se (R 1 s λa w s=>?_);refine nilt (α:=Int) (d:=5) 1010 3 s I I λc3 s=>?_;refine lB1 hm [0,2,3,4,1000,1001,1002,1003,1004,1005,1006,1007] s (λz1 z1c0=>[(5,Qv z1c0),(6,Va z1.1),(1008,Ow 4 n8 z1.2.1),(1009,Ow 3 n9 z1.2.2.1),(1010,Ow 3 z1c0 z1.2.2.2)]) ⟨c3,s.fi⟩ (λ_=>I) (λo2 hko2 n z1 a w hm s=>?_) λo2s hm a w s=>?_
 ·obtain ⟨z1c0,s⟩:=s;unfold m243_l1 at hm;refine se (R 2 s λa w s=>?_);refine cmt s hm (λhb hm=>?_) λhb hm=>?_
  ·refine se (wpIn_block ?_);obtain ⟨x4,hx4,hm⟩:=bk hm;refine se (rg (ru 1 s λa w s=>cgv [1000,1001,1002,1003,1004,1005,1006,1007,1008,1009] [1000,1001,1002,1003,1004,1005,1006,1007,1008,1009] hM s qf I (oc (t I) on) vn vn (s252 f n0 n1 n2 n3 n4 n5 n6 n7 n8 n9 _ _ _ _ _ _ _ _ _ _ _ _ hx4.e) (kc I (kc I (kc I (kc I (kc I (kc I (kc I (kc I (kc I (kc I kn)))))))))) I (λ_=>I) I I I λy5 a w s=>ru 5 s λa w s=>nl ?_));obtain ⟨x6,hx6,hm⟩:=bk hm;refine se (rg (ru 2 s λa w s=>apd (α:=Int) (k:=1010) s (t I) I (t I) hx6.e I I λc7 a w s=>ru 1 s λa w s=>nl ?_));refine R 2 s λa w s=>?_;refine cmf s hm (λhb hm=>?_) λhb hm=>?_
   ·obtain ⟨x8,hx8,hm⟩:=bk hm;refine se (rg (ru 1 s λa w s=>cgv [1010] [1010] hM s qf I (oc (t I) on) vn vn (s112 f c7 _ _ hx8.e) (kc I kn) I (λ_=>I) I I I λy9 a w s=>nl ?_));obtain ⟨x10,hx10,hm⟩:=bk hm;refine se (rg (ru 2 s λa w s=>cgv [1010] [1010] hM s qf I (oc (t I) on) vn vn (s58 f c7 _ _ hx10.e) (kc I kn) I (λ_=>I) I I I λy11 a w s=>ru 3 s λa w s=>nl ?_));obtain rfl:=si hm;replace hm:=hko2;dsimp only at hm;obtain rfl:=si hm;refine wpIn_ret ?_;exact rz [1000,1001,1002,1003,1004,1005,1006,1007,1008,1009,1010] y11 hM hD s I (rv3 (rt I) (rt I) (rt I)) (kc I (kc I (kc I (kc I (kc I (kc I (kc I (kc I (kc I (kc I (kc I kn))))))))))) I
   ·refine R0 3 s λa w s=>?_;exact ⟨_,hm,⟨c7,s.fi⟩⟩
  ·refine wpIn_exit ?_;exact ⟨_,(si hm).symm,⟨z1c0,s.fi⟩⟩
 ·obtain ⟨o2sc0,s⟩:=s;dsimp only at hm;refine R 3 s λa w s=>?_;obtain rfl:=si hm;refine nilt (α:=Int) (d:=3) 1012 3 s I I λc12 s=>?_;refine wpIn_ret ?_;exact rz [1000,1001,1002,1003,1004,1005,1006,1007,1008,1009,1012] c12 hM hD s I (rv3 (rt I) (rt I) (rt I)) (kc I (kc I (kc I (kc I (kc I (kc I (kc I (kc I (kc I (kc I (kc I kn))))))))))) I
def m215 (f:Nat) (v0:Control) (v1:State):Option (State×Int×(List Int)):=(m242 f v0 v1).bind λx2=>match x2 with | .inl x2=>(bif (x2 != (0:Int)) then some ((⟨([]:List Int),([]:List Bool),([]:List Bool),([]:List Bool),([]:List Int)⟩:State),x2,([]:List Int)) else none) | .inr x2=>(bif (x2.1 != (0:Int)) then some ((⟨([]:List Int),([]:List Bool),([]:List Bool),([]:List Bool),([]:List Int)⟩:State),x2.1,([]:List Int)) else (m243 f x2.2.1 x2.2.2.1 x2.2.2.2.1 x2.2.2.2.2.1 x2.2.2.2.2.2.1 x2.2.2.2.2.2.2.1 x2.2.2.2.2.2.2.2.1 x2.2.2.2.2.2.2.2.2.1 x2.2.2.2.2.2.2.2.2.2.1 x2.2.2.2.2.2.2.2.2.2.2.1 x2.2.2.2.2.2.2.2.2.2.2.2).bind λx5=>(bif (x5.2.1 != (0:Int)) then some ((⟨([]:List Int),([]:List Bool),([]:List Bool),([]:List Bool),([]:List Int)⟩:State),x5.2.1,([]:List Int)) else some ((⟨x2.2.2.2.2.2.2.2.1,x2.2.2.2.2.2.2.2.2.1,x2.2.2.2.2.2.2.2.2.2.1,x5.2.2.1,x5.2.2.2.1⟩:State),(0:Int),x5.2.2.2.2)))
theorem s215 (f:Nat) (v0:Control) (v1:State) (r:State×Int×(List Int)) (hm:m215 f v0 v1=some r):Sp Tryz.prog 215 [Va v0,Va v1] (Rz (λx:Value=>T3 (Va r.1) (Qv x) (Va r.2.1)) (λx=>[Ow 3 x r.2.2])):=by
 unfold m215 at hm;refine ens func215 kr_ I ntmps215 I I λM W a hM hD s=>?_;refine se (rg (ru 2 s λa w s=>aR 1000 s λb1 a w s=>ru 2 s λa w s=>nl ?_));obtain ⟨x2,hx2,hm⟩:=bk hm;rcases x2 with x2 | x2
 ·dsimp only at hm;refine se (rg (ru 2 s λa w s=>sq s (cc I (oc (t I) (oc (t I) on)) (smR (R:=(T2 (Qv (.pointer none)) (Va x2))) (s242 f _ _ _ hx2.e))) I λa w s=>ru 5 s λa w s=>nl ?_));refine se (R 2 s λa w s=>?_);refine cmf s hm (λhb hm=>?_) λhb hm=>?_
  ·refine se (rg (sq s (bla (L:=[(0,1),(1,1),(2,1),(3,1),(4,1)]) (z:=[nz,nz,nz,nz,nz]) (res:=[nz,nz,nz,nz,nz]) I kr_ kr_ pdn I I) I λa w s=>ru 1 s λa w s=>sra (K:=1000) (m:=[nz,nz,nz,nz,nz]) (cs':=[nz,nz,nz,nz,nz]) s (t I) I (t I) kr_ I I I λw s=>ru 2 s λa w s=>nl ?_));obtain rfl:=si hm;refine shut (k:=1000) (x:=(⟨([]:List Int),([]:List Bool),([]:List Bool),([]:List Bool),([]:List Int)⟩:State)) s I (rpS76 (l:=([nz],[nz],[nz],[nz],[nz])) (rpn (α:=Int)) (rpn (α:=Bool)) (rpn (α:=Bool)) (rpn (α:=Bool)) (rpn (α:=Int))) λs=>?_;refine nilt (α:=Int) (d:=5) 1001 3 s I I λc3 s=>?_;refine wpIn_ret ?_;exact rz [1001] c3 hM hD s I (rv3 (rc (K:=1000) I I) (rt I) (rt I)) (kc I kn) I
  ·cases hm
 ·dsimp only at hm;refine se (rg (ru 2 s λa w s=>sqz [1001,1002,1003,1004,1005,1006,1007,1008,1009,1010] hM s (cc I (oc (t I) (oc (t I) on)) (smR (R:=(Rz (λx:Nat×Value×Value×Value×Value×Value×Value×Value×Value×Value=>T2 (Qv (pb x.1 0)) (Va x2.1)) (λx=>[Mr x.1 [(.int .i64 x2.2.1),x.2.1,x.2.2.1,x.2.2.2.1,x.2.2.2.2.1,x.2.2.2.2.2.1,x.2.2.2.2.2.2.1,x.2.2.2.2.2.2.2.1,x.2.2.2.2.2.2.2.2.1,x.2.2.2.2.2.2.2.2.2,(.int .i64 x2.2.2.1)],At x.2.1 (Va x2.2.2.2.1),At x.2.2.1 (Va x2.2.2.2.2.1),At x.2.2.2.1 (Va x2.2.2.2.2.2.1),At x.2.2.2.2.1 (Va x2.2.2.2.2.2.2.1),Ow 3 x.2.2.2.2.2.1 x2.2.2.2.2.2.2.2.1,Ow 4 x.2.2.2.2.2.2.1 x2.2.2.2.2.2.2.2.2.1,Ow 4 x.2.2.2.2.2.2.2.1 x2.2.2.2.2.2.2.2.2.2.1,Ow 4 x.2.2.2.2.2.2.2.2.1 x2.2.2.2.2.2.2.2.2.2.2.1,Ow 3 x.2.2.2.2.2.2.2.2.2 x2.2.2.2.2.2.2.2.2.2.2.2]))) (s242 f _ _ _ hx2.e))) (λ_=>I) I I λy3 a w s=>ru 5 s λa w s=>nl ?_));refine se (R 2 s λa w s=>?_);refine cmf s hm (λhb hm=>?_) λhb hm=>?_
  ·refine se (rg (sq s (bla (L:=[(0,1),(1,1),(2,1),(3,1),(4,1)]) (z:=[nz,nz,nz,nz,nz]) (res:=[nz,nz,nz,nz,nz]) I kr_ kr_ pdn I I) I λa w s=>ru 1 s λa w s=>sra (K:=1000) (m:=[nz,nz,nz,nz,nz]) (cs':=[nz,nz,nz,nz,nz]) s (t I) I (t I) kr_ I I I λw s=>ru 2 s λa w s=>nl ?_));obtain rfl:=si hm;refine shut (k:=1000) (x:=(⟨([]:List Int),([]:List Bool),([]:List Bool),([]:List Bool),([]:List Int)⟩:State)) s I (rpS76 (l:=([nz],[nz],[nz],[nz],[nz])) (rpn (α:=Int)) (rpn (α:=Bool)) (rpn (α:=Bool)) (rpn (α:=Bool)) (rpn (α:=Int))) λs=>?_;refine nilt (α:=Int) (d:=5) 1011 3 s I I λc4 s=>?_;refine wpIn_ret ?_;exact rz [1011] c4 hM hD s I (rv3 (rc (K:=1000) I I) (rt I) (rt I)) (kc I kn) I
  ·obtain ⟨x5,hx5,hm⟩:=bk hm;refine se (rg (ru 1 s λa w s=>cgv [1001,1002,1003,1004,1005,1006,1007,1008,1009,1010] [1001,1002,1003,1004,1005,1006,1007,1008,1009,1010,1012] hM s qf I (oc (t I) on) vn vn (s243 f y3.1 y3.2.1 y3.2.2.1 y3.2.2.2.1 y3.2.2.2.2.1 y3.2.2.2.2.2.1 y3.2.2.2.2.2.2.1 y3.2.2.2.2.2.2.2.1 y3.2.2.2.2.2.2.2.2.1 y3.2.2.2.2.2.2.2.2.2 _ _ _ _ _ _ _ _ _ _ _ _ hx5.e) (kc I (kc I (kc I (kc I (kc I (kc I (kc I (kc I (kc I (kc I kn)))))))))) I (λ_=>I) I I I λy6 a w s=>ru 7 s λa w s=>nl ?_));refine se (R 2 s λa w s=>?_);refine cmf s hm (λhb hm=>?_) λhb hm=>?_
   ·refine se (rg (sq s (bla (L:=[(0,1),(1,1),(2,1),(3,1),(4,1)]) (z:=[nz,nz,nz,nz,nz]) (res:=[nz,nz,nz,nz,nz]) I kr_ kr_ pdn I I) I λa w s=>ru 1 s λa w s=>sra (K:=1000) (m:=[nz,nz,nz,nz,nz]) (cs':=[nz,nz,nz,nz,nz]) s (t I) I (t I) kr_ I I I λw s=>ru 2 s λa w s=>nl ?_));obtain rfl:=si hm;refine shut (k:=1000) (x:=(⟨([]:List Int),([]:List Bool),([]:List Bool),([]:List Bool),([]:List Int)⟩:State)) s I (rpS76 (l:=([nz],[nz],[nz],[nz],[nz])) (rpn (α:=Int)) (rpn (α:=Bool)) (rpn (α:=Bool)) (rpn (α:=Bool)) (rpn (α:=Int))) λs=>?_;refine nilt (α:=Int) (d:=5) 1013 3 s I I λc7 s=>?_;refine wpIn_ret ?_;exact rz [1013] c7 hM hD s I (rv3 (rc (K:=1000) I I) (rt I) (rt I)) (kc I kn) I
   ·refine se (rg (ru 3 s λa w s=>sq s (lra (K:=1001) (ds:=[y3.2.2.2.2.2.1,y3.2.2.2.2.2.2.1,y3.2.2.2.2.2.2.2.1,y3.2.2.2.2.2.2.2.2.1,y3.2.2.2.2.2.2.2.2.2]) State (t I) I I I I) I λa w s=>ru 1 s λa w s=>sra (K:=1000) (m:=[y3.2.2.2.2.2.1,y3.2.2.2.2.2.2.1,y3.2.2.2.2.2.2.2.1,y3.2.2.2.2.2.2.2.2.1,y3.2.2.2.2.2.2.2.2.2]) (cs':=[y3.2.2.2.2.2.1,y3.2.2.2.2.2.2.1,y3.2.2.2.2.2.2.2.1,y3.2.2.2.2.2.2.2.2.1,y3.2.2.2.2.2.2.2.2.2]) s (t I) I (t I) kr_ I I I λw s=>ru 2 s λa w s=>nl ?_));obtain rfl:=si hm;refine fzk (α:=Int) (k:=1006) hM s I λs=>?_;refine fzk (α:=Bool) (k:=1007) hM s I λs=>?_;refine fzk (α:=Bool) (k:=1008) hM s I λs=>?_;refine fzk (α:=Bool) (k:=1009) hM s I λs=>?_;refine fzk (α:=Int) (k:=1010) hM s I λs=>?_;refine shut (k:=1000) (x:=(⟨x2.2.2.2.2.2.2.2.1,x2.2.2.2.2.2.2.2.2.1,x2.2.2.2.2.2.2.2.2.2.1,x5.2.2.1,x5.2.2.2.1⟩:State)) s I (rpS76 (l:=([y3.2.2.2.2.2.1],[y3.2.2.2.2.2.2.1],[y3.2.2.2.2.2.2.2.1],[y3.2.2.2.2.2.2.2.2.1],[y3.2.2.2.2.2.2.2.2.2])) (rpz (k:=1006) I) (rpz (k:=1007) I) (rpz (k:=1008) I) (rpz (k:=1009) I) (rpz (k:=1010) I)) λs=>?_;refine wpIn_ret ?_;exact rz [1012] y6 hM hD s I (rv3 (rc (K:=1000) I I) (rt I) (rt I)) (kc I kn) I
def m184_l1 (f:Nat) (v0:Control) (x2:State×Int×(List Int)):Nat->(Int×(List Int)×(List Int)×(List Bool))->Option (Int×(List Int)×(List Int)×(List Bool))
 | 0,_=>none
 | n+1,z9=>(bif (decide (z9.1 < v0.Actuators)) then (idx v0.Plus z9.1).bind λx11=>(m216 f v0 x2.1 x11).bind λx12=>(idx v0.Minus z9.1).bind λx13=>(m216 f v0 x2.1 x13).bind λx14=>(bif (x12 && x14) then (app z9.2.1 ([(wr ((wr ((wr ((wr ((2:Int) * v0.Actuators)) + (v0.Inputs.length:Int))) + (v0.Signals.length:Int))) + z9.1))]:List Int)).bind λx16=>some (x16,z9.2.2.2) else (bif (x12 || x14) then (idx z9.2.2.2 z9.1).bind λx19=>some (z9.2.2.2.set z9.1.toNat x12) else some z9.2.2.2).bind λz18=>some (z9.2.1,z18)).bind λz15=>(idx z9.2.2.1 z9.1).bind λx20=>(idx z15.2 z9.1).bind λx22=>(bif x22 then some ((2:Int),(1:Int)) else some ((0:Int),(3:Int))).bind λz23=>(bif ((x20 != z23.1) && (x20 != z23.2)) then (idx z9.2.2.1 z9.1).bind λx25=>some (z9.2.2.1.set z9.1.toNat z23.2) else some z9.2.2.1).bind λz24=>m184_l1 f v0 x2 n ((wr (z9.1 + (1:Int))),z15.1,z24,z15.2) else some (z9.1,z9.2.1,z9.2.2.1,z9.2.2.2))
def m184 (f:Nat) (v0:Control) (v1:State):Option (State×Int×(List Int)):=(m215 f v0 v1).bind λx2=>(bif (x2.2.1 != (0:Int)) then some ((⟨([]:List Int),([]:List Bool),([]:List Bool),([]:List Bool),([]:List Int)⟩:State),x2.2.1,([]:List Int)) else (m173 f x2.1).bind λx6=>(m184_l1 f v0 x2 f ((0:Int),x2.2.2,x6.1,x6.2.1)).bind λo10s=>some ((⟨o10s.2.2.1,o10s.2.2.2,x6.2.2.1,x6.2.2.2.1,x6.2.2.2.2⟩:State),(0:Int),o10s.2.1))
theorem s184 (f:Nat) (v0:Control) (v1:State) (r:State×Int×(List Int)) (hm:m184 f v0 v1=some r):Sp Tryz.prog 184 [Va v0,Va v1] (Rz (λx:Value=>T3 (Va r.1) (Qv x) (Va r.2.1)) (λx=>[Ow 3 x r.2.2])):=by
 unfold m184 at hm;refine ens func184 kr_ I ntmps184 I I λM W a hM hD s=>?_;refine se (rg (ru 2 s λa w s=>aR 1000 s λb1 a w s=>ru 2 s λa w s=>nl ?_));obtain ⟨x2,hx2,hm⟩:=bk hm;refine se (rg (ru 2 s λa w s=>sqz [1001] hM s (cc I (oc (t I) (oc (t I) on)) (s215 f _ _ _ hx2.e)) (λ_=>I) I I λy3 a w s=>ru 4 s λa w s=>aR 1002 s λb4 a w s=>sW s I λw s=>ru 2 s λa w s=>nl ?_));refine se (R 2 s λa w s=>?_);refine cmf s hm (λhb hm=>?_) λhb hm=>?_
 ·refine se (rg (sq s (bla (L:=[(0,1),(1,1),(2,1),(3,1),(4,1)]) (z:=[nz,nz,nz,nz,nz]) (res:=[nz,nz,nz,nz,nz]) I kr_ kr_ pdn I I) I λa w s=>ru 1 s λa w s=>sra (K:=1000) (m:=[nz,nz,nz,nz,nz]) (cs':=[nz,nz,nz,nz,nz]) s (t I) I (t I) kr_ I I I λw s=>ru 2 s λa w s=>nl ?_));obtain rfl:=si hm;refine shut (k:=1000) (x:=(⟨([]:List Int),([]:List Bool),([]:List Bool),([]:List Bool),([]:List Int)⟩:State)) s I (rpS76 (l:=([nz],[nz],[nz],[nz],[nz])) (rpn (α:=Int)) (rpn (α:=Bool)) (rpn (α:=Bool)) (rpn (α:=Bool)) (rpn (α:=Int))) λs=>?_;refine nilt (α:=Int) (d:=5) 1003 3 s I I λc5 s=>?_;refine wpIn_ret ?_;exact rz [1003] c5 hM hD s I (rv3 (rc (K:=1000) I I) (rt I) (rt I)) (kc I kn) I
 ·obtain ⟨x6,hx6,hm⟩:=bk hm;refine se (rg (ru 1 s λa w s=>sqz [1004,1005,1006,1007,1008] hM s (cc I (oc (t I) on) (s173 f _ _ hx6.e)) (λ_=>I) I I λy7 a w s=>aR 1009 s λb8 a w s=>sra (K:=1009) (m:=[y7.1,y7.2.1,y7.2.2.1,y7.2.2.2.1,y7.2.2.2.2]) (cs':=[y7.1,y7.2.1,y7.2.2.1,y7.2.2.2.1,y7.2.2.2.2]) s (t I) I (t I) kr_ I I I λw s=>nl ?_));refine R 12 s λa w s=>?_;refine se (R 3 s λa w s=>?_);refine lA1 hm [0,1,2,3,4,5,6,7,9,10,11,42,1000,1002,1009,1006,1007,1008] s (λz9 z9c0=>[(8,Qv z9c0),(43,Va z9.1),(1001,Ow 3 z9c0 z9.2.1),(1004,Ow 3 y7.1 z9.2.2.1),(1005,Ow 4 y7.2.1 z9.2.2.2)]) ⟨y3,s.fi⟩ (λ_=>I) (λo10s hko10 n z9 a w hm s=>?_) λo10s hm a w s=>?_
  ·obtain ⟨z9c0,s⟩:=s;unfold m184_l1 at hm;refine R 1 s λa w s=>?_;refine se (cmt s hm (λhb hm=>?_) λhb hm=>?_)
   ·refine se (wpIn_block ?_);refine R 2 s λa w s=>?_;obtain ⟨x11,hx11,hm⟩:=bk hm;obtain ⟨x12,hx12,hm⟩:=bk hm;obtain ⟨x13,hx13,hm⟩:=bk hm;obtain ⟨x14,hx14,hm⟩:=bk hm;refine se (fW 16 s kr_ I I λa w s=>ru 2 s λa w s=>nl ?_);refine se (wpIn_block ?_);refine R 5 s λa w s=>?_;obtain ⟨z15,hz15,hkz15⟩:=bs hm;refine cP1 [0,1,2,3,4,5,6,7,9,10,11,12,13,14,42,43,1000,1002,1009,1004,1006,1007,1008] s (λz15c0=>[(8,Qv z15c0),(1001,Ow 3 z15c0 z15.1),(1005,Ow 4 y7.2.1 z15.2)]) ?_ λa w s=>?_
    ·refine cm s I hz15 (λhb hm=>?_) (λhb hm=>?_)
     ·obtain ⟨x16,hx16,hm⟩:=bk hm;refine rg (ru 5 s λa w s=>apd (α:=Int) (k:=1001) s (t I) I (t I) hx16.e I I λc17 a w s=>ru 1 s λa w s=>nl ?_);obtain rfl:=si hm;exact ⟨c17,s.fi⟩
     ·refine R 5 s λa w s=>?_;obtain ⟨z18,hz18,hkz18⟩:=bs hm;refine cP [0,1,2,3,4,5,6,7,8,9,10,11,12,13,14,42,43,1000,1002,1001,1009,1004,1006,1007,1008] s [(1005,Ow 4 y7.2.1 z18)] ?_ λa w s=>?_
      ·refine cm s I hz18 (λhb hm=>?_) (λhb hm=>?_)
       ·obtain ⟨x19,hx19,hm⟩:=bk hm;refine rg (ru 5 s λa w s=>stq (k:=1005) s (t I) I (idxg hx19.e) (t I) λw s=>nl ?_);obtain rfl:=si hm;exact s.fi
       ·refine wpIn_skip ?_;obtain rfl:=si hm;exact s.fi
      ·replace hm:=hkz18;obtain rfl:=si hm;exact ⟨z9c0,s.fi⟩
    ·obtain ⟨z15c0,s⟩:=s;replace hm:=hkz15;obtain ⟨x20,hx20,hm⟩:=bk hm;refine se (rg (ru 5 s λa w s=>sq s (bly (e:=3) (len:=2) (z:=[(.int .i64 (0:Int)),(.int .i64 (0:Int))]) (cs:=[(.int .i64 (0:Int)),(.int .i64 (3:Int))]) I (cd1 (iq ci) (ocr I) (cd1 (iq ci) (ocr I) cd0)) kr_ kr_ kr_ I) I λa w s=>aR 1011 s λb21 a w s=>ru 1 s λa w s=>sra (K:=1011) (m:=[(.int .i64 (0:Int)),(.int .i64 (3:Int))]) (cs':=[(.int .i64 (0:Int)),(.int .i64 (3:Int))]) s (t I) I (t I) kr_ I I I λw s=>nl ?_));refine se ?_;obtain ⟨x22,hx22,hm⟩:=bk hm;refine R 5 s λa w s=>?_;obtain ⟨z23,hz23,hkz23⟩:=bs hm;refine cP [0,1,2,3,4,5,6,7,8,9,10,11,12,13,14,15,16,42,43,1000,1002,1001,1009,1004,1005,1006,1007,1008] s [(1011,Mr b21 [(.int .i64 z23.1),(.int .i64 z23.2)])] ?_ λa w s=>?_
     ·refine cm s I hz23 (λhb hm=>?_) (λhb hm=>?_)
      ·refine rg (sq s (bly (e:=3) (len:=2) (z:=[(.int .i64 (0:Int)),(.int .i64 (0:Int))]) (cs:=[(.int .i64 (2:Int)),(.int .i64 (1:Int))]) I (cd1 (iq ci) (ocr I) (cd1 (iq ci) (ocr I) cd0)) kr_ kr_ kr_ I) I λa w s=>sra (K:=1011) (m:=[(.int .i64 (2:Int)),(.int .i64 (1:Int))]) (cs':=[(.int .i64 (2:Int)),(.int .i64 (1:Int))]) s (t I) I (t I) kr_ I I I λw s=>nl ?_);obtain rfl:=si hm;exact s.fi
      ·refine wpIn_skip ?_;obtain rfl:=si hm;exact s.fi
     ·replace hm:=hkz23;refine se (rg (ru 1 s λa w s=>sq s (iax (e:=3) (len:=2) (j:=0) (t I) ci kr_ kr_ kr_) I λa w s=>ru 1 s λa w s=>sq s (ne (t I) (qi (t I))) I λa w s=>ru 2 s λa w s=>sg s I I (λhb=>(iax (e:=3) (len:=2) (j:=1) (t I) ci kr_ kr_ kr_)) I λa w s=>ru 1 s λa w s=>sg s I I (λhb=>(ne (tg I hb) (qi (tg I hb)))) I λa w s=>ru 1 s λa w s=>nl ?_));obtain ⟨z24,hz24,hkz24⟩:=bs hm;refine cP [0,1,2,3,4,5,6,7,8,9,10,11,12,13,14,15,16,42,43,1000,1002,1001,1009,1005,1006,1007,1008,1011] s [(1004,Ow 3 y7.1 z24)] ?_ λa w s=>?_
      ·refine cm s I hz24 (λhb hm=>?_) (λhb hm=>?_)
       ·obtain ⟨x25,hx25,hm⟩:=bk hm;refine rg (ru 3 s λa w s=>sq s (iax (e:=3) (len:=2) (j:=1) (t I) ci kr_ kr_ kr_) I λa w s=>ru 2 s λa w s=>stq (k:=1004) s (t I) I (idxg hx25.e) (qi (t I)) λw s=>nl ?_);obtain rfl:=si hm;exact s.fi
       ·refine wpIn_skip ?_;obtain rfl:=si hm;exact s.fi
      ·replace hm:=hkz24;refine R0 2 s λa w s=>?_;exact ⟨_,hm,⟨z15c0,s.fi⟩⟩
   ·refine wpIn_exit ?_;obtain rfl:=si hm;exact ⟨z9c0,s.fi⟩
  ·obtain ⟨o10sc0,s⟩:=s;refine se (rg (sq s (lra (K:=1009) (ds:=[y7.1,y7.2.1,y7.2.2.1,y7.2.2.2.1,y7.2.2.2.2]) State (t I) I I I I) I λa w s=>ru 1 s λa w s=>sra (K:=1000) (m:=[y7.1,y7.2.1,y7.2.2.1,y7.2.2.2.1,y7.2.2.2.2]) (cs':=[y7.1,y7.2.1,y7.2.2.1,y7.2.2.2.1,y7.2.2.2.2]) s (t I) I (t I) kr_ I I I λw s=>ru 2 s λa w s=>nl ?_));obtain rfl:=si hm;refine fzk (α:=Int) (k:=1004) hM s I λs=>?_;refine fzk (α:=Bool) (k:=1005) hM s I λs=>?_;refine fzk (α:=Bool) (k:=1006) hM s I λs=>?_;refine fzk (α:=Bool) (k:=1007) hM s I λs=>?_;refine fzk (α:=Int) (k:=1008) hM s I λs=>?_;refine shut (k:=1000) (x:=(⟨o10s.2.2.1,o10s.2.2.2,x6.2.2.1,x6.2.2.2.1,x6.2.2.2.2⟩:State)) s I (rpS76 (l:=([y7.1],[y7.2.1],[y7.2.2.1],[y7.2.2.2.1],[y7.2.2.2.2])) (rpz (k:=1004) I) (rpz (k:=1005) I) (rpz (k:=1006) I) (rpz (k:=1007) I) (rpz (k:=1008) I)) λs=>?_;refine wpIn_ret ?_;exact rz [1001] o10sc0 hM hD s I (rv3 (rc (K:=1000) I I) (rt I) (rt I)) (kc I kn) I
def m185 (f:Nat) (v0:List Int) (v1:List Int):Option ((List Int)):=(m115 f ([v0,v1]:List (List Int))).bind λx1=>(m112 f x1).bind λx3=>(m58 f x3).bind λx5=>some x5
theorem s185 (f:Nat) (v0:List Int) (v1:List Int) (r:(List Int)) (hm:m185 f v0 v1=some r):Sp Tryz.prog 185 [Va v0,Va v1] (Rz (λx:Value=>Qv x) (λx=>[Ow 3 x r])):=by
 unfold m185 at hm;refine ens func185 kr_ I ntmps185 I I λM W a hM hD s=>?_;refine R 1 s λa w s=>?_;obtain ⟨x1,hx1,hm⟩:=bk hm;refine se (rg (ru 3 s λa w s=>sqz [1000] hM s (cc I (oc (t I) on) (s115 f _ _ hx1.e)) (λ_=>I) I I λy2 a w s=>ru 1 s λa w s=>nl ?_));obtain ⟨x3,hx3,hm⟩:=bk hm;refine se (rg (ru 1 s λa w s=>cgv [1000] [1000] hM s qf I (oc (t I) on) vn vn (s112 f y2 _ _ hx3.e) (kc I kn) I (λ_=>I) I I I λy4 a w s=>nl ?_));obtain ⟨x5,hx5,hm⟩:=bk hm;refine se (rg (ru 1 s λa w s=>cgv [1000] [1000] hM s qf I (oc (t I) on) vn vn (s58 f y2 _ _ hx5.e) (kc I kn) I (λ_=>I) I I I λy6 a w s=>ru 1 s λa w s=>nl ?_));obtain rfl:=si hm;refine wpIn_ret ?_;exact rz [1000] y6 hM hD s I (rv1 (rt I)) (kc I kn) I
def m148_l1 (f:Nat) (v0:Control):Nat->(Int×State×(List Int))->Option (Lo (Int×State×(List Int)) (State×Int×(List Int)))
 | 0,_=>none
 | n+1,z5=>(bif (decide (z5.1 < (65:Int))) then (m184 f v0 z5.2.1).bind λx8=>(bif (x8.2.1 != (0:Int)) then some (.ret ((⟨([]:List Int),([]:List Bool),([]:List Bool),([]:List Bool),([]:List Int)⟩:State),x8.2.1,([]:List Int))) else (m185 f z5.2.2 x8.2.2).bind λx12=>(m43 f x8.1 z5.2.1).bind λx14=>(bif x14 then some (.ret (x8.1,(0:Int),x12)) else m148_l1 f v0 n ((wr (z5.1 + (1:Int))),x8.1,x12))) else some (.brk (z5.1,z5.2.1,z5.2.2)))
def m148 (f:Nat) (v0:Control) (v1:State):Option (State×Int×(List Int)):=(m162 f v0 v1).bind λx3=>(bif (x3 != (0:Int)) then some ((⟨([]:List Int),([]:List Bool),([]:List Bool),([]:List Bool),([]:List Int)⟩:State),x3,([]:List Int)) else ((m148_l1 f v0 f ((0:Int),v1,([]:List Int))).bind λo6=>match o6 with | .brk o6s=>some ((⟨([]:List Int),([]:List Bool),([]:List Bool),([]:List Bool),([]:List Int)⟩:State),(21:Int),([]:List Int)) | .ret r=>some r))
theorem s148 (f:Nat) (v0:Control) (v1:State) (r:State×Int×(List Int)) (hm:m148 f v0 v1=some r):Sp Tryz.prog 148 [Va v0,Va v1] (Rz (λx:Value=>T3 (Va r.1) (Qv x) (Va r.2.1)) (λx=>[Ow 3 x r.2.2])):=by
 unfold m148 at hm;refine ens func148 kr_ I ntmps148 I I λM W a hM hD s=>?_;refine se (rg (sq s (bx (t I)) I λa w s=>sqb 1000 s (bxm (t I)) I I λb1 a w s=>sqr 1001 s (alr (cs:=[nz,nz,nz,nz,nz]) (z:=.agg #[nz,nz,nz,nz,nz]) kr_ I I) I I λb2 a w s=>sq s (saq cq) I λa w s=>sq s (sa ci) I λa w s=>nl ?_));refine se ?_;obtain ⟨x3,hx3,hm⟩:=bs hm;refine se (rg (sq s (ld (t I)) I λa w s=>sq s (lm (K:=1000) (t I) I) I λa w s=>sq s (cc I (oc (t I) (oc (t I) on)) (s162 f _ _ _ hx3)) I λa w s=>sq s (sa (t I)) I λa w s=>nl ?_));refine se (rg (sq s (mv (t I)) I λa w s=>sq s (ne (t I) ci) I λa w s=>nl ?_));refine cm s I hm (λhb hm=>?_) (λhb hm=>?_)
 ·refine se (rg (sq s (bla (L:=[(0,1),(1,1),(2,1),(3,1),(4,1)]) (z:=[nz,nz,nz,nz,nz]) (res:=[nz,nz,nz,nz,nz]) I kr_ kr_ pdn I I) I λa w s=>sq s (mv (t I)) I λa w s=>sra (K:=1001) (m:=[nz,nz,nz,nz,nz]) (cs':=[nz,nz,nz,nz,nz]) s (t I) I (t I) kr_ I I I λw s=>sq s (saq cq) I λa w s=>sq s (sa (t I)) I λa w s=>nl ?_));obtain rfl:=si hm;refine shut (k:=1001) (x:=(⟨([]:List Int),([]:List Bool),([]:List Bool),([]:List Bool),([]:List Int)⟩:State)) s I (rpS76 (l:=([nz],[nz],[nz],[nz],[nz])) (rpn (α:=Int)) (rpn (α:=Bool)) (rpn (α:=Bool)) (rpn (α:=Bool)) (rpn (α:=Int))) λs=>?_;refine nilt (α:=Int) (d:=5) 1002 3 s I I λc4 s=>?_;refine wpIn_ret ?_;exact rz [1002] c4 hM hD s I (rv3 (rc (K:=1001) I I) (rt I) (rt I)) (kc I kn) I
 ·refine wpIn_skip (se (rg (sq s (saq cq) I λa w s=>nl ?_)));refine se (se (rg (sq s (mv ci) I λa w s=>nl ?_)));refine nilt (α:=Int) (d:=8) 1003 3 s I I λc7 s=>?_;obtain ⟨o6,hoo6,hko6⟩:=bs hm;refine lcI o6 (λo6s a w=>∃ (o6sc0:Value),St M W 43 [(0,Va v0),(1,Va v1),(2,Pt v0),(3,Qv (pb b1 0)),(4,Qv (pb b2 0)),(5,Qv nz),(6,Va ((0:Int))),(7,Va x3),(8,Qv o6sc0),(19,Va o6s.1),(1000,Mg b1 o6s.2.1),(1001,Mr b2 [nz,nz,nz,nz,nz]),(1003,Ow 3 o6sc0 o6s.2.2)] a w) ?_ λo6s a w ho s=>?_
  ·refine wpIn_block (loI (λn z5=>m148_l1 f v0 n z5) o6 (λz5 a w=>∃ (z5c0:Value),St M W 43 [(0,Va v0),(1,Va v1),(2,Pt v0),(3,Qv (pb b1 0)),(4,Qv (pb b2 0)),(5,Qv nz),(6,Va ((0:Int))),(7,Va x3),(8,Qv z5c0),(19,Va z5.1),(1000,Mg b1 z5.2.1),(1001,Mr b2 [nz,nz,nz,nz,nz]),(1003,Ow 3 z5c0 z5.2.2)] a w) f ((0:Int),v1,([]:List Int)) ⟨c7,s.pick [0,1,2,3,4,5,6,7,8,19,1000,1001,1003]⟩ hoo6 (λ_=>I) λn z5 a w hm s=>?_);obtain ⟨z5c0,s⟩:=s;replace hm:m148_l1 f v0 (n + 1) z5=some o6:=hm;unfold m148_l1 at hm;refine se (rg (sq s (lt (t I) ci) I λa w s=>nl ?_));refine se (cm s I hm (λhb hm=>?_) (λhb hm=>?_))
   ·refine wpIn_skip (se ?_);refine wpIn_block ?_;obtain ⟨x8,hx8,hm⟩:=bs hm;refine se (rg (sq s (ld (t I)) I λa w s=>sq s (lm (K:=1000) (t I) I) I λa w s=>sqz [1004] hM s (cc I (oc (t I) (oc (t I) on)) (s184 f _ _ _ hx8)) (λ_=>I) I I λy9 a w s=>sq s (mve (t I)) I λa w s=>sq s (Pn.x30 (t I)) I λa w s=>sq s (Pn.x31 (t I)) I λa w s=>sq s (Pn.x32 (t I)) I λa w s=>sqr 1005 s (alr (cs:=[nz,nz,nz,nz,nz]) (z:=.agg #[nz,nz,nz,nz,nz]) kr_ I I) I I λb10 a w s=>swd (K:=1005) s (t I) I (t I) I λw s=>sq s (saq (t I)) I λa w s=>sq s (sa (t I)) I λa w s=>nl ?_));refine se (se (rg (sq s (mv (t I)) I λa w s=>sq s (ne (t I) ci) I λa w s=>nl ?_)));refine cm s I hm (λhb hm=>?_) (λhb hm=>?_)
    ·refine se (rg (sq s (bla (L:=[(0,1),(1,1),(2,1),(3,1),(4,1)]) (z:=[nz,nz,nz,nz,nz]) (res:=[nz,nz,nz,nz,nz]) I kr_ kr_ pdn I I) I λa w s=>sq s (mv (t I)) I λa w s=>sra (K:=1001) (m:=[nz,nz,nz,nz,nz]) (cs':=[nz,nz,nz,nz,nz]) s (t I) I (t I) kr_ I I I λw s=>sq s (saq cq) I λa w s=>sq s (sa (t I)) I λa w s=>nl ?_));obtain rfl:=si hm;replace hm:=hko6;dsimp only at hm;obtain rfl:=si hm;refine shut (k:=1001) (x:=(⟨([]:List Int),([]:List Bool),([]:List Bool),([]:List Bool),([]:List Int)⟩:State)) s I (rpS76 (l:=([nz],[nz],[nz],[nz],[nz])) (rpn (α:=Int)) (rpn (α:=Bool)) (rpn (α:=Bool)) (rpn (α:=Bool)) (rpn (α:=Int))) λs=>?_;refine nilt (α:=Int) (d:=5) 1006 3 s I I λc11 s=>?_;refine wpIn_ret ?_;exact rz [1006] c11 hM hD s I (rv3 (rc (K:=1001) I I) (rt I) (rt I)) (kc I kn) I
    ·refine wpIn_skip ?_;obtain ⟨x12,hx12,hm⟩:=bs hm;refine se (rg (sq s (mvq (t I)) I λa w s=>sq s (mvq (t I)) I λa w s=>sqz [1007] hM s (tfg (k:=1004) (flz (λ_=>flq) (λ_=>(flc flo fln))) I (tfg (k:=1003) (flz (λ_=>flq) (λ_=>(flc flo fln))) I (cc I (oc (ta (k:=1003) (t I) I) (oc (ta (k:=1004) (t I) I) on)) (s185 f _ _ _ hx12)))) (λ_=>I) I I λy13 a w s=>sq s (saq (t I)) I λa w s=>nl ?_));refine se ?_;obtain ⟨x14,hx14,hm⟩:=bs hm;refine se (rg (sq s (lm (K:=1005) (t I) I) I λa w s=>sq s (lm (K:=1000) (t I) I) I λa w s=>sq s (cc I (oc (t I) (oc (t I) on)) (s43 f _ _ _ hx14)) I λa w s=>nl ?_));refine cm s I hm (λhb hm=>?_) (λhb hm=>?_)
     ·refine se (rg (sq s (lm (K:=1005) (t I) I) I λa w s=>sq s (mvq (t I)) I λa w s=>swd (K:=1001) s (t I) I (t I) I λw s=>sq s (saq (t I)) I λa w s=>sq s (sa ci) I λa w s=>nl ?_));obtain rfl:=si hm;replace hm:=hko6;dsimp only at hm;obtain rfl:=si hm;refine wpIn_ret ?_;exact rz [1007] y13 hM hD s I (rv3 (rc (K:=1001) I I) (rt I) (rt I)) (kc I kn) I
     ·refine wpIn_skip (rg (sq s (lm (K:=1005) (t I) I) I λa w s=>sw (K:=1000) s (t I) I (t I) I λw s=>nl ?_));refine rg (sq s (ad (t I) ci) I λa w s=>sq s (mv (t I)) I λa w s=>nl ?_);exact ⟨_,hm,⟨y13,s.rekey (l:=[(0,0),(1,1),(2,2),(3,3),(4,4),(5,5),(6,6),(7,7),(8,8),(19,19),(1000,1000),(1001,1001),(1007,1003)]) (.same I (.same I (.same I (.same I (.same I (.same I (.same I (.same I (.same I (.same I (.same I (.same I (.key (t:=1007) (u:=1003) I .nil))))))))))))) I I⟩⟩
   ·refine wpIn_exit ?_;exact ⟨_,(si hm).symm,⟨z5c0,s.pick [0,1,2,3,4,5,6,7,8,19,1000,1001,1003]⟩⟩
  ·obtain ⟨o6sc0,s⟩:=s;subst ho;replace hm:=hko6;dsimp only at hm;refine se (rg (sq s (bla (L:=[(0,1),(1,1),(2,1),(3,1),(4,1)]) (z:=[nz,nz,nz,nz,nz]) (res:=[nz,nz,nz,nz,nz]) I kr_ kr_ pdn I I) I λa w s=>sra (K:=1001) (m:=[nz,nz,nz,nz,nz]) (cs':=[nz,nz,nz,nz,nz]) s (t I) I (t I) kr_ I I I λw s=>sq s (saq cq) I λa w s=>sq s (sa ci) I λa w s=>nl ?_));obtain rfl:=si hm;refine shut (k:=1001) (x:=(⟨([]:List Int),([]:List Bool),([]:List Bool),([]:List Bool),([]:List Int)⟩:State)) s I (rpS76 (l:=([nz],[nz],[nz],[nz],[nz])) (rpn (α:=Int)) (rpn (α:=Bool)) (rpn (α:=Bool)) (rpn (α:=Bool)) (rpn (α:=Int))) λs=>?_;refine nilt (α:=Int) (d:=5) 1008 3 s I I λc15 s=>?_;refine wpIn_ret ?_;exact rz [1008] c15 hM hD s I (rv3 (rc (K:=1001) I I) (rt I) (rt I)) (kc I kn) I
def m90 (f:Nat) (v0:Control):Option (State×Int×(List Int)):=(m147 f v0).bind λx2=>(bif (x2.2 != (0:Int)) then some ((⟨([]:List Int),([]:List Bool),([]:List Bool),([]:List Bool),([]:List Int)⟩:State),x2.2,([]:List Int)) else (m148 f v0 x2.1).bind λx5=>some (x5.1,x5.2.1,x5.2.2))
theorem s90 (f:Nat) (v0:Control) (r:State×Int×(List Int)) (hm:m90 f v0=some r):Sp Tryz.prog 90 [Va v0] (Rz (λx:Value=>T3 (Va r.1) (Qv x) (Va r.2.1)) (λx=>[Ow 3 x r.2.2])):=by
 unfold m90 at hm;refine ens func90 kr_ I ntmps90 I I λM W a hM hD s=>?_;refine se (rg (ru 1 s λa w s=>aR 1000 s λb1 a w s=>ru 2 s λa w s=>nl ?_));refine se (rg (ru 1 s λa w s=>cB s hm (s147 f _) λx2 hm a w s=>ru 3 s λa w s=>aR 1001 s λb3 a w s=>sW s I λw s=>ru 1 s λa w s=>nl ?_));refine se (R 2 s λa w s=>?_);refine cmf s hm (λhb hm=>?_) λhb hm=>?_
 ·refine se (rg (sq s (bla (L:=[(0,1),(1,1),(2,1),(3,1),(4,1)]) (z:=[nz,nz,nz,nz,nz]) (res:=[nz,nz,nz,nz,nz]) I kr_ kr_ pdn I I) I λa w s=>ru 1 s λa w s=>sra (K:=1000) (m:=[nz,nz,nz,nz,nz]) (cs':=[nz,nz,nz,nz,nz]) s (t I) I (t I) kr_ I I I λw s=>ru 2 s λa w s=>nl ?_));obtain rfl:=si hm;refine shut (k:=1000) (x:=(⟨([]:List Int),([]:List Bool),([]:List Bool),([]:List Bool),([]:List Int)⟩:State)) s I (rpS76 (l:=([nz],[nz],[nz],[nz],[nz])) (rpn (α:=Int)) (rpn (α:=Bool)) (rpn (α:=Bool)) (rpn (α:=Bool)) (rpn (α:=Int))) λs=>?_;refine nilt (α:=Int) (d:=3) 1002 3 s I I λc4 s=>?_;refine wpIn_ret ?_;exact rz [1002] c4 hM hD s I (rv3 (rc (K:=1000) I I) (rt I) (rt I)) (kc I kn) I
 ·obtain ⟨x5,hx5,hm⟩:=bk hm;refine se (rg (ru 2 s λa w s=>sqz [1003] hM s (cc I (oc (t I) (oc (t I) on)) (s148 f _ _ _ hx5.e)) (λ_=>I) I I λy6 a w s=>ru 3 s λa w s=>sW s I λw s=>ru 2 s λa w s=>nl ?_));obtain rfl:=si hm;refine wpIn_ret ?_;exact rz [1003] y6 hM hD s I (rv3 (rc (K:=1000) I I) (rt I) (rt I)) (kc I kn) I
def m170 (f:Nat) (v0:Control) (v1:State):Option (Bool×Int):=(m162 f v0 v1).bind λx1=>(bif (x1 != (0:Int)) then some (false,x1) else (m184 f v0 v1).bind λx2=>(bif (x2.2.1 == (0:Int)) then (m43 f x2.1 v1).bind λx5=>some x5 else some false).bind λr6=>some (r6,(0:Int)))
theorem s170 (f:Nat) (v0:Control) (v1:State) (r:Bool×Int) (hm:m170 f v0 v1=some r):Sp Tryz.prog 170 [Va v0,Va v1] (T2 (Va r.1) (Va r.2)):=by
 unfold m170 at hm;refine ens func170 kr_ I ntmps170 I I λM W a hM hD s=>?_;refine R 4 s λa w s=>?_;refine se (se (rg (ru 2 s λa w s=>cB s hm (s162 f _ _) λx1 hm a w s=>ru 1 s λa w s=>nl ?_)));refine R 2 s λa w s=>?_;refine cmf s hm (λhb hm=>?_) λhb hm=>?_
 ·refine R 3 s λa w s=>?_;cases hm;exact rU hD s I I
 ·obtain ⟨x2,hx2,hm⟩:=bk hm;refine se (rg (ru 2 s λa w s=>sqz [1000] hM s (cc I (oc (t I) (oc (t I) on)) (s184 f _ _ _ hx2.e)) (λ_=>I) I I λy3 a w s=>ru 4 s λa w s=>aR 1001 s λb4 a w s=>sW s I λw s=>ru 2 s λa w s=>nl ?_));obtain ⟨r6,hr6,hm⟩:=bs hm;have gr6:=gT hr6;have er6:=gF hr6;obtain ⟨x5,hx5,gr6⟩:=gk gr6;have:=pka gr6 er6;refine R 9 s λa w s=>?_;cases hm;exact rU hD s I I
def m122 (f:Nat) (v0:Control) (v1:State):Option (Int):=(m170 f v0 v1).bind λx1=>(bif (x1.2 != (0:Int)) then some x1.2 else (bif (!x1.1) then some (14:Int) else some (0:Int)))
theorem s122 (f:Nat) (v0:Control) (v1:State) (r:Int) (hm:m122 f v0 v1=some r):Sp Tryz.prog 122 [Va v0,Va v1] (Va r):=by
 unfold m122 at hm;refine ens func122 kr_ I ntmps122 I I λM W a hM hD s=>?_;refine R 3 s λa w s=>?_;refine se (rg (ru 2 s λa w s=>cB s hm (s170 f _ _) λx1 hm a w s=>ru 5 s λa w s=>nl ?_));refine se (wpIn_block ?_);refine R 3 s λa w s=>?_;refine cM s hm (λhb hm=>?_) λhb hm=>?_
 ·refine R 2 s λa w s=>?_;cases hm;exact rT hD s I I
 ·refine R 3 s λa w s=>?_;refine cmf s hm (λhb hm=>?_) λhb hm=>?_
  ·refine R 1 s λa w s=>?_;cases hm;exact rT hD s I I
  ·refine R 1 s λa w s=>?_;cases hm;exact rT hD s I I
def m174 (f:Nat) (v0:Event) (v1:List Int) (v2:List Bool) (v3:List Bool) (v4:List Bool) (v5:List Int):Option (Bool×(List Int)×(List Bool)×(List Bool)×(List Bool)×(List Int)):=(bif ((decide (v0.Index < (0:Int))) || (decide (v0.Index>=(v1.length:Int)))) then some (false,v1,v2,v3,v4,v5) else (idx v1 v0.Index).bind λx1=>(bif (x1 == (1:Int)) then some (true,(v1.set v0.Index.toNat (2:Int)),v2,v3,v4,v5) else (bif (x1 == (3:Int)) then some (true,(v1.set v0.Index.toNat (0:Int)),v2,v3,v4,v5) else some (false,v1,v2,v3,v4,v5))))
theorem s174 (f:Nat) (n0:Nat) (n1:Value) (n2:Value) (n3:Value) (n4:Value) (n5:Value) (v0:Event) (v1:List Int) (v2:List Bool) (v3:List Bool) (v4:List Bool) (v5:List Int) (r:Bool×(List Int)×(List Bool)×(List Bool)×(List Bool)×(List Int)) (hm:m174 f v0 v1 v2 v3 v4 v5=some r):Cg Tryz.prog 174 [Qv (pb n0 0),Va v0] [Mr n0 [n1,n2,n3,n4,n5],Ow 3 n1 v1,Ow 4 n2 v2,Ow 4 n3 v3,Ow 4 n4 v4,Ow 3 n5 v5] (Rz (λx:Unit=>Va r.1) (λx=>[Mr n0 [n1,n2,n3,n4,n5],Ow 3 n1 r.2.1,Ow 4 n2 r.2.2.1,Ow 4 n3 r.2.2.2.1,Ow 4 n4 r.2.2.2.2.1,Ow 3 n5 r.2.2.2.2.2])):=by
 unfold m174 at hm;refine eng func174 kr_ I ntmps174 I I λM W a hM hD s=>?_;refine R 2 s λa w s=>?_;refine se (se (fW 14 s kr_ I I λa w s=>nl ?_));refine cmf s hm (λhb hm=>?_) λhb hm=>?_
 ·refine R 1 s λa w s=>?_;obtain rfl:=si hm;refine wpIn_ret ?_;exact rz [1000,1001,1002,1003,1004,1005] () hM hD s I (rv1 (rt I)) (kc I (kc I (kc I (kc I (kc I (kc I kn)))))) I
 ·refine se ?_;obtain ⟨x1,hx1,hm⟩:=bk hm;refine se (fW 8 s kr_ I I λa w s=>sq s (sae (t I)) I λa w s=>nl ?_);refine se (rg (ru 1 s λa w s=>sq s (nke (t I)) I λa w s=>ru 1 s λa w s=>nl ?_));refine wpIn_block (R 2 s λa w s=>?_);refine cM s hm (λhb hm=>?_) λhb hm=>?_
  ·refine rg (ru 1 s λa w s=>sq s (nke (t I)) I λa w s=>stq (k:=1001) s (t I) I (idxg hx1.e) ci λw s=>nl ?_);refine R 1 s λa w s=>?_;obtain rfl:=si hm;refine wpIn_ret ?_;exact rz [1000,1001,1002,1003,1004,1005] () hM hD s I (rv1 (rt I)) (kc I (kc I (kc I (kc I (kc I (kc I kn)))))) I
  ·refine R 2 s λa w s=>?_;refine cM s hm (λhb hm=>?_) λhb hm=>?_
   ·refine rg (ru 1 s λa w s=>sq s (nke (t I)) I λa w s=>stq (k:=1001) s (t I) I (idxg hx1.e) ci λw s=>nl ?_);refine R 1 s λa w s=>?_;obtain rfl:=si hm;refine wpIn_ret ?_;exact rz [1000,1001,1002,1003,1004,1005] () hM hD s I (rv1 (rt I)) (kc I (kc I (kc I (kc I (kc I (kc I kn)))))) I
   ·refine R 1 s λa w s=>?_;obtain rfl:=si hm;refine wpIn_ret ?_;exact rz [1000,1001,1002,1003,1004,1005] () hM hD s I (rv1 (rt I)) (kc I (kc I (kc I (kc I (kc I (kc I kn)))))) I
def m175 (f:Nat) (v0:Event) (v1:List Int) (v2:List Bool) (v3:List Bool) (v4:List Bool) (v5:List Int):Option (Bool×(List Int)×(List Bool)×(List Bool)×(List Bool)×(List Int)):=(bif ((decide (v0.Index < (0:Int))) || (decide (v0.Index>=(v5.length:Int)))) then some true else (idx v5 v0.Index).bind λx1=>some (x1 != (1:Int))).bind λr2=>(bif r2 then some (false,v1,v2,v3,v4,v5) else (idx v5 v0.Index).bind λx3=>(idx v4 v0.Index).bind λx4=>some (true,v1,v2,v3,(v4.set v0.Index.toNat true),(v5.set v0.Index.toNat (2:Int))))
theorem s175 (f:Nat) (n0:Nat) (n1:Value) (n2:Value) (n3:Value) (n4:Value) (n5:Value) (v0:Event) (v1:List Int) (v2:List Bool) (v3:List Bool) (v4:List Bool) (v5:List Int) (r:Bool×(List Int)×(List Bool)×(List Bool)×(List Bool)×(List Int)) (hm:m175 f v0 v1 v2 v3 v4 v5=some r):Cg Tryz.prog 175 [Qv (pb n0 0),Va v0] [Mr n0 [n1,n2,n3,n4,n5],Ow 3 n1 v1,Ow 4 n2 v2,Ow 4 n3 v3,Ow 4 n4 v4,Ow 3 n5 v5] (Rz (λx:Unit=>Va r.1) (λx=>[Mr n0 [n1,n2,n3,n4,n5],Ow 3 n1 r.2.1,Ow 4 n2 r.2.2.1,Ow 4 n3 r.2.2.2.1,Ow 4 n4 r.2.2.2.2.1,Ow 3 n5 r.2.2.2.2.2])):=by
 unfold m175 at hm;refine eng func175 kr_ I ntmps175 I I λM W a hM hD s=>?_;refine R 2 s λa w s=>?_;refine se ?_;obtain ⟨r2,hr2,hm⟩:=bs hm;have gr2:=gF hr2;have er2:=gT hr2;obtain ⟨x1,hx1,gr2⟩:=gk gr2;have:=pko gr2 er2;refine se (fW 26 s kr_ I I λa w s=>nl ?_);refine cmf s hm (λhb hm=>?_) λhb hm=>?_
 ·refine R 1 s λa w s=>?_;obtain rfl:=si hm;refine wpIn_ret ?_;exact rz [1000,1001,1002,1003,1004,1005] () hM hD s I (rv1 (rt I)) (kc I (kc I (kc I (kc I (kc I (kc I kn)))))) I
 ·obtain ⟨x3,hx3,hm⟩:=bk hm;obtain ⟨x4,hx4,hm⟩:=bk hm;refine se (flow2 [(3,Pt v0)] [0,1,2,3,4,5,6,7,8,9,10,11,14] [31,32,33,34,35,36,37,38,39,40,41,42,45] [] [43] [44,43] [(15,[]),(16,[44,43]),(17,[])] s (.skip (.skip (.skip (.cons (.late (.late (.cons (.cons (.cons (.cons (.cons (.cons (.cons (.cons (.cons (.cons (.cons (.cons .nil I I (mvq (t I))) I I (nkq (t I))) I I (fm_ (off:=0) (m:=4) (q:=0) (t I) kr_ I)) I I (fm_ (off:=4) (m:=0) (q:=4) (t I) kr_ I)) I I (lrc (K:=1000) (List Int) (t I) I I I I)) I I (fa (f:=Event.Index) (t I))) I I (ld (t I))) I I (mvq (t I))) I I (nkq (t I))) I I (fm_ (off:=0) (m:=4) (q:=0) (t I) kr_ I)) I I (fm_ (off:=3) (m:=0) (q:=3) (t I) kr_ I)) I I (lrc (K:=1000) (List Bool) (t I) I I I I)) I I (fa (f:=Event.Index) (t I))) I I (ld (t I))) I I (ixq (α:=Int) (k:=1005) (t I) I (t I) hx3.e)) I) I) I) kr_ kr_ I I (sb1 I sb0) I (by decide) I I ?_);refine ⟨⟨λ_=>I,I,.inr ⟨(sb1 I sb0),sb0,(sn2 I sn0)⟩⟩,by kernel_rfl,_,I,λΨ a w s=>stq (k:=1005) s (t I) I (idxg hx3.e) ci λw s=>nl ?_⟩;refine nxt Ψ s ?_;refine ⟨⟨λ_=>I,I,.inr ⟨(sb1 I sb0),sb0,(sn2 I sn0)⟩⟩,by kernel_rfl,_,I,λΨ a w s=>sq s (ixq (α:=Bool) (k:=1004) (t I) I (t I) hx4.e) I λa w s=>nl ?_⟩;refine nxt Ψ s ?_;refine ⟨⟨λ_=>I,I,.inl I⟩,by kernel_rfl,_,I,λΨ a w s=>stq (k:=1004) s (t I) I (idxg hx4.e) cb λw s=>nl ?_⟩;refine nxt Ψ s ?_;refine ⟨⟨λ_=>I,I,.inl I⟩,λa w s=>?_⟩;replace s:St M W 47 [(0,Qv (pb n0 0)),(1,Va v0),(3,Pt v0),(4,Va false),(1000,Mr n0 [n1,n2,n3,n4,n5]),(1001,Ow 3 n1 v1),(1002,Ow 4 n2 v2),(1003,Ow 4 n3 v3),(1004,Ow 4 n4 ((v4.set v0.Index.toNat true))),(1005,Ow 3 n5 ((v5.set v0.Index.toNat (2:Int))))] a w:=s.pick [0,1,3,4,1000,1001,1002,1003,1004,1005];refine R 1 s λa w s=>?_;obtain rfl:=si hm;refine wpIn_ret ?_;exact rz [1000,1001,1002,1003,1004,1005] () hM hD s I (rv1 (rt I)) (kc I (kc I (kc I (kc I (kc I (kc I kn)))))) I
def m176 (f:Nat) (v0:Event) (v1:List Int) (v2:List Bool) (v3:List Bool) (v4:List Bool) (v5:List Int):Option (Bool×(List Int)×(List Bool)×(List Bool)×(List Bool)×(List Int)):=(bif ((decide (v0.Index < (0:Int))) || (decide (v0.Index>=(v3.length:Int)))) then some true else (idx v3 v0.Index).bind λx1=>some (x1 == v0.Value)).bind λr2=>(bif r2 then some (false,v1,v2,v3,v4,v5) else (idx v3 v0.Index).bind λx3=>some (true,v1,v2,(v3.set v0.Index.toNat v0.Value),v4,v5))
theorem s176 (f:Nat) (n0:Nat) (n1:Value) (n2:Value) (n3:Value) (n4:Value) (n5:Value) (v0:Event) (v1:List Int) (v2:List Bool) (v3:List Bool) (v4:List Bool) (v5:List Int) (r:Bool×(List Int)×(List Bool)×(List Bool)×(List Bool)×(List Int)) (hm:m176 f v0 v1 v2 v3 v4 v5=some r):Cg Tryz.prog 176 [Qv (pb n0 0),Va v0] [Mr n0 [n1,n2,n3,n4,n5],Ow 3 n1 v1,Ow 4 n2 v2,Ow 4 n3 v3,Ow 4 n4 v4,Ow 3 n5 v5] (Rz (λx:Unit=>Va r.1) (λx=>[Mr n0 [n1,n2,n3,n4,n5],Ow 3 n1 r.2.1,Ow 4 n2 r.2.2.1,Ow 4 n3 r.2.2.2.1,Ow 4 n4 r.2.2.2.2.1,Ow 3 n5 r.2.2.2.2.2])):=by
 unfold m176 at hm;refine eng func176 kr_ I ntmps176 I I λM W a hM hD s=>?_;refine R 2 s λa w s=>?_;refine se ?_;obtain ⟨r2,hr2,hm⟩:=bs hm;have gr2:=gF hr2;have er2:=gT hr2;obtain ⟨x1,hx1,gr2⟩:=gk gr2;have:=pko gr2 er2;refine se (fW 28 s kr_ I I λa w s=>nl ?_);refine cmf s hm (λhb hm=>?_) λhb hm=>?_
 ·refine R 1 s λa w s=>?_;obtain rfl:=si hm;refine wpIn_ret ?_;exact rz [1000,1001,1002,1003,1004,1005] () hM hD s I (rv1 (rt I)) (kc I (kc I (kc I (kc I (kc I (kc I kn)))))) I
 ·obtain ⟨x3,hx3,hm⟩:=bk hm;refine se (fW 10 s kr_ I I λa w s=>stq (k:=1003) s (t I) I (idxg hx3.e) (t I) λw s=>nl ?_);refine R 1 s λa w s=>?_;obtain rfl:=si hm;refine wpIn_ret ?_;exact rz [1000,1001,1002,1003,1004,1005] () hM hD s I (rv1 (rt I)) (kc I (kc I (kc I (kc I (kc I (kc I kn)))))) I
def m148_1_l1 (f:Nat) (v0:Control):Nat->(Int×State×(List Int))->Option (Lo (Int×State×(List Int)) (State×(List Int)×Int))
 | 0,_=>none
 | n+1,z4=>(bif (decide (z4.1 < (65:Int))) then (m184 f v0 z4.2.1).bind λx7=>(bif (x7.2.1 != (0:Int)) then some (.ret ((⟨([]:List Int),([]:List Bool),([]:List Bool),([]:List Bool),([]:List Int)⟩:State),([]:List Int),x7.2.1)) else (m185 f z4.2.2 x7.2.2).bind λx10=>(m43 f x7.1 z4.2.1).bind λx12=>(bif x12 then some (.ret (x7.1,x10,(0:Int))) else m148_1_l1 f v0 n ((wr (z4.1 + (1:Int))),x7.1,x10))) else some (.brk (z4.1,z4.2.1,z4.2.2)))
def m148_1 (f:Nat) (v0:Control) (v1:State):Option (State×(List Int)×Int):=(m162 f v0 v1).bind λx3=>(bif (x3 != (0:Int)) then some ((⟨([]:List Int),([]:List Bool),([]:List Bool),([]:List Bool),([]:List Int)⟩:State),([]:List Int),x3) else ((m148_1_l1 f v0 f ((0:Int),v1,([]:List Int))).bind λo5=>match o5 with | .brk o5s=>some ((⟨([]:List Int),([]:List Bool),([]:List Bool),([]:List Bool),([]:List Int)⟩:State),([]:List Int),(21:Int)) | .ret r=>some r))
theorem s148_1 (f:Nat) (v0:Control) (v1:State) (r:State×(List Int)×Int) (hm:m148_1 f v0 v1=some r):Sp Tryz.prog 148 [Va v0,Va v1] (T3 (Va r.1) (Va r.2.1) (Va r.2.2)):=by
 unfold m148_1 at hm;refine ens func148 kr_ I ntmps148 I I λM W a hM hD s=>?_;refine se (rg (sq s (bx (t I)) I λa w s=>sqb 1000 s (bxm (t I)) I I λb1 a w s=>sqr 1001 s (alr (cs:=[nz,nz,nz,nz,nz]) (z:=.agg #[nz,nz,nz,nz,nz]) kr_ I I) I I λb2 a w s=>sq s (saq cq) I λa w s=>sq s (sa ci) I λa w s=>nl ?_));refine se ?_;obtain ⟨x3,hx3,hm⟩:=bs hm;refine se (rg (sq s (ld (t I)) I λa w s=>sq s (lm (K:=1000) (t I) I) I λa w s=>sq s (cc I (oc (t I) (oc (t I) on)) (s162 f _ _ _ hx3)) I λa w s=>sq s (sa (t I)) I λa w s=>nl ?_));refine se (rg (sq s (mv (t I)) I λa w s=>sq s (ne (t I) ci) I λa w s=>nl ?_));refine cm s I hm (λhb hm=>?_) (λhb hm=>?_)
 ·refine se (rg (sq s (bl77_ ) I λa w s=>sq s (mv (t I)) I λa w s=>swd (K:=1001) s (t I) I (t I) I λw s=>sq s (saq cq) I λa w s=>sq s (sa (t I)) I λa w s=>nl ?_));obtain rfl:=si hm;refine wpIn_ret ?_;exact rn hD s I (rv3 (rc (K:=1001) I I) (ro (qns (α:=Int) (t I))) (rt I))
 ·refine wpIn_skip (se (rg (sq s (saq cq) I λa w s=>nl ?_)));refine se (se (rg (sq s (mv ci) I λa w s=>nl ?_)));refine nilt (α:=Int) (d:=8) 1002 3 s I I λc6 s=>?_;obtain ⟨o5,hoo5,hko5⟩:=bs hm;refine lcI o5 (λo5s a w=>∃ (o5sc0:Value),St M W 43 [(0,Va v0),(1,Va v1),(2,Pt v0),(3,Qv (pb b1 0)),(4,Qv (pb b2 0)),(5,Qv nz),(6,Va ((0:Int))),(7,Va x3),(8,Qv o5sc0),(19,Va o5s.1),(1000,Mg b1 o5s.2.1),(1001,Mr b2 [nz,nz,nz,nz,nz]),(1002,Ow 3 o5sc0 o5s.2.2)] a w) ?_ λo5s a w ho s=>?_
  ·refine wpIn_block (loI (λn z4=>m148_1_l1 f v0 n z4) o5 (λz4 a w=>∃ (z4c0:Value),St M W 43 [(0,Va v0),(1,Va v1),(2,Pt v0),(3,Qv (pb b1 0)),(4,Qv (pb b2 0)),(5,Qv nz),(6,Va ((0:Int))),(7,Va x3),(8,Qv z4c0),(19,Va z4.1),(1000,Mg b1 z4.2.1),(1001,Mr b2 [nz,nz,nz,nz,nz]),(1002,Ow 3 z4c0 z4.2.2)] a w) f ((0:Int),v1,([]:List Int)) ⟨c6,s.pick [0,1,2,3,4,5,6,7,8,19,1000,1001,1002]⟩ hoo5 (λ_=>I) λn z4 a w hm s=>?_);obtain ⟨z4c0,s⟩:=s;replace hm:m148_1_l1 f v0 (n + 1) z4=some o5:=hm;unfold m148_1_l1 at hm;refine se (rg (sq s (lt (t I) ci) I λa w s=>nl ?_));refine se (cm s I hm (λhb hm=>?_) (λhb hm=>?_))
   ·refine wpIn_skip (se ?_);refine wpIn_block ?_;obtain ⟨x7,hx7,hm⟩:=bs hm;refine se (rg (sq s (ld (t I)) I λa w s=>sq s (lm (K:=1000) (t I) I) I λa w s=>sqz [1003] hM s (cc I (oc (t I) (oc (t I) on)) (s184 f _ _ _ hx7)) (λ_=>I) I I λy8 a w s=>sq s (mve (t I)) I λa w s=>sq s (Pn.x30 (t I)) I λa w s=>sq s (Pn.x31 (t I)) I λa w s=>sq s (Pn.x32 (t I)) I λa w s=>sqr 1004 s (alr (cs:=[nz,nz,nz,nz,nz]) (z:=.agg #[nz,nz,nz,nz,nz]) kr_ I I) I I λb9 a w s=>swd (K:=1004) s (t I) I (t I) I λw s=>sq s (saq (t I)) I λa w s=>sq s (sa (t I)) I λa w s=>nl ?_));refine se (se (rg (sq s (mv (t I)) I λa w s=>sq s (ne (t I) ci) I λa w s=>nl ?_)));refine cm s I hm (λhb hm=>?_) (λhb hm=>?_)
    ·refine se (rg (sq s (bl77_ ) I λa w s=>sq s (mv (t I)) I λa w s=>swd (K:=1001) s (t I) I (t I) I λw s=>sq s (saq cq) I λa w s=>sq s (sa (t I)) I λa w s=>nl ?_));obtain rfl:=si hm;replace hm:=hko5;dsimp only at hm;obtain rfl:=si hm;refine wpIn_ret ?_;exact rn hD s I (rv3 (rc (K:=1001) I I) (ro (qns (α:=Int) (t I))) (rt I))
    ·refine wpIn_skip ?_;obtain ⟨x10,hx10,hm⟩:=bs hm;refine se (rg (sq s (mvq (t I)) I λa w s=>sq s (mvq (t I)) I λa w s=>sqz [1005] hM s (tfg (k:=1003) (flz (λ_=>flq) (λ_=>(flc flo fln))) I (tfg (k:=1002) (flz (λ_=>flq) (λ_=>(flc flo fln))) I (cc I (oc (ta (k:=1002) (t I) I) (oc (ta (k:=1003) (t I) I) on)) (s185 f _ _ _ hx10)))) (λ_=>I) I I λy11 a w s=>sq s (saq (t I)) I λa w s=>nl ?_));refine se ?_;obtain ⟨x12,hx12,hm⟩:=bs hm;refine se (rg (sq s (lm (K:=1004) (t I) I) I λa w s=>sq s (lm (K:=1000) (t I) I) I λa w s=>sq s (cc I (oc (t I) (oc (t I) on)) (s43 f _ _ _ hx12)) I λa w s=>nl ?_));refine cm s I hm (λhb hm=>?_) (λhb hm=>?_)
     ·refine se (rg (sq s (lm (K:=1004) (t I) I) I λa w s=>sq s (mvq (t I)) I λa w s=>swd (K:=1001) s (t I) I (t I) I λw s=>sq s (saq (t I)) I λa w s=>sq s (sa ci) I λa w s=>nl ?_));obtain rfl:=si hm;replace hm:=hko5;dsimp only at hm;obtain rfl:=si hm;refine fzk (α:=Int) (k:=1005) hM s I λs=>?_;refine wpIn_ret ?_;exact rn hD s I (rv3 (rc (K:=1001) I I) (ro (ta (k:=1005) (t I) I)) (rt I))
     ·refine wpIn_skip (rg (sq s (lm (K:=1004) (t I) I) I λa w s=>sw (K:=1000) s (t I) I (t I) I λw s=>nl ?_));refine rg (sq s (ad (t I) ci) I λa w s=>sq s (mv (t I)) I λa w s=>nl ?_);exact ⟨_,hm,⟨y11,s.rekey (l:=[(0,0),(1,1),(2,2),(3,3),(4,4),(5,5),(6,6),(7,7),(8,8),(19,19),(1000,1000),(1001,1001),(1005,1002)]) (.same I (.same I (.same I (.same I (.same I (.same I (.same I (.same I (.same I (.same I (.same I (.same I (.key (t:=1005) (u:=1002) I .nil))))))))))))) I I⟩⟩
   ·refine wpIn_exit ?_;exact ⟨_,(si hm).symm,⟨z4c0,s.pick [0,1,2,3,4,5,6,7,8,19,1000,1001,1002]⟩⟩
  ·obtain ⟨o5sc0,s⟩:=s;subst ho;replace hm:=hko5;dsimp only at hm;refine se (rg (sq s (bl77_ ) I λa w s=>swd (K:=1001) s (t I) I (t I) I λw s=>sq s (saq cq) I λa w s=>sq s (sa ci) I λa w s=>nl ?_));obtain rfl:=si hm;refine wpIn_ret ?_;exact rn hD s I (rv3 (rc (K:=1001) I I) (ro (qns (α:=Int) (t I))) (rt I))
def m125 (f:Nat) (v0:Control) (v1:State) (v2:Event):Option (State×(List Int)×Int):=(m173 f v1).bind λx2=>(bif ((decide (v2.Kind < (0:Int))) || (decide (v2.Kind>=(3:Int)))) then some ((⟨([]:List Int),([]:List Bool),([]:List Bool),([]:List Bool),([]:List Int)⟩:State),([]:List Int),(1:Int)) else (idx (List.range 3) v2.Kind).bind λx6=>((bif x6 == 0 then m174 f v2 x2.1 x2.2.1 x2.2.2.1 x2.2.2.2.1 x2.2.2.2.2 else bif x6 == 1 then m175 f v2 x2.1 x2.2.1 x2.2.2.1 x2.2.2.2.1 x2.2.2.2.2 else bif x6 == 2 then m176 f v2 x2.1 x2.2.1 x2.2.2.1 x2.2.2.2.1 x2.2.2.2.2 else none)).bind λx9=>(bif (!x9.1) then some ((⟨([]:List Int),([]:List Bool),([]:List Bool),([]:List Bool),([]:List Int)⟩:State),([]:List Int),(14:Int)) else (m148_1 f v0 (⟨x9.2.1,x9.2.2.1,x9.2.2.2.1,x9.2.2.2.2.1,x9.2.2.2.2.2⟩:State)).bind λx11=>some (x11.1,x11.2.1,x11.2.2)))
theorem s125 (f:Nat) (v0:Control) (v1:State) (v2:Event) (r:State×(List Int)×Int) (hm:m125 f v0 v1 v2=some r):Sp Tryz.prog 125 [Va v0,Va v1,Va v2] (T3 (Va r.1) (Va r.2.1) (Va r.2.2)):=by
 unfold m125 at hm;refine ens func125 kr_ I ntmps125 I I λM W a hM hD s=>?_;refine se (rg (ru 3 s λa w s=>aR 1000 s λb1 a w s=>ru 2 s λa w s=>nl ?_));obtain ⟨x2,hx2,hm⟩:=bk hm;refine se (rg (ru 1 s λa w s=>sqz [1001,1002,1003,1004,1005] hM s (cc I (oc (t I) on) (s173 f _ _ hx2.e)) (λ_=>I) I I λy3 a w s=>sq s (bla (L:=[(0,5)]) (z:=[nz,nz,nz,nz,nz]) (res:=[y3.1,y3.2.1,y3.2.2.1,y3.2.2.2.1,y3.2.2.2.2]) I kr_ kr_ (pda (t I) pdn) I I) I λa w s=>sqr 1006 s (bxa (t I)) I I λb4 a w s=>ru 1 s λa w s=>nl ?_));refine se (rg (ru 1 s λa w s=>sq s (mkf I I (qc (t I) qn) qn) I λa w s=>ru 1 s λa w s=>sq s (mkf I I (qc (t I) qn) qn) I λa w s=>ru 1 s λa w s=>sq s (mkf I I (qc (t I) qn) qn) I λa w s=>sq s (bly (e:=240) (len:=3) (z:=[.nilFunc,.nilFunc,.nilFunc]) (cs:=[(fv 174 [(pb b4 0)] []),(fv 175 [(pb b4 0)] []),(fv 176 [(pb b4 0)] [])]) I (cd1 (t I) (ocr I) (cd1 (t I) (ocr I) (cd1 (t I) (ocr I) cd0))) kr_ kr_ kr_ I) I λa w s=>aR 1007 s λb5 a w s=>sra (K:=1007) (m:=[(fv 174 [(pb b4 0)] []),(fv 175 [(pb b4 0)] []),(fv 176 [(pb b4 0)] [])]) (cs':=[(fv 174 [(pb b4 0)] []),(fv 175 [(pb b4 0)] []),(fv 176 [(pb b4 0)] [])]) s (t I) I (t I) kr_ I I I λw s=>nl ?_));refine se (R 8 s λa w s=>?_);refine cmf s hm (λhb hm=>?_) λhb hm=>?_
 ·refine se (rg (sq s (bla (L:=[(0,1),(1,1),(2,1),(3,1),(4,1)]) (z:=[nz,nz,nz,nz,nz]) (res:=[nz,nz,nz,nz,nz]) I kr_ kr_ pdn I I) I λa w s=>sra (K:=1000) (m:=[nz,nz,nz,nz,nz]) (cs':=[nz,nz,nz,nz,nz]) s (t I) I (t I) kr_ I I I λw s=>ru 2 s λa w s=>nl ?_));obtain rfl:=si hm;refine shut (k:=1000) (x:=(⟨([]:List Int),([]:List Bool),([]:List Bool),([]:List Bool),([]:List Int)⟩:State)) s I (rpS76 (l:=([nz],[nz],[nz],[nz],[nz])) (rpn (α:=Int)) (rpn (α:=Bool)) (rpn (α:=Bool)) (rpn (α:=Bool)) (rpn (α:=Int))) λs=>?_;refine wpIn_ret ?_;exact rn hD s I (rv3 (rc (K:=1000) I I) (ro (qns (α:=Int) (t I))) (rt I))
 ·refine se ?_;obtain ⟨x6,hx6,hm⟩:=bk hm;obtain ⟨x9,hx9,hm⟩:=bk hm;refine se (flow s (m:=5) (.cons (.cons (.cons (.cons (.cons .nil I (fa (f:=Event.Kind) (t I))) I (ld (t I))) I (iax (e:=240) (t I) (t I) kr_ kr_ hx6.e)) I (lsel (K:=1007) (ds:=[(fv 174 [(pb b4 0)] []),(fv 175 [(pb b4 0)] []),(fv 176 [(pb b4 0)] [])]) (t I) I I (idxr hx6.e).1 (Nat.le_of_ble_eq_true I) kr_)) I (ld (t I))) kr_ I I λa w s=>cgv [1006,1001,1002,1003,1004,1005] [1006,1001,1002,1003,1004,1005] hM s (qsel3 (selt hx9.e) (t I)) I (oc (t I) on) (vq vn) vn (cgsel3 (Q:=λF=>Cg Tryz.prog F [Qv (pb b4 0),Va v2] [Mr b4 [y3.1,y3.2.1,y3.2.2.1,y3.2.2.2.1,y3.2.2.2.2],Ow 3 y3.1 x2.1,Ow 4 y3.2.1 x2.2.1,Ow 4 y3.2.2.1 x2.2.2.1,Ow 4 y3.2.2.2.1 x2.2.2.2.1,Ow 3 y3.2.2.2.2 x2.2.2.2.2] (Rz (λx:Unit=>Va x9.1) (λx=>[Mr b4 [y3.1,y3.2.1,y3.2.2.1,y3.2.2.2.1,y3.2.2.2.2],Ow 3 y3.1 x9.2.1,Ow 4 y3.2.1 x9.2.2.1,Ow 4 y3.2.2.1 x9.2.2.2.1,Ow 4 y3.2.2.2.1 x9.2.2.2.2.1,Ow 3 y3.2.2.2.2 x9.2.2.2.2.2]))) hx9.e (λh=>s174 f b4 y3.1 y3.2.1 y3.2.2.1 y3.2.2.2.1 y3.2.2.2.2 _ _ _ _ _ _ _ h) (λh=>s175 f b4 y3.1 y3.2.1 y3.2.2.1 y3.2.2.2.1 y3.2.2.2.2 _ _ _ _ _ _ _ h) (λh=>s176 f b4 y3.1 y3.2.1 y3.2.2.1 y3.2.2.2.1 y3.2.2.2.2 _ _ _ _ _ _ _ h)) (kc I (kc I (kc I (kc I (kc I (kc I kn)))))) I (λ_=>I) I I I λy10 a w s=>sq s (nt (t I)) I λa w s=>nl ?_);refine cmf s hm (λhb hm=>?_) λhb hm=>?_
  ·refine se (rg (sq s (bla (L:=[(0,1),(1,1),(2,1),(3,1),(4,1)]) (z:=[nz,nz,nz,nz,nz]) (res:=[nz,nz,nz,nz,nz]) I kr_ kr_ pdn I I) I λa w s=>sra (K:=1000) (m:=[nz,nz,nz,nz,nz]) (cs':=[nz,nz,nz,nz,nz]) s (t I) I (t I) kr_ I I I λw s=>ru 2 s λa w s=>nl ?_));obtain rfl:=si hm;refine shut (k:=1000) (x:=(⟨([]:List Int),([]:List Bool),([]:List Bool),([]:List Bool),([]:List Int)⟩:State)) s I (rpS76 (l:=([nz],[nz],[nz],[nz],[nz])) (rpn (α:=Int)) (rpn (α:=Bool)) (rpn (α:=Bool)) (rpn (α:=Bool)) (rpn (α:=Int))) λs=>?_;refine wpIn_ret ?_;exact rn hD s I (rv3 (rc (K:=1000) I I) (ro (qns (α:=Int) (t I))) (rt I))
  ·refine fzk (α:=Int) (k:=1001) hM s I λs=>?_;refine fzk (α:=Bool) (k:=1002) hM s I λs=>?_;refine fzk (α:=Bool) (k:=1003) hM s I λs=>?_;refine fzk (α:=Bool) (k:=1004) hM s I λs=>?_;refine fzk (α:=Int) (k:=1005) hM s I λs=>?_;obtain ⟨x11,hx11,hm⟩:=bk hm;refine se (flow s (m:=9) (.cons (.cons (.cons (.cons (.cons (.cons (.cons (.cons (.cons .nil I (ld (t I))) I (mvq (t I))) I (nkq (t I))) I (fm_ (off:=0) (m:=4) (q:=0) (t I) kr_ I)) I (lra (K:=1006) (ds:=[y3.1,y3.2.1,y3.2.2.1,y3.2.2.2.1,y3.2.2.2.2]) State (t I) I I I I)) I (cc I (oc (t I) (oc (qad (y:=(⟨x9.2.1,x9.2.2.1,x9.2.2.2.1,x9.2.2.2.2.1,x9.2.2.2.2.2⟩:State)) (t I) (rpS76 (l:=([y3.1],[y3.2.1],[y3.2.2.1],[y3.2.2.2.1],[y3.2.2.2.2])) (rpz (k:=1001) I) (rpz (k:=1002) I) (rpz (k:=1003) I) (rpz (k:=1004) I) (rpz (k:=1005) I)) I) on)) (s148_1 f _ _ _ hx11.e))) I (Pn.x30 (t I))) I (Pn.x31 (t I))) I (Pn.x32 (t I))) kr_ I I λa w s=>sW s I λw s=>sq s (sa (t I)) I λa w s=>sq s (sa (t I)) I λa w s=>nl ?_);cases hm;exact rV hD s I I
def m75 (f:Nat) (v0:Control) (v1:State) (v2:Event):Option (State×(List Int)×Int):=(m122 f v0 v1).bind λx2=>(bif (x2 != (0:Int)) then some ((⟨([]:List Int),([]:List Bool),([]:List Bool),([]:List Bool),([]:List Int)⟩:State),([]:List Int),x2) else (m125 f v0 v1 v2).bind λx3=>some (x3.1,x3.2.1,x3.2.2))
theorem s75 (f:Nat) (v0:Control) (v1:State) (v2:Event) (r:State×(List Int)×Int) (hm:m75 f v0 v1 v2=some r):Sp Tryz.prog 75 [Va v0,Va v1,Va v2] (T3 (Va r.1) (Va r.2.1) (Va r.2.2)):=by
 unfold m75 at hm;refine ens func75 kr_ I ntmps75 I I λM W a hM hD s=>?_;refine se (rg (ru 3 s λa w s=>aR 1000 s λb1 a w s=>ru 2 s λa w s=>nl ?_));refine se (se (rg (ru 2 s λa w s=>cB s hm (s122 f _ _) λx2 hm a w s=>ru 1 s λa w s=>nl ?_)));refine R 2 s λa w s=>?_;refine cmf s hm (λhb hm=>?_) λhb hm=>?_
 ·refine se (rg (sq s (bla (L:=[(0,1),(1,1),(2,1),(3,1),(4,1)]) (z:=[nz,nz,nz,nz,nz]) (res:=[nz,nz,nz,nz,nz]) I kr_ kr_ pdn I I) I λa w s=>ru 1 s λa w s=>sra (K:=1000) (m:=[nz,nz,nz,nz,nz]) (cs':=[nz,nz,nz,nz,nz]) s (t I) I (t I) kr_ I I I λw s=>ru 2 s λa w s=>nl ?_));obtain rfl:=si hm;refine shut (k:=1000) (x:=(⟨([]:List Int),([]:List Bool),([]:List Bool),([]:List Bool),([]:List Int)⟩:State)) s I (rpS76 (l:=([nz],[nz],[nz],[nz],[nz])) (rpn (α:=Int)) (rpn (α:=Bool)) (rpn (α:=Bool)) (rpn (α:=Bool)) (rpn (α:=Int))) λs=>?_;refine wpIn_ret ?_;exact rn hD s I (rv3 (rc (K:=1000) I I) (ro (qns (α:=Int) (t I))) (rt I))
 ·refine se (rg (ru 3 s λa w s=>cB s hm (s125 f _ _ _) λx3 hm a w s=>ru 3 s λa w s=>sW s I λw s=>ru 2 s λa w s=>nl ?_));cases hm;exact rV hD s I I
def m40_l1 (f:Nat) (v0:Control) (v1:List Bool):Nat->(Int×Int×State)->Option (Int×Int×State)
 | 0,_=>none
 | n+1,z6=>(bif (decide (z6.2.1 < (v1.length:Int))) then (idx v1 z6.2.1).bind λx8=>(bif ((z6.1 == (0:Int)) && x8) then (m75 f v0 z6.2.2 (⟨(2:Int),z6.2.1,true⟩:Event)).bind λx10=>some (x10.2.2,x10.1) else some (z6.1,z6.2.2)).bind λz9=>m40_l1 f v0 v1 n (z9.1,(wr (z6.2.1 + (1:Int))),z9.2) else some (z6.1,z6.2.1,z6.2.2))
def m40 (f:Nat) (v0:Control) (v1:List Bool):Option (State×Int):=(m93 f v0).bind λx2=>(bif (x2 != (0:Int)) then some ((⟨([]:List Int),([]:List Bool),([]:List Bool),([]:List Bool),([]:List Int)⟩:State),x2) else (bif ((v1.length:Int) != (v0.Inputs.length:Int)) then some ((⟨([]:List Int),([]:List Bool),([]:List Bool),([]:List Bool),([]:List Int)⟩:State),(8:Int)) else (m90 f v0).bind λx3=>(m40_l1 f v0 v1 f (x3.2.1,(0:Int),x3.1)).bind λo7s=>(bif (o7s.1 != (0:Int)) then some ((⟨([]:List Int),([]:List Bool),([]:List Bool),([]:List Bool),([]:List Int)⟩:State),o7s.1) else some (o7s.2.2,(0:Int)))))
theorem s40 (f:Nat) (v0:Control) (v1:List Bool) (r:State×Int) (hm:m40 f v0 v1=some r):Sp Tryz.prog 40 [Va v0,Va v1] (T2 (Va r.1) (Va r.2)):=by
 unfold m40 at hm;refine ens func40 kr_ I ntmps40 I I λM W a hM hD s=>?_;refine se (rg (ru 1 s λa w s=>aR 1000 s λb1 a w s=>ru 1 s λa w s=>nl ?_));refine se (se (rg (ru 1 s λa w s=>cB s hm (s93 f _) λx2 hm a w s=>ru 1 s λa w s=>nl ?_)));refine R 2 s λa w s=>?_;refine cmf s hm (λhb hm=>?_) λhb hm=>?_
 ·refine se (rg (sq s (bl77_ ) I λa w s=>ru 1 s λa w s=>sW s I λw s=>ru 1 s λa w s=>nl ?_));cases hm;exact rU hD s I I
 ·refine se (R 6 s λa w s=>?_);refine cmf s hm (λhb hm=>?_) λhb hm=>?_
  ·refine se (rg (sq s (bl77_ ) I λa w s=>sW s I λw s=>ru 1 s λa w s=>nl ?_));cases hm;exact rU hD s I I
  ·obtain ⟨x3,hx3,hm⟩:=bk hm;refine se (rg (ru 1 s λa w s=>sqz [1001] hM s (cc I (oc (t I) on) (s90 f _ _ hx3.e)) (λ_=>I) I I λy4 a w s=>ru 4 s λa w s=>aR 1002 s λb5 a w s=>sW s I λw s=>ru 2 s λa w s=>nl ?_));refine se (R 3 s λa w s=>?_);refine lA hm [0,1,2,4,5,6,7,31,32,1000] s (λz6=>[(9,Va z6.1),(33,Va z6.2.1),(1002,Mg b5 z6.2.2)]) s.fi (λ_=>I) (λo7s hko7 n z6 a w hm s=>?_) λo7s hm a w s=>?_
   ·unfold m40_l1 at hm;refine R 1 s λa w s=>?_;refine se (cmt s hm (λhb hm=>?_) λhb hm=>?_)
    ·refine se (wpIn_block ?_);refine se (rg (ru 1 s λa w s=>iB s hm λx8 hm a w s=>ru 3 s λa w s=>nl ?_));refine R 5 s λa w s=>?_;obtain ⟨z9,hz9,hkz9⟩:=bs hm;refine cP [0,1,2,4,5,6,7,10,11,31,32,33,1000] s [(9,Va z9.1),(1002,Mg b5 z9.2)] ?_ λa w s=>?_
     ·refine cm s I hz9 (λhb hm=>?_) (λhb hm=>?_)
      ·refine rg (ru 3 s λa w s=>sq s (bl136_0_1_2 ci (t I) cb) I λa w s=>cB s hm (s75 f _ _ _) λx10 hm a w s=>ru 4 s λa w s=>sw (K:=1002) s (t I) I (t I) I λw s=>ru 1 s λa w s=>nl ?_);obtain rfl:=si hm;exact s.fi
      ·refine wpIn_skip ?_;obtain rfl:=si hm;exact s.fi
     ·replace hm:=hkz9;refine R0 2 s λa w s=>?_;exact ⟨_,hm,s.fi⟩
    ·refine wpIn_exit ?_;obtain rfl:=si hm;exact s.fi
   ·refine se (R 2 s λa w s=>?_);refine cmf s hm (λhb hm=>?_) λhb hm=>?_
    ·refine se (rg (sq s (bl77_ ) I λa w s=>ru 1 s λa w s=>sW s I λw s=>ru 1 s λa w s=>nl ?_));cases hm;exact rU hD s I I
    ·refine se (rg (ru 1 s λa w s=>sW s I λw s=>ru 1 s λa w s=>nl ?_));cases hm;exact rU hD s I I
def m235 (f:Nat) (v0:Int):Option (ByteArray):=(bif (decide (v0 < (10:Int))) then (ssl (⟨#[48,49,50,51,52,53,54,55,56,57,97,98,99,100,101,102,103,104,105,106,107,108,109,110,111,112,113,114,115,116,117,118,119,120,121,122]⟩:ByteArray) v0 (wr (v0 + (1:Int)))).bind λx1=>some x1 else (ssl (⟨#[48,48,48,49,48,50,48,51,48,52,48,53,48,54,48,55,48,56,48,57,49,48,49,49,49,50,49,51,49,52,49,53,49,54,49,55,49,56,49,57,50,48,50,49,50,50,50,51,50,52,50,53,50,54,50,55,50,56,50,57,51,48,51,49,51,50,51,51,51,52,51,53,51,54,51,55,51,56,51,57,52,48,52,49,52,50,52,51,52,52,52,53,52,54,52,55,52,56,52,57,53,48,53,49,53,50,53,51,53,52,53,53,53,54,53,55,53,56,53,57,54,48,54,49,54,50,54,51,54,52,54,53,54,54,54,55,54,56,54,57,55,48,55,49,55,50,55,51,55,52,55,53,55,54,55,55,55,56,55,57,56,48,56,49,56,50,56,51,56,52,56,53,56,54,56,55,56,56,56,57,57,48,57,49,57,50,57,51,57,52,57,53,57,54,57,55,57,56,57,57]⟩:ByteArray) (wr (v0 * (2:Int))) (wr ((wr (v0 * (2:Int))) + (2:Int)))).bind λx2=>some x2)
theorem s235 (f:Nat) (v0:Int) (r:ByteArray) (hm:m235 f v0=some r):Sp Tryz.prog 235 [Va v0] (Va r):=by
 unfold m235 at hm;refine ens func235 kr_ I ntmps235 I I λM W a hM hD s=>?_;refine R 1 s λa w s=>?_;refine se (R 2 s λa w s=>?_);refine cmf s hm (λhb hm=>?_) λhb hm=>?_
 ·obtain ⟨x1,hx1,hm⟩:=bk hm;refine se (rg (ru 3 s λa w s=>sq s (sl2 cs (t I) (t I) Tryz.underlying9 hx1.e) I λa w s=>ru 1 s λa w s=>nl ?_));cases hm;exact rT hD s I I
 ·obtain ⟨x2,hx2,hm⟩:=bk hm;refine se (rg (ru 5 s λa w s=>sq s (sl2 cs (t I) (t I) Tryz.underlying9 hx2.e) I λa w s=>ru 1 s λa w s=>nl ?_));cases hm;exact rT hD s I I
def m213_1 (f:Nat) (v0:Int) (v1:Int):Option (ByteArray):=(bif (v1 == (10:Int)) then (bif ((decide ((0:Int)<=v0)) && (decide (v0 < (100:Int)))) then (m235 f v0).bind λx1=>some x1 else none) else none)
theorem s213_1 (f:Nat) (v0:Int) (v1:Int) (r:ByteArray) (hm:m213_1 f v0 v1=some r):Sp Tryz.prog 213 [Va v0,Va v1] (Va r):=by
 unfold m213_1 at hm;refine ens func213 kr_ I ntmps213 I I λM W a hM hD s=>?_;refine R 1 s λa w s=>?_;refine se (R 2 s λa w s=>?_);refine cmf s hm (λhb hm=>?_) λhb hm=>?_
 ·refine se (R 6 s λa w s=>?_);refine cmf s hm (λhb hm=>?_) λhb hm=>?_
  ·refine se (rg (ru 1 s λa w s=>cB s hm (s235 f _) λx1 hm a w s=>ru 1 s λa w s=>nl ?_));cases hm;exact rT hD s I I
  ·cases hm
 ·cases hm
def m179 (f:Nat) (v0:Int):Option (ByteArray):=(m213_1 f v0 (10:Int)).bind λx1=>some x1
theorem s179 (f:Nat) (v0:Int) (r:ByteArray) (hm:m179 f v0=some r):Sp Tryz.prog 179 [Va v0] (Va r):=by
 unfold m179 at hm;refine ens func179 kr_ I ntmps179 I I λM W a hM hD s=>?_;refine R 1 s λa w s=>?_;obtain ⟨x1,hx1,hm⟩:=bk hm;refine se (rg (ru 1 s λa w s=>sq s (cc I (oc (t I) (oc ci on)) (s213_1 f _ _ _ hx1.e)) I λa w s=>ru 1 s λa w s=>nl ?_));cases hm;exact rT hD s I I
def m131 (f:Nat) (v0:Int):Option (ByteArray):=(m179 f v0).bind λx1=>some x1
theorem s131 (f:Nat) (v0:Int) (r:ByteArray) (hm:m131 f v0=some r):Sp Tryz.prog 131 [Va v0] (Va r):=by
 unfold m131 at hm;refine ens func131 kr_ I ntmps131 I I λM W a hM hD s=>?_;refine R 1 s λa w s=>?_;refine se (rg (ru 1 s λa w s=>cB s hm (s179 f _) λx1 hm a w s=>ru 1 s λa w s=>nl ?_));cases hm;exact rT hD s I I
instance {f:Nat} {v0:Int}:Cn Tryz.prog 131 (m131 f v0) [Va v0] (λr:ByteArray=>(Va r)):=⟨s131 f v0⟩
def m129_l1 (f:Nat) (v0:List Int):Nat->(Int×ByteArray)->Option (Int×ByteArray)
 | 0,_=>none
 | n+1,z2=>(bif (decide (z2.1 < (v0.length:Int))) then (idx v0 z2.1).bind λx4=>(m131 f x4).bind λx5=>(m130 f x5 z2.2).bind λx6=>(m132 f (UInt8.ofNat 32) x6).bind λx8=>m129_l1 f v0 n ((wr (z2.1 + (1:Int))),x8) else some (z2.1,z2.2))
def m129 (f:Nat) (v0:List Int):Option (ByteArray):=(m129_l1 f v0 f ((0:Int),ByteArray.empty)).bind λo3s=>(m133 f o3s.2).bind λx10=>some x10
theorem s129 (f:Nat) (v0:List Int) (r:ByteArray) (hm:m129 f v0=some r):Sp Tryz.prog 129 [Va v0] (Va r):=by
 unfold m129 at hm;refine ens func129 kr_ I ntmps129 I I λM W a hM hD s=>?_;refine R 1 s λa w s=>?_;refine se (rg (sqbu 1000 s (albu (T:=199) (e:=5) kr_) I I λb1 a w s=>nl ?_));refine se (R 3 s λa w s=>?_);refine lA hm [0,2,3,6,7] s (λz2=>[(8,Va z2.1),(1000,Bw 199 5 b1 z2.2)]) s.fi (λ_=>I) (λo3s hko3 n z2 a w hm s=>?_) λo3s hm a w s=>?_
 ·unfold m129_l1 at hm;refine R 1 s λa w s=>?_;refine se (cmt s hm (λhb hm=>?_) λhb hm=>?_)
  ·refine se (wpIn_block ?_);refine se (rg (iB s hm λx4 hm a w s=>ru 2 s λa w s=>nl ?_));obtain ⟨x5,hx5,hm⟩:=bk hm;obtain ⟨x6,hx6,hm⟩:=bk hm;refine se (rg (ru 2 s λa w s=>cgv [1000] [1000] hM s qf I (oc (t I) (oc (t I) on)) vn vn (s130 f b1 _ _ _ hx6.e) (kc I kn) I (λ_=>I) I I I λy7 a w s=>nl ?_));obtain ⟨x8,hx8,hm⟩:=bk hm;refine rg (cgv [1000] [1000] hM s qf I (oc (t I) (oc (c8 (by decide)) on)) vn vn (s132 f b1 _ _ _ hx8.e) (kc I kn) I (λ_=>I) I I I λy9 a w s=>nl ?_);refine R0 2 s λa w s=>?_;exact ⟨_,hm,s.fi⟩
  ·refine wpIn_exit ?_;obtain rfl:=si hm;exact s.fi
 ·obtain ⟨x10,hx10,hm⟩:=bk hm;refine se (rg (cgv [1000] [1000] hM s qf I (oc (t I) on) vn vn (s133 f b1 _ _ hx10.e) (kc I kn) I (λ_=>I) I I I λy11 a w s=>ru 1 s λa w s=>nl ?_));cases hm;exact rT hD s I I
def m180 (f:Nat) (v0:Bool):Option (ByteArray):=(bif v0 then some (⟨#[116,114,117,101]⟩:ByteArray) else some (⟨#[102,97,108,115,101]⟩:ByteArray))
theorem s180 (f:Nat) (v0:Bool) (r:ByteArray) (hm:m180 f v0=some r):Sp Tryz.prog 180 [Va v0] (Va r):=by
 unfold m180 at hm;refine ens func180 kr_ I ntmps180 I I λM W a hM hD s=>?_;refine R 1 s λa w s=>?_;refine se (R 1 s λa w s=>?_);refine cmf s hm (λhb hm=>?_) λhb hm=>?_
 ·refine R 1 s λa w s=>?_;cases hm;exact rT hD s I I
 ·refine R 1 s λa w s=>?_;cases hm;exact rT hD s I I
def m135 (f:Nat) (v0:Bool):Option (ByteArray):=(m180 f v0).bind λx1=>some x1
theorem s135 (f:Nat) (v0:Bool) (r:ByteArray) (hm:m135 f v0=some r):Sp Tryz.prog 135 [Va v0] (Va r):=by
 unfold m135 at hm;refine ens func135 kr_ I ntmps135 I I λM W a hM hD s=>?_;refine R 1 s λa w s=>?_;refine se (rg (ru 1 s λa w s=>cB s hm (s180 f _) λx1 hm a w s=>ru 1 s λa w s=>nl ?_));cases hm;exact rT hD s I I
instance {f:Nat} {v0:Bool}:Cn Tryz.prog 135 (m135 f v0) [Va v0] (λr:ByteArray=>(Va r)):=⟨s135 f v0⟩
def m134_l1 (f:Nat) (v0:List Bool):Nat->(Int×ByteArray)->Option (Int×ByteArray)
 | 0,_=>none
 | n+1,z2=>(bif (decide (z2.1 < (v0.length:Int))) then (idx v0 z2.1).bind λx4=>(m135 f x4).bind λx5=>(ssl x5 0 (1:Int)).bind λx6=>(m130 f x6 z2.2).bind λx7=>m134_l1 f v0 n ((wr (z2.1 + (1:Int))),x7) else some (z2.1,z2.2))
def m134 (f:Nat) (v0:List Bool):Option (ByteArray):=(m134_l1 f v0 f ((0:Int),ByteArray.empty)).bind λo3s=>(m133 f o3s.2).bind λx9=>some x9
theorem s134 (f:Nat) (v0:List Bool) (r:ByteArray) (hm:m134 f v0=some r):Sp Tryz.prog 134 [Va v0] (Va r):=by
 unfold m134 at hm;refine ens func134 kr_ I ntmps134 I I λM W a hM hD s=>?_;refine R 1 s λa w s=>?_;refine se (rg (sqbu 1000 s (albu (T:=199) (e:=5) kr_) I I λb1 a w s=>nl ?_));refine se (R 3 s λa w s=>?_);refine lA hm [0,2,3,6,7] s (λz2=>[(8,Va z2.1),(1000,Bw 199 5 b1 z2.2)]) s.fi (λ_=>I) (λo3s hko3 n z2 a w hm s=>?_) λo3s hm a w s=>?_
 ·unfold m134_l1 at hm;refine R 1 s λa w s=>?_;refine se (cmt s hm (λhb hm=>?_) λhb hm=>?_)
  ·refine se (wpIn_block ?_);refine se (rg (iB s hm λx4 hm a w s=>ru 2 s λa w s=>nl ?_));obtain ⟨x5,hx5,hm⟩:=bk hm;obtain ⟨x6,hx6,hm⟩:=bk hm;obtain ⟨x7,hx7,hm⟩:=bk hm;refine rg (ru 2 s λa w s=>sq s (sl0 (t I) ci Tryz.underlying9 hx6.e) I λa w s=>cgv [1000] [1000] hM s qf I (oc (t I) (oc (t I) on)) vn vn (s130 f b1 _ _ _ hx7.e) (kc I kn) I (λ_=>I) I I I λy8 a w s=>nl ?_);refine R0 2 s λa w s=>?_;exact ⟨_,hm,s.fi⟩
  ·refine wpIn_exit ?_;obtain rfl:=si hm;exact s.fi
 ·obtain ⟨x9,hx9,hm⟩:=bk hm;refine se (rg (cgv [1000] [1000] hM s qf I (oc (t I) on) vn vn (s133 f b1 _ _ hx9.e) (kc I kn) I (λ_=>I) I I I λy10 a w s=>ru 1 s λa w s=>nl ?_));cases hm;exact rT hD s I I
def m79 (f:Nat) (v0:State):Option (Key):=(m129 f v0.Ends).bind λx2=>(m134 f v0.Valves).bind λx3=>(m134 f v0.Inputs).bind λx4=>(m134 f v0.Values).bind λx5=>(m129 f v0.Timers).bind λx6=>some (⟨x2,x3,x4,x5,x6⟩:Key)
theorem s79 (f:Nat) (v0:State) (r:Key) (hm:m79 f v0=some r):Sp Tryz.prog 79 [Va v0] (Va r):=by
 unfold m79 at hm;refine ens func79 kr_ I ntmps79 I I λM W a hM hD s=>?_;refine se (rg (ru 1 s λa w s=>sqb 1000 s (al (z:=(⟨ByteArray.empty,ByteArray.empty,ByteArray.empty,ByteArray.empty,ByteArray.empty⟩:Key))) I I λb1 a w s=>nl ?_));refine se (rg (sq s (saq qf) I λa w s=>nl ?_));refine se (rg (sq s (saq qf) I λa w s=>nl ?_));obtain ⟨x2,hx2,hm⟩:=bk hm;obtain ⟨x3,hx3,hm⟩:=bk hm;obtain ⟨x4,hx4,hm⟩:=bk hm;obtain ⟨x5,hx5,hm⟩:=bk hm;obtain ⟨x6,hx6,hm⟩:=bk hm;refine se (flow s (m:=21) (.cons (.cons (.cons (.cons (.cons (.cons (.cons (.cons (.cons (.cons (.cons (.cons (.cons (.cons (.cons (.cons (.cons (.cons (.cons (.cons (.cons .nil I (mvq (t I))) I (fa (f:=State.Ends) (t I))) I (ld (t I))) I (ccv (t I) I (oc (t I) on) vn vn (s129 f _ _ hx2.e))) I (mvq (t I))) I (fa (f:=State.Valves) (t I))) I (ld (t I))) I (ccv (t I) I (oc (t I) on) vn vn (s134 f _ _ hx3.e))) I (mvq (t I))) I (fa (f:=State.Inputs) (t I))) I (ld (t I))) I (ccv (t I) I (oc (t I) on) vn vn (s134 f _ _ hx4.e))) I (mvq (t I))) I (fa (f:=State.Values) (t I))) I (ld (t I))) I (ccv (t I) I (oc (t I) on) vn vn (s134 f _ _ hx5.e))) I (mvq (t I))) I (fa (f:=State.Timers) (t I))) I (ld (t I))) I (ccv (t I) I (oc (t I) on) vn vn (s129 f _ _ hx6.e))) I (bl141_0_1_2_3_4 (t I) (t I) (t I) (t I) (t I))) kr_ I I λa w s=>sw (K:=1000) s (t I) I (t I) I λw s=>nl ?_);cases hm;exact rT hD s I I
def m124 (f:Nat) (v0:State):Option (State):=some v0
theorem s124 (f:Nat) (v0:State) (r:State) (hm:m124 f v0=some r):Sp Tryz.prog 124 [Va v0] (Rz (λx:Value=>Qv (fv 172 [] [x])) (λx=>[At x (Pt r)])):=by
 unfold m124 at hm;refine ens func124 kr_ I ntmps124 I I λM W a hM hD s=>?_;refine R 2 s λa w s=>?_;refine se (rg (nmk (d:=1) 1000 s I I λc1 s=>sq s (mkf I I qn (qc (t I) qn)) I λa w s=>ru 1 s λa w s=>nl ?_));obtain rfl:=si hm;refine wpIn_ret ?_;exact rz [1000] c1 hM hD s I (rv1 (rt I)) (kc I kn) I
def m172_l2 {σ:Type} (gy:Event->σ->Option (Bool×σ)) (v0:State):Nat->(Int×σ)->Option (Lo (Int×σ) (σ))
 | 0,_=>none
 | n+1,z4=>(bif (decide (z4.1 < (v0.Timers.length:Int))) then (idx v0.Timers z4.1).bind λx6=>bif (x6 == (1:Int)) then ((gy (⟨(1:Int),z4.1,false⟩:Event) z4.2).bind λx7=>(bif (bif (x6 == (1:Int)) then (!x7.1) else false) then some (.ret x7.2) else m172_l2 gy v0 n ((wr (z4.1 + (1:Int))),x7.2))) else (bif false then some (.ret z4.2) else m172_l2 gy v0 n ((wr (z4.1 + (1:Int))),z4.2)) else some (.brk (z4.1,z4.2)))
def m172_l1 {σ:Type} (gy:Event->σ->Option (Bool×σ)) (v0:State):Nat->(Int×σ)->Option (Lo (Int×σ) (σ))
 | 0,_=>none
 | n+1,z1=>(bif (decide (z1.1 < (v0.Ends.length:Int))) then (idx v0.Ends z1.1).bind λx3=>bif ((x3 == (1:Int)) || (x3 == (3:Int))) then ((gy (⟨(0:Int),z1.1,false⟩:Event) z1.2).bind λx4=>(bif (bif ((x3 == (1:Int)) || (x3 == (3:Int))) then (!x4.1) else false) then some (.ret x4.2) else m172_l1 gy v0 n ((wr (z1.1 + (1:Int))),x4.2))) else (bif false then some (.ret z1.2) else m172_l1 gy v0 n ((wr (z1.1 + (1:Int))),z1.2)) else some (.brk (z1.1,z1.2)))
def m172 {σ:Type} (gy:Event->σ->Option (Bool×σ)) (f:Nat) (v0:State) (v1:σ):Option (σ):=((m172_l1 gy v0 f ((0:Int),v1)).bind λo2=>match o2 with | .brk o2s=>((m172_l2 gy v0 f ((0:Int),o2s.2)).bind λo5=>match o5 with | .brk o5s=>some o5s.2 | .ret r=>some r) | .ret r=>some r)
theorem s172 {σ:Type} (E:σ->Ent) [hE:∀ s,Gh (E s)] (n0:Nat) (gy:Event->σ->Option (Bool×σ)) (ihy:∀ x s r,gy x s=some r->Cy Tryz.prog n0 [Va x] [E s] (Rz (λ_:Unit=>Va r.1) λ_=>[E r.2])) (f:Nat) (v0:State) (v1:σ) (r:σ) (hm:m172 gy f v0 v1=some r):Cg Tryz.prog 172 [Qv (yv n0),Pt v0] [E v1] (Rz (λx:Unit=>Dd) (λx=>[E r])):=by
 unfold m172 at hm;refine eng func172 kr_ I ntmps172 I I λM W a hM hD s=>?_;refine se (R 4 s λa w s=>?_);refine lB hm [0,1,8,9] s (λz1=>[(10,Va z1.1),(1000,E z1.2)]) s.fi (λ_=>I) (λo2 hko2 n z1 a w hm s=>?_) λo2s hm a w s=>?_
 ·unfold m172_l1 at hm;refine R 1 s λa w s=>?_;refine se (cmt s hm (λhb hm=>?_) λhb hm=>?_)
  ·refine se (wpIn_block ?_);refine se (rg (ru 1 s λa w s=>iB s hm λx3 hm a w s=>ru 3 s λa w s=>nl ?_));rcases bfc hm with ⟨hb0,hm⟩ | ⟨hb0,hm⟩
   ·obtain ⟨x4,hx4,hm⟩:=bk hm;refine se (rg (ru 7 s λa w s=>gon s I I hb0 <| sq s (mvq (t I)) I λa w s=>gon s I I hb0 <| sq s (mv (t I)) I λa w s=>gon s I I hb0 <| sq s (bl136_0_1 ci (t I)) I λa w s=>gon s I I hb0 <| cgy [1000] [1000] hM s (t I) I (oc (t I) on) (ihy _ _ _ hx4.e) (kc I kn) I (λ_=>I) I I I λy5 a w s=>gon s I I hb0 <| sq s (nt (t I)) I λa w s=>sq s (pk (t I) (t I) cb) I λa w s=>nl ?_));refine cmf s hm (λhb hm=>?_) λhb hm=>?_
    ·obtain rfl:=si hm;replace hm:=hko2;dsimp only at hm;obtain rfl:=si hm;refine wpIn_ret ?_;exact rz [1000] () hM hD s I rv0 (kc I kn) I
    ·refine R0 2 s λa w s=>?_;exact ⟨_,hm,s.fi⟩
   ·refine se (rg (ru 7 s λa w s=>goff s I I hb0 I λa w s=>goff s I I hb0 I λa w s=>goff s I I hb0 I λa w s=>goff s I I hb0 I λa w s=>goff s I I hb0 I λa w s=>sq s (pkF (t I) hb0 cb) I λa w s=>nl ?_));refine cmf s hm (λhb hm=>?_) λhb hm=>?_
    ·obtain rfl:=si hm;replace hm:=hko2;dsimp only at hm;obtain rfl:=si hm;refine wpIn_ret ?_;exact rz [1000] () hM hD s I rv0 (kc I kn) I
    ·refine R0 2 s λa w s=>?_;exact ⟨_,hm,s.fi⟩
  ·refine wpIn_exit ?_;exact ⟨_,(si hm).symm,s.fi⟩
 ·dsimp only at hm;refine R 4 s λa w s=>?_;refine lB hm [0,1,8,9,10,30,31] s (λz4=>[(32,Va z4.1),(1000,E z4.2)]) s.fi (λ_=>I) (λo5 hko5 n z4 a w hm s=>?_) λo5s hm a w s=>?_
  ·unfold m172_l2 at hm;refine R 1 s λa w s=>?_;refine se (cmt s hm (λhb hm=>?_) λhb hm=>?_)
   ·refine se (wpIn_block ?_);refine se (rg (ru 1 s λa w s=>iB s hm λx6 hm a w s=>ru 3 s λa w s=>nl ?_));rcases bfc hm with ⟨hb0,hm⟩ | ⟨hb0,hm⟩
    ·obtain ⟨x7,hx7,hm⟩:=bk hm;refine se (rg (ru 3 s λa w s=>gon s I I hb0 <| sq s (mvq (t I)) I λa w s=>gon s I I hb0 <| sq s (mv (t I)) I λa w s=>gon s I I hb0 <| sq s (bl136_0_1 ci (t I)) I λa w s=>gon s I I hb0 <| cgy [1000] [1000] hM s (t I) I (oc (t I) on) (ihy _ _ _ hx7.e) (kc I kn) I (λ_=>I) I I I λy8 a w s=>gon s I I hb0 <| sq s (nt (t I)) I λa w s=>sq s (pk (t I) (t I) cb) I λa w s=>nl ?_));refine cmf s hm (λhb hm=>?_) λhb hm=>?_
     ·obtain rfl:=si hm;replace hm:=hko5;dsimp only at hm;obtain rfl:=si hm;refine wpIn_ret ?_;exact rz [1000] () hM hD s I rv0 (kc I kn) I
     ·refine R0 2 s λa w s=>?_;exact ⟨_,hm,s.fi⟩
    ·refine se (rg (ru 3 s λa w s=>goff s I I hb0 I λa w s=>goff s I I hb0 I λa w s=>goff s I I hb0 I λa w s=>goff s I I hb0 I λa w s=>goff s I I hb0 I λa w s=>sq s (pkF (t I) hb0 cb) I λa w s=>nl ?_));refine cmf s hm (λhb hm=>?_) λhb hm=>?_
     ·obtain rfl:=si hm;replace hm:=hko5;dsimp only at hm;obtain rfl:=si hm;refine wpIn_ret ?_;exact rz [1000] () hM hD s I rv0 (kc I kn) I
     ·refine R0 2 s λa w s=>?_;exact ⟨_,hm,s.fi⟩
   ·refine wpIn_exit ?_;exact ⟨_,(si hm).symm,s.fi⟩
  ·dsimp only at hm;obtain rfl:=si hm;exact rze [1000] () hM hD s I rv0 (kc I kn) I
def m171_r1 :Event->((List Event))×Nat->Option (Bool×(((List Event))×Nat)):=λu5 z3=>match z3 with
 | (z3,0)=>(app z3 ([u5]:List Event)).bind λx7=>some (true,(x7,0))
 | (_,_ + 1)=>none
def m171 (f:Nat) (v0:State):Option ((List Event)):=(m172 m171_r1 f v0 (([]:List Event),0)).bind λo9=>(bif o9.2 == 0 then some o9.1 else none)
theorem s171 (f:Nat) (n0:Value) (v0:State) (r:(List Event)) (hm:m171 f v0=some r):Cg Tryz.prog 171 [Qv nz,Qv (fv 172 [] [n0])] [At n0 (Pt v0)] (Rz (λx:Value=>Qv x) (λx=>[At n0 (Pt v0),Ow 136 x r])):=by
 unfold m171 at hm;refine eng func171 kr_ I ntmps171 I I λM W a hM hD s=>?_;refine se (rg (sqr 1001 s (bxr (t I) (ocr I)) I I λb1 a w s=>ru 1 s λa w s=>nl ?_));refine se (R 1 s λa w s=>?_);refine wpIn_block (nilc (α:=Event) (k:=1001) (cs':=λc2=>[c2]) 1002 136 s I (λ_=>I) I λc2 s=>?_);obtain ⟨o9,ho9,hko9⟩:=bs hm;refine rfn (α:=Event) (X:=Value) (σ:=(List Event)) (pe:=λx=>[Va x]) (gb:=(m171_r1)) (r:=o9) [(2,Qv (pb b1 0))] [] (λz3 n4=>[Mr b1 [n4],Ow 136 n4 z3]) ([]:List Event) c2 1005 1003 1004 [1001,1002] hM s (t I) vn (va (k:=1000) I vn) (kc I (kc I kn)) I (λ_ _=>I) (λ_ _ h=>look_pick (l:=[2]) h) (zs1 zs0) I I I (λE _ l ihy=>s172 E l m171_r1 ihy f _ _ _ ho9) (λl fn D tm htm u5 z3 r hm=>?_) (λd10 a w n11 s=>?_)
 ·rcases z3 with ⟨z3,_ | j⟩
  ·unfold m171_r1 at hm;dsimp only at hm;refine Cy.mk (KL:=1003) (KT:=1004) [1001,1002] [7] z3 htm I I I I I I (λ_=>I) λM W a n4 TB hM hD hTB s=>?_;refine rg (sqb 1006 s (al (z:=(⟨(0:Int),(0:Int),false⟩:Event))) I I λb6 a w s=>sw (K:=1006) s (t I) I (t I) I λw s=>nl ?_);refine bgn (K:=1003) s I I λRB w hRB s=>?_;refine wpIn_block ?_;obtain ⟨x7,hx7,hm⟩:=bk hm;refine rg (ru 3 s λa w s=>apd (α:=Event) (k:=1002) s (t I) I (t I) hx7.e I I λc8 a w s=>srq (K:=1001) (cs':=[c8]) s (t I) I (t I) kr_ (oco (k:=1002) I) I I λw s=>nl ?_);obtain rfl:=si hm;exact rde (KL:=1003) (KT:=1004) [1001,1002] none 0 true x7 c8 hM s I I hRB hTB (kc I (kc I kn)) I I I I
  ·unfold m171_r1 at hm;cases hm
 ·replace hm:=hko9;rcases bfc hm with ⟨hj,hm⟩ | ⟨hj,hm⟩
  ·refine af0 hj ?_;refine R 2 s λa w s=>?_;obtain rfl:=si hm;refine wpIn_ret (lvm (KD:=1005) s I I I λa w ha s=>?_);rw [← ha];exact rz [1000,1002] n11 hM hD s I (rv1 (rt I)) (kc I (kc I kn)) I
  ·cases hm
def m123 (f:Nat) (v0:State):Option ((List Event)):=(m171 f v0).bind λx1=>some x1
theorem s123 (f:Nat) (n0:Value) (v0:State) (r:(List Event)) (hm:m123 f v0=some r):Cg Tryz.prog 123 [Qv (fv 172 [] [n0])] [At n0 (Pt v0)] (Rz (λx:Value=>Qv x) (λx=>[At n0 (Pt v0),Ow 136 x r])):=by
 unfold m123 at hm;refine eng func123 kr_ I ntmps123 I I λM W a hM hD s=>?_;refine R 1 s λa w s=>?_;obtain ⟨x1,hx1,hm⟩:=bk hm;refine se (rg (ru 1 s λa w s=>cgv [1000] [1000,1001] hM s qf I (oc cq (oc (t I) on)) vn vn (s171 f n0 _ _ hx1.e) (kc I kn) I (λ_=>I) I I I λy2 a w s=>ru 1 s λa w s=>nl ?_));obtain rfl:=si hm;refine wpIn_ret ?_;exact rz [1000,1001] y2 hM hD s I (rv1 (rt I)) (kc I (kc I kn)) I
def m74 (f:Nat) (v0:Control) (v1:State):Option (Int×(List Event)):=(m122 f v0 v1).bind λx1=>(bif (x1 != (0:Int)) then some (x1,([]:List Event)) else (m124 f v1).bind λx3=>(m123 f x3).bind λx5=>some ((0:Int),x5))
theorem s74 (f:Nat) (v0:Control) (v1:State) (r:Int×(List Event)) (hm:m74 f v0 v1=some r):Sp Tryz.prog 74 [Va v0,Va v1] (Rz (λx:Value=>T2 (Qv x) (Va r.1)) (λx=>[Ow 136 x r.2])):=by
 unfold m74 at hm;refine ens func74 kr_ I ntmps74 I I λM W a hM hD s=>?_;refine R 4 s λa w s=>?_;refine se (se (rg (ru 2 s λa w s=>cB s hm (s122 f _ _) λx1 hm a w s=>ru 1 s λa w s=>nl ?_)));refine R 2 s λa w s=>?_;refine cmf s hm (λhb hm=>?_) λhb hm=>?_
 ·refine R 3 s λa w s=>?_;obtain rfl:=si hm;refine nilt (α:=Event) (d:=4) 1000 136 s I I λc2 s=>?_;refine wpIn_ret ?_;exact rz [1000] c2 hM hD s I (rv2 (rt I) (rt I)) (kc I kn) I
 ·obtain ⟨x3,hx3,hm⟩:=bk hm;obtain ⟨x5,hx5,hm⟩:=bk hm;refine se (rg (ru 1 s λa w s=>sqz [1001] hM s (cc I (oc (t I) on) (s124 f _ _ hx3.e)) (λ_=>I) I I λy4 a w s=>cgv [1001] [1001,1002] hM s qf I (oc (t I) on) vn vn (s123 f y4 _ _ hx5.e) (kc I kn) I (λ_=>I) I I I λy6 a w s=>ru 2 s λa w s=>nl ?_));obtain rfl:=si hm;refine wpIn_ret ?_;exact rz [1002] y6 hM hD s I (rv2 (rt I) (rt I)) (kc I kn) I
def m81_3 (f:Nat) (v0:State) (v1:List (Key×Int)) (v2:List State) (v3:List (List Int)) (v4:List Int):Option (Int×(List (Key×Int))×(List State)×(List Int)):=(m79 f v0).bind λx1=>(bif (!(mat eqq141 v1 x1).isSome) then (bif ((v2.length:Int) == (16384:Int)) then some ((12:Int),v1,v2,v4) else (app v2 ([v0]:List State)).bind λx3=>(app v4 ([(v2.length:Int)]:List Int)).bind λx5=>some ((0:Int),(mput eqq141 v1 x1 (v2.length:Int)),x3,x5)) else (app v4 ([((mat eqq141 v1 x1).getD (0:Int))]:List Int)).bind λx7=>some ((0:Int),v1,v2,x7))
theorem s81_3 (f:Nat) (n0:Nat) (n1:Nat) (n2:Nat) (n3:Nat) (n4:Value) (n5:Value) (n6:Value) (v0:State) (v1:List (Key×Int)) (v2:List State) (v3:List (List Int)) (v4:List Int) (r:Int×(List (Key×Int))×(List State)×(List Int)) (hm:m81_3 f v0 v1 v2 v3 v4=some r):Cg Tryz.prog 81 [Va v0,Qv (pb n0 0),Qv (pb n1 0),Qv (pb n2 0)] [Mr n0 [(.map (some n3))],Om n3 (v1:List (Key×Int)),Mr n1 [n4,n5],Ow 77 n4 v2,Ow 24 n5 v3,Mr n2 [n6],Ow 3 n6 v4] (Rz (λx:Value×Value=>Va r.1) (λx=>[Mr n0 [(.map (some n3))],Om n3 (r.2.1:List (Key×Int)),Mr n1 [x.1,n5],Ow 77 x.1 r.2.2.1,Ow 24 n5 v3,Mr n2 [x.2],Ow 3 x.2 r.2.2.2])):=by
 unfold m81_3 at hm;refine eng func81 kr_ I ntmps81 I I λM W a hM hD s=>?_;refine R 2 s λa w s=>?_;refine se (rg (ru 1 s λa w s=>cB s hm (s79 f _) λx1 hm a w s=>sqb 1007 s (al (z:=(⟨ByteArray.empty,ByteArray.empty,ByteArray.empty,ByteArray.empty,ByteArray.empty⟩:Key))) I I λb2 a w s=>sw (K:=1007) s (t I) I (t I) I λw s=>nl ?_));refine se (rg (sq s (lrp (K:=1000) (t I) I I kr_) I λa w s=>ru 1 s λa w s=>sq s (lko (K:=141) (E:=3) (KK:=1001) (z:=(0:Int)) (t I) I (t I) kr_ kr_) I λa w s=>ru 5 s λa w s=>nl ?_));refine se (R 2 s λa w s=>?_);refine cmf s hm (λhb hm=>?_) λhb hm=>?_
 ·refine se (R 4 s λa w s=>?_);refine cmf s hm (λhb hm=>?_) λhb hm=>?_
  ·refine R 1 s λa w s=>?_;obtain rfl:=si hm;refine wpIn_ret ?_;exact rz [1000,1001,1002,1003,1004,1005,1006] (n4,n6) hM hD s I (rv1 (rt I)) (kc I (kc I (kc I (kc I (kc I (kc I (kc I kn))))))) I
  ·refine R 4 s λa w s=>?_;refine se (rg (sq s (lrp (K:=1000) (t I) I I kr_) I λa w s=>ru 2 s λa w s=>stm (K:=141) (E:=3) (KK:=1001) s (t I) I (t I) (t I) kr_ λw s=>nl ?_));obtain ⟨x3,hx3,hm⟩:=bk hm;refine rg (ru 4 s λa w s=>apd (α:=State) (k:=1003) s (t I) I (t I) hx3.e I I λc4 a w s=>ru 1 s λa w s=>srq (K:=1002) (cs':=[c4,n5]) s (t I) I (t I) kr_ (oco (k:=1003) I) I I λw s=>nl ?_);obtain ⟨x5,hx5,hm⟩:=bk hm;refine se (rg (ru 3 s λa w s=>apd (α:=Int) (k:=1006) s (t I) I (t I) hx5.e I I λc6 a w s=>srq (K:=1005) (cs':=[c6]) s (t I) I (t I) kr_ (oco (k:=1006) I) I I λw s=>nl ?_));refine R 1 s λa w s=>?_;obtain rfl:=si hm;refine wpIn_ret ?_;exact rz [1000,1001,1002,1003,1004,1005,1006] (c4,c6) hM hD s I (rv1 (rt I)) (kc I (kc I (kc I (kc I (kc I (kc I (kc I kn))))))) I
 ·obtain ⟨x7,hx7,hm⟩:=bk hm;refine se (rg (ru 3 s λa w s=>apd (α:=Int) (k:=1006) s (t I) I (t I) hx7.e I I λc8 a w s=>srq (K:=1005) (cs':=[c8]) s (t I) I (t I) kr_ (oco (k:=1006) I) I I λw s=>nl ?_));refine R 1 s λa w s=>?_;obtain rfl:=si hm;refine wpIn_ret ?_;exact rz [1000,1001,1002,1003,1004,1005,1006] (n4,c8) hM hD s I (rv1 (rt I)) (kc I (kc I (kc I (kc I (kc I (kc I (kc I kn))))))) I
def m80_1_l1 (f:Nat) (v0:Control) (v1:State) (v4:List (List Int)) (x1:Int×(List Event)):Nat->(Int×(List (Key×Int))×(List State)×(List Int))->Option (Lo (Int×(List (Key×Int))×(List State)×(List Int)) (Int×(List (Key×Int))×(List State)×(List Int)))
 | 0,_=>none
 | n+1,z4=>(bif (decide (z4.1 < (x1.2.length:Int))) then (idx x1.2 z4.1).bind λx7=>(m75 f v0 v1 x7).bind λx9=>(bif (x9.2.2 != (0:Int)) then some (.ret (x9.2.2,z4.2.1,z4.2.2.1,z4.2.2.2)) else (m81_3 f x9.1 z4.2.1 z4.2.2.1 v4 z4.2.2.2).bind λx11=>(bif (x11.1 != (0:Int)) then some (.ret (x11.1,x11.2.1,x11.2.2.1,x11.2.2.2)) else m80_1_l1 f v0 v1 v4 x1 n ((wr (z4.1 + (1:Int))),x11.2.1,x11.2.2.1,x11.2.2.2))) else some (.brk (z4.1,z4.2.1,z4.2.2.1,z4.2.2.2)))
def m80_1 (f:Nat) (v0:Control) (v1:State) (v2:List (Key×Int)) (v3:List State) (v4:List (List Int)):Option (Int×(List (Key×Int))×(List State)×(List Int)):=(m74 f v0 v1).bind λx1=>(bif (x1.1 != (0:Int)) then some (x1.1,v2,v3,([]:List Int)) else ((m80_1_l1 f v0 v1 v4 x1 f ((0:Int),v2,v3,([]:List Int))).bind λo5=>match o5 with | .brk o5s=>some ((0:Int),o5s.2.1,o5s.2.2.1,o5s.2.2.2) | .ret r=>some r))
theorem s80_1 (f:Nat) (n0:Nat) (n1:Nat) (n2:Nat) (n3:Nat) (n4:Value) (n5:Value) (v0:Control) (v1:State) (v2:List (Key×Int)) (v3:List State) (v4:List (List Int)) (r:Int×(List (Key×Int))×(List State)×(List Int)) (hm:m80_1 f v0 v1 v2 v3 v4=some r):Cg Tryz.prog 80 [Va v0,Va v1,Qv (fv 81 [] [(pb n0 0),(pb n1 0),(pb n2 0)])] [Mr n0 [(.map (some n3))],Om n3 (v2:List (Key×Int)),Mr n1 [n4,n5],Ow 77 n4 v3,Ow 24 n5 v4,Mr n2 [nz]] (Rz (λx:Value×Value=>Va r.1) (λx=>[Mr n0 [(.map (some n3))],Om n3 (r.2.1:List (Key×Int)),Mr n1 [x.1,n5],Ow 77 x.1 r.2.2.1,Ow 24 n5 v4,Mr n2 [x.2],Ow 3 x.2 r.2.2.2])):=by
 unfold m80_1 at hm;refine eng func80 kr_ I ntmps80 I I λM W a hM hD s=>?_;refine R 3 s λa w s=>?_;obtain ⟨x1,hx1,hm⟩:=bk hm;refine se (rg (ru 2 s λa w s=>sqz [1006] hM s (cc I (oc (t I) (oc (t I) on)) (s74 f _ _ _ hx1.e)) (λ_=>I) I I λy2 a w s=>ru 5 s λa w s=>nl ?_));refine se (R 2 s λa w s=>?_);refine cmf s hm (λhb hm=>?_) λhb hm=>?_
 ·refine R 2 s λa w s=>?_;obtain rfl:=si hm;refine nilc (α:=Int) (k:=1005) (cs':=λc3=>[c3]) 1007 3 s I (λ_=>I) I λc3 s=>?_;refine wpIn_ret ?_;exact rz [1000,1001,1002,1003,1004,1005,1007] (n4,c3) hM hD s I (rv1 (rt I)) (kc I (kc I (kc I (kc I (kc I (kc I (kc I kn))))))) I
 ·refine se (R 3 s λa w s=>?_);refine nilc (α:=Int) (k:=1005) (cs':=λc6=>[c6]) 1008 3 s I (λ_=>I) I λc6 s=>?_;refine lB2 hm [0,1,2,3,4,6,7,8,24,25,1000,1004,1006] s (λz4 z4c0 z4c1=>[(26,Va z4.1),(1001,Om n3 (z4.2.1:List (Key×Int))),(1002,Mr n1 [z4c0,n5]),(1003,Ow 77 z4c0 z4.2.2.1),(1005,Mr n2 [z4c1]),(1008,Ow 3 z4c1 z4.2.2.2)]) ⟨n4,c6,s.fi⟩ (λ_=>I) (λo5 hko5 n z4 a w hm s=>?_) λo5s hm a w s=>?_
  ·obtain ⟨z4c0,z4c1,s⟩:=s;unfold m80_1_l1 at hm;refine R 1 s λa w s=>?_;refine se (cmt s hm (λhb hm=>?_) λhb hm=>?_)
   ·refine se (wpIn_block ?_);obtain ⟨x7,hx7,hm⟩:=bk hm;refine se (rg (ru 2 s λa w s=>sqb 1009 s (al (z:=(⟨(0:Int),(0:Int),false⟩:Event))) I I λb8 a w s=>sw (K:=1009) s (t I) I (t I) I λw s=>nl ?_));refine se (rg (ru 3 s λa w s=>cB s hm (s75 f _ _ _) λx9 hm a w s=>ru 4 s λa w s=>aR 1010 s λb10 a w s=>sW s I λw s=>ru 2 s λa w s=>nl ?_));refine se (R 2 s λa w s=>?_);refine cmf s hm (λhb hm=>?_) λhb hm=>?_
    ·refine R 2 s λa w s=>?_;obtain rfl:=si hm;replace hm:=hko5;dsimp only at hm;obtain rfl:=si hm;refine wpIn_ret ?_;exact rz [1000,1001,1002,1003,1004,1005,1008] (z4c0,z4c1) hM hD s I (rv1 (rt I)) (kc I (kc I (kc I (kc I (kc I (kc I (kc I kn))))))) I
    ·obtain ⟨x11,hx11,hm⟩:=bk hm;refine se (rg (ru 2 s λa w s=>cgv [1000,1001,1002,1003,1004,1005,1008] [1000,1001,1002,1003,1004,1005,1008] hM s (t I) I (oc (t I) on) vn (vq (vq (vq vn))) (s81_3 f n0 n1 n2 n3 z4c0 n5 z4c1 _ _ _ _ _ _ hx11.e) (kc I (kc I (kc I (kc I (kc I (kc I (kc I kn))))))) I (λ_=>I) I I I λy12 a w s=>ru 1 s λa w s=>nl ?_));refine R 2 s λa w s=>?_;refine cmf s hm (λhb hm=>?_) λhb hm=>?_
     ·refine R 2 s λa w s=>?_;obtain rfl:=si hm;replace hm:=hko5;dsimp only at hm;obtain rfl:=si hm;refine wpIn_ret ?_;exact rz [1000,1001,1002,1003,1004,1005,1008] (y12.1,y12.2) hM hD s I (rv1 (rt I)) (kc I (kc I (kc I (kc I (kc I (kc I (kc I kn))))))) I
     ·refine R0 2 s λa w s=>?_;exact ⟨_,hm,⟨y12.1,y12.2,s.fi⟩⟩
   ·refine wpIn_exit ?_;exact ⟨_,(si hm).symm,⟨z4c0,z4c1,s.fi⟩⟩
  ·obtain ⟨o5sc0,o5sc1,s⟩:=s;dsimp only at hm;refine R 1 s λa w s=>?_;obtain rfl:=si hm;refine wpIn_ret ?_;exact rz [1000,1001,1002,1003,1004,1005,1008] (o5sc0,o5sc1) hM hD s I (rv1 (rt I)) (kc I (kc I (kc I (kc I (kc I (kc I (kc I kn))))))) I
def m29_l1 (f:Nat) (v0:Control):Nat->(Int×(List State)×(List (List Int))×(List (Key×Int)))->Option (Lo (Int×(List State)×(List (List Int))×(List (Key×Int))) (Space×Int))
 | 0,_=>none
 | n+1,z9=>(bif (decide (z9.1 < (z9.2.1.length:Int))) then (idx z9.2.1 z9.1).bind λx13=>(m80_1 f v0 x13 z9.2.2.2 z9.2.1 z9.2.2.1).bind λx14=>(bif (x14.1 != (0:Int)) then some (.ret ((⟨([]:List State),([]:List (List Int))⟩:Space),x14.1)) else (app z9.2.2.1 ([x14.2.2.2]:List (List Int))).bind λx16=>m29_l1 f v0 n ((wr (z9.1 + (1:Int))),x14.2.2.1,x16,x14.2.1)) else some (.brk (z9.1,z9.2.1,z9.2.2.1,z9.2.2.2)))
def m29 (f:Nat) (v0:Control) (v1:List Bool):Option (Space×Int):=(m40 f v0 v1).bind λx2=>(bif (x2.2 != (0:Int)) then some ((⟨([]:List State),([]:List (List Int))⟩:Space),x2.2) else (m79 f x2.1).bind λx7=>((m29_l1 f v0 f ((0:Int),([x2.1]:List State),([]:List (List Int)),(mput eqq141 ([]:List (Key×Int)) x7 (0:Int)))).bind λo10=>match o10 with | .brk o10s=>some ((⟨o10s.2.1,o10s.2.2.1⟩:Space),(0:Int)) | .ret r=>some r))
theorem s29 (f:Nat) (v0:Control) (v1:List Bool) (r:Space×Int) (hm:m29 f v0 v1=some r):Sp Tryz.prog 29 [Va v0,Va v1] (T2 (Va r.1) (Va r.2)):=by
 unfold m29 at hm;refine ens func29 kr_ I ntmps29 I I λM W a hM hD s=>?_;refine se (rg (ru 1 s λa w s=>aR 1000 s λb1 a w s=>ru 1 s λa w s=>nl ?_));refine se (rg (ru 2 s λa w s=>cB s hm (s40 f _ _) λx2 hm a w s=>ru 3 s λa w s=>aR 1001 s λb3 a w s=>sW s I λw s=>ru 1 s λa w s=>nl ?_));refine se (R 2 s λa w s=>?_);refine cmf s hm (λhb hm=>?_) λhb hm=>?_
 ·refine se (rg (sq s (bl67_ ) I λa w s=>ru 1 s λa w s=>sW s I λw s=>ru 1 s λa w s=>nl ?_));cases hm;exact rU hD s I I
 ·refine se (rg (ru 1 s λa w s=>sqo 1002 s (bso (o1 (t I) o0) I I kr_) I I λc4 a w s=>sq s (bla (L:=[(0,1),(1,1)]) (z:=[nz,nz]) (res:=[c4,nz]) I kr_ kr_ (pdq (t I) (oco (k:=1002) I) pdn) I I) I λa w s=>aR 1003 s λb5 a w s=>sra (K:=1003) (m:=[c4,nz]) (cs':=[c4,nz]) s (t I) I (t I) kr_ I I I λw s=>nl ?_));refine se (rg (sqm 1004 s (mkm (κ:=Key) (ν:=Int)) I I λb6 a w s=>ru 1 s λa w s=>cB s hm (s79 f _) λx7 hm a w s=>stmi (K:=141) (E:=3) (KK:=1004) s (t I) I (t I) ci kr_ λw s=>ru 1 s λa w s=>aR 1005 s λb8 a w s=>srq (K:=1005) (cs':=[(.map (some b6))]) s (t I) I (t I) kr_ (ocr I) I I λw s=>nl ?_));refine se (R 1 s λa w s=>?_);refine nilc (α:=List Int) (k:=1003) (cs':=λc11=>[c4,c11]) 1006 24 s I (λ_=>I) I λc11 s=>?_;refine lB2 hm [0,1,2,4,5,6,7,8,9,1000,1001,1005] s (λz9 z9c0 z9c1=>[(10,Va z9.1),(1003,Mr b5 [z9c0,z9c1]),(1002,Ow 77 z9c0 z9.2.1),(1006,Ow 24 z9c1 z9.2.2.1),(1004,Om b6 (z9.2.2.2:List (Key×Int)))]) ⟨c4,c11,s.fi⟩ (λ_=>I) (λo10 hko10 n z9 a w hm s=>?_) λo10s hm a w s=>?_
  ·obtain ⟨z9c0,z9c1,s⟩:=s;unfold m29_l1 at hm;refine se (R 5 s λa w s=>?_);refine cmt s hm (λhb hm=>?_) λhb hm=>?_
   ·refine se (wpIn_block ?_);refine se (rg (sqr 1007 s (alr (cs:=[nz]) (z:=nz) kr_ I I) I I λb12 a w s=>nl ?_));obtain ⟨x13,hx13,hm⟩:=bk hm;obtain ⟨x14,hx14,hm⟩:=bk hm;refine se (flow s (m:=7) (.cons (.cons (.cons (.cons (.cons (.cons (.cons .nil I (ld (t I))) I (fm_ (off:=0) (m:=0) (q:=0) (t I) kr_ I)) I (lrc (K:=1003) (List State) (t I) I I I I)) I (mv (t I))) I (ixq (α:=State) (k:=1002) (t I) I (t I) hx13.e)) I (lq (k:=1002) (t I) I (idxg hx13.e))) I (mkf I I qn (qc (t I) (qc (t I) (qc (t I) qn))))) kr_ I I λa w s=>cgv [1005,1004,1003,1002,1006,1007] [1005,1004,1003,1002,1006,1007,1008] hM s qf I (oc (t I) (oc (t I) (oc (t I) on))) vn vn (s80_1 f b8 b5 b12 b6 z9c0 z9c1 _ _ _ _ _ _ hx14.e) (kc I (kc I (kc I (kc I (kc I (kc I kn)))))) I (λ_=>I) I I I λy15 a w s=>sq s (sa (t I)) I λa w s=>nl ?_);refine se (R 2 s λa w s=>?_);refine cmf s hm (λhb hm=>?_) λhb hm=>?_
    ·refine se (rg (sq s (bl67_ ) I λa w s=>ru 1 s λa w s=>sW s I λw s=>ru 1 s λa w s=>nl ?_));obtain rfl:=si hm;replace hm:=hko10;dsimp only at hm;cases hm;exact rU hD s I I
    ·obtain ⟨x16,hx16,hm⟩:=bk hm;refine rg (ru 3 s λa w s=>sq s (bsw (β:=Int) (cd1 (t I) (oco (k:=1008) I) cd0) I I kr_) I λa w s=>fzk (α:=Int) (k:=1008) hM s I λs=>apd (α:=List Int) (k:=1006) s (t I) I (rwd (t I) (rl1 (rpz (k:=1008) I) rl0)) hx16.e I I λc17 a w s=>ru 1 s λa w s=>srq (K:=1003) (cs':=[y15.1,c17]) s (t I) I (t I) kr_ (oco (k:=1006) I) I I λw s=>nl ?_);refine R0 3 s λa w s=>?_;exact ⟨_,hm,⟨y15.1,c17,s.fi⟩⟩
   ·refine wpIn_exit ?_;exact ⟨_,(si hm).symm,⟨z9c0,z9c1,s.fi⟩⟩
  ·obtain ⟨o10sc0,o10sc1,s⟩:=s;dsimp only at hm;refine se (rg (sq s (lra (K:=1003) (ds:=[o10sc0,o10sc1]) Space (t I) I I I I) I λa w s=>sra (K:=1000) (m:=[o10sc0,o10sc1]) (cs':=[o10sc0,o10sc1]) s (t I) I (t I) kr_ I I I λw s=>ru 1 s λa w s=>nl ?_));obtain rfl:=si hm;refine fzk (α:=State) (k:=1002) hM s I λs=>?_;refine fzk (α:=List Int) (k:=1006) hM s I λs=>?_;refine shut (k:=1000) (x:=(⟨o10s.2.1,o10s.2.2.1⟩:Space)) s I (rpS66 (l:=([o10sc0],[o10sc1])) (rpz (k:=1002) I) (rpz (k:=1006) I)) λs=>?_;refine wpIn_ret ?_;exact rn hD s I (rv2 (rc (K:=1000) I I) (rt I))
def m48 (f:Nat) (v0:Control) (v1:List Bool):Option ((Option World_overlap)×Int):=(m29 f v0 v1).bind λx1=>(bif (x1.2 != (0:Int)) then some ((none:Option World_overlap),x1.2) else some ((some (⟨v0,x1.1⟩:World_overlap)),(0:Int)))
theorem s48 (f:Nat) (v0:Control) (v1:List Bool) (r:(Option World_overlap)×Int) (hm:m48 f v0 v1=some r):Sp Tryz.prog 48 [Va v0,Va v1] (T2 (Va r.1) (Va r.2)):=by
 unfold m48 at hm;refine ens func48 kr_ I ntmps48 I I λM W a hM hD s=>?_;refine R 3 s λa w s=>?_;refine se (rg (ru 2 s λa w s=>cB s hm (s29 f _ _) λx1 hm a w s=>ru 3 s λa w s=>aR 1000 s λb2 a w s=>sW s I λw s=>ru 1 s λa w s=>nl ?_));refine se (R 2 s λa w s=>?_);refine cmf s hm (λhb hm=>?_) λhb hm=>?_
 ·refine R 3 s λa w s=>?_;obtain rfl:=si hm;refine wpIn_ret ?_;exact rn hD s I (rv2 (ro (pnl (α:=World_overlap) (t I))) (rt I))
 ·refine se (rg (ru 2 s λa w s=>sq s (bl104_0_1 (t I) (t I)) I λa w s=>ru 1 s λa w s=>sq s (sa (pv (t I))) I λa w s=>ru 1 s λa w s=>nl ?_));cases hm;exact rU hD s I I
def m60 (f:Nat) (v0:List Int):Option ((List Int)):=some v0
theorem s60 (f:Nat) (v0:List Int) (r:(List Int)) (hm:m60 f v0=some r):Sp Tryz.prog 60 [Va v0] (Rz (λx:Value=>Qv (fv 113 [] [x])) (λx=>[At x (Pt r)])):=by
 unfold m60 at hm;refine ens func60 kr_ I ntmps60 I I λM W a hM hD s=>?_;refine R 2 s λa w s=>?_;refine se (rg (nmk (d:=1) 1000 s I I λc1 s=>sq s (mkf I I qn (qc (t I) qn)) I λa w s=>ru 1 s λa w s=>nl ?_));obtain rfl:=si hm;refine wpIn_ret ?_;exact rz [1000] c1 hM hD s I (rv1 (rt I)) (kc I kn) I
def m113_l1 {σ:Type} (gy:Int->σ->Option (Bool×σ)) (v0:List Int):Nat->(Int×σ)->Option (Lo (Int×σ) (σ))
 | 0,_=>none
 | n+1,z1=>(bif (decide (z1.1 < (v0.length:Int))) then (idx v0 z1.1).bind λx3=>(gy x3 z1.2).bind λx4=>(bif (!x4.1) then some (.ret x4.2) else m113_l1 gy v0 n ((wr (z1.1 + (1:Int))),x4.2)) else some (.brk (z1.1,z1.2)))
def m113 {σ:Type} (gy:Int->σ->Option (Bool×σ)) (f:Nat) (v0:List Int) (v1:σ):Option (σ):=((m113_l1 gy v0 f ((0:Int),v1)).bind λo2=>match o2 with | .brk o2s=>some o2s.2 | .ret r=>some r)
theorem s113 {σ:Type} (E:σ->Ent) [hE:∀ s,Gh (E s)] (n0:Nat) (gy:Int->σ->Option (Bool×σ)) (ihy:∀ x s r,gy x s=some r->Cy Tryz.prog n0 [Va x] [E s] (Rz (λ_:Unit=>Va r.1) λ_=>[E r.2])) (f:Nat) (v0:List Int) (v1:σ) (r:σ) (hm:m113 gy f v0 v1=some r):Cg Tryz.prog 113 [Qv (yv n0),Pt v0] [E v1] (Rz (λx:Unit=>Dd) (λx=>[E r])):=by
 unfold m113 at hm;refine eng func113 kr_ I ntmps113 I I λM W a hM hD s=>?_;refine R 3 s λa w s=>?_;refine lB hm [0,1,5,6] s (λz1=>[(7,Va z1.1),(1000,E z1.2)]) s.fi (λ_=>I) (λo2 hko2 n z1 a w hm s=>?_) λo2s hm a w s=>?_
 ·unfold m113_l1 at hm;refine R 1 s λa w s=>?_;refine se (cmt s hm (λhb hm=>?_) λhb hm=>?_)
  ·refine se (wpIn_block ?_);refine se (rg (iB s hm λx3 hm a w s=>ru 2 s λa w s=>nl ?_));obtain ⟨x4,hx4,hm⟩:=bk hm;refine se (rg (ru 2 s λa w s=>cgy [1000] [1000] hM s (t I) I (oc (t I) on) (ihy _ _ _ hx4.e) (kc I kn) I (λ_=>I) I I I λy5 a w s=>ru 1 s λa w s=>nl ?_));refine cmf s hm (λhb hm=>?_) λhb hm=>?_
   ·obtain rfl:=si hm;replace hm:=hko2;dsimp only at hm;obtain rfl:=si hm;refine wpIn_ret ?_;exact rz [1000] () hM hD s I rv0 (kc I kn) I
   ·refine R0 2 s λa w s=>?_;exact ⟨_,hm,s.fi⟩
  ·refine wpIn_exit ?_;exact ⟨_,(si hm).symm,s.fi⟩
 ·dsimp only at hm;obtain rfl:=si hm;exact rze [1000] () hM hD s I rv0 (kc I kn) I
def m158_r1 :Int->((List Int))×Nat->Option (Bool×(((List Int))×Nat)):=λu5 z3=>match z3 with
 | (z3,0)=>(app z3 ([u5]:List Int)).bind λx6=>some (true,(x6,0))
 | (_,_ + 1)=>none
def m158 (f:Nat) (v0:List Int):Option ((List Int)):=(m113 m158_r1 f v0 (([]:List Int),0)).bind λo8=>(bif o8.2 == 0 then some o8.1 else none)
theorem s158 (f:Nat) (n0:Value) (v0:List Int) (r:(List Int)) (hm:m158 f v0=some r):Cg Tryz.prog 158 [Qv nz,Qv (fv 113 [] [n0])] [At n0 (Pt v0)] (Rz (λx:Value=>Qv x) (λx=>[At n0 (Pt v0),Ow 3 x r])):=by
 unfold m158 at hm;refine eng func158 kr_ I ntmps158 I I λM W a hM hD s=>?_;refine se (rg (sqr 1001 s (bxr (t I) (ocr I)) I I λb1 a w s=>ru 1 s λa w s=>nl ?_));refine se (R 1 s λa w s=>?_);refine wpIn_block (nilc (α:=Int) (k:=1001) (cs':=λc2=>[c2]) 1002 3 s I (λ_=>I) I λc2 s=>?_);obtain ⟨o8,ho8,hko8⟩:=bs hm;refine rfn (α:=Int) (X:=Value) (σ:=(List Int)) (pe:=λx=>[Va x]) (gb:=(m158_r1)) (r:=o8) [(2,Qv (pb b1 0))] [] (λz3 n4=>[Mr b1 [n4],Ow 3 n4 z3]) ([]:List Int) c2 1005 1003 1004 [1001,1002] hM s (t I) vn (va (k:=1000) I vn) (kc I (kc I kn)) I (λ_ _=>I) (λ_ _ h=>look_pick (l:=[2]) h) (zs1 zs0) I I I (λE _ l ihy=>s113 E l m158_r1 ihy f _ _ _ ho8) (λl fn D tm htm u5 z3 r hm=>?_) (λd9 a w n10 s=>?_)
 ·rcases z3 with ⟨z3,_ | j⟩
  ·unfold m158_r1 at hm;dsimp only at hm;refine Cy.mk (KL:=1003) (KT:=1004) [1001,1002] [7] z3 htm I I I I I I (λ_=>I) λM W a n4 TB hM hD hTB s=>?_;refine R0 1 s λa w s=>?_;refine bgn (K:=1003) s I I λRB w hRB s=>?_;refine wpIn_block ?_;obtain ⟨x6,hx6,hm⟩:=bk hm;refine rg (ru 3 s λa w s=>apd (α:=Int) (k:=1002) s (t I) I (t I) hx6.e I I λc7 a w s=>srq (K:=1001) (cs':=[c7]) s (t I) I (t I) kr_ (oco (k:=1002) I) I I λw s=>nl ?_);obtain rfl:=si hm;exact rde (KL:=1003) (KT:=1004) [1001,1002] none 0 true x6 c7 hM s I I hRB hTB (kc I (kc I kn)) I I I I
  ·unfold m158_r1 at hm;cases hm
 ·replace hm:=hko8;rcases bfc hm with ⟨hj,hm⟩ | ⟨hj,hm⟩
  ·refine af0 hj ?_;refine R 2 s λa w s=>?_;obtain rfl:=si hm;refine wpIn_ret (lvm (KD:=1005) s I I I λa w ha s=>?_);rw [← ha];exact rz [1000,1002] n10 hM hD s I (rv1 (rt I)) (kc I (kc I kn)) I
  ·cases hm
def m111 (f:Nat) (v0:List Int):Option ((List Int)):=(m158 f v0).bind λx1=>some x1
theorem s111 (f:Nat) (n0:Value) (v0:List Int) (r:(List Int)) (hm:m111 f v0=some r):Cg Tryz.prog 111 [Qv (fv 113 [] [n0])] [At n0 (Pt v0)] (Rz (λx:Value=>Qv x) (λx=>[At n0 (Pt v0),Ow 3 x r])):=by
 unfold m111 at hm;refine eng func111 kr_ I ntmps111 I I λM W a hM hD s=>?_;refine R 1 s λa w s=>?_;obtain ⟨x1,hx1,hm⟩:=bk hm;refine se (rg (ru 1 s λa w s=>cgv [1000] [1000,1001] hM s qf I (oc cq (oc (t I) on)) vn vn (s158 f n0 _ _ hx1.e) (kc I kn) I (λ_=>I) I I I λy2 a w s=>ru 1 s λa w s=>nl ?_));obtain rfl:=si hm;refine wpIn_ret ?_;exact rz [1000,1001] y2 hM hD s I (rv1 (rt I)) (kc I (kc I kn)) I
def m59 (f:Nat) (v0:List Int):Option ((List Int)):=(m111 f v0).bind λx1=>(m112 f x1).bind λx3=>some x3
theorem s59 (f:Nat) (n0:Value) (v0:List Int) (r:(List Int)) (hm:m59 f v0=some r):Cg Tryz.prog 59 [Qv (fv 113 [] [n0])] [At n0 (Pt v0)] (Rz (λx:Value=>Qv x) (λx=>[At n0 (Pt v0),Ow 3 x r])):=by
 unfold m59 at hm;refine eng func59 kr_ I ntmps59 I I λM W a hM hD s=>?_;refine R 1 s λa w s=>?_;obtain ⟨x1,hx1,hm⟩:=bk hm;refine se (rg (ru 1 s λa w s=>cgv [1000] [1000,1001] hM s qf I (oc (t I) on) vn vn (s111 f n0 _ _ hx1.e) (kc I kn) I (λ_=>I) I I I λy2 a w s=>ru 1 s λa w s=>nl ?_));obtain ⟨x3,hx3,hm⟩:=bk hm;refine se (rg (ru 1 s λa w s=>cgv [1001] [1001] hM s qf I (oc (t I) on) vn vn (s112 f y2 _ _ hx3.e) (kc I kn) I (λ_=>I) I I I λy4 a w s=>nl ?_));refine R 2 s λa w s=>?_;obtain rfl:=si hm;refine wpIn_ret ?_;exact rz [1000,1001] y2 hM hD s I (rv1 (rt I)) (kc I (kc I kn)) I
def m65 (f:Nat) (v0:List Int) (v1:List Int):Option ((List Int)):=(m115 f ([v0,v1]:List (List Int))).bind λx1=>(m60 f x1).bind λx3=>(m59 f x3).bind λx5=>(m58 f x5).bind λx7=>some x7
theorem s65 (f:Nat) (v0:List Int) (v1:List Int) (r:(List Int)) (hm:m65 f v0 v1=some r):Sp Tryz.prog 65 [Va v0,Va v1] (Rz (λx:Value=>Qv x) (λx=>[Ow 3 x r])):=by
 unfold m65 at hm;refine ens func65 kr_ I ntmps65 I I λM W a hM hD s=>?_;refine R 1 s λa w s=>?_;obtain ⟨x1,hx1,hm⟩:=bk hm;obtain ⟨x3,hx3,hm⟩:=bk hm;obtain ⟨x5,hx5,hm⟩:=bk hm;obtain ⟨x7,hx7,hm⟩:=bk hm;refine se (rg (ru 3 s λa w s=>sqz [1000] hM s (cc I (oc (t I) on) (s115 f _ _ hx1.e)) (λ_=>I) I I λy2 a w s=>fzk (α:=Int) (k:=1000) hM s I λs=>sqz [1001] hM s (cc I (oc (ta (k:=1000) (t I) I) on) (s60 f _ _ hx3.e)) (λ_=>I) I I λy4 a w s=>cgv [1001] [1001,1002] hM s qf I (oc (t I) on) vn vn (s59 f y4 _ _ hx5.e) (kc I kn) I (λ_=>I) I I I λy6 a w s=>cgv [1002] [1002] hM s qf I (oc (t I) on) vn vn (s58 f y6 _ _ hx7.e) (kc I kn) I (λ_=>I) I I I λy8 a w s=>ru 1 s λa w s=>nl ?_));obtain rfl:=si hm;refine wpIn_ret ?_;exact rz [1002] y8 hM hD s I (rv1 (rt I)) (kc I kn) I
def m49_l1 (f:Nat) (v0:Control) (v1:List Bool):Nat->(Int×Int×State×(List Int))->Option (Int×Int×State×(List Int))
 | 0,_=>none
 | n+1,z4=>(bif (decide (z4.2.1 < (v1.length:Int))) then (idx v1 z4.2.1).bind λx6=>(bif (z4.1 != (0:Int)) then some (z4.1,z4.2.1,z4.2.2.1,z4.2.2.2) else (bif x6 then (m75 f v0 z4.2.2.1 (⟨(2:Int),z4.2.1,true⟩:Event)).bind λx8=>(m65 f z4.2.2.2 x8.2.1).bind λx9=>some (x8.2.2,x8.1,x9) else some (z4.1,z4.2.2.1,z4.2.2.2)).bind λz7=>m49_l1 f v0 v1 n (z7.1,(wr (z4.2.1 + (1:Int))),z7.2.1,z7.2.2)) else some (z4.1,z4.2.1,z4.2.2.1,z4.2.2.2))
def m49 (f:Nat) (v0:Control) (v1:List Bool):Option (Int×(List Int)):=(m90 f v0).bind λx1=>(m49_l1 f v0 v1 f (x1.2.1,(0:Int),x1.1,x1.2.2)).bind λo5s=>(bif (o5s.1 != (0:Int)) then some (o5s.1,([]:List Int)) else some ((0:Int),o5s.2.2.2))
theorem s49 (f:Nat) (v0:Control) (v1:List Bool) (r:Int×(List Int)) (hm:m49 f v0 v1=some r):Sp Tryz.prog 49 [Va v0,Va v1] (Rz (λx:Value=>T2 (Qv x) (Va r.1)) (λx=>[Ow 3 x r.2])):=by
 unfold m49 at hm;refine ens func49 kr_ I ntmps49 I I λM W a hM hD s=>?_;refine se (rg (sq s (bx (t I)) I λa w s=>sq s (saq cq) I λa w s=>sq s (sa ci) I λa w s=>nl ?_));obtain ⟨x1,hx1,hm⟩:=bs hm;refine se (rg (sq s (ld (t I)) I λa w s=>sqz [1000] hM s (cc I (oc (t I) on) (s90 f _ _ hx1)) (λ_=>I) I I λy2 a w s=>sq s (mve (t I)) I λa w s=>sq s (Pn.x30 (t I)) I λa w s=>sq s (Pn.x31 (t I)) I λa w s=>sq s (Pn.x32 (t I)) I λa w s=>sqr 1001 s (alr (cs:=[nz,nz,nz,nz,nz]) (z:=.agg #[nz,nz,nz,nz,nz]) kr_ I I) I I λb3 a w s=>swd (K:=1001) s (t I) I (t I) I λw s=>sq s (saq (t I)) I λa w s=>sq s (sa (t I)) I λa w s=>nl ?_));refine se (se (rg (sq s (mv (t I)) I λa w s=>sq s (ln (t I)) I λa w s=>sq s (mv ci) I λa w s=>nl ?_)));obtain ⟨o5s,hoo5,hko5⟩:=bs hm;refine cpI (λa w=>∃ (o5sc0:Value),St M W 45 [(0,Va v0),(1,Va v1),(2,Pt v0),(4,Qv nz),(5,Va ((0:Int))),(6,Qv (pb b3 0)),(7,Qv o5sc0),(8,Va o5s.1),(18,Va v1),(19,Va ((v1.length:Int))),(20,Va o5s.2.1),(1001,Mg b3 o5s.2.2.1),(1000,Ow 3 o5sc0 o5s.2.2.2)] a w) ?_ λa w s=>?_
 ·refine wpIn_block (loI (λn z4=>m49_l1 f v0 v1 n z4) o5s (λz4 a w=>∃ (z4c0:Value),St M W 45 [(0,Va v0),(1,Va v1),(2,Pt v0),(4,Qv nz),(5,Va ((0:Int))),(6,Qv (pb b3 0)),(7,Qv z4c0),(8,Va z4.1),(18,Va v1),(19,Va ((v1.length:Int))),(20,Va z4.2.1),(1001,Mg b3 z4.2.2.1),(1000,Ow 3 z4c0 z4.2.2.2)] a w) f (x1.2.1,(0:Int),x1.1,x1.2.2) ⟨y2,s.pick [0,1,2,4,5,6,7,8,18,19,20,1001,1000]⟩ hoo5 (λ_=>I) λn z4 a w hm s=>?_);obtain ⟨z4c0,s⟩:=s;replace hm:m49_l1 f v0 v1 (n + 1) z4=some o5s:=hm;unfold m49_l1 at hm;refine se (rg (sq s (lt (t I) (t I)) I λa w s=>nl ?_));refine se (cm s I hm (λhb hm=>?_) (λhb hm=>?_))
  ·refine wpIn_skip (se ?_);refine wpIn_block ?_;obtain ⟨x6,hx6,hm⟩:=bs hm;refine se (rg (sq s (mv (t I)) I λa w s=>sq s (ix (t I) (t I) hx6) I λa w s=>sq s (ld (t I)) I λa w s=>sq s (sa (t I)) I λa w s=>sq s (sa (t I)) I λa w s=>nl ?_));refine se (se (rg (sq s (mv (t I)) I λa w s=>sq s (ne (t I) ci) I λa w s=>nl ?_)));refine cm s I hm (λhb hm=>?_) (λhb hm=>?_)
   ·refine wpIn_exit ?_;obtain rfl:=si hm;exact ⟨z4c0,s.pick [0,1,2,4,5,6,7,8,18,19,20,1001,1000]⟩
   ·refine wpIn_skip (se (rg (sq s (mv (t I)) I λa w s=>nl ?_)));obtain ⟨z7,hz7,hkz7⟩:=bs hm;refine cpI (λa w=>∃ (z7c0:Value),St M W 45 [(0,Va v0),(1,Va v1),(2,Pt v0),(4,Qv nz),(5,Va ((0:Int))),(6,Qv (pb b3 0)),(7,Qv z7c0),(8,Va z7.1),(9,Va z4.2.1),(10,Va x6),(18,Va v1),(19,Va ((v1.length:Int))),(20,Va z4.2.1),(1001,Mg b3 z7.2.1),(1002,Ow 3 z7c0 z7.2.2)] a w) ?_ λa w s=>?_
    ·refine cm s I hz7 (λhb hm=>?_) (λhb hm=>?_)
     ·refine se (rg (sq s (saq cq) I λa w s=>nl ?_));obtain ⟨x8,hx8,hm⟩:=bs hm;refine se (rg (sq s (ld (t I)) I λa w s=>sq s (lm (K:=1001) (t I) I) I λa w s=>sq s (mv (t I)) I λa w s=>sq s (bl136_0_1_2 ci (t I) cb) I λa w s=>sq s (cc I (oc (t I) (oc (t I) (oc (t I) on))) (s75 f _ _ _ _ hx8)) I λa w s=>sq s (mve (t I)) I λa w s=>sq s (Pn.x30 (t I)) I λa w s=>sq s (Pn.x31 (t I)) I λa w s=>sq s (Pn.x32 (t I)) I λa w s=>sw (K:=1001) s (t I) I (t I) I λw s=>sq s (sa (t I)) I λa w s=>sq s (sa (t I)) I λa w s=>nl ?_));obtain ⟨x9,hx9,hm⟩:=bs hm;refine rg (sq s (mvq (t I)) I λa w s=>sq s (mv (t I)) I λa w s=>sqz [1002] hM s (tfg (k:=1000) (flz (λ_=>flq) (λ_=>(flc flo fln))) I (cc I (oc (ta (k:=1000) (t I) I) (oc (t I) on)) (s65 f _ _ _ hx9))) (λ_=>I) I I λy10 a w s=>sq s (saq (t I)) I λa w s=>nl ?_);obtain rfl:=si hm;exact ⟨y10,s.pick [0,1,2,4,5,6,7,8,9,10,18,19,20,1001,1002]⟩
     ·refine wpIn_skip ?_;obtain rfl:=si hm;exact ⟨z4c0,s.rekey (l:=[(0,0),(1,1),(2,2),(4,4),(5,5),(6,6),(7,7),(8,8),(9,9),(10,10),(18,18),(19,19),(20,20),(1001,1001),(1000,1002)]) (.same I (.same I (.same I (.same I (.same I (.same I (.same I (.same I (.same I (.same I (.same I (.same I (.same I (.same I (.key (t:=1000) (u:=1002) I .nil))))))))))))))) I I⟩
    ·obtain ⟨z7c0,s⟩:=s;replace hm:=hkz7;refine rg (sq s (ad (t I) ci) I λa w s=>sq s (mv (t I)) I λa w s=>nl ?_);exact ⟨_,hm,⟨z7c0,s.rekey (l:=[(0,0),(1,1),(2,2),(4,4),(5,5),(6,6),(7,7),(8,8),(18,18),(19,19),(20,20),(1001,1001),(1002,1000)]) (.same I (.same I (.same I (.same I (.same I (.same I (.same I (.same I (.same I (.same I (.same I (.same I (.key (t:=1002) (u:=1000) I .nil))))))))))))) I I⟩⟩
  ·refine wpIn_exit ?_;obtain rfl:=si hm;exact ⟨z4c0,s.pick [0,1,2,4,5,6,7,8,18,19,20,1001,1000]⟩
 ·obtain ⟨o5sc0,s⟩:=s;replace hm:=hko5;refine se (se (rg (sq s (mv (t I)) I λa w s=>sq s (ne (t I) ci) I λa w s=>nl ?_)));refine cm s I hm (λhb hm=>?_) (λhb hm=>?_)
  ·refine se (rg (sq s (mv (t I)) I λa w s=>sq s (saq cq) I λa w s=>sq s (sa (t I)) I λa w s=>nl ?_));obtain rfl:=si hm;refine nilt (α:=Int) (d:=4) 1004 3 s I I λc11 s=>?_;refine wpIn_ret ?_;exact rz [1004] c11 hM hD s I (rv2 (rt I) (rt I)) (kc I kn) I
  ·refine wpIn_skip (se (rg (sq s (mvq (t I)) I λa w s=>sq s (saq (t I)) I λa w s=>sq s (sa ci) I λa w s=>nl ?_)));obtain rfl:=si hm;refine wpIn_ret ?_;exact rz [1000] o5sc0 hM hD s I (rv2 (rt I) (rt I)) (kc I kn) I
def m50 (f:Nat) (v0:Option World_overlap):Option ((Option World_overlap)):=some v0
theorem s50 (f:Nat) (v0:Option World_overlap) (r:(Option World_overlap)) (hm:m50 f v0=some r):Sp Tryz.prog 50 [Va v0] (Rz (λx:Value=>Qv (fv 107 [] [x])) (λx=>[At x (Pt r)])):=by
 unfold m50 at hm;refine ens func50 kr_ I ntmps50 I I λM W a hM hD s=>?_;refine R 2 s λa w s=>?_;refine se (rg (nmk (d:=1) 1000 s I I λc1 s=>sq s (mkf I I qn (qc (t I) qn)) I λa w s=>ru 1 s λa w s=>nl ?_));obtain rfl:=si hm;refine wpIn_ret ?_;exact rz [1000] c1 hM hD s I (rv1 (rt I)) (kc I kn) I
def m154_l1 :Nat->(Int×(List Int))->Option (Int×(List Int))
 | 0,_=>none
 | n+1,z4=>(bif (decide (z4.1 < (z4.2.length:Int))) then (lsr z4.1 (z4.2.length:Int) (z4.2.length:Int)).bind λx6=>(lsr 0 z4.1 (z4.2.length:Int)).bind λx7=>m154_l1 n ((wr (z4.1 + ((min (x6.2 - x6.1) ((z4.2.drop x7.1).take (x7.2 - x7.1)).length:Nat):Int))),(cpl z4.2 x6.1 x6.2 ((z4.2.drop x7.1).take (x7.2 - x7.1)))) else some (z4.1,z4.2))
def m154 (f:Nat) (v0:List Int) (v1:Int):Option ((List Int)):=(bif (decide (v1 < (0:Int))) then none else (m196 f (Ik.ofI (Ik.toI (v0.length:Int)):Kd .u64) (Ik.ofI (Ik.toI v1):Kd .u64)).bind λx1=>(bif ((decide (Ik.toI x1.1 > Ik.toI (⟨0⟩:Kd .u64))) || (decide (Ik.toI x1.2 > Ik.toI (⟨9223372036854775807⟩:Kd .u64)))) then none else (mks (0:Int) (Ik.ofI (Ik.toI x1.2):Int)).bind λx2=>(m154_l1 f (((min (x2.length - 0) v0.length:Nat):Int),(cpl x2 0 x2.length v0))).bind λo5s=>some o5s.2))
theorem s154 (f:Nat) (v0:List Int) (v1:Int) (r:(List Int)) (hm:m154 f v0 v1=some r):Sp Tryz.prog 154 [Va v0,Va v1] (Rz (λx:Value=>Qv x) (λx=>[Ow 3 x r])):=by
 unfold m154 at hm;refine ens func154 kr_ I ntmps154 I I λM W a hM hD s=>?_;refine R 1 s λa w s=>?_;refine se (R 2 s λa w s=>?_);refine cmf s hm (λhb hm=>?_) λhb hm=>?_
 ·cases hm
 ·obtain ⟨x1,hx1,hm⟩:=bk hm;refine se (rg (ru 2 s λa w s=>sq s (cvk (t I) kr_ kr_) I λa w s=>sq s (mv (t I)) I λa w s=>sq s (cvk (t I) kr_ kr_) I λa w s=>sq s (cc I (oc (t I) (oc (t I) on)) (s196 f _ _ _ hx1.e)) I λa w s=>sq s (mve (t I)) I λa w s=>sq s (Pn.x20 (t I)) I λa w s=>sq s (Pn.x21 (t I)) I λa w s=>sq s (sa (t I)) I λa w s=>sq s (sa (t I)) I λa w s=>nl ?_));refine se (se (rg (ru 1 s λa w s=>sq s (gtk (t I) ckd) I λa w s=>ru 2 s λa w s=>sg s I I (λhb=>(gtk (tg I hb) ckd)) I λa w s=>ru 1 s λa w s=>nl ?_)));refine cmf s hm (λhb hm=>?_) λhb hm=>?_
  ·cases hm
  ·obtain ⟨x2,hx2,hm⟩:=bk hm;refine se (rg (ru 1 s λa w s=>sq s (cvk (t I) kr_ kr_) I λa w s=>sqo 1000 s (mkS (t I) (t I) hx2.e) I I λc3 a w s=>sq s (saq (t I)) I λa w s=>nl ?_));refine se (rg (ru 2 s λa w s=>cpW (k:=1000) s (t I) I (t I) kr_ kr_ I I λa w s=>ru 1 s λa w s=>nl ?_));refine se (lA hm [0,1,4,5,6,7] s (λz4=>[(8,Va z4.1),(1000,Ow 3 c3 z4.2)]) s.fi (λ_=>I) (λo5s hko5 n z4 a w hm s=>?_) λo5s hm a w s=>?_)
   ·unfold m154_l1 at hm;refine se (R 4 s λa w s=>?_);refine cmt s hm (λhb hm=>?_) λhb hm=>?_
    ·refine wpIn_block ?_;obtain ⟨x6,hx6,hm⟩:=bk hm;obtain ⟨x7,hx7,hm⟩:=bk hm;refine flow2 [(8,Va z4.1)] [1,2,3,4,5,6] [39,40,41,42,43,44] [] [] [38] [(7,[]),(8,[38]),(9,[])] s (.skip (.skip (.skip (.cons (.cons (.cons (.cons (.cons (.cons (.late .nil I I (mv (t I))) I I (mvq (t I))) I I (mv (t I))) I I (sbg (k:=1000) kr_ kr_ (t I) I (.inr ⟨_,I,(t I),I,I⟩) hx6.e)) I I (mvq (t I))) I I (mv (t I))) I I (sbg (k:=1000) kr_ kr_ (t I) I (.inl ⟨I,I,_,I,(t I)⟩) hx7.e)) I) I) I) kr_ kr_ I I (sb1 I sb0) I (by decide) I I ?_;refine ⟨⟨λ_=>I,I,.inr ⟨(sb1 I sb0),sb0,sn0⟩⟩,by kernel_rfl,_,I,λΨ a w s=>cpS (k:=1000) s (t I) I (t I) kr_ kr_ I I λa w s=>nl ?_⟩;refine nxt Ψ s ?_;refine ⟨⟨λ_=>I,I,.inr ⟨(sb1 I sb0),sb0,sn0⟩⟩,by kernel_rfl,_,I,λΨ a w s=>sq s (ad (t I) (t I)) I λa w s=>nl ?_⟩;refine nxt Ψ s ?_;refine ⟨⟨λ_=>I,I,.inl I⟩,by kernel_rfl,_,I,λΨ a w s=>sq s (sa (t I)) I λa w s=>nl ?_⟩;refine nxt Ψ s ?_;refine ⟨⟨λ_=>I,I,.inl I⟩,λa w s=>?_⟩;replace s:St M W 48 [(0,Va v0),(1,Va v1),(4,Qv nz),(5,Va x1.1),(6,Va x1.2),(7,Qv c3),(8,Va ((wr (z4.1 + ((min (x6.2 - x6.1) ((z4.2.drop x7.1).take (x7.2 - x7.1)).length:Nat):Int))))),(1000,Ow 3 c3 ((cpl z4.2 x6.1 x6.2 ((z4.2.drop x7.1).take (x7.2 - x7.1)))))] a w:=s.pick [0,1,4,5,6,7,8,1000];exact ⟨_,hm,s.fi⟩
    ·refine wpIn_exit ?_;obtain rfl:=si hm;exact s.fi
   ·refine R 2 s λa w s=>?_;obtain rfl:=si hm;refine wpIn_ret ?_;exact rz [1000] c3 hM hD s I (rv1 (rt I)) (kc I kn) I
def m101_l2 (z5:Int×(List Int)×(List Int)) (x8:List Int):Nat->(Int×(List Int)×(List Int))->Option (Int×(List Int)×(List Int))
 | 0,_=>none
 | n+1,z9=>(bif (decide (z9.1 < (x8.length:Int))) then (idx x8 z9.1).bind λx11=>(idx z9.2.1 x11).bind λx12=>(bif (decide (x12 < (0:Int))) then (idx z9.2.2 z5.1).bind λx14=>(idx z9.2.1 x14).bind λx15=>(idx z9.2.1 x11).bind λx16=>(app z9.2.2 ([x11]:List Int)).bind λx17=>some ((z9.2.1.set x11.toNat (wr (x15 + (1:Int)))),x17) else some (z9.2.1,z9.2.2)).bind λz13=>m101_l2 z5 x8 n ((wr (z9.1 + (1:Int))),z13.1,z13.2) else some (z9.1,z9.2.1,z9.2.2))
def m101_l1 (f:Nat) (v0:List (List Int)):Nat->(Int×(List Int)×(List Int))->Option (Int×(List Int)×(List Int))
 | 0,_=>none
 | n+1,z5=>(bif (decide (z5.1 < (z5.2.2.length:Int))) then (idx z5.2.2 z5.1).bind λx7=>(idx v0 x7).bind λx8=>(m101_l2 z5 x8 f ((0:Int),z5.2.1,z5.2.2)).bind λo10s=>m101_l1 f v0 n ((wr (z5.1 + (1:Int))),o10s.2.1,o10s.2.2) else some (z5.1,z5.2.1,z5.2.2))
def m101 (f:Nat) (v0:List (List Int)) (v1:Int):Option ((List Int)):=(m154 f ([(-1:Int)]:List Int) (v0.length:Int)).bind λx1=>(idx x1 v1).bind λx3=>(m101_l1 f v0 f ((0:Int),(x1.set v1.toNat (0:Int)),([v1]:List Int))).bind λo6s=>some o6s.2.1
theorem s101 (f:Nat) (v0:List (List Int)) (v1:Int) (r:(List Int)) (hm:m101 f v0 v1=some r):Sp Tryz.prog 101 [Va v0,Va v1] (Rz (λx:Value=>Qv x) (λx=>[Ow 3 x r])):=by
 unfold m101 at hm;refine ens func101 kr_ I ntmps101 I I λM W a hM hD s=>?_;refine R 1 s λa w s=>?_;obtain ⟨x1,hx1,hm⟩:=bk hm;refine se (rg (ru 3 s λa w s=>sqz [1000] hM s (cc I (oc (t I) (oc (t I) on)) (s154 f _ _ _ hx1.e)) (λ_=>I) I I λy2 a w s=>ru 1 s λa w s=>nl ?_));obtain ⟨x3,hx3,hm⟩:=bk hm;refine se (rg (ru 3 s λa w s=>stq (k:=1000) s (t I) I (idxg hx3.e) ci λw s=>nl ?_));refine se (rg (ru 1 s λa w s=>sqo 1001 s (bso (o1 (t I) o0) I I kr_) I I λc4 a w s=>ru 1 s λa w s=>nl ?_));refine se (R 1 s λa w s=>?_);refine lA1 hm [0,1,4,5] s (λz5 z5c0=>[(6,Qv z5c0),(7,Va z5.1),(1000,Ow 3 y2 z5.2.1),(1001,Ow 3 z5c0 z5.2.2)]) ⟨c4,s.fi⟩ (λ_=>I) (λo6s hko6 n z5 a w hm s=>?_) λo6s hm a w s=>?_
 ·obtain ⟨z5c0,s⟩:=s;unfold m101_l1 at hm;refine se (R 4 s λa w s=>?_);refine cmt s hm (λhb hm=>?_) λhb hm=>?_
  ·refine se (wpIn_block ?_);obtain ⟨x7,hx7,hm⟩:=bk hm;refine se (rg (ru 5 s λa w s=>iB s hm λx8 hm a w s=>ru 3 s λa w s=>nl ?_));refine lA1 hm [0,1,4,5,7,31,32] s (λz9 z9c0=>[(6,Qv z9c0),(33,Va z9.1),(1000,Ow 3 y2 z9.2.1),(1001,Ow 3 z9c0 z9.2.2)]) ⟨z5c0,s.fi⟩ (λ_=>I) (λo10s hko10 n z9 a w hm s=>?_) λo10s hm a w s=>?_
   ·obtain ⟨z9c0,s⟩:=s;unfold m101_l2 at hm;refine R 1 s λa w s=>?_;refine se (cmt s hm (λhb hm=>?_) λhb hm=>?_)
    ·refine se (wpIn_block ?_);refine se (rg (iB s hm λx11 hm a w s=>ru 2 s λa w s=>nl ?_));obtain ⟨x12,hx12,hm⟩:=bk hm;refine R 5 s λa w s=>?_;obtain ⟨z13,hz13,hkz13⟩:=bs hm;refine cP1 [0,1,4,5,7,9,31,32,33] s (λz13c0=>[(6,Qv z13c0),(1000,Ow 3 y2 z13.1),(1001,Ow 3 z13c0 z13.2)]) ?_ λa w s=>?_
     ·refine cm s I hz13 (λhb hm=>?_) (λhb hm=>?_)
      ·obtain ⟨x14,hx14,hm⟩:=bk hm;obtain ⟨x15,hx15,hm⟩:=bk hm;obtain ⟨x16,hx16,hm⟩:=bk hm;refine se (rg (ru 11 s λa w s=>stq (k:=1000) s (t I) I (idxg hx16.e) (t I) λw s=>nl ?_));obtain ⟨x17,hx17,hm⟩:=bk hm;refine rg (ru 3 s λa w s=>apd (α:=Int) (k:=1001) s (t I) I (t I) hx17.e I I λc18 a w s=>ru 1 s λa w s=>nl ?_);obtain rfl:=si hm;exact ⟨c18,s.fi⟩
      ·refine wpIn_skip ?_;obtain rfl:=si hm;exact ⟨z9c0,s.fi⟩
     ·obtain ⟨z13c0,s⟩:=s;replace hm:=hkz13;refine R0 2 s λa w s=>?_;exact ⟨_,hm,⟨z13c0,s.fi⟩⟩
    ·refine wpIn_exit ?_;obtain rfl:=si hm;exact ⟨z9c0,s.fi⟩
   ·obtain ⟨o10sc0,s⟩:=s;refine R0 3 s λa w s=>?_;exact ⟨_,hm,⟨o10sc0,s.fi⟩⟩
  ·refine wpIn_exit ?_;obtain rfl:=si hm;exact ⟨z5c0,s.fi⟩
 ·obtain ⟨o6sc0,s⟩:=s;refine R 2 s λa w s=>?_;obtain rfl:=si hm;refine wpIn_ret ?_;exact rz [1000] y2 hM hD s I (rv1 (rt I)) (kc I kn) I
def m102_l2 (z3:Int×(List (List Int))) (x5:List Int):Nat->(Int×(List (List Int)))->Option (Int×(List (List Int)))
 | 0,_=>none
 | n+1,z6=>(bif (decide (z6.1 < (x5.length:Int))) then (idx x5 z6.1).bind λx8=>(idx z6.2 x8).bind λx9=>(app x9 ([z3.1]:List Int)).bind λx11=>m102_l2 z3 x5 n ((wr (z6.1 + (1:Int))),(z6.2.set x8.toNat x11)) else some (z6.1,z6.2))
def m102_l1 (f:Nat) (v0:List (List Int)):Nat->(Int×(List (List Int)))->Option (Int×(List (List Int)))
 | 0,_=>none
 | n+1,z3=>(bif (decide (z3.1 < (v0.length:Int))) then (idx v0 z3.1).bind λx5=>(m102_l2 z3 x5 f ((0:Int),z3.2)).bind λo7s=>m102_l1 f v0 n ((wr (z3.1 + (1:Int))),o7s.2) else some (z3.1,z3.2))
def m102 (f:Nat) (v0:List (List Int)):Option ((List (List Int))):=(mks ([]:List Int) (v0.length:Int)).bind λx1=>(m102_l1 f v0 f ((0:Int),x1)).bind λo4s=>some o4s.2
theorem s102 (f:Nat) (v0:List (List Int)) (r:(List (List Int))) (hm:m102 f v0=some r):Sp Tryz.prog 102 [Va v0] (Va r):=by
 unfold m102 at hm;refine ens func102 kr_ I ntmps102 I I λM W a hM hD s=>?_;refine R 1 s λa w s=>?_;obtain ⟨x1,hx1,hm⟩:=bk hm;refine se (rg (ru 2 s λa w s=>sqoo 1000 s (mkO (e2:=24) (e:=3) (t I) (t I) kr_ kr_ hx1.e) I I λc2 a w s=>ru 1 s λa w s=>nl ?_));refine se (R 3 s λa w s=>?_);refine lA hm [0,2,3,11,12] s (λz3=>[(13,Va z3.1),(1000,Oo 24 3 c2 (z3.2.map some))]) s.fi (λ_=>I) (λo4s hko4 n z3 a w hm s=>?_) λo4s hm a w s=>?_
 ·unfold m102_l1 at hm;refine R 1 s λa w s=>?_;refine se (cmt s hm (λhb hm=>?_) λhb hm=>?_)
  ·refine se (wpIn_block ?_);refine se (rg (ru 1 s λa w s=>iB s hm λx5 hm a w s=>ru 3 s λa w s=>nl ?_));refine R 3 s λa w s=>?_;refine lA hm [0,2,3,4,5,11,12,13,18,19] s (λz6=>[(20,Va z6.1),(1000,Oo 24 3 c2 (z6.2.map some))]) s.fi (λ_=>I) (λo7s hko7 n z6 a w hm s=>?_) λo7s hm a w s=>?_
   ·unfold m102_l2 at hm;refine R 1 s λa w s=>?_;refine se (cmt s hm (λhb hm=>?_) λhb hm=>?_)
    ·refine se (wpIn_block ?_);refine se (rg (iB s hm λx8 hm a w s=>ru 2 s λa w s=>nl ?_));obtain ⟨x9,hx9,hm⟩:=bk hm;obtain ⟨x11,hx11,hm⟩:=bk hm;refine rg (ru 4 s λa w s=>sq s (ixo (e:=3) (k:=1000) (t I) I (t I) kr_ kr_ (Oo.idx hx9.e)) I λa w s=>ldo (K:=1000) (K2:=1001) s (t I) I (Oo.at_ hx9.e) kr_ I I I I λc10 a w s=>ru 2 s λa w s=>apd (α:=Int) (k:=1001) s (t I) I (t I) hx11.e I I λc12 a w s=>sq s (ixo (e:=3) (k:=1000) (t I) I (t I) kr_ kr_ (Oo.idxh hx9.e)) I λa w s=>sto (K:=1000) (K2:=1001) s (t I) I (t I) I (Oo.hole hx9.e) kr_ I λw s=>oor (K:=1000) s I λs=>nl ?_);refine R0 2 s λa w s=>?_;exact ⟨_,hm,s.fi⟩
    ·refine wpIn_exit ?_;obtain rfl:=si hm;exact s.fi
   ·refine R0 2 s λa w s=>?_;exact ⟨_,hm,s.fi⟩
  ·refine wpIn_exit ?_;obtain rfl:=si hm;exact s.fi
 ·refine R 2 s λa w s=>?_;obtain rfl:=si hm;refine fzo (k:=1000) hM s I λs=>?_;refine wpIn_ret ?_;exact rn hD s I (rv1 (ro (ta (k:=1000) (t I) I)))
instance {f:Nat} {v0:List (List Int)}:Cn Tryz.prog 102 (m102 f v0) [Va v0] (λr:(List (List Int))=>(Va r)):=⟨s102 f v0⟩
def m136 (f:Nat) (v0:Int) (v1:Space):Option (Bool):=some ((decide (v0 < (0:Int))) || (decide (v0>=(v1.States.length:Int))))
theorem s136 (f:Nat) (v0:Int) (v1:Space) (r:Bool) (hm:m136 f v0 v1=some r):Sp Tryz.prog 136 [Va v0,Pt v1] (Va r):=by
 unfold m136 at hm;refine ens func136 kr_ I ntmps136 I I λM W a hM hD s=>?_;refine R 1 s λa w s=>?_;refine R 10 s λa w s=>?_;cases hm;exact rT hD s I I
def m103_2_l1 (f:Nat) (v0:List Int) (v1:Space):Nat->Int->Option (Lo (Int) (Int))
 | 0,_=>none
 | n+1,z1=>(bif (decide (z1 < (v0.length:Int))) then (idx v0 z1).bind λx3=>(m136 f x3 v1).bind λx4=>(bif x4 then some (.ret z1) else m103_2_l1 f v0 v1 n (wr (z1 + (1:Int)))) else some (.brk z1))
def m103_2 (f:Nat) (v0:List Int) (v1:Space):Option (Int):=((m103_2_l1 f v0 v1 f (0:Int)).bind λo2=>match o2 with | .brk o2s=>some (-1:Int) | .ret r=>some r)
theorem s103_2 (f:Nat) (n0:Value) (v0:List Int) (v1:Space) (r:Int) (hm:m103_2 f v0 v1=some r):Cg Tryz.prog 103 [Va v0,Qv (fv 136 [] [n0])] [At n0 (Pt v1)] (Rz (λx:Unit=>Va r) (λx=>[At n0 (Pt v1)])):=by
 unfold m103_2 at hm;refine eng func103 kr_ I ntmps103 I I λM W a hM hD s=>?_;refine R 1 s λa w s=>?_;refine se (R 3 s λa w s=>?_);refine lB hm [0,1,4,7,1000] s (λz1=>[(8,Va z1)]) s.fi (λ_=>I) (λo2 hko2 n z1 a w hm s=>?_) λo2s hm a w s=>?_
 ·unfold m103_2_l1 at hm;refine R 1 s λa w s=>?_;refine se (cmt s hm (λhb hm=>?_) λhb hm=>?_)
  ·refine se (wpIn_block ?_);refine R 2 s λa w s=>?_;obtain ⟨x3,hx3,hm⟩:=bk hm;obtain ⟨x4,hx4,hm⟩:=bk hm;refine se (rg (ru 5 s λa w s=>sq s (ccv (t I) I (oc (t I) on) vn (va (k:=1000) I vn) (s136 f _ _ _ hx4.e)) I λa w s=>nl ?_));refine cmf s hm (λhb hm=>?_) λhb hm=>?_
   ·refine R 2 s λa w s=>?_;obtain rfl:=si hm;replace hm:=hko2;dsimp only at hm;obtain rfl:=si hm;refine wpIn_ret ?_;exact rz [1000] () hM hD s I (rv1 (rt I)) (kc I kn) I
   ·refine R0 2 s λa w s=>?_;exact ⟨_,hm,s.fi⟩
  ·refine wpIn_exit ?_;exact ⟨_,(si hm).symm,s.fi⟩
 ·dsimp only at hm;refine R 1 s λa w s=>?_;obtain rfl:=si hm;refine wpIn_ret ?_;exact rz [1000] () hM hD s I (rv1 (rt I)) (kc I kn) I
def m56_2 (f:Nat) (v0:List Int) (v1:Space):Option (Bool):=(m103_2 f v0 v1).bind λx1=>some (decide (x1>=(0:Int)))
theorem s56_2 (f:Nat) (n0:Value) (v0:List Int) (v1:Space) (r:Bool) (hm:m56_2 f v0 v1=some r):Cg Tryz.prog 56 [Va v0,Qv (fv 136 [] [n0])] [At n0 (Pt v1)] (Rz (λx:Unit=>Va r) (λx=>[At n0 (Pt v1)])):=by
 unfold m56_2 at hm;refine eng func56 kr_ I ntmps56 I I λM W a hM hD s=>?_;refine R 1 s λa w s=>?_;obtain ⟨x1,hx1,hm⟩:=bk hm;refine se (rg (ru 2 s λa w s=>cgv [1000] [1000] hM s qf I (oc (t I) (oc (t I) on)) vn vn (s103_2 f n0 _ _ _ hx1.e) (kc I kn) I (λ_=>I) I I I λy2 a w s=>ru 2 s λa w s=>nl ?_));obtain rfl:=si hm;refine wpIn_ret ?_;exact rz [1000] () hM hD s I (rv1 (rt I)) (kc I kn) I
def m83_l1 (f:Nat) (v0:Space):Nat->Int->Option (Lo (Int) (Int))
 | 0,_=>none
 | n+1,z1=>(bif (decide (z1 < (v0.Moves.length:Int))) then (idx v0.Moves z1).bind λx3=>(m56_2 f x3 v0).bind λx5=>(bif x5 then some (.ret (6:Int)) else m83_l1 f v0 n (wr (z1 + (1:Int)))) else some (.brk z1))
def m83 (f:Nat) (v0:Space):Option (Int):=(bif ((v0.States.length:Int) == (0:Int)) then some (13:Int) else (bif (decide ((v0.States.length:Int) > (16384:Int))) then some (5:Int) else (bif ((v0.Moves.length:Int) != (v0.States.length:Int)) then some (8:Int) else ((m83_l1 f v0 f (0:Int)).bind λo2=>match o2 with | .brk o2s=>some (0:Int) | .ret r=>some r))))
theorem s83 (f:Nat) (v0:Space) (r:Int) (hm:m83 f v0=some r):Sp Tryz.prog 83 [Va v0] (Va r):=by
 unfold m83 at hm;refine ens func83 kr_ I ntmps83 I I λM W a hM hD s=>?_;refine R 2 s λa w s=>?_;refine se (wpIn_block ?_);refine R 5 s λa w s=>?_;refine cM s hm (λhb hm=>?_) λhb hm=>?_
 ·refine R 1 s λa w s=>?_;cases hm;exact rT hD s I I
 ·refine R 5 s λa w s=>?_;refine cM s hm (λhb hm=>?_) λhb hm=>?_
  ·refine R 1 s λa w s=>?_;cases hm;exact rT hD s I I
  ·refine R 8 s λa w s=>?_;refine cmf s hm (λhb hm=>?_) λhb hm=>?_
   ·refine R 1 s λa w s=>?_;cases hm;exact rT hD s I I
   ·refine se (R 4 s λa w s=>?_);refine lB hm [0,1,2,24,25] s (λz1=>[(26,Va z1)]) s.fi (λ_=>I) (λo2 hko2 n z1 a w hm s=>?_) λo2s hm a w s=>?_
    ·unfold m83_l1 at hm;refine R 1 s λa w s=>?_;refine se (cmt s hm (λhb hm=>?_) λhb hm=>?_)
     ·refine se (wpIn_block ?_);refine se (rg (iB s hm λx3 hm a w s=>ru 2 s λa w s=>nl ?_));obtain ⟨x5,hx5,hm⟩:=bk hm;refine se (rg (ru 1 s λa w s=>nmk (d:=1) 1000 s I I λc4 s=>sq s (mkf I I qn (qc (t I) qn)) I λa w s=>cgv [1000] [1000] hM s qf I (oc (t I) (oc (t I) on)) vn vn (s56_2 f c4 _ _ _ hx5.e) (kc I kn) I (λ_=>I) I I I λy6 a w s=>nl ?_));refine cmf s hm (λhb hm=>?_) λhb hm=>?_
      ·refine R 1 s λa w s=>?_;obtain rfl:=si hm;replace hm:=hko2;dsimp only at hm;cases hm;exact rT hD s I I
      ·refine R0 2 s λa w s=>?_;replace s:=tv (d:=1) s (ta (k:=1000) (t I) I);exact ⟨_,hm,s.fi⟩
     ·refine wpIn_exit ?_;exact ⟨_,(si hm).symm,s.fi⟩
    ·dsimp only at hm;refine R 1 s λa w s=>?_;cases hm;exact rT hD s I I
def m104 (f:Nat) (v0:Int) (v1:List Int) (v2:Int):Option (Bool):=(idx v1 v0).bind λx1=>(idx v1 v2).bind λx2=>some (x1 == (wr (x2 - (1:Int))))
theorem s104 (f:Nat) (n0:Nat) (n1:Nat) (n2:Value) (v0:Int) (v1:List Int) (v2:Int) (r:Bool) (hm:m104 f v0 v1 v2=some r):Cg Tryz.prog 104 [Va v0,Qv (pb n0 0),Qv (pb n1 0)] [Mr n0 [n2],Ow 3 n2 v1,Mg n1 v2] (Rz (λx:Unit=>Va r) (λx=>[Mr n0 [n2],Ow 3 n2 v1,Mg n1 v2])):=by
 unfold m104 at hm;refine eng func104 kr_ I ntmps104 I I λM W a hM hD s=>?_;refine R 1 s λa w s=>?_;obtain ⟨x1,hx1,hm⟩:=bk hm;obtain ⟨x2,hx2,hm⟩:=bk hm;refine se (fW 10 s kr_ I I λa w s=>ru 1 s λa w s=>nl ?_);obtain rfl:=si hm;refine wpIn_ret ?_;exact rz [1000,1001,1002] () hM hD s I (rv1 (rt I)) (kc I (kc I (kc I kn))) I
def m103_3_l1 (f:Nat) (v0:List Int) (v1:List Int) (v2:Int):Nat->Int->Option (Lo (Int) (Int))
 | 0,_=>none
 | n+1,z1=>(bif (decide (z1 < (v0.length:Int))) then (idx v0 z1).bind λx3=>(m104 f x3 v1 v2).bind λx4=>(bif x4 then some (.ret z1) else m103_3_l1 f v0 v1 v2 n (wr (z1 + (1:Int)))) else some (.brk z1))
def m103_3 (f:Nat) (v0:List Int) (v1:List Int) (v2:Int):Option (Int):=((m103_3_l1 f v0 v1 v2 f (0:Int)).bind λo2=>match o2 with | .brk o2s=>some (-1:Int) | .ret r=>some r)
theorem s103_3 (f:Nat) (n0:Nat) (n1:Nat) (n2:Value) (v0:List Int) (v1:List Int) (v2:Int) (r:Int) (hm:m103_3 f v0 v1 v2=some r):Cg Tryz.prog 103 [Va v0,Qv (fv 104 [] [(pb n0 0),(pb n1 0)])] [Mr n0 [n2],Ow 3 n2 v1,Mg n1 v2] (Rz (λx:Unit=>Va r) (λx=>[Mr n0 [n2],Ow 3 n2 v1,Mg n1 v2])):=by
 unfold m103_3 at hm;refine eng func103 kr_ I ntmps103 I I λM W a hM hD s=>?_;refine R 1 s λa w s=>?_;refine se (R 3 s λa w s=>?_);refine lB hm [0,1,4,7,1000,1001,1002] s (λz1=>[(8,Va z1)]) s.fi (λ_=>I) (λo2 hko2 n z1 a w hm s=>?_) λo2s hm a w s=>?_
 ·unfold m103_3_l1 at hm;refine R 1 s λa w s=>?_;refine se (cmt s hm (λhb hm=>?_) λhb hm=>?_)
  ·refine se (wpIn_block ?_);refine R 2 s λa w s=>?_;obtain ⟨x3,hx3,hm⟩:=bk hm;obtain ⟨x4,hx4,hm⟩:=bk hm;refine se (rg (ru 5 s λa w s=>cgv [1000,1001,1002] [1000,1001,1002] hM s (t I) I (oc (t I) on) vn (vq (vq vn)) (s104 f n0 n1 n2 _ _ _ _ hx4.e) (kc I (kc I (kc I kn))) I (λ_=>I) I I I λy5 a w s=>nl ?_));refine cmf s hm (λhb hm=>?_) λhb hm=>?_
   ·refine R 2 s λa w s=>?_;obtain rfl:=si hm;replace hm:=hko2;dsimp only at hm;obtain rfl:=si hm;refine wpIn_ret ?_;exact rz [1000,1001,1002] () hM hD s I (rv1 (rt I)) (kc I (kc I (kc I kn))) I
   ·refine R0 2 s λa w s=>?_;exact ⟨_,hm,s.fi⟩
  ·refine wpIn_exit ?_;exact ⟨_,(si hm).symm,s.fi⟩
 ·dsimp only at hm;refine R 1 s λa w s=>?_;obtain rfl:=si hm;refine wpIn_ret ?_;exact rz [1000,1001,1002] () hM hD s I (rv1 (rt I)) (kc I (kc I (kc I kn))) I
def m45_l1 (f:Nat) (v0:Space) (v1:Int) (x5:(List Int)):Nat->((List Int)×Int)->Option (Lo ((List Int)×Int) (Int×(List Int)))
 | 0,_=>none
 | n+1,z11=>(bif (z11.2 != v1) then (idx v0.Moves z11.2).bind λx14=>(m103_3 f x14 x5 z11.2).bind λx15=>(bif (decide (x15 < (0:Int))) then some (.ret ((6:Int),([]:List Int))) else (app z11.1 ([x15]:List Int)).bind λx18=>(idx v0.Moves z11.2).bind λx20=>(idx x20 x15).bind λx21=>m45_l1 f v0 v1 x5 n (x18,x21)) else some (.brk (z11.1,z11.2)))
def m45 (f:Nat) (v0:Space) (v1:Int):Option (Int×(List Int)):=(m83 f v0).bind λx1=>(bif (x1 != (0:Int)) then some (x1,([]:List Int)) else (bif ((decide (v1 < (0:Int))) || (decide (v1>=(v0.States.length:Int)))) then some ((2:Int),([]:List Int)) else (m102 f v0.Moves).bind λx4=>(m101 f x4 v1).bind λx5=>(idx x5 (0:Int)).bind λx8=>(bif (decide (x8 < (0:Int))) then some ((6:Int),([]:List Int)) else ((m45_l1 f v0 v1 x5 f (([]:List Int),(0:Int))).bind λo12=>match o12 with | .brk o12s=>some ((0:Int),o12s.1) | .ret r=>some r))))
theorem s45 (f:Nat) (v0:Space) (v1:Int) (r:Int×(List Int)) (hm:m45 f v0 v1=some r):Sp Tryz.prog 45 [Va v0,Va v1] (Rz (λx:Value=>T2 (Qv x) (Va r.1)) (λx=>[Ow 3 x r.2])):=by
 unfold m45 at hm;refine ens func45 kr_ I ntmps45 I I λM W a hM hD s=>?_;refine R 3 s λa w s=>?_;refine se (se (rg (ru 1 s λa w s=>cB s hm (s83 f _) λx1 hm a w s=>ru 1 s λa w s=>nl ?_)));refine R 2 s λa w s=>?_;refine cmf s hm (λhb hm=>?_) λhb hm=>?_
 ·refine R 3 s λa w s=>?_;obtain rfl:=si hm;refine nilt (α:=Int) (d:=4) 1000 3 s I I λc2 s=>?_;refine wpIn_ret ?_;exact rz [1000] c2 hM hD s I (rv2 (rt I) (rt I)) (kc I kn) I
 ·refine se (R 9 s λa w s=>?_);refine cmf s hm (λhb hm=>?_) λhb hm=>?_
  ·refine R 2 s λa w s=>?_;obtain rfl:=si hm;refine nilt (α:=Int) (d:=4) 1001 3 s I I λc3 s=>?_;refine wpIn_ret ?_;exact rz [1001] c3 hM hD s I (rv2 (rt I) (rt I)) (kc I kn) I
  ·obtain ⟨x4,hx4,hm⟩:=bk hm;obtain ⟨x5,hx5,hm⟩:=bk hm;refine se (rg (ru 4 s λa w s=>sqz [1002] hM s (cc I (oc (t I) (oc (t I) on)) (s101 f _ _ _ hx5.e)) (λ_=>I) I I λy6 a w s=>aR 1003 s λb7 a w s=>srq (K:=1003) (cs':=[y6]) s (t I) I (t I) kr_ (oco (k:=1002) I) I I λw s=>nl ?_));refine se ?_;obtain ⟨x8,hx8,hm⟩:=bk hm;refine R 4 s λa w s=>?_;refine cmf s hm (λhb hm=>?_) λhb hm=>?_
   ·refine R 2 s λa w s=>?_;obtain rfl:=si hm;refine nilt (α:=Int) (d:=4) 1004 3 s I I λc9 s=>?_;refine wpIn_ret ?_;exact rz [1004] c9 hM hD s I (rv2 (rt I) (rt I)) (kc I kn) I
   ·refine R 1 s λa w s=>?_;refine se (se (rg (sqb 1005 s (al (z:=(0:Int))) I I λb10 a w s=>sw (K:=1005) s (t I) I ci I λw s=>nl ?_)));refine nilt (α:=Int) (d:=8) 1006 3 s I I λc13 s=>?_;refine lb hm (λz11 a w=>∃ (z11c0:Value) (z11c1:Nat),St M W 60 [(0,Va v0),(1,Va v1),(2,Pt v0),(4,Qv nz),(5,Va ((0:Int))),(6,Va x1),(7,Qv (pb b7 0)),(8,Qv z11c0),(9,Qv (pb z11c1 0)),(1003,Mr b7 [y6]),(1002,Ow 3 y6 x5),(1006,Ow 3 z11c0 z11.1),(1005,Mg z11c1 z11.2)] a w) ⟨c13,b10,s.fi⟩ (λ_=>I) (λo12 hko12 n z11 a w hm s=>?_) λo12s hm a w s=>?_
    ·obtain ⟨z11c0,z11c1,s⟩:=s;unfold m45_l1 at hm;refine se (R 3 s λa w s=>?_);refine cmt s hm (λhb hm=>?_) λhb hm=>?_
     ·refine se (wpIn_block ?_);obtain ⟨x14,hx14,hm⟩:=bk hm;obtain ⟨x15,hx15,hm⟩:=bk hm;refine se (rg (ru 5 s λa w s=>sq s (mkf I I qn (qc (t I) (qc (t I) qn))) I λa w s=>cgv [1003,1002,1005] [1003,1002,1005] hM s qf I (oc (t I) (oc (t I) on)) vn vn (s103_3 f b7 z11c1 y6 _ _ _ _ hx15.e) (kc I (kc I (kc I kn))) I (λ_=>I) I I I λy16 a w s=>ru 1 s λa w s=>nl ?_));refine se (R 2 s λa w s=>?_);refine cmf s hm (λhb hm=>?_) λhb hm=>?_
      ·refine R 2 s λa w s=>?_;obtain rfl:=si hm;replace hm:=hko12;dsimp only at hm;obtain rfl:=si hm;refine nilt (α:=Int) (d:=4) 1007 3 s I I λc17 s=>?_;refine wpIn_ret ?_;exact rz [1007] c17 hM hD s I (rv2 (rt I) (rt I)) (kc I kn) I
      ·obtain ⟨x18,hx18,hm⟩:=bk hm;refine se (rg (ru 3 s λa w s=>apd (α:=Int) (k:=1006) s (t I) I (t I) hx18.e I I λc19 a w s=>ru 1 s λa w s=>nl ?_));refine rg (ru 3 s λa w s=>iB s hm λx20 hm a w s=>ru 2 s λa w s=>iB s hm λx21 hm a w s=>ru 1 s λa w s=>sw (K:=1005) s (t I) I (t I) I λw s=>nl ?_);refine R 1 s λa w s=>?_;refine rg (sqb 1008 s (al (z:=(0:Int))) I I λb22 a w s=>sw (K:=1008) s (t I) I (t I) I λw s=>nl ?_);exact ⟨_,hm,⟨c19,b22,s.rekey (l:=[(0,0),(1,1),(2,2),(4,4),(5,5),(6,6),(7,7),(8,8),(9,9),(1003,1003),(1002,1002),(1006,1006),(1008,1005)]) (.same I (.same I (.same I (.same I (.same I (.same I (.same I (.same I (.same I (.same I (.same I (.same I (.key (t:=1008) (u:=1005) I .nil))))))))))))) I I⟩⟩
     ·refine wpIn_exit ?_;exact ⟨_,(si hm).symm,⟨z11c0,z11c1,s.fi⟩⟩
    ·obtain ⟨o12sc0,o12sc1,s⟩:=s;dsimp only at hm;refine R 3 s λa w s=>?_;obtain rfl:=si hm;refine wpIn_ret ?_;exact rz [1006] o12sc0 hM hD s I (rv2 (rt I) (rt I)) (kc I kn) I
def m107_l2 {σ:Type} (gy:Step->σ->Option (Bool×σ)) (f:Nat) (v0:Option World_overlap) (z2:Int×σ) (x4:State) (x7:Int×(List Event)):Nat->(Int×σ)->Option (Lo (Int×σ) (σ))
 | 0,_=>none
 | n+1,z9=>(bif (decide (z9.1 < (x7.2.length:Int))) then (idx x7.2 z9.1).bind λx11=>v0.bind λx13=>(m75 f x13.c x4 x11).bind λx14=>bif (x14.2.2 != (0:Int)) then (bif true then some (.ret z9.2) else m107_l2 gy f v0 z2 x4 x7 n ((wr (z9.1 + (1:Int))),z9.2)) else ((gy (⟨z2.1,z9.1,x14.2.1⟩:Step) z9.2).bind λx16=>(bif (bif (x14.2.2 != (0:Int)) then true else (!x16.1)) then some (.ret x16.2) else m107_l2 gy f v0 z2 x4 x7 n ((wr (z9.1 + (1:Int))),x16.2))) else some (.brk (z9.1,z9.2)))
def m107_l1 {σ:Type} (gy:Step->σ->Option (Bool×σ)) (f:Nat) (v0:Option World_overlap) (x1:World_overlap):Nat->(Int×σ)->Option (Lo (Int×σ) (σ))
 | 0,_=>none
 | n+1,z2=>(bif (decide (z2.1 < (x1.space.States.length:Int))) then (idx x1.space.States z2.1).bind λx4=>v0.bind λx6=>(m74 f x6.c x4).bind λx7=>(bif (x7.1 != (0:Int)) then some (.ret z2.2) else ((m107_l2 gy f v0 z2 x4 x7 f ((0:Int),z2.2)).bind λo10=>match o10 with | .brk o10s=>m107_l1 gy f v0 x1 n ((wr (z2.1 + (1:Int))),o10s.2) | .ret r=>some (.ret r))) else some (.brk (z2.1,z2.2)))
def m107 {σ:Type} (gy:Step->σ->Option (Bool×σ)) (f:Nat) (v0:Option World_overlap) (v1:σ):Option (σ):=v0.bind λx1=>((m107_l1 gy f v0 x1 f ((0:Int),v1)).bind λo3=>match o3 with | .brk o3s=>some o3s.2 | .ret r=>some r)
theorem s107 {σ:Type} (E:σ->Ent) [hE:∀ s,Gh (E s)] (n0:Nat) (gy:Step->σ->Option (Bool×σ)) (ihy:∀ x s r,gy x s=some r->Cy Tryz.prog n0 [Va x] [E s] (Rz (λ_:Unit=>Va r.1) λ_=>[E r.2])) (f:Nat) (v0:Option World_overlap) (v1:σ) (r:σ) (hm:m107 gy f v0 v1=some r):Cg Tryz.prog 107 [Qv (yv n0),Pt v0] [E v1] (Rz (λx:Unit=>Dd) (λx=>[E r])):=by
 unfold m107 at hm;refine eng func107 kr_ I ntmps107 I I λM W a hM hD s=>?_;obtain ⟨x1,hx1,hm⟩:=bs hm;refine se (rg (sq s (ld (t I)) I λa w s=>sq s (nk (vp (t I) hx1)) I λa w s=>sq s (fa (f:=World_overlap.space) (t I)) I λa w s=>sq s (fa (f:=Space.States) (t I)) I λa w s=>sq s (ld (t I)) I λa w s=>sq s (ln (t I)) I λa w s=>sq s (mv ci) I λa w s=>nl ?_));obtain ⟨o3,hoo3,hko3⟩:=bs hm;refine lcI o3 (λo3s a w=>St M W 65 [(0,Qv (yv n0)),(1,Pt v0),(16,Va x1.space.States),(17,Va ((x1.space.States.length:Int))),(18,Va o3s.1),(1000,E o3s.2)] a w) ?_ λo3s a w ho s=>?_
 ·refine wpIn_block (loI (λn z2=>m107_l1 gy f v0 x1 n z2) o3 (λz2 a w=>St M W 65 [(0,Qv (yv n0)),(1,Pt v0),(16,Va x1.space.States),(17,Va ((x1.space.States.length:Int))),(18,Va z2.1),(1000,E z2.2)] a w) f ((0:Int),v1) (s.pick [0,1,16,17,18,1000]) hoo3 (λ_=>I) λn z2 a w hm s=>?_);replace hm:m107_l1 gy f v0 x1 (n + 1) z2=some o3:=hm;unfold m107_l1 at hm;refine se (rg (sq s (lt (t I) (t I)) I λa w s=>nl ?_));refine se (cm s I hm (λhb hm=>?_) (λhb hm=>?_))
  ·refine wpIn_skip (se ?_);refine wpIn_block ?_;obtain ⟨x4,hx4,hm⟩:=bs hm;refine se (rg (sq s (mv (t I)) I λa w s=>sq s (ix (t I) (t I) hx4) I λa w s=>sq s (ld (t I)) I λa w s=>sqr 1001 s (alr (cs:=[nz,nz,nz,nz,nz]) (z:=.agg #[nz,nz,nz,nz,nz]) kr_ I I) I I λb5 a w s=>sq s (sa (t I)) I λa w s=>swd (K:=1001) s (t I) I (t I) I λw s=>nl ?_));obtain ⟨x6,hx6,hm⟩:=bs hm;obtain ⟨x7,hx7,hm⟩:=bs hm;refine se (flo3 (m:=6) 7 s (.cons (.cons (.cons (.cons (.cons (.cons .nil I (ld (t I))) I (nk (vp (t I) hx6))) I (fa (f:=World_overlap.c) (t I))) I (ld (t I))) I (lm (K:=1001) (t I) I)) I (cc I (oc (t I) (oc (t I) on)) (s74 f _ _ _ hx7))) kr_ I I λa w s=>opz (d:=29) [1003] s I (λ_=>I) I λy8 s=>sq s (mve (t I)) I λa w s=>d3 s (.cons (.cons (.cons (.cons .nil I (Pn.x20 (t I))) I (Pn.x21 (t I))) I (saq (t I))) I (sa (t I))) I I λa w s=>?_);refine se (se (rg (sq s (mv (t I)) I λa w s=>sq s (ne (t I) ci) I λa w s=>nl ?_)));refine cm s I hm (λhb hm=>?_) (λhb hm=>?_)
   ·obtain rfl:=si hm;replace hm:=hko3;dsimp only at hm;obtain rfl:=si hm;refine wpIn_ret ?_;exact rz [1000] () hM hD s I rv0 (kc I kn) I
   ·refine wpIn_skip (se (rg (sq s (mvq (t I)) I λa w s=>sq s (lnq (α:=Event) (k:=1003) (t I) I) I λa w s=>sq s (mv ci) I λa w s=>nl ?_)));obtain ⟨o10,hoo10,hko10⟩:=bs hm;refine lcI o10 (λo10s a w=>St M W 65 [(0,Qv (yv n0)),(1,Pt v0),(3,Va z2.1),(4,Qv (pb b5 0)),(5,Qv y8),(6,Va x7.1),(16,Va x1.space.States),(17,Va ((x1.space.States.length:Int))),(18,Va z2.1),(34,Qv y8),(35,Va ((x7.2.length:Int))),(36,Va o10s.1),(1000,E o10s.2),(1001,Mg b5 x4),(1003,Ow 136 y8 x7.2)] a w) ?_ λo10s a w ho s=>?_
    ·refine wpIn_block (loI (λn z9=>m107_l2 gy f v0 z2 x4 x7 n z9) o10 (λz9 a w=>St M W 65 [(0,Qv (yv n0)),(1,Pt v0),(3,Va z2.1),(4,Qv (pb b5 0)),(5,Qv y8),(6,Va x7.1),(16,Va x1.space.States),(17,Va ((x1.space.States.length:Int))),(18,Va z2.1),(34,Qv y8),(35,Va ((x7.2.length:Int))),(36,Va z9.1),(1000,E z9.2),(1001,Mg b5 x4),(1003,Ow 136 y8 x7.2)] a w) f ((0:Int),z2.2) (s.pick [0,1,3,4,5,6,16,17,18,34,35,36,1000,1001,1003]) hoo10 (λ_=>I) λn z9 a w hm s=>?_);replace hm:m107_l2 gy f v0 z2 x4 x7 (n + 1) z9=some o10:=hm;unfold m107_l2 at hm;refine se (rg (sq s (lt (t I) (t I)) I λa w s=>nl ?_));refine se (cm s I hm (λhb hm=>?_) (λhb hm=>?_))
     ·refine wpIn_skip (se ?_);refine wpIn_block ?_;obtain ⟨x11,hx11,hm⟩:=bs hm;refine se (rg (sq s (mv (t I)) I λa w s=>sq s (ixq (α:=Event) (k:=1003) (t I) I (t I) hx11) I λa w s=>sq s (lq (k:=1003) (t I) I (idxg hx11)) I λa w s=>sqb 1004 s (al (z:=(⟨(0:Int),(0:Int),false⟩:Event))) I I λb12 a w s=>sq s (sa (t I)) I λa w s=>sw (K:=1004) s (t I) I (t I) I λw s=>nl ?_));obtain ⟨x13,hx13,hm⟩:=bs hm;obtain ⟨x14,hx14,hm⟩:=bs hm;refine se (flow2 [] [0,1,2,3,4,5,6,7,8,11] [42,43,44,45,46,47,48,41,49,9] [41] [] [51,50] [(12,[]),(13,[50]),(14,[51])] s (.skip (.skip (.skip (.cons (.late (.late (.cons (.cons (.cons (.cons (.cons (.cons (.cons (.cons (.cons .nil I I (ld (t I))) I I (nk (vp (t I) hx13))) I I (fa (f:=World_overlap.c) (t I))) I I (ld (t I))) I I (lm (K:=1001) (t I) I)) I I (lm (K:=1004) (t I) I)) I I (cc I (oc (t I) (oc (t I) (oc (t I) on))) (s75 f _ _ _ _ hx14))) I I (mve (t I))) I I (Pn.x30 (t I))) I I (Pn.x31 (t I))) I I (Pn.x32 (t I))) I I (alr (cs:=[nz,nz,nz,nz,nz]) (z:=.agg #[nz,nz,nz,nz,nz]) kr_ I I)) I) I) I) kr_ kr_ I I sb0 I (by decide) I I ?_);refine ⟨⟨λ_=>I,I,.inr ⟨sb0,(sb1 I sb0),sn0⟩⟩,by kernel_rfl,_,I,λΨ a w s=>opr (d:=9) 1005 s I I λb15 s=>swd (K:=1005) s (t I) I (t I) I λw s=>nl ?_⟩;refine nxt Ψ s ?_;refine ⟨⟨λ_=>I,I,.inr ⟨sb0,(sb1 I sb0),sn0⟩⟩,by kernel_rfl,_,I,λΨ a w s=>sq s (sa (t I)) I λa w s=>nl ?_⟩;refine nxt Ψ s ?_;refine ⟨⟨λ_=>I,I,.inr ⟨sb0,(sb1 I sb0),sn0⟩⟩,by kernel_rfl,_,I,λΨ a w s=>sq s (sa (t I)) I λa w s=>nl ?_⟩;refine nxt Ψ s ?_;refine ⟨⟨λ_=>I,I,.inl I⟩,λa w s=>?_⟩;replace s:St M W 65 [(0,Qv (yv n0)),(1,Pt v0),(3,Va z2.1),(4,Qv (pb b5 0)),(5,Qv y8),(6,Va x7.1),(7,Va z9.1),(8,Qv (pb b12 0)),(10,Va x14.2.1),(11,Va x14.2.2),(16,Va x1.space.States),(17,Va ((x1.space.States.length:Int))),(18,Va z2.1),(34,Qv y8),(35,Va ((x7.2.length:Int))),(36,Va z9.1),(1000,E z9.2),(1001,Mg b5 x4),(1003,Ow 136 y8 x7.2),(1004,Mg b12 x11)] a w:=s.pick [0,1,3,4,5,6,7,8,10,11,16,17,18,34,35,36,1000,1001,1003,1004];rcases bfc hm with ⟨hb0,hm⟩ | ⟨hb0,hm⟩
      ·refine se (rg (sq s (mv (t I)) I λa w s=>sq s (ne (t I) ci) I λa w s=>sq s (mv (t I)) I λa w s=>goff s I I hb0 I λa w s=>goff s I I hb0 I λa w s=>goff s I I hb0 I λa w s=>goff s I I hb0 I λa w s=>goff s I I hb0 I λa w s=>goff s I I hb0 I λa w s=>goff s I I hb0 I λa w s=>sq s (pkT (t I) hb0 cb) I λa w s=>nl ?_));refine cm s I hm (λhb hm=>?_) (λhb hm=>?_)
       ·obtain rfl:=si hm;replace hm:=hko10;dsimp only at hm;obtain rfl:=si hm;replace hm:=hko3;dsimp only at hm;obtain rfl:=si hm;refine wpIn_ret ?_;exact rz [1000] () hM hD s I rv0 (kc I kn) I
       ·refine wpIn_skip (rg (sq s (ad (t I) ci) I λa w s=>sq s (mv (t I)) I λa w s=>nl ?_));exact ⟨_,hm,s.pick [0,1,3,4,5,6,16,17,18,34,35,36,1000,1001,1003]⟩
      ·obtain ⟨x16,hx16,hm⟩:=bs hm;refine se (rg (sq s (mv (t I)) I λa w s=>sq s (ne (t I) ci) I λa w s=>sq s (mv (t I)) I λa w s=>gon s I I hb0 <| sq s (mvq (t I)) I λa w s=>gon s I I hb0 <| sq s (mv (t I)) I λa w s=>gon s I I hb0 <| sq s (mv (t I)) I λa w s=>gon s I I hb0 <| sq s (mv (t I)) I λa w s=>gon s I I hb0 <| sq s (bl102_0_1_2 (t I) (t I) (t I)) I λa w s=>gon s I I hb0 <| cgy [1000] [1000] hM s (t I) I (oc (t I) on) (ihy _ _ _ hx16) (kc I kn) I (λ_=>I) I I I λy17 a w s=>gon s I I hb0 <| sq s (nt (t I)) I λa w s=>sq s (pk (t I) cb (t I)) I λa w s=>nl ?_));refine cm s I hm (λhb hm=>?_) (λhb hm=>?_)
       ·obtain rfl:=si hm;replace hm:=hko10;dsimp only at hm;obtain rfl:=si hm;replace hm:=hko3;dsimp only at hm;obtain rfl:=si hm;refine wpIn_ret ?_;exact rz [1000] () hM hD s I rv0 (kc I kn) I
       ·refine wpIn_skip (rg (sq s (ad (t I) ci) I λa w s=>sq s (mv (t I)) I λa w s=>nl ?_));exact ⟨_,hm,s.pick [0,1,3,4,5,6,16,17,18,34,35,36,1000,1001,1003]⟩
     ·refine wpIn_exit ?_;exact ⟨_,(si hm).symm,s.pick [0,1,3,4,5,6,16,17,18,34,35,36,1000,1001,1003]⟩
    ·subst ho;replace hm:=hko10;dsimp only at hm;refine rg (sq s (ad (t I) ci) I λa w s=>sq s (mv (t I)) I λa w s=>nl ?_);exact ⟨_,hm,s.pick [0,1,16,17,18,1000]⟩
  ·refine wpIn_exit ?_;exact ⟨_,(si hm).symm,s.pick [0,1,16,17,18,1000]⟩
 ·subst ho;replace hm:=hko3;dsimp only at hm;obtain rfl:=si hm;exact rze [1000] () hM hD s I rv0 (kc I kn) I
def m13_r1 (f:Nat) (x4:(Option World_overlap)×Int):Step->(Accident×Bool×Int)×Nat->Option (Bool×((Accident×Bool×Int)×Nat)):=λu13 z11=>match z11 with
 | (z11,0)=>(bif (decide ((u13.conflicts.length:Int) > (0:Int))) then x4.1.bind λx15=>(m45 f x15.space u13.state).bind λx16=>(bif (x16.1 != (0:Int)) then some (false,(((⟨([]:List Int),([]:List Int)⟩:Accident),false,x16.1),1)) else (app x16.2 ([u13.event]:List Int)).bind λx18=>some (false,(((⟨x18,u13.conflicts⟩:Accident),true,(0:Int)),1))) else some (true,((z11.1,z11.2.1,z11.2.2),0)))
 | (_,_ + 1)=>none
def m13 (f:Nat) (v0:Control) (v1:List Bool):Option (Accident×Bool×Int):=(m48 f v0 v1).bind λx4=>(bif (x4.2 != (0:Int)) then some ((⟨([]:List Int),([]:List Int)⟩:Accident),false,x4.2) else (m49 f v0 v1).bind λx7=>(bif (x7.1 != (0:Int)) then some ((⟨([]:List Int),([]:List Int)⟩:Accident),false,x7.1) else (bif (decide ((x7.2.length:Int) > (0:Int))) then some ((⟨([]:List Int),x7.2⟩:Accident),true,(0:Int)) else (m50 f x4.1).bind λx9=>(m107 (m13_r1 f x4) f x9 (((⟨([]:List Int),([]:List Int)⟩:Accident),false,(0:Int)),0)).bind λo21=>(bif o21.2 == 0 then some ((⟨([]:List Int),([]:List Int)⟩:Accident),false,(0:Int)) else (bif o21.2 == 1 then some (o21.1.1,o21.1.2.1,o21.1.2.2) else none)))))
theorem s13 (f:Nat) (v0:Control) (v1:List Bool) (r:Accident×Bool×Int) (hm:m13 f v0 v1=some r):Sp Tryz.prog 13 [Va v0,Va v1] (T3 (Va r.1) (Va r.2.1) (Va r.2.2)):=by
 unfold m13 at hm;refine ens func13 kr_ I ntmps13 I I λM W a hM hD s=>?_;refine se (rg (sq s (bx (t I)) I λa w s=>sqr 1000 s (alr (cs:=[nz,nz]) (z:=.agg #[nz,nz]) kr_ I I) I I λb1 a w s=>sqb 1001 s (al (z:=false)) I I λb2 a w s=>sqb 1002 s (al (z:=(0:Int))) I I λb3 a w s=>nl ?_));obtain ⟨x4,hx4,hm⟩:=bs hm;refine se (rg (sq s (ld (t I)) I λa w s=>sq s (mv (t I)) I λa w s=>sq s (cc I (oc (t I) (oc (t I) on)) (s48 f _ _ _ hx4)) I λa w s=>sq s (mve (t I)) I λa w s=>sq s (Pn.x20 (t I)) I λa w s=>sq s (Pn.x21 (t I)) I λa w s=>sqr 1003 s (alr (cs:=[(.pointer none)]) (z:=(.pointer none)) kr_ I I) I I λb5 a w s=>nmk (d:=17) 1004 s I I λc6 s=>srq (K:=1003) (cs':=[c6]) s (t I) I (t I) kr_ (ocfo (k:=1004) I) I I λw s=>sq s (sa (t I)) I λa w s=>nl ?_));refine se (se (rg (sq s (mv (t I)) I λa w s=>sq s (ne (t I) ci) I λa w s=>nl ?_)));refine cm s I hm (λhb hm=>?_) (λhb hm=>?_)
 ·refine se (rg (sq s (bl31_ ) I λa w s=>sq s (mv (t I)) I λa w s=>swd (K:=1000) s (t I) I (t I) I λw s=>sw (K:=1001) s (t I) I cb I λw s=>sw (K:=1002) s (t I) I (t I) I λw s=>nl ?_));obtain rfl:=si hm;refine wpIn_ret ?_;exact rn hD s I (rv3 (rc (K:=1000) I I) (rc (K:=1001) I I) (rc (K:=1002) I I))
 ·refine wpIn_skip ?_;obtain ⟨x7,hx7,hm⟩:=bs hm;refine se (rg (sq s (ld (t I)) I λa w s=>sq s (mv (t I)) I λa w s=>sqz [1005] hM s (cc I (oc (t I) (oc (t I) on)) (s49 f _ _ _ hx7)) (λ_=>I) I I λy8 a w s=>sq s (mve (t I)) I λa w s=>sq s (Pn.x20 (t I)) I λa w s=>sq s (Pn.x21 (t I)) I λa w s=>sq s (saq (t I)) I λa w s=>sq s (sa (t I)) I λa w s=>nl ?_));refine se (se (rg (sq s (mv (t I)) I λa w s=>sq s (ne (t I) ci) I λa w s=>nl ?_)));refine cm s I hm (λhb hm=>?_) (λhb hm=>?_)
  ·refine se (rg (sq s (bl31_ ) I λa w s=>sq s (mv (t I)) I λa w s=>swd (K:=1000) s (t I) I (t I) I λw s=>sw (K:=1001) s (t I) I cb I λw s=>sw (K:=1002) s (t I) I (t I) I λw s=>nl ?_));obtain rfl:=si hm;refine wpIn_ret ?_;exact rn hD s I (rv3 (rc (K:=1000) I I) (rc (K:=1001) I I) (rc (K:=1002) I I))
  ·refine wpIn_skip (se ?_);refine se (rg (sq s (mvq (t I)) I λa w s=>sq s (lnq (α:=Int) (k:=1005) (t I) I) I λa w s=>sq s (gt (t I) ci) I λa w s=>nl ?_));refine cm s I hm (λhb hm=>?_) (λhb hm=>?_)
   ·refine se (rg (sq s (mvq (t I)) I λa w s=>sq s (bla (L:=[(0,1),(1,1)]) (z:=[nz,nz]) (res:=[nz,y8]) I kr_ kr_ (pdq (t I) (oco (k:=1005) I) pdn) I I) I λa w s=>sra (K:=1000) (m:=[nz,y8]) (cs':=[nz,y8]) s (t I) I (t I) kr_ I I I λw s=>sw (K:=1001) s (t I) I cb I λw s=>sw (K:=1002) s (t I) I ci I λw s=>nl ?_));obtain rfl:=si hm;refine fzk (α:=Int) (k:=1005) hM s I λs=>?_;refine shut (k:=1000) (x:=(⟨([]:List Int),x7.2⟩:Accident)) s I (rpS30 (l:=([nz],[y8])) (rpn (α:=Int)) (rpz (k:=1005) I)) λs=>?_;refine wpIn_ret ?_;exact rn hD s I (rv3 (rc (K:=1000) I I) (rc (K:=1001) I I) (rc (K:=1002) I I))
   ·refine wpIn_skip (se ?_);obtain ⟨x9,hx9,hm⟩:=bs hm;refine se (rg (sq s (lrc (K:=1003) (Option World_overlap) (t I) I I I I) I λa w s=>sqz [1006] hM s (cc I (oc (ta (k:=1004) (t I) I) on) (s50 f _ _ hx9)) (λ_=>I) I I λy10 a w s=>nl ?_));refine wpIn_block (shut (k:=1000) (x:=(⟨([]:List Int),([]:List Int)⟩:Accident)) s I (rpS30 (l:=([nz],[nz])) (rpn (α:=Int)) (rpn (α:=Int))) λs=>?_);obtain ⟨o21,ho21,hko21⟩:=bs hm;refine rfn (α:=Step) (X:=Unit) (σ:=Accident×Bool×Int) (pe:=λx=>[Va x]) (gb:=(m13_r1 f x4)) (r:=o21) [(4,Qv (pb b1 0)),(5,Qv (pb b2 0)),(6,Qv (pb b3 0)),(7,Qv (pb b5 0))] [.ret] (λz11 n12=>[Mg b1 z11.1,Mg b2 z11.2.1,Mg b3 z11.2.2,Mr b5 [c6],At c6 (Va x4.1)]) ((⟨([]:List Int),([]:List Int)⟩:Accident),false,(0:Int)) () 1009 1007 1008 [1000,1001,1002,1003,1004] hM s (t I) vn (va (k:=1006) I vn) (kc I (kc I (kc I (kc I (kc I kn))))) I (λ_ _=>I) (λ_ _ h=>look_pick (l:=[4,5,6,7]) h) (zs1 (zs1 (zs1 (zs1 zs0)))) I I I (λE _ l ihy=>s107 E l (m13_r1 f x4) ihy f _ _ _ ho21) (λl fn D tm htm u13 z11 r hm=>?_) (λd22 a w n23 s=>?_)
    ·rcases z11 with ⟨z11,_ | j⟩
     ·unfold m13_r1 at hm;dsimp only at hm;refine Cy.mk (KL:=1007) (KT:=1008) [1000,1001,1002,1003,1004] [40] z11 htm I I I I I I (λ_=>I) λM W a n12 TB hM hD hTB s=>?_;refine rg (sqr 1010 s (alr (cs:=[(.int .i64 (0:Int)),(.int .i64 (0:Int)),nz]) (z:=.agg #[(.int .i64 (0:Int)),(.int .i64 (0:Int)),nz]) kr_ I I) I I λb14 a w s=>swd (K:=1010) s (t I) I (t I) I λw s=>nl ?_);refine bgn (K:=1007) s I I λRB w hRB s=>?_;refine wpIn_block (se (rg (sq s (fm_ (off:=2) (m:=0) (q:=2) (t I) kr_ I) I λa w s=>sq s (lf (K:=1010) (f:=Step.conflicts) (t I) I) I λa w s=>sq s (ln (t I)) I λa w s=>sq s (gt (t I) ci) I λa w s=>nl ?_)));refine cm s I hm (λhb hm=>?_) (λhb hm=>?_)
      ·obtain ⟨x15,hx15,hm⟩:=bs hm;obtain ⟨x16,hx16,hm⟩:=bs hm;refine se (flo3 (m:=7) 8 s (.cons (.cons (.cons (.cons (.cons (.cons (.cons .nil I (lrc (K:=1003) (Option World_overlap) (t I) I I I I)) I (nk (vp (ta (k:=1004) (t I) I) hx15))) I (fa (f:=World_overlap.space) (t I))) I (ld (t I))) I (fm_ (off:=0) (m:=0) (q:=0) (t I) kr_ I)) I (lf (K:=1010) (f:=Step.state) (t I) I)) I (cc I (oc (t I) (oc (t I) on)) (s45 f _ _ _ hx16))) kr_ I I λa w s=>opz (d:=52) [1012] s I (λ_=>I) I λy17 s=>sq s (mve (t I)) I λa w s=>d3 s (.cons (.cons (.cons (.cons .nil I (Pn.x20 (t I))) I (Pn.x21 (t I))) I (saq (t I))) I (sa (t I))) I I λa w s=>?_);refine se (se (rg (sq s (mv (t I)) I λa w s=>sq s (ne (t I) ci) I λa w s=>nl ?_)));refine cm s I hm (λhb hm=>?_) (λhb hm=>?_)
       ·refine se (rg (sq s (bl31_ ) I λa w s=>sq s (mv (t I)) I λa w s=>sw (K:=1000) s (t I) I (t I) I λw s=>sw (K:=1001) s (t I) I cb I λw s=>sw (K:=1002) s (t I) I (t I) I λw s=>nl ?_));obtain rfl:=si hm;refine wpIn_ret ?_;exact rde (KL:=1007) (KT:=1008) [1000,1001,1002,1003,1004] (some (.ret)) 1 false ((⟨([]:List Int),([]:List Int)⟩:Accident),false,x16.1) () hM s I I hRB hTB (kc I (kc I (kc I (kc I (kc I kn))))) I I I I
       ·refine wpIn_skip ?_;obtain ⟨x18,hx18,hm⟩:=bs hm;refine se (flow2 [(10,Qv (pb b14 0)),(1010,Mg b14 u13)] [0,1,2,3] [59,60,61,62] [] [64] [65,64] [(4,[]),(7,[65,64]),(8,[]),(9,[]),(10,[])] s (.skip (.skip (.skip (.skip (.late (.late (.skip (.cons (.cons (.cons (.cons .nil I I (mvq (t I))) I I (fm_ (off:=1) (m:=0) (q:=1) (t I) kr_ I)) I I (lf (K:=1010) (f:=Step.event) (t I) I)) I I (bsv (o1 (t I) o0) I I kr_)) I) I I (fm_ (off:=2) (m:=0) (q:=2) (t I) kr_ I)) I I (lf (K:=1010) (f:=Step.conflicts) (t I) I)) I) I) I) I) kr_ kr_ I I (sb1 I (sb1 I sb0)) I (by decide) I I ?_);refine ⟨⟨λ_=>I,I,.inr ⟨(sb1 I (sb1 I sb0)),sb0,(sn2 I sn0)⟩⟩,by kernel_rfl,_,I,λΨ a w s=>apd (α:=Int) (k:=1012) s (t I) I (t I) hx18 I I λc19 a w s=>nl ?_⟩;refine nxt Ψ s ?_;refine ⟨⟨λ_=>I,I,.inr ⟨(sb1 I (sb1 I sb0)),sb0,(sn2 I sn0)⟩⟩,by kernel_rfl,_,I,λΨ a w s=>nmk (d:=65) 1013 s I I λc20 s=>sq s (bla (L:=[(0,1),(1,1)]) (z:=[nz,nz]) (res:=[c19,c20]) I kr_ kr_ (pdq (t I) (oco (k:=1012) I) (pdq (t I) (ocf (k:=1013) I) pdn)) I I) I λa w s=>nl ?_⟩;refine nxt Ψ s ?_;refine ⟨⟨λ_=>I,I,.inl I⟩,by kernel_rfl,_,I,λΨ a w s=>swr (K:=1000) s (t I) I (t I) I λw s=>nl ?_⟩;refine nxt Ψ s ?_;refine ⟨⟨λ_=>I,I,.inl I⟩,by kernel_rfl,_,I,λΨ a w s=>sw (K:=1001) s (t I) I cb I λw s=>nl ?_⟩;refine nxt Ψ s ?_;refine ⟨⟨λ_=>I,I,.inl I⟩,by kernel_rfl,_,I,λΨ a w s=>sw (K:=1002) s (t I) I ci I λw s=>nl ?_⟩;refine nxt Ψ s ?_;refine ⟨⟨λ_=>I,I,.inl I⟩,λa w s=>?_⟩;replace s:St M W 68 [(4,Qv (pb b1 0)),(5,Qv (pb b2 0)),(6,Qv (pb b3 0)),(7,Qv (pb b5 0)),(10,Qv (pb b14 0)),(11,Qv y17),(12,Va x16.1),(40,Va u13),(1000,Mr b1 [c19,c20]),(1012,Ow 3 c19 x18),(1013,At c20 (Va u13.conflicts)),(1001,Mg b2 true),(1002,Mg b3 ((0:Int))),(1003,Mr b5 [c6]),(1004,At c6 (Va x4.1)),(1010,Mg b14 u13),(1007,RB),(1008,TB)] a w:=s.pick [4,5,6,7,10,11,12,40,1000,1012,1013,1001,1002,1003,1004,1010,1007,1008];obtain rfl:=si hm;refine wpIn_ret (fzk (α:=Int) (k:=1012) hM s I λs=>?_);refine shut (k:=1000) (x:=(⟨x18,u13.conflicts⟩:Accident)) s I (rpS30 (l:=([c19],[c20])) (rpz (k:=1012) I) (rpz (k:=1013) I)) λs=>?_;exact rde (KL:=1007) (KT:=1008) [1000,1001,1002,1003,1004] (some (.ret)) 1 false ((⟨x18,u13.conflicts⟩:Accident),true,(0:Int)) () hM s I I hRB hTB (kc I (kc I (kc I (kc I (kc I kn))))) I I I I
      ·refine wpIn_skip ?_;obtain rfl:=si hm;exact rde (KL:=1007) (KT:=1008) [1000,1001,1002,1003,1004] none 0 true (z11.1,z11.2.1,z11.2.2) () hM s I I hRB hTB (kc I (kc I (kc I (kc I (kc I kn))))) I I I I
     ·unfold m13_r1 at hm;cases hm
    ·replace hm:=hko21;rcases bfc hm with ⟨hj,hm⟩ | ⟨hj,hm⟩
     ·refine af0 hj ?_;refine se (rg (sq s (bl31_ ) I λa w s=>sw (K:=1000) s (t I) I (t I) I λw s=>sw (K:=1001) s (t I) I cb I λw s=>sw (K:=1002) s (t I) I ci I λw s=>nl ?_));obtain rfl:=si hm;refine wpIn_ret (lvm (KD:=1009) s I I I λa w ha s=>?_);rw [← ha];exact rn hD s I (rv3 (rc (K:=1000) I I) (rc (K:=1001) I I) (rc (K:=1002) I I))
     ·rcases bfc hm with ⟨hj,hm⟩ | ⟨hj,hm⟩
      ·refine af1 (k:=0) hj I ?_;obtain rfl:=si hm;refine wpIn_ret (lvm (KD:=1009) s I I I λa w ha s=>?_);rw [← ha];exact rn hD s I (rv3 (rc (K:=1000) I I) (rc (K:=1001) I I) (rc (K:=1002) I I))
      ·cases hm
def m116 (f:Nat) (v0:Control) (v1:State) (v2:Int):Option (Bool×Int):=(m162 f v0 v1).bind λx1=>(bif (x1 != (0:Int)) then some (false,x1) else (bif (decide (v2 < (0:Int))) then some true else (m163 f v0).bind λx2=>some (decide (v2>=x2))).bind λr3=>(bif r3 then some (false,(6:Int)) else (m164 f v1).bind λx4=>(idx x4 v2).bind λx6=>some (x6,(0:Int))))
theorem s116 (f:Nat) (v0:Control) (v1:State) (v2:Int) (r:Bool×Int) (hm:m116 f v0 v1 v2=some r):Sp Tryz.prog 116 [Va v0,Va v1,Va v2] (T2 (Va r.1) (Va r.2)):=by
 unfold m116 at hm;refine ens func116 kr_ I ntmps116 I I λM W a hM hD s=>?_;refine R 4 s λa w s=>?_;refine se (se (rg (ru 2 s λa w s=>cB s hm (s162 f _ _) λx1 hm a w s=>ru 1 s λa w s=>nl ?_)));refine R 2 s λa w s=>?_;refine cmf s hm (λhb hm=>?_) λhb hm=>?_
 ·refine R 3 s λa w s=>?_;cases hm;exact rU hD s I I
 ·refine se ?_;obtain ⟨r3,hr3,hm⟩:=bs hm;have gr3:=gF hr3;have er3:=gT hr3;obtain ⟨x2,hx2,gr3⟩:=gk gr3;have:=pko gr3 er3;refine R 8 s λa w s=>?_;refine cmf s hm (λhb hm=>?_) λhb hm=>?_
  ·refine R 2 s λa w s=>?_;cases hm;exact rU hD s I I
  ·obtain ⟨x4,hx4,hm⟩:=bk hm;obtain ⟨x6,hx6,hm⟩:=bk hm;refine se (rg (ru 1 s λa w s=>sqz [1000] hM s (cc I (oc (t I) on) (s164 f _ _ hx4.e)) (λ_=>I) I I λy5 a w s=>ru 5 s λa w s=>nl ?_));cases hm;exact rU hD s I I
def m67_l1 (f:Nat) (v0:Option World_overlap) (v1:State) (x1:World_overlap) (x2:World_overlap) (x3:World_overlap):Nat->(Int×(List Bool))->Option (Int×(List Bool))
 | 0,_=>none
 | n+1,z4=>(bif (decide (z4.1 < (wr ((wr ((wr ((2:Int) * x1.c.Actuators)) + (x2.c.Inputs.length:Int))) + (x3.c.Signals.length:Int))))) then v0.bind λx7=>(m116 f x7.c v1 z4.1).bind λx8=>(app z4.2 ([x8.1]:List Bool)).bind λx9=>m67_l1 f v0 v1 x1 x2 x3 n ((wr (z4.1 + (1:Int))),x9) else some (z4.1,z4.2))
def m67 (f:Nat) (v0:Option World_overlap) (v1:State):Option ((List Bool)):=v0.bind λx1=>v0.bind λx2=>v0.bind λx3=>(m67_l1 f v0 v1 x1 x2 x3 f ((0:Int),([]:List Bool))).bind λo5s=>some o5s.2
theorem s67 (f:Nat) (v0:Option World_overlap) (v1:State) (r:(List Bool)) (hm:m67 f v0 v1=some r):Sp Tryz.prog 67 [Va v0,Va v1] (Va r):=by
 unfold m67 at hm;refine ens func67 kr_ I ntmps67 I I λM W a hM hD s=>?_;refine R 2 s λa w s=>?_;refine R 1 s λa w s=>?_;refine se ?_;obtain ⟨x1,hx1,hm⟩:=bk hm;obtain ⟨x2,hx2,hm⟩:=bk hm;obtain ⟨x3,hx3,hm⟩:=bk hm;refine se (flow s (m:=21) (.cons (.cons (.cons (.cons (.cons (.cons (.cons (.cons (.cons (.cons (.cons (.cons (.cons (.cons (.cons (.cons (.cons (.cons (.cons (.cons (.cons .nil I (mv (t I))) I (nk (vp (t I) hx1.e))) I (fa (f:=World_overlap.c) (t I))) I (fa (f:=Control.Actuators) (t I))) I (ld (t I))) I (ml ci (t I))) I (mv (t I))) I (nk (vp (t I) hx2.e))) I (fa (f:=World_overlap.c) (t I))) I (fa (f:=Control.Inputs) (t I))) I (ld (t I))) I (ln (t I))) I (ad (t I) (t I))) I (mv (t I))) I (nk (vp (t I) hx3.e))) I (fa (f:=World_overlap.c) (t I))) I (fa (f:=Control.Signals) (t I))) I (ld (t I))) I (ln (t I))) I (ad (t I) (t I))) I (mv ci)) kr_ I I λa w s=>nl ?_);refine nilt (α:=Bool) (d:=5) 1000 4 s I I λc6 s=>?_;refine lA1 hm [0,1,3,4,28] s (λz4 z4c0=>[(5,Qv z4c0),(29,Va z4.1),(1000,Ow 4 z4c0 z4.2)]) ⟨c6,s.fi⟩ (λ_=>I) (λo5s hko5 n z4 a w hm s=>?_) λo5s hm a w s=>?_
 ·obtain ⟨z4c0,s⟩:=s;unfold m67_l1 at hm;refine R 1 s λa w s=>?_;refine se (cmt s hm (λhb hm=>?_) λhb hm=>?_)
  ·refine se (wpIn_block ?_);refine R 2 s λa w s=>?_;obtain ⟨x7,hx7,hm⟩:=bk hm;obtain ⟨x8,hx8,hm⟩:=bk hm;refine se (flow2 [] [0,1,2,3,4,5,6,7,8] [33,34,35,36,37,38,39,32,40] [32] [] [41] [(10,[]),(11,[41])] s (.skip (.skip (.late (.cons (.cons (.cons (.cons (.cons (.cons (.cons (.cons (.cons .nil I I (mv (t I))) I I (nk (vp (t I) hx7.e))) I I (fa (f:=World_overlap.c) (t I))) I I (ld (t I))) I I (ld (t I))) I I (mv (t I))) I I (cc I (oc (t I) (oc (t I) (oc (t I) on))) (s116 f _ _ _ _ hx8.e))) I I (mve (t I))) I I (Pn.x20 (t I))) I I (Pn.x21 (t I))) I) I) kr_ kr_ I I sb0 I (by decide) I I ?_);refine ⟨⟨λ_=>I,I,.inr ⟨sb0,(sb1 I sb0),sn0⟩⟩,by kernel_rfl,_,I,λΨ a w s=>sq s (sa (t I)) I λa w s=>nl ?_⟩;refine nxt Ψ s ?_;refine ⟨⟨λ_=>I,I,.inr ⟨sb0,(sb1 I sb0),sn0⟩⟩,by kernel_rfl,_,I,λΨ a w s=>sq s (sa (t I)) I λa w s=>nl ?_⟩;refine nxt Ψ s ?_;refine ⟨⟨λ_=>I,I,.inl I⟩,λa w s=>?_⟩;replace s:St M W 48 [(0,Va v0),(1,Va v1),(3,Pt v1),(4,Qv nz),(5,Qv z4c0),(6,Va z4.1),(7,Va x8.1),(28,Va ((wr ((wr ((wr ((2:Int) * x1.c.Actuators)) + (x2.c.Inputs.length:Int))) + (x3.c.Signals.length:Int))))),(29,Va z4.1),(1000,Ow 4 z4c0 z4.2)] a w:=s.pick [0,1,3,4,5,6,7,28,29,1000];obtain ⟨x9,hx9,hm⟩:=bk hm;refine rg (ru 3 s λa w s=>apd (α:=Bool) (k:=1000) s (t I) I (t I) hx9.e I I λc10 a w s=>ru 1 s λa w s=>nl ?_);refine R0 2 s λa w s=>?_;exact ⟨_,hm,⟨c10,s.fi⟩⟩
  ·refine wpIn_exit ?_;obtain rfl:=si hm;exact ⟨z4c0,s.fi⟩
 ·obtain ⟨o5sc0,s⟩:=s;refine R 2 s λa w s=>?_;obtain rfl:=si hm;refine fzk (α:=Bool) (k:=1000) hM s I λs=>?_;refine wpIn_ret ?_;exact rn hD s I (rv1 (ro (ta (k:=1000) (t I) I)))
instance {f:Nat} {v0:Option World_overlap} {v1:State}:Cn Tryz.prog 67 (m67 f v0 v1) [Va v0,Va v1] (λr:(List Bool)=>(Va r)):=⟨s67 f v0 v1⟩
def m57 (f:Nat) (v0:Int) (v1:Int):Option (Bool):=some ((decide (v0 < (0:Int))) || (decide (v0>=v1)))
theorem s57 (f:Nat) (n0:Nat) (v0:Int) (v1:Int) (r:Bool) (hm:m57 f v0 v1=some r):Cg Tryz.prog 57 [Va v0,Qv (pb n0 0)] [Mg n0 v1] (Rz (λx:Unit=>Va r) (λx=>[Mg n0 v1])):=by
 unfold m57 at hm;refine eng func57 kr_ I ntmps57 I I λM W a hM hD s=>?_;refine R 1 s λa w s=>?_;refine R 8 s λa w s=>?_;obtain rfl:=si hm;refine wpIn_ret ?_;exact rz [1000] () hM hD s I (rv1 (rt I)) (kc I kn) I
def m103_4_l1 (f:Nat) (v0:List Int) (v1:Int):Nat->Int->Option (Lo (Int) (Int))
 | 0,_=>none
 | n+1,z1=>(bif (decide (z1 < (v0.length:Int))) then (idx v0 z1).bind λx3=>(m57 f x3 v1).bind λx4=>(bif x4 then some (.ret z1) else m103_4_l1 f v0 v1 n (wr (z1 + (1:Int)))) else some (.brk z1))
def m103_4 (f:Nat) (v0:List Int) (v1:Int):Option (Int):=((m103_4_l1 f v0 v1 f (0:Int)).bind λo2=>match o2 with | .brk o2s=>some (-1:Int) | .ret r=>some r)
theorem s103_4 (f:Nat) (n0:Nat) (v0:List Int) (v1:Int) (r:Int) (hm:m103_4 f v0 v1=some r):Cg Tryz.prog 103 [Va v0,Qv (fv 57 [] [(pb n0 0)])] [Mg n0 v1] (Rz (λx:Unit=>Va r) (λx=>[Mg n0 v1])):=by
 unfold m103_4 at hm;refine eng func103 kr_ I ntmps103 I I λM W a hM hD s=>?_;refine R 1 s λa w s=>?_;refine se (R 3 s λa w s=>?_);refine lB hm [0,1,4,7,1000] s (λz1=>[(8,Va z1)]) s.fi (λ_=>I) (λo2 hko2 n z1 a w hm s=>?_) λo2s hm a w s=>?_
 ·unfold m103_4_l1 at hm;refine R 1 s λa w s=>?_;refine se (cmt s hm (λhb hm=>?_) λhb hm=>?_)
  ·refine se (wpIn_block ?_);refine R 2 s λa w s=>?_;obtain ⟨x3,hx3,hm⟩:=bk hm;obtain ⟨x4,hx4,hm⟩:=bk hm;refine se (rg (ru 5 s λa w s=>cgv [1000] [1000] hM s (t I) I (oc (t I) on) vn (vq vn) (s57 f n0 _ _ _ hx4.e) (kc I kn) I (λ_=>I) I I I λy5 a w s=>nl ?_));refine cmf s hm (λhb hm=>?_) λhb hm=>?_
   ·refine R 2 s λa w s=>?_;obtain rfl:=si hm;replace hm:=hko2;dsimp only at hm;obtain rfl:=si hm;refine wpIn_ret ?_;exact rz [1000] () hM hD s I (rv1 (rt I)) (kc I kn) I
   ·refine R0 2 s λa w s=>?_;exact ⟨_,hm,s.fi⟩
  ·refine wpIn_exit ?_;exact ⟨_,(si hm).symm,s.fi⟩
 ·dsimp only at hm;refine R 1 s λa w s=>?_;obtain rfl:=si hm;refine wpIn_ret ?_;exact rz [1000] () hM hD s I (rv1 (rt I)) (kc I kn) I
def m56_3 (f:Nat) (v0:List Int) (v1:Int):Option (Bool):=(m103_4 f v0 v1).bind λx1=>some (decide (x1>=(0:Int)))
theorem s56_3 (f:Nat) (n0:Nat) (v0:List Int) (v1:Int) (r:Bool) (hm:m56_3 f v0 v1=some r):Cg Tryz.prog 56 [Va v0,Qv (fv 57 [] [(pb n0 0)])] [Mg n0 v1] (Rz (λx:Unit=>Va r) (λx=>[Mg n0 v1])):=by
 unfold m56_3 at hm;refine eng func56 kr_ I ntmps56 I I λM W a hM hD s=>?_;refine R 1 s λa w s=>?_;obtain ⟨x1,hx1,hm⟩:=bk hm;refine se (rg (ru 2 s λa w s=>cgv [1000] [1000] hM s qf I (oc (t I) (oc (t I) on)) vn vn (s103_4 f n0 _ _ _ hx1.e) (kc I kn) I (λ_=>I) I I I λy2 a w s=>ru 2 s λa w s=>nl ?_));obtain rfl:=si hm;refine wpIn_ret ?_;exact rz [1000] () hM hD s I (rv1 (rt I)) (kc I kn) I
def m62_l1 (v0:List Bool) (v1:List Int):Nat->(Int×Int)->Option (Int×Int)
 | 0,_=>none
 | n+1,z1=>(bif (decide (z1.2 < (v1.length:Int))) then (idx v1 z1.2).bind λx3=>(idx v0 x3).bind λx4=>(bif x4 then some (wr (z1.1 + (1:Int))) else some z1.1).bind λz5=>m62_l1 v0 v1 n (z5,(wr (z1.2 + (1:Int)))) else some (z1.1,z1.2))
def m62 (f:Nat) (v0:List Bool) (v1:List Int):Option (Bool):=(m62_l1 v0 v1 f ((0:Int),(0:Int))).bind λo2s=>some (decide (o2s.1 < (2:Int)))
theorem s62 (f:Nat) (n0:Nat) (n1:Value) (v0:List Bool) (v1:List Int) (r:Bool) (hm:m62 f v0 v1=some r):Cg Tryz.prog 62 [Va v0,Qv (pb n0 0)] [Mr n0 [n1],Ow 3 n1 v1] (Rz (λx:Unit=>Va r) (λx=>[Mr n0 [n1],Ow 3 n1 v1])):=by
 unfold m62 at hm;refine eng func62 kr_ I ntmps62 I I λM W a hM hD s=>?_;refine R 1 s λa w s=>?_;refine R 1 s λa w s=>?_;refine se (R 3 s λa w s=>?_);refine lA hm [0,1,3,7,8,1000,1001] s (λz1=>[(4,Va z1.1),(9,Va z1.2)]) s.fi (λ_=>I) (λo2s hko2 n z1 a w hm s=>?_) λo2s hm a w s=>?_
 ·unfold m62_l1 at hm;refine R 1 s λa w s=>?_;refine se (cmt s hm (λhb hm=>?_) λhb hm=>?_)
  ·refine se (wpIn_block ?_);obtain ⟨x3,hx3,hm⟩:=bk hm;refine R 3 s λa w s=>?_;refine se (rg (ru 2 s λa w s=>iB s hm λx4 hm a w s=>ru 1 s λa w s=>nl ?_));obtain ⟨z5,hz5,hkz5⟩:=bs hm;refine cP [0,1,3,6,7,8,9,1000,1001] s [(4,Va z5)] ?_ λa w s=>?_
   ·refine cm s I hz5 (λhb hm=>?_) (λhb hm=>?_)
    ·refine R0 3 s λa w s=>?_;obtain rfl:=si hm;exact s.fi
    ·refine wpIn_skip ?_;obtain rfl:=si hm;exact s.fi
   ·replace hm:=hkz5;refine R0 2 s λa w s=>?_;exact ⟨_,hm,s.fi⟩
  ·refine wpIn_exit ?_;obtain rfl:=si hm;exact s.fi
 ·refine R 3 s λa w s=>?_;obtain rfl:=si hm;refine wpIn_ret ?_;exact rz [1000,1001] () hM hD s I (rv1 (rt I)) (kc I (kc I kn)) I
def m61_l1 (f:Nat) (v0:Option World_overlap) (v1:List Int) (x1:World_overlap):Nat->Int->Option (Lo (Int) (Bool×(List Int)×Int))
 | 0,_=>none
 | n+1,z2=>(bif (decide (z2 < (x1.space.States.length:Int))) then (idx x1.space.States z2).bind λx4=>(m67 f v0 x4).bind λx6=>(m62 f x6 v1).bind λx7=>(bif (!x7) then v0.bind λx9=>(m45 f x9.space z2).bind λx10=>some (.ret (false,x10.2,x10.1)) else m61_l1 f v0 v1 x1 n (wr (z2 + (1:Int)))) else some (.brk z2))
def m61 (f:Nat) (v0:Option World_overlap) (v1:List Int):Option (Bool×(List Int)×Int):=v0.bind λx1=>((m61_l1 f v0 v1 x1 f (0:Int)).bind λo3=>match o3 with | .brk o3s=>some (true,([]:List Int),(0:Int)) | .ret r=>some r)
theorem s61 (f:Nat) (n0:Nat) (n1:Value) (v0:Option World_overlap) (v1:List Int) (r:Bool×(List Int)×Int) (hm:m61 f v0 v1=some r):Cg Tryz.prog 61 [Va v0,Qv (fv 62 [] [(pb n0 0)])] [Mr n0 [n1],Ow 3 n1 v1] (Rz (λx:Unit=>T3 (Va r.1) (Va r.2.1) (Va r.2.2)) (λx=>[Mr n0 [n1],Ow 3 n1 v1])):=by
 unfold m61 at hm;refine eng func61 kr_ I ntmps61 I I λM W a hM hD s=>?_;refine R 3 s λa w s=>?_;refine se ?_;obtain ⟨x1,hx1,hm⟩:=bk hm;refine se (rg (ru 1 s λa w s=>sq s (nk (vp (t I) hx1.e)) I λa w s=>ru 5 s λa w s=>nl ?_));refine lB hm [0,1,4,5,6,15,16,1000,1001] s (λz2=>[(17,Va z2)]) s.fi (λ_=>I) (λo3 hko3 n z2 a w hm s=>?_) λo3s hm a w s=>?_
 ·unfold m61_l1 at hm;refine R 1 s λa w s=>?_;refine se (cmt s hm (λhb hm=>?_) λhb hm=>?_)
  ·refine se (wpIn_block ?_);refine se (rg (ru 1 s λa w s=>iB s hm λx4 hm a w s=>ru 1 s λa w s=>aR 1002 s λb5 a w s=>ru 1 s λa w s=>sW s I λw s=>nl ?_));obtain ⟨x6,hx6,hm⟩:=bk hm;obtain ⟨x7,hx7,hm⟩:=bk hm;refine se (rg (ru 4 s λa w s=>cgv [1000,1001] [1000,1001] hM s (t I) I (oc (t I) on) vn (vq vn) (s62 f n0 n1 _ _ _ hx7.e) (kc I (kc I kn)) I (λ_=>I) I I I λy8 a w s=>ru 1 s λa w s=>nl ?_));refine cmf s hm (λhb hm=>?_) λhb hm=>?_
   ·obtain ⟨x9,hx9,hm⟩:=bk hm;obtain ⟨x10,hx10,hm⟩:=bk hm;refine se (rg (ru 1 s λa w s=>sq s (nk (vp (t I) hx9.e)) I λa w s=>ru 3 s λa w s=>sqz [1003] hM s (cc I (oc (t I) (oc (t I) on)) (s45 f _ _ _ hx10.e)) (λ_=>I) I I λy11 a w s=>ru 5 s λa w s=>nl ?_));refine R 5 s λa w s=>?_;obtain rfl:=si hm;replace hm:=hko3;dsimp only at hm;obtain rfl:=si hm;refine fzk (α:=Int) (k:=1003) hM s I λs=>?_;refine wpIn_ret ?_;exact rz [1000,1001] () hM hD s I (rv3 (rt I) (ro (ta (k:=1003) (t I) I)) (rt I)) (kc I (kc I kn)) I
   ·refine R0 2 s λa w s=>?_;exact ⟨_,hm,s.fi⟩
  ·refine wpIn_exit ?_;exact ⟨_,(si hm).symm,s.fi⟩
 ·dsimp only at hm;refine R 3 s λa w s=>?_;obtain rfl:=si hm;refine wpIn_ret ?_;exact rz [1000,1001] () hM hD s I (rv3 (rt I) (ro (qns (α:=Int) (t I))) (rt I)) (kc I (kc I kn)) I
def m16 (f:Nat) (v0:Control) (v1:List Bool) (v2:List Int):Option (Bool×(List Int)×Int):=(m40 f v0 v1).bind λx1=>(bif (x1.2 != (0:Int)) then some (false,([]:List Int),x1.2) else (bif (decide ((v2.length:Int) > (256:Int))) then some (false,([]:List Int),(5:Int)) else (m56_3 f v2 (wr ((wr ((wr ((2:Int) * v0.Actuators)) + (v0.Inputs.length:Int))) + (v0.Signals.length:Int)))).bind λx4=>(bif x4 then some (false,([]:List Int),(6:Int)) else (m48 f v0 v1).bind λx6=>(bif (x6.2 != (0:Int)) then some (false,([]:List Int),x6.2) else (m60 f v2).bind λx7=>(m59 f x7).bind λx9=>(m58 f x9).bind λx11=>(m61 f x6.1 x11).bind λx14=>some (x14.1,x14.2.1,x14.2.2)))))
theorem s16 (f:Nat) (v0:Control) (v1:List Bool) (v2:List Int) (r:Bool×(List Int)×Int) (hm:m16 f v0 v1 v2=some r):Sp Tryz.prog 16 [Va v0,Va v1,Va v2] (T3 (Va r.1) (Va r.2.1) (Va r.2.2)):=by
 unfold m16 at hm;refine ens func16 kr_ I ntmps16 I I λM W a hM hD s=>?_;refine R 4 s λa w s=>?_;refine se (se (rg (ru 2 s λa w s=>cB s hm (s40 f _ _) λx1 hm a w s=>ru 3 s λa w s=>aR 1000 s λb2 a w s=>sW s I λw s=>ru 1 s λa w s=>nl ?_)));refine R 2 s λa w s=>?_;refine cmf s hm (λhb hm=>?_) λhb hm=>?_
 ·refine R 4 s λa w s=>?_;cases hm;exact rV hD s I I
 ·refine se (R 3 s λa w s=>?_);refine cmf s hm (λhb hm=>?_) λhb hm=>?_
  ·refine R 3 s λa w s=>?_;cases hm;exact rV hD s I I
  ·refine se (rg (ru 11 s λa w s=>sqb 1001 s (al (z:=(0:Int))) I I λb3 a w s=>sw (K:=1001) s (t I) I (t I) I λw s=>nl ?_));refine se ?_;obtain ⟨x4,hx4,hm⟩:=bk hm;refine se (rg (ru 1 s λa w s=>sq s (mkf I I qn (qc (t I) qn)) I λa w s=>cgv [1001] [1001] hM s qf I (oc (t I) (oc (t I) on)) vn vn (s56_3 f b3 _ _ _ hx4.e) (kc I kn) I (λ_=>I) I I I λy5 a w s=>nl ?_));refine cmf s hm (λhb hm=>?_) λhb hm=>?_
   ·refine R 3 s λa w s=>?_;cases hm;exact rV hD s I I
   ·refine se (rg (ru 2 s λa w s=>cB s hm (s48 f _ _) λx6 hm a w s=>ru 5 s λa w s=>nl ?_));refine se (R 2 s λa w s=>?_);refine cmf s hm (λhb hm=>?_) λhb hm=>?_
    ·refine R 4 s λa w s=>?_;cases hm;exact rV hD s I I
    ·obtain ⟨x7,hx7,hm⟩:=bk hm;obtain ⟨x9,hx9,hm⟩:=bk hm;obtain ⟨x11,hx11,hm⟩:=bk hm;refine se (rg (ru 1 s λa w s=>sqz [1002] hM s (cc I (oc (t I) on) (s60 f _ _ hx7.e)) (λ_=>I) I I λy8 a w s=>cgv [1002] [1002,1003] hM s qf I (oc (t I) on) vn vn (s59 f y8 _ _ hx9.e) (kc I kn) I (λ_=>I) I I I λy10 a w s=>cgv [1003] [1003] hM s qf I (oc (t I) on) vn vn (s58 f y10 _ _ hx11.e) (kc I kn) I (λ_=>I) I I I λy12 a w s=>aR 1004 s λb13 a w s=>srq (K:=1004) (cs':=[y12]) s (t I) I (t I) kr_ (oco (k:=1003) I) I I λw s=>nl ?_));obtain ⟨x14,hx14,hm⟩:=bk hm;refine se (rg (ru 1 s λa w s=>sq s (mkf I I qn (qc (t I) qn)) I λa w s=>cgv [1004,1003] [1004,1003] hM s qf I (oc (t I) (oc (t I) on)) vn vn (s61 f b13 y12 _ _ _ hx14.e) (kc I (kc I kn)) I (λ_=>I) I I I λy15 a w s=>ru 6 s λa w s=>nl ?_));cases hm;exact rV hD s I I
def m106 (f:Nat) (v0:Int):Option (Expr):=some (⟨(1:Int),v0,([]:List Expr)⟩:Expr)
theorem s106 (f:Nat) (v0:Int) (r:Expr) (hm:m106 f v0=some r):Sp Tryz.prog 106 [Va v0] (Va r):=by
 unfold m106 at hm;refine ens func106 kr_ I ntmps106 I I λM W a hM hD s=>?_;refine se (rg (sqr 1000 s (alr (cs:=[(.int .i64 (0:Int)),(.int .i64 (0:Int)),nz]) (z:=.agg #[(.int .i64 (0:Int)),(.int .i64 (0:Int)),nz]) kr_ I I) I I λb1 a w s=>nl ?_));refine se (rg (ru 1 s λa w s=>sq s (bl54_0_1 ci (t I)) I λa w s=>sW s I λw s=>nl ?_));cases hm;exact rT hD s I I
instance {f:Nat} {v0:Int}:Cn Tryz.prog 106 (m106 f v0) [Va v0] (λr:Expr=>(Va r)):=⟨s106 f v0⟩
def m47 (f:Nat) :Option (Control):=(m106 f (2:Int)).bind λx2=>(m106 f (0:Int)).bind λx3=>(m106 f (1:Int)).bind λx4=>(m106 f (3:Int)).bind λx5=>some (⟨(1:Int),([(⟨#[115,116,97,114,116]⟩:ByteArray)]:List ByteArray),([(⟨(⟨#[109]⟩:ByteArray),(1:Int),(⟨(3:Int),(0:Int),([x2,x3]:List Expr)⟩:Expr),x4,(0:Int),false⟩:Signal),(⟨(⟨#[103]⟩:ByteArray),(0:Int),(⟨(2:Int),(0:Int),([x5]:List Expr)⟩:Expr),(⟨(0:Int),(0:Int),([]:List Expr)⟩:Expr),(0:Int),false⟩:Signal)]:List Signal),([(3:Int)]:List Int),([(4:Int)]:List Int)⟩:Control)
theorem s47 (f:Nat) (r:Control) (hm:m47 f =some r):Sp Tryz.prog 47 [] (Va r):=by
 unfold m47 at hm;refine ens func47 kr_ I ntmps47 I I λM W a hM hD s=>?_;refine se (rg (sqr 1000 s (alr (cs:=[(.int .i64 (0:Int)),nz,nz,nz,nz]) (z:=.agg #[(.int .i64 (0:Int)),nz,nz,nz,nz]) kr_ I I) I I λb1 a w s=>nl ?_));obtain ⟨x2,hx2,hm⟩:=bk hm;obtain ⟨x3,hx3,hm⟩:=bk hm;obtain ⟨x4,hx4,hm⟩:=bk hm;obtain ⟨x5,hx5,hm⟩:=bk hm;refine se (rg (ru 4 s λa w s=>sq s (bl54_0_2 ci (t I)) I λa w s=>ru 1 s λa w s=>sq s (bl130_0_1_2_3 cs ci (t I) (t I)) I λa w s=>ru 2 s λa w s=>sq s (bl54_0_2 ci (t I)) I λa w s=>sq s (bl130_0_1_2 cs ci (t I)) I λa w s=>ru 3 s λa w s=>sq s (bl26_0_1_2_3_4 ci (t I) (t I) (t I) (t I)) I λa w s=>sW s I λw s=>nl ?_));cases hm;exact rT hD s I I
instance {f:Nat}:Cn Tryz.prog 47 (m47 f ) [] (λr:Control=>(Va r)):=⟨s47 f⟩
def m20_l3 (o5s:Int×(List Bool)×(List Bool)):Nat->(Int×(List Int)×(List Int))->Option (Int×(List Int)×(List Int))
 | 0,_=>none
 | n+1,z23=>(bif (decide (z23.1 < (o5s.2.1.length:Int))) then (idx o5s.2.1 z23.1).bind λx27=>(bif (!x27) then (app z23.2.1 ([z23.1]:List Int)).bind λx29=>some x29 else some z23.2.1).bind λz28=>(idx o5s.2.2 z23.1).bind λx31=>(bif (!x31) then (app z23.2.2 ([z23.1]:List Int)).bind λx33=>some x33 else some z23.2.2).bind λz32=>m20_l3 o5s n ((wr (z23.1 + (1:Int))),z28,z32) else some (z23.1,z23.2.1,z23.2.2))
def m20_l2 (x10:(List Bool)):Nat->(Int×(List Bool)×(List Bool))->Option (Int×(List Bool)×(List Bool))
 | 0,_=>none
 | n+1,z11=>(bif (decide (z11.1 < (x10.length:Int))) then (idx x10 z11.1).bind λx13=>(bif (z11.1 == (z11.2.1.length:Int)) then (app z11.2.1 ([false]:List Bool)).bind λx15=>(app z11.2.2 ([false]:List Bool)).bind λx17=>some (x15,x17) else some (z11.2.1,z11.2.2)).bind λz14=>(idx z14.1 z11.1).bind λx19=>(idx z14.1 z11.1).bind λx20=>(idx z14.2 z11.1).bind λx21=>(idx z14.2 z11.1).bind λx22=>m20_l2 x10 n ((wr (z11.1 + (1:Int))),(z14.1.set z11.1.toNat (x19 || (!x13))),(z14.2.set z11.1.toNat (x21 || x13))) else some (z11.1,z11.2.1,z11.2.2))
def m20_l1 (f:Nat) (x1:(Option World_overlap)×Int) (x3:World_overlap):Nat->(Int×(List Bool)×(List Bool))->Option (Int×(List Bool)×(List Bool))
 | 0,_=>none
 | n+1,z4=>(bif (decide (z4.1 < (x3.space.States.length:Int))) then (idx x3.space.States z4.1).bind λx8=>(m67 f x1.1 x8).bind λx10=>(m20_l2 x10 f ((0:Int),z4.2.1,z4.2.2)).bind λo12s=>m20_l1 f x1 x3 n ((wr (z4.1 + (1:Int))),o12s.2.1,o12s.2.2) else some (z4.1,z4.2.1,z4.2.2))
def m20 (f:Nat) (v0:Control) (v1:List Bool):Option ((List Int)×(List Int)×Int):=(m48 f v0 v1).bind λx1=>(bif (x1.2 != (0:Int)) then some (([]:List Int),([]:List Int),x1.2) else x1.1.bind λx3=>(m20_l1 f x1 x3 f ((0:Int),([]:List Bool),([]:List Bool))).bind λo5s=>(m20_l3 o5s f ((0:Int),([]:List Int),([]:List Int))).bind λo24s=>some (o24s.2.1,o24s.2.2,(0:Int)))
theorem s20 (f:Nat) (v0:Control) (v1:List Bool) (r:(List Int)×(List Int)×Int) (hm:m20 f v0 v1=some r):Sp Tryz.prog 20 [Va v0,Va v1] (T3 (Va r.1) (Va r.2.1) (Va r.2.2)):=by
 unfold m20 at hm;refine ens func20 kr_ I ntmps20 I I λM W a hM hD s=>?_;refine R 4 s λa w s=>?_;refine se (rg (ru 2 s λa w s=>cB s hm (s48 f _ _) λx1 hm a w s=>ru 5 s λa w s=>nl ?_));refine se (R 2 s λa w s=>?_);refine cmf s hm (λhb hm=>?_) λhb hm=>?_
 ·refine R 4 s λa w s=>?_;cases hm;exact rV hD s I I
 ·refine se (rg (sqr 1000 s (alr (cs:=[nz,nz]) (z:=.agg #[nz,nz]) kr_ I I) I I λb2 a w s=>nl ?_));refine se ?_;obtain ⟨x3,hx3,hm⟩:=bk hm;refine se (rg (ru 1 s λa w s=>sq s (nk (vp (t I) hx3.e)) I λa w s=>ru 5 s λa w s=>nl ?_));refine nilc (α:=Bool) (k:=1000) (cs':=λc6=>[c6,nz]) 1001 4 s I (λ_=>I) I λc6 s=>?_;refine nilc (α:=Bool) (k:=1000) (cs':=λc7=>[c6,c7]) 1002 4 s I (λ_=>I) I λc7 s=>?_;refine la hm (λz4 a w=>∃ (z4c0:Value) (z4c1:Value),St M W 116 [(0,Va v0),(1,Va v1),(2,Pt v0),(4,Qv nz),(5,Qv nz),(6,Va ((0:Int))),(7,Va x1.1),(8,Va x1.2),(9,Qv (pb b2 0)),(30,Va x3.space.States),(31,Va ((x3.space.States.length:Int))),(32,Va z4.1),(1000,Mr b2 [z4c0,z4c1]),(1001,Ow 4 z4c0 z4.2.1),(1002,Ow 4 z4c1 z4.2.2)] a w) ⟨c6,c7,s.fi⟩ (λ_=>I) (λo5s hko5 n z4 a w hm s=>?_) λo5s hm a w s=>?_
  ·obtain ⟨z4c0,z4c1,s⟩:=s;unfold m20_l1 at hm;refine R 1 s λa w s=>?_;refine se (cmt s hm (λhb hm=>?_) λhb hm=>?_)
   ·refine se (wpIn_block ?_);refine se (rg (iB s hm λx8 hm a w s=>ru 1 s λa w s=>aR 1003 s λb9 a w s=>sW s I λw s=>nl ?_));refine se (rg (ru 2 s λa w s=>cB s hm (s67 f _ _) λx10 hm a w s=>ru 2 s λa w s=>nl ?_));refine la hm (λz11 a w=>∃ (z11c0:Value) (z11c1:Value),St M W 116 [(0,Va v0),(1,Va v1),(2,Pt v0),(4,Qv nz),(5,Qv nz),(6,Va ((0:Int))),(7,Va x1.1),(8,Va x1.2),(9,Qv (pb b2 0)),(11,Qv (pb b9 0)),(30,Va x3.space.States),(31,Va ((x3.space.States.length:Int))),(32,Va z4.1),(38,Va x10),(39,Va ((x10.length:Int))),(40,Va z11.1),(1000,Mr b2 [z11c0,z11c1]),(1001,Ow 4 z11c0 z11.2.1),(1002,Ow 4 z11c1 z11.2.2),(1003,Mg b9 x8)] a w) ⟨z4c0,z4c1,s.fi⟩ (λ_=>I) (λo12s hko12 n z11 a w hm s=>?_) λo12s hm a w s=>?_
    ·obtain ⟨z11c0,z11c1,s⟩:=s;unfold m20_l2 at hm;refine R 1 s λa w s=>?_;refine se (cmt s hm (λhb hm=>?_) λhb hm=>?_)
     ·refine se (wpIn_block ?_);refine se (rg (ru 1 s λa w s=>iB s hm λx13 hm a w s=>ru 3 s λa w s=>nl ?_));refine se (se (rg (ru 1 s λa w s=>sq s (iax (e:=27) (len:=2) (j:=0) (t I) ci kr_ kr_ kr_) I λa w s=>ru 3 s λa w s=>nl ?_)));obtain ⟨z14,hz14,hkz14⟩:=bs hm;refine cpI (λa w=>∃ (z14c0:Value) (z14c1:Value),St M W 116 [(0,Va v0),(1,Va v1),(2,Pt v0),(4,Qv nz),(5,Qv nz),(6,Va ((0:Int))),(7,Va x1.1),(8,Va x1.2),(9,Qv (pb b2 0)),(11,Qv (pb b9 0)),(12,Va z11.1),(13,Va x13),(30,Va x3.space.States),(31,Va ((x3.space.States.length:Int))),(32,Va z4.1),(38,Va x10),(39,Va ((x10.length:Int))),(40,Va z11.1),(1000,Mr b2 [z14c0,z14c1]),(1001,Ow 4 z14c0 z14.1),(1002,Ow 4 z14c1 z14.2),(1003,Mg b9 x8)] a w) ?_ λa w s=>?_
      ·refine cm s I hz14 (λhb hm=>?_) (λhb hm=>?_)
       ·obtain ⟨x15,hx15,hm⟩:=bk hm;obtain ⟨x17,hx17,hm⟩:=bk hm;refine flow2 [(9,Qv (pb b2 0)),(1000,Mr b2 [z11c0,z11c1])] [0,1,2] [50,51,52] [] [54] [58,56,55,54] [(3,[]),(7,[56,55,54]),(9,[58]),(10,[]),(11,[])] s (.skip (.skip (.skip (.late (.skip (.late (.late (.late (.skip (.cons (.cons (.cons .nil I I (iax (e:=27) (len:=2) (j:=0) (t I) ci kr_ kr_ kr_)) I I (lrc (K:=1000) (List Bool) (t I) I I I I)) I I (bsv (o1 cb o0) I I kr_)) I) I I (iax (e:=27) (len:=2) (j:=1) (t I) ci kr_ kr_ kr_)) I I (lrc (K:=1000) (List Bool) (t I) I I I I)) I I (bsv (o1 cb o0) I I kr_)) I) I I (iax (e:=27) (len:=2) (j:=0) (t I) ci kr_ kr_ kr_)) I) I) I) kr_ kr_ I I (sb1 I (sb1 I sb0)) I (by decide) I I ?_;refine ⟨⟨λ_=>I,I,.inr ⟨(sb1 I (sb1 I sb0)),sb0,(sn2 I sn0)⟩⟩,by kernel_rfl,_,I,λΨ a w s=>apd (α:=Bool) (k:=1001) s (t I) I (t I) hx15.e I I λc16 a w s=>nl ?_⟩;refine nxt Ψ s ?_;refine ⟨⟨λ_=>I,I,.inr ⟨(sb1 I (sb1 I sb0)),sb0,(sn2 I sn0)⟩⟩,by kernel_rfl,_,I,λΨ a w s=>apd (α:=Bool) (k:=1002) s (t I) I (t I) hx17.e I I λc18 a w s=>nl ?_⟩;refine nxt Ψ s ?_;refine ⟨⟨λ_=>I,I,.inr ⟨(sb1 I (sb1 I sb0)),sb0,(sn1 I sn0)⟩⟩,by kernel_rfl,_,I,λΨ a w s=>srq (K:=1000) (cs':=[c16,z11c1]) s (t I) I (t I) kr_ (oco (k:=1001) I) I I λw s=>nl ?_⟩;refine nxt Ψ s ?_;refine ⟨⟨λ_=>I,I,.inl I⟩,by kernel_rfl,_,I,λΨ a w s=>sq s (iax (e:=27) (len:=2) (j:=1) (t I) ci kr_ kr_ kr_) I λa w s=>nl ?_⟩;refine nxt Ψ s ?_;refine ⟨⟨λ_=>I,I,.inl I⟩,by kernel_rfl,_,I,λΨ a w s=>srq (K:=1000) (cs':=[c16,c18]) s (t I) I (t I) kr_ (oco (k:=1002) I) I I λw s=>nl ?_⟩;refine nxt Ψ s ?_;refine ⟨⟨λ_=>I,I,.inl I⟩,λa w s=>?_⟩;replace s:St M W 116 [(0,Va v0),(1,Va v1),(2,Pt v0),(4,Qv nz),(5,Qv nz),(6,Va ((0:Int))),(7,Va x1.1),(8,Va x1.2),(9,Qv (pb b2 0)),(11,Qv (pb b9 0)),(12,Va z11.1),(13,Va x13),(30,Va x3.space.States),(31,Va ((x3.space.States.length:Int))),(32,Va z4.1),(38,Va x10),(39,Va ((x10.length:Int))),(40,Va z11.1),(1000,Mr b2 [c16,c18]),(1001,Ow 4 c16 x15),(1002,Ow 4 c18 x17),(1003,Mg b9 x8)] a w:=s.pick [0,1,2,4,5,6,7,8,9,11,12,13,30,31,32,38,39,40,1000,1001,1002,1003];obtain rfl:=si hm;exact ⟨c16,c18,s.fi⟩
       ·refine wpIn_skip ?_;obtain rfl:=si hm;exact ⟨z11c0,z11c1,s.fi⟩
      ·obtain ⟨z14c0,z14c1,s⟩:=s;replace hm:=hkz14;obtain ⟨x19,hx19,hm⟩:=bk hm;obtain ⟨x20,hx20,hm⟩:=bk hm;refine se (flow s (m:=13) (.cons (.cons (.cong (.cong (.cons (.cons (.cons (.cons (.cons (.cons (.cons (.cons (.cons .nil I (iax (e:=27) (len:=2) (j:=0) (t I) ci kr_ kr_ kr_)) I (lrc (K:=1000) (List Bool) (t I) I I I I)) I (mv (t I))) I (iax (e:=27) (len:=2) (j:=0) (t I) ci kr_ kr_ kr_)) I (lrc (K:=1000) (List Bool) (t I) I I I I)) I (mv (t I))) I (ixq (α:=Bool) (k:=1001) (t I) I (t I) hx19.e)) I (lq (k:=1001) (t I) I (idxg hx19.e))) I (mv (t I))) I I I (λhb=>(mv (t I)))) I I I (λhb=>(nt (tg I hb)))) I (poP (t I) I)) I (ixq (α:=Bool) (k:=1001) (t I) I (t I) hx20.e)) kr_ I I λa w s=>stq (k:=1001) s (t I) I (idxg hx20.e) (t I) λw s=>nl ?_);obtain ⟨x21,hx21,hm⟩:=bk hm;obtain ⟨x22,hx22,hm⟩:=bk hm;refine flow s (m:=12) (.cons (.cons (.cong (.cons (.cons (.cons (.cons (.cons (.cons (.cons (.cons (.cons .nil I (iax (e:=27) (len:=2) (j:=1) (t I) ci kr_ kr_ kr_)) I (lrc (K:=1000) (List Bool) (t I) I I I I)) I (mv (t I))) I (iax (e:=27) (len:=2) (j:=1) (t I) ci kr_ kr_ kr_)) I (lrc (K:=1000) (List Bool) (t I) I I I I)) I (mv (t I))) I (ixq (α:=Bool) (k:=1002) (t I) I (t I) hx21.e)) I (lq (k:=1002) (t I) I (idxg hx21.e))) I (mv (t I))) I I I (λhb=>(mv (t I)))) I (poP (t I) I)) I (ixq (α:=Bool) (k:=1002) (t I) I (t I) hx22.e)) kr_ I I λa w s=>stq (k:=1002) s (t I) I (idxg hx22.e) (t I) λw s=>nl ?_;refine R0 2 s λa w s=>?_;exact ⟨_,hm,⟨z14c0,z14c1,s.fi⟩⟩
     ·refine wpIn_exit ?_;obtain rfl:=si hm;exact ⟨z11c0,z11c1,s.fi⟩
    ·obtain ⟨o12sc0,o12sc1,s⟩:=s;refine R0 2 s λa w s=>?_;exact ⟨_,hm,⟨o12sc0,o12sc1,s.fi⟩⟩
   ·refine wpIn_exit ?_;obtain rfl:=si hm;exact ⟨z4c0,z4c1,s.fi⟩
  ·obtain ⟨o5sc0,o5sc1,s⟩:=s;refine R 2 s λa w s=>?_;refine se (se (rg (sq s (iax (e:=27) (len:=2) (j:=0) (t I) ci kr_ kr_ kr_) I λa w s=>ru 3 s λa w s=>nl ?_)));refine nilt (α:=Int) (d:=14) 1005 3 s I I λc25 s=>?_;refine nilt (α:=Int) (d:=15) 1006 3 s I I λc26 s=>?_;refine la hm (λz23 a w=>∃ (z23c0:Value) (z23c1:Value),St M W 116 [(0,Va v0),(1,Va v1),(2,Pt v0),(4,Qv nz),(5,Qv nz),(6,Va ((0:Int))),(7,Va x1.1),(8,Va x1.2),(9,Qv (pb b2 0)),(14,Qv z23c0),(15,Qv z23c1),(30,Va x3.space.States),(31,Va ((x3.space.States.length:Int))),(32,Va o5s.1),(89,Va ((o5s.2.1.length:Int))),(90,Va z23.1),(1000,Mr b2 [o5sc0,o5sc1]),(1001,Ow 4 o5sc0 o5s.2.1),(1002,Ow 4 o5sc1 o5s.2.2),(1005,Ow 3 z23c0 z23.2.1),(1006,Ow 3 z23c1 z23.2.2)] a w) ⟨c25,c26,s.fi⟩ (λ_=>I) (λo24s hko24 n z23 a w hm s=>?_) λo24s hm a w s=>?_
   ·obtain ⟨z23c0,z23c1,s⟩:=s;unfold m20_l3 at hm;refine R 1 s λa w s=>?_;refine se (cmt s hm (λhb hm=>?_) λhb hm=>?_)
    ·refine se (wpIn_block ?_);refine R 2 s λa w s=>?_;refine se ?_;obtain ⟨x27,hx27,hm⟩:=bk hm;refine se (rg (sq s (iax (e:=27) (len:=2) (j:=0) (t I) ci kr_ kr_ kr_) I λa w s=>ru 5 s λa w s=>nl ?_));obtain ⟨z28,hz28,hkz28⟩:=bs hm;refine cP1 [0,1,2,4,5,6,7,8,9,15,16,30,31,32,89,90,1000,1001,1002,1006] s (λz28c0=>[(14,Qv z28c0),(1005,Ow 3 z28c0 z28)]) ?_ λa w s=>?_
     ·refine cm s I hz28 (λhb hm=>?_) (λhb hm=>?_)
      ·obtain ⟨x29,hx29,hm⟩:=bk hm;refine rg (ru 3 s λa w s=>apd (α:=Int) (k:=1005) s (t I) I (t I) hx29.e I I λc30 a w s=>ru 1 s λa w s=>nl ?_);obtain rfl:=si hm;exact ⟨c30,s.fi⟩
      ·refine wpIn_skip ?_;obtain rfl:=si hm;exact ⟨z23c0,s.fi⟩
     ·obtain ⟨z28c0,s⟩:=s;replace hm:=hkz28;obtain ⟨x31,hx31,hm⟩:=bk hm;refine se (rg (sq s (iax (e:=27) (len:=2) (j:=1) (t I) ci kr_ kr_ kr_) I λa w s=>ru 5 s λa w s=>nl ?_));obtain ⟨z32,hz32,hkz32⟩:=bs hm;refine cP1 [0,1,2,4,5,6,7,8,9,14,16,30,31,32,89,90,1000,1001,1002,1005] s (λz32c0=>[(15,Qv z32c0),(1006,Ow 3 z32c0 z32)]) ?_ λa w s=>?_
      ·refine cm s I hz32 (λhb hm=>?_) (λhb hm=>?_)
       ·obtain ⟨x33,hx33,hm⟩:=bk hm;refine rg (ru 3 s λa w s=>apd (α:=Int) (k:=1006) s (t I) I (t I) hx33.e I I λc34 a w s=>ru 1 s λa w s=>nl ?_);obtain rfl:=si hm;exact ⟨c34,s.fi⟩
       ·refine wpIn_skip ?_;obtain rfl:=si hm;exact ⟨z23c1,s.fi⟩
      ·obtain ⟨z32c0,s⟩:=s;replace hm:=hkz32;refine R0 2 s λa w s=>?_;exact ⟨_,hm,⟨z28c0,z32c0,s.fi⟩⟩
    ·refine wpIn_exit ?_;obtain rfl:=si hm;exact ⟨z23c0,z23c1,s.fi⟩
   ·obtain ⟨o24sc0,o24sc1,s⟩:=s;refine R 5 s λa w s=>?_;obtain rfl:=si hm;refine fzk (α:=Int) (k:=1005) hM s I λs=>?_;refine fzk (α:=Int) (k:=1006) hM s I λs=>?_;refine wpIn_ret ?_;exact rn hD s I (rv3 (ro (ta (k:=1005) (t I) I)) (ro (ta (k:=1006) (t I) I)) (rt I))
def m12 (f:Nat) :Option (Bool):=(m47 f).bind λx1=>(m47 f).bind λx2=>(m13 f { x1 with Minus:=([(3:Int)]:List Int) } ([true]:List Bool)).bind λx7=>(m13 f { x2 with Minus:=([(2:Int)]:List Int) } ([true]:List Bool)).bind λx9=>(bif ((((((wr (x7.2.2 + x9.2.2)) != (0:Int)) || (!x7.2.1)) || (!x9.2.1)) || ((x7.1.Path.length:Int) != (0:Int))) || ((x9.1.Path.length:Int) != (0:Int))) then some true else (m15 f x7.1.Conflicts ([(5:Int)]:List Int)).bind λx11=>some (!x11)).bind λr12=>(bif r12 then some true else (m15 f x9.1.Conflicts ([(5:Int)]:List Int)).bind λx13=>some (!x13)).bind λr14=>(bif r14 then some false else (m47 f).bind λx15=>(m16 f x15 ([true]:List Bool) ([(3:Int),(4:Int)]:List Int)).bind λx17=>(m16 f x15 ([true]:List Bool) ([(0:Int),(3:Int)]:List Int)).bind λx18=>(m16 f x15 ([true]:List Bool) ([(3:Int),(2:Int)]:List Int)).bind λx19=>(m20 f x15 ([true]:List Bool)).bind λx20=>(bif ((((((wr ((wr ((wr (x17.2.2 + x18.2.2)) + x19.2.2)) + x20.2.2)) == (0:Int)) && x17.1) && x18.1) && (!x19.1)) && ((x19.2.1.length:Int) == (0:Int))) then (m15 f x20.1 ([(2:Int)]:List Int)).bind λx21=>some x21 else some false).bind λr22=>(bif r22 then (m15 f x20.2.1 ([(0:Int),(1:Int)]:List Int)).bind λx23=>some x23 else some false).bind λr24=>some r24)
theorem s12 (f:Nat) (r:Bool) (hm:m12 f =some r):Sp Tryz.prog 12 [] (Va r):=by
 unfold m12 at hm;refine ens func12 kr_ I ntmps12 I I λM W a hM hD s=>?_;refine R 1 s λa w s=>?_;refine se (rg (cB s hm (s47 f) λx1 hm a w s=>cB s hm (s47 f) λx2 hm a w s=>sqr 1000 s (alr (cs:=[(.int .i64 (0:Int)),nz,nz,nz,nz]) (z:=.agg #[(.int .i64 (0:Int)),nz,nz,nz,nz]) kr_ I I) I I λb3 a w s=>sqr 1001 s (alr (cs:=[(.int .i64 (0:Int)),nz,nz,nz,nz]) (z:=.agg #[(.int .i64 (0:Int)),nz,nz,nz,nz]) kr_ I I) I I λb4 a w s=>swd (K:=1000) s (t I) I (t I) I λw s=>swd (K:=1001) s (t I) I (t I) I λw s=>nl ?_));refine se (rg (sqo 1002 s (bso (o1 ci o0) I I kr_) I I λc5 a w s=>sqo 1003 s (bso (o1 ci o0) I I kr_) I I λc6 a w s=>ru 1 s λa w s=>fzk (α:=Int) (k:=1002) hM s I λs=>sf (γ:=Control) (K:=1000) s (t I) I (ta (k:=1002) (t I) I) λw s=>ru 1 s λa w s=>fzk (α:=Int) (k:=1003) hM s I λs=>sf (γ:=Control) (K:=1001) s (t I) I (ta (k:=1003) (t I) I) λw s=>nl ?_));refine se (rg (ru 2 s λa w s=>cB s hm (s13 f _ _) λx7 hm a w s=>ru 4 s λa w s=>aR 1004 s λb8 a w s=>sW s I λw s=>ru 2 s λa w s=>nl ?_));refine se (rg (ru 2 s λa w s=>cB s hm (s13 f _ _) λx9 hm a w s=>ru 4 s λa w s=>aR 1005 s λb10 a w s=>sW s I λw s=>ru 2 s λa w s=>nl ?_));refine se ?_;obtain ⟨r12,hr12,hm⟩:=bs hm;have gr12:=gF hr12;have er12:=gT hr12;obtain ⟨x11,hx11,gr12⟩:=gk gr12;obtain ⟨r14,hr14,hm⟩:=bs hm;have gr14:=gF hr14;have er14:=gT hr14;obtain ⟨x13,hx13,gr14⟩:=gk gr14;have:=pko gr12 er12;have:=pko gr14 er14;refine R 38 s λa w s=>?_;refine cmf s hm (λhb hm=>?_) λhb hm=>?_
 ·refine R 1 s λa w s=>?_;cases hm;exact rT hD s I I
 ·obtain ⟨x15,hx15,hm⟩:=bk hm;refine se (rg (ru 2 s λa w s=>aR 1006 s λb16 a w s=>sW s I λw s=>ru 1 s λa w s=>nl ?_));refine se (rg (ru 3 s λa w s=>cB s hm (s16 f _ _ _) λx17 hm a w s=>ru 7 s λa w s=>nl ?_));refine se (rg (ru 3 s λa w s=>cB s hm (s16 f _ _ _) λx18 hm a w s=>ru 7 s λa w s=>nl ?_));refine se (rg (ru 3 s λa w s=>cB s hm (s16 f _ _ _) λx19 hm a w s=>ru 7 s λa w s=>nl ?_));refine se (rg (ru 2 s λa w s=>cB s hm (s20 f _ _) λx20 hm a w s=>ru 7 s λa w s=>nl ?_));obtain ⟨r22,hr22,hm⟩:=bs hm;have gr22:=gT hr22;have er22:=gF hr22;obtain ⟨x21,hx21,gr22⟩:=gk gr22;obtain ⟨r24,hr24,hm⟩:=bs hm;have gr24:=gT hr24;have er24:=gF hr24;obtain ⟨x23,hx23,gr24⟩:=gk gr24;have:=pka gr22 er22;have:=pka gr24 er24;refine R 34 s λa w s=>?_;cases hm;exact rT hD s I I
def m52_l1 (f:Nat) (v0:Control) (v1:List Bool):Nat->((List Int)×Int×State)->Option ((List Int)×Int×State)
 | 0,_=>none
 | n+1,z4=>(bif (decide (z4.2.1 < (v1.length:Int))) then (idx v1 z4.2.1).bind λx6=>(bif x6 then (m77 f v0 z4.2.2 (⟨(2:Int),z4.2.1,true⟩:Event)).bind λx8=>(m66 f z4.1 x8.2.1).bind λx10=>some (x10,x8.1) else some (z4.1,z4.2.2)).bind λz7=>m52_l1 f v0 v1 n (z7.1,(wr (z4.2.1 + (1:Int))),z7.2) else some (z4.1,z4.2.1,z4.2.2))
def m52 (f:Nat) (v0:Control) (v1:List Bool):Option ((List Int)):=(m109 f v0).bind λx1=>(m108 f v0 x1).bind λx2=>(m52_l1 f v0 v1 f (x2.2.1,(0:Int),x2.1)).bind λo5s=>some o5s.1
theorem s52 (f:Nat) (v0:Control) (v1:List Bool) (r:(List Int)) (hm:m52 f v0 v1=some r):Sp Tryz.prog 52 [Va v0,Va v1] (Va r):=by
 unfold m52 at hm;refine ens func52 kr_ I ntmps52 I I λM W a hM hD s=>?_;refine R 2 s λa w s=>?_;obtain ⟨x1,hx1,hm⟩:=bk hm;obtain ⟨x2,hx2,hm⟩:=bk hm;refine se (flow2 [] [0,1,2,3,4,5,8] [13,14,15,16,12,17,5] [12] [] [19,18] [(9,[]),(10,[18]),(11,[19])] s (.skip (.skip (.skip (.cons (.late (.late (.cons (.cons (.cons (.cons (.cons (.cons .nil I I (ld (t I))) I I (ld (t I))) I I (cc I (oc (t I) on) (s109 f _ _ hx1.e))) I I (cc I (oc (t I) (oc (t I) on)) (s108 f _ _ _ hx2.e))) I I (mve (t I))) I I (Pn.x30 (t I))) I I (Pn.x31 (t I))) I I (Pn.x32 (t I))) I I (alr (cs:=[nz,nz,nz,nz,nz]) (z:=.agg #[nz,nz,nz,nz,nz]) kr_ I I)) I) I) I) kr_ kr_ I I sb0 I (by decide) I I ?_);refine ⟨⟨λ_=>I,I,.inr ⟨sb0,(sb1 I sb0),sn0⟩⟩,by kernel_rfl,_,I,λΨ a w s=>opr (d:=5) 1000 s I I λb3 s=>swd (K:=1000) s (t I) I (t I) I λw s=>nl ?_⟩;refine nxt Ψ s ?_;refine ⟨⟨λ_=>I,I,.inr ⟨sb0,(sb1 I sb0),sn0⟩⟩,by kernel_rfl,_,I,λΨ a w s=>sq s (sa (t I)) I λa w s=>nl ?_⟩;refine nxt Ψ s ?_;refine ⟨⟨λ_=>I,I,.inr ⟨sb0,(sb1 I sb0),sn0⟩⟩,by kernel_rfl,_,I,λΨ a w s=>sq s (sa (t I)) I λa w s=>nl ?_⟩;refine nxt Ψ s ?_;refine ⟨⟨λ_=>I,I,.inl I⟩,λa w s=>?_⟩;replace s:St M W 44 [(0,Va v0),(1,Va v1),(2,Pt v0),(4,Qv nz),(5,Qv (pb b3 0)),(6,Va x2.2.1),(1000,Mg b3 x2.1)] a w:=s.pick [0,1,2,4,5,6,1000];refine se (R 1 s λa w s=>?_);refine lA hm [0,1,2,4,5] s (λz4=>[(6,Va z4.1),(8,Va z4.2.1),(1000,Mg b3 z4.2.2)]) s.fi (λ_=>I) (λo5s hko5 n z4 a w hm s=>?_) λo5s hm a w s=>?_
 ·unfold m52_l1 at hm;refine se (R 4 s λa w s=>?_);refine cmt s hm (λhb hm=>?_) λhb hm=>?_
  ·refine se (wpIn_block ?_);refine se (rg (ru 2 s λa w s=>iB s hm λx6 hm a w s=>ru 1 s λa w s=>nl ?_));obtain ⟨z7,hz7,hkz7⟩:=bs hm;refine cP [0,1,2,4,5,8] s [(6,Va z7.1),(1000,Mg b3 z7.2)] ?_ λa w s=>?_
   ·refine cm s I hz7 (λhb hm=>?_) (λhb hm=>?_)
    ·refine se (rg (ru 3 s λa w s=>sq s (bl136_0_1_2 ci (t I) cb) I λa w s=>cB s hm (s77 f _ _ _) λx8 hm a w s=>ru 4 s λa w s=>aR 1001 s λb9 a w s=>sW s I λw s=>ru 2 s λa w s=>nl ?_));obtain ⟨x10,hx10,hm⟩:=bk hm;refine fW 4 s kr_ I I λa w s=>sw (K:=1000) s (t I) I (t I) I λw s=>ru 1 s λa w s=>nl ?_;obtain rfl:=si hm;exact s.fi
    ·refine wpIn_skip ?_;obtain rfl:=si hm;exact s.fi
   ·replace hm:=hkz7;refine R0 3 s λa w s=>?_;exact ⟨_,hm,s.fi⟩
  ·refine wpIn_exit ?_;obtain rfl:=si hm;exact s.fi
 ·refine R 2 s λa w s=>?_;cases hm;exact rT hD s I I
def m26_l1 (f:Nat) (v0:Control) (v2:Accident):Nat->((List Int)×Int×State)->Option (Lo ((List Int)×Int×State) (Int))
 | 0,_=>none
 | n+1,z5=>(bif (decide (z5.2.1 < (v2.Path.length:Int))) then (idx v2.Path z5.2.1).bind λx7=>(m74 f v0 z5.2.2).bind λx8=>(bif (x8.1 != (0:Int)) then some (.ret x8.1) else (bif ((decide (x7 < (0:Int))) || (decide (x7>=(x8.2.length:Int)))) then some (.ret (6:Int)) else (idx x8.2 x7).bind λx10=>(m75 f v0 z5.2.2 x10).bind λx11=>(bif (x11.2.2 != (0:Int)) then some (.ret x11.2.2) else m26_l1 f v0 v2 n (x11.2.1,(wr (z5.2.1 + (1:Int))),x11.1)))) else some (.brk (z5.1,z5.2.1,z5.2.2)))
def m26 (f:Nat) (v0:Control) (v1:List Bool) (v2:Accident):Option (Int):=(m40 f v0 v1).bind λx1=>(bif (x1.2 != (0:Int)) then some x1.2 else (bif (decide ((v2.Path.length:Int) > (4096:Int))) then some (5:Int) else (m49 f v0 v1).bind λx3=>(bif (x3.1 != (0:Int)) then some x3.1 else ((m26_l1 f v0 v2 f (x3.2,(0:Int),x1.1)).bind λo6=>match o6 with | .brk o6s=>(bif ((o6s.1.length:Int) == (0:Int)) then some true else (m15 f o6s.1 v2.Conflicts).bind λx12=>some (!x12)).bind λr13=>(bif r13 then some (15:Int) else some (0:Int)) | .ret r=>some r))))
theorem s26 (f:Nat) (v0:Control) (v1:List Bool) (v2:Accident) (r:Int) (hm:m26 f v0 v1 v2=some r):Sp Tryz.prog 26 [Va v0,Va v1,Va v2] (Va r):=by
 unfold m26 at hm;refine ens func26 kr_ I ntmps26 I I λM W a hM hD s=>?_;refine R 3 s λa w s=>?_;refine se (rg (ru 2 s λa w s=>cB s hm (s40 f _ _) λx1 hm a w s=>ru 3 s λa w s=>aR 1000 s λb2 a w s=>sW s I λw s=>ru 1 s λa w s=>nl ?_));refine se (R 2 s λa w s=>?_);refine cmf s hm (λhb hm=>?_) λhb hm=>?_
 ·refine R 2 s λa w s=>?_;cases hm;exact rT hD s I I
 ·refine se (R 4 s λa w s=>?_);refine cmf s hm (λhb hm=>?_) λhb hm=>?_
  ·refine R 1 s λa w s=>?_;cases hm;exact rT hD s I I
  ·obtain ⟨x3,hx3,hm⟩:=bk hm;refine se (rg (ru 2 s λa w s=>sqz [1001] hM s (cc I (oc (t I) (oc (t I) on)) (s49 f _ _ _ hx3.e)) (λ_=>I) I I λy4 a w s=>ru 5 s λa w s=>nl ?_));refine se (R 2 s λa w s=>?_);refine cmf s hm (λhb hm=>?_) λhb hm=>?_
   ·refine R 2 s λa w s=>?_;cases hm;exact rT hD s I I
   ·refine se (R 4 s λa w s=>?_);refine fzk (α:=Int) (k:=1001) hM s I λs=>?_;replace s:=tv (d:=9) s (ta (k:=1001) (t I) I);refine lB hm [0,1,2,3,5,6,7,8,37,38] s (λz5=>[(9,Va z5.1),(39,Va z5.2.1),(1000,Mg b2 z5.2.2)]) s.fi (λ_=>I) (λo6 hko6 n z5 a w hm s=>?_) λo6s hm a w s=>?_
    ·unfold m26_l1 at hm;refine R 1 s λa w s=>?_;refine se (cmt s hm (λhb hm=>?_) λhb hm=>?_)
     ·refine se (wpIn_block ?_);refine se (rg (iB s hm λx7 hm a w s=>ru 2 s λa w s=>nl ?_));obtain ⟨x8,hx8,hm⟩:=bk hm;refine se (rg (ru 2 s λa w s=>sqz [1002] hM s (cc I (oc (t I) (oc (t I) on)) (s74 f _ _ _ hx8.e)) (λ_=>I) I I λy9 a w s=>ru 5 s λa w s=>nl ?_));refine se (R 2 s λa w s=>?_);refine cmf s hm (λhb hm=>?_) λhb hm=>?_
      ·refine R 2 s λa w s=>?_;obtain rfl:=si hm;replace hm:=hko6;dsimp only at hm;cases hm;exact rT hD s I I
      ·refine se (R 8 s λa w s=>?_);refine cmf s hm (λhb hm=>?_) λhb hm=>?_
       ·refine R 1 s λa w s=>?_;obtain rfl:=si hm;replace hm:=hko6;dsimp only at hm;cases hm;exact rT hD s I I
       ·obtain ⟨x10,hx10,hm⟩:=bk hm;obtain ⟨x11,hx11,hm⟩:=bk hm;refine se (flow2 [] [0,1,2,3,4,5,6,7,8] [61,62,63,64,65,66,67,60,68] [60] [] [70,69] [(11,[]),(12,[69]),(13,[70])] s (.skip (.skip (.skip (.late (.late (.cons (.cons (.cons (.cons (.cons (.cons (.cons (.cons (.cons .nil I I (ld (t I))) I I (lm (K:=1000) (t I) I)) I I (mvq (t I))) I I (mv (t I))) I I (ixq (α:=Event) (k:=1002) (t I) I (t I) hx10.e)) I I (lq (k:=1002) (t I) I (idxg hx10.e))) I I (cc I (oc (t I) (oc (t I) (oc (t I) on))) (s75 f _ _ _ _ hx11.e))) I I (mve (t I))) I I (Pn.x30 (t I))) I I (Pn.x31 (t I))) I I (Pn.x32 (t I))) I) I) I) kr_ kr_ I I sb0 I (by decide) I I ?_);refine ⟨⟨λ_=>I,I,.inr ⟨sb0,(sb1 I sb0),sn0⟩⟩,by kernel_rfl,_,I,λΨ a w s=>sw (K:=1000) s (t I) I (t I) I λw s=>nl ?_⟩;refine nxt Ψ s ?_;refine ⟨⟨λ_=>I,I,.inr ⟨sb0,(sb1 I sb0),sn0⟩⟩,by kernel_rfl,_,I,λΨ a w s=>sq s (sa (t I)) I λa w s=>nl ?_⟩;refine nxt Ψ s ?_;refine ⟨⟨λ_=>I,I,.inr ⟨sb0,(sb1 I sb0),sn0⟩⟩,by kernel_rfl,_,I,λΨ a w s=>sq s (sa (t I)) I λa w s=>nl ?_⟩;refine nxt Ψ s ?_;refine ⟨⟨λ_=>I,I,.inl I⟩,λa w s=>?_⟩;replace s:St M W 85 [(0,Va v0),(1,Va v1),(2,Va v2),(3,Pt v0),(5,Pt v2),(6,Va ((0:Int))),(7,Qv (pb b2 0)),(8,Va x3.1),(9,Va x11.2.1),(11,Va x7),(12,Qv y9),(13,Va x11.2.2),(37,Va v2.Path),(38,Va ((v2.Path.length:Int))),(39,Va z5.2.1),(1000,Mg b2 x11.1),(1002,Ow 136 y9 x8.2)] a w:=s.pick [0,1,2,3,5,6,7,8,9,11,12,13,37,38,39,1000,1002];refine R 2 s λa w s=>?_;refine cmf s hm (λhb hm=>?_) λhb hm=>?_
        ·refine R 2 s λa w s=>?_;obtain rfl:=si hm;replace hm:=hko6;dsimp only at hm;cases hm;exact rT hD s I I
        ·refine R0 2 s λa w s=>?_;exact ⟨_,hm,s.fi⟩
     ·refine wpIn_exit ?_;exact ⟨_,(si hm).symm,s.fi⟩
    ·dsimp only at hm;refine se ?_;obtain ⟨r13,hr13,hm⟩:=bs hm;have gr13:=gF hr13;have er13:=gT hr13;obtain ⟨x12,hx12,gr13⟩:=gk gr13;have:=pko gr13 er13;refine R 10 s λa w s=>?_;refine cmf s hm (λhb hm=>?_) λhb hm=>?_
     ·refine R 1 s λa w s=>?_;cases hm;exact rT hD s I I
     ·refine R 1 s λa w s=>?_;cases hm;exact rT hD s I I
def m78_l1 (v0:List Int) (v1:List Int):Nat->Int->Option (Lo (Int) (Bool))
 | 0,_=>none
 | n+1,z1=>(bif (decide (z1 < (v0.length:Int))) then (idx v0 z1).bind λx3=>(idx v1 z1).bind λx4=>(bif (x3 != x4) then some (.ret false) else m78_l1 v0 v1 n (wr (z1 + (1:Int)))) else some (.brk z1))
def m78 (f:Nat) (v0:List Int) (v1:List Int):Option (Bool):=(bif ((v0.length:Int) != (v1.length:Int)) then some false else ((m78_l1 v0 v1 f (0:Int)).bind λo2=>match o2 with | .brk o2s=>some true | .ret r=>some r))
theorem s78 (f:Nat) (v0:List Int) (v1:List Int) (r:Bool) (hm:m78 f v0 v1=some r):Sp Tryz.prog 78 [Va v0,Va v1] (Va r):=by
 unfold m78 at hm;refine ens func78 kr_ I ntmps78 I I λM W a hM hD s=>?_;refine R 1 s λa w s=>?_;refine se (R 5 s λa w s=>?_);refine cmf s hm (λhb hm=>?_) λhb hm=>?_
 ·refine R 1 s λa w s=>?_;cases hm;exact rT hD s I I
 ·refine se (R 1 s λa w s=>?_);refine lB hm [0,1,4] s (λz1=>[(5,Va z1)]) s.fi (λ_=>I) (λo2 hko2 n z1 a w hm s=>?_) λo2s hm a w s=>?_
  ·unfold m78_l1 at hm;refine se (R 4 s λa w s=>?_);refine cmt s hm (λhb hm=>?_) λhb hm=>?_
   ·refine se (wpIn_block ?_);obtain ⟨x3,hx3,hm⟩:=bk hm;obtain ⟨x4,hx4,hm⟩:=bk hm;refine se (fW 9 s kr_ I I λa w s=>nl ?_);refine cmf s hm (λhb hm=>?_) λhb hm=>?_
    ·refine R 1 s λa w s=>?_;obtain rfl:=si hm;replace hm:=hko2;dsimp only at hm;cases hm;exact rT hD s I I
    ·refine R0 3 s λa w s=>?_;exact ⟨_,hm,s.fi⟩
   ·refine wpIn_exit ?_;exact ⟨_,(si hm).symm,s.fi⟩
  ·dsimp only at hm;refine R 1 s λa w s=>?_;cases hm;exact rT hD s I I
instance {f:Nat} {v0:List Int} {v1:List Int}:Cn Tryz.prog 78 (m78 f v0 v1) [Va v0,Va v1] (λr:Bool=>(Va r)):=⟨s78 f v0 v1⟩
def m27_1_l1 (f:Nat) (v0:Control) (v2:Accident):Nat->((List Int)×Int×State)->Option (Lo ((List Int)×Int×State) (Int))
 | 0,_=>none
 | n+1,z4=>(bif (decide (z4.2.1 < (v2.Path.length:Int))) then (m76 f z4.2.2).bind λx6=>(idx v2.Path z4.2.1).bind λx7=>(bif (decide (x7 < (0:Int))) then some true else (idx v2.Path z4.2.1).bind λx8=>some (decide (x8>=(x6.length:Int)))).bind λr9=>(bif r9 then some (.ret (6:Int)) else (idx v2.Path z4.2.1).bind λx10=>(idx x6 x10).bind λx11=>(m77 f v0 z4.2.2 x11).bind λx12=>(bif (x12.2.2 != (0:Int)) then some (.ret x12.2.2) else m27_1_l1 f v0 v2 n (x12.2.1,(wr (z4.2.1 + (1:Int))),x12.1))) else some (.brk (z4.1,z4.2.1,z4.2.2)))
def m27_1 (f:Nat) (v0:Control) (v1:List Bool) (v2:Accident):Option (Int):=(m63 f v0 v1).bind λx1=>(bif (x1.2 != (0:Int)) then some x1.2 else (bif (decide ((v2.Path.length:Int) > (4096:Int))) then some (5:Int) else (m52 f v0 v1).bind λx3=>((m27_1_l1 f v0 v2 f (x3,(0:Int),x1.1)).bind λo5=>match o5 with | .brk o5s=>(bif ((o5s.1.length:Int) == (0:Int)) then some true else (m78 f o5s.1 v2.Conflicts).bind λx14=>some (!x14)).bind λr15=>(bif r15 then some (15:Int) else some (0:Int)) | .ret r=>some r)))
theorem s27_1 (f:Nat) (v0:Control) (v1:List Bool) (v2:Accident) (r:Int) (hm:m27_1 f v0 v1 v2=some r):Sp Tryz.prog 27 [Va v0,Va v1,Va v2] (Va r):=by
 unfold m27_1 at hm;refine ens func27 kr_ I ntmps27 I I λM W a hM hD s=>?_;refine R 3 s λa w s=>?_;refine se (rg (ru 2 s λa w s=>cB s hm (s63 f _ _) λx1 hm a w s=>ru 3 s λa w s=>aR 1000 s λb2 a w s=>sW s I λw s=>ru 1 s λa w s=>nl ?_));refine se (R 2 s λa w s=>?_);refine cmf s hm (λhb hm=>?_) λhb hm=>?_
 ·refine R 2 s λa w s=>?_;cases hm;exact rT hD s I I
 ·refine se (R 4 s λa w s=>?_);refine cmf s hm (λhb hm=>?_) λhb hm=>?_
  ·refine R 1 s λa w s=>?_;cases hm;exact rT hD s I I
  ·refine se (rg (ru 2 s λa w s=>cB s hm (s52 f _ _) λx3 hm a w s=>ru 1 s λa w s=>nl ?_));refine se (R 1 s λa w s=>?_);refine lB hm [0,1,2,3,5,6,7,8] s (λz4=>[(9,Va z4.1),(10,Va z4.2.1),(1000,Mg b2 z4.2.2)]) s.fi (λ_=>I) (λo5 hko5 n z4 a w hm s=>?_) λo5s hm a w s=>?_
   ·unfold m27_1_l1 at hm;refine se (R 5 s λa w s=>?_);refine cmt s hm (λhb hm=>?_) λhb hm=>?_
    ·refine se (wpIn_block ?_);refine se (rg (ru 1 s λa w s=>cB s hm (s76 f _) λx6 hm a w s=>ru 1 s λa w s=>nl ?_));refine se ?_;obtain ⟨x7,hx7,hm⟩:=bk hm;obtain ⟨r9,hr9,hm⟩:=bs hm;have gr9:=gF hr9;have er9:=gT hr9;obtain ⟨x8,hx8,gr9⟩:=gk gr9;have:=pko gr9 er9;refine R 16 s λa w s=>?_;refine cmf s hm (λhb hm=>?_) λhb hm=>?_
     ·refine R 1 s λa w s=>?_;obtain rfl:=si hm;replace hm:=hko5;dsimp only at hm;cases hm;exact rT hD s I I
     ·obtain ⟨x10,hx10,hm⟩:=bk hm;obtain ⟨x11,hx11,hm⟩:=bk hm;obtain ⟨x12,hx12,hm⟩:=bk hm;refine se (flow2 [] [0,1,2,3,4,5,6,7,8,9,10,11,12,15] [57,58,59,60,61,62,63,64,65,66,67,56,68,12] [56] [] [70,69] [(16,[]),(17,[69]),(18,[70])] s (.skip (.skip (.skip (.cons (.late (.late (.cons (.cons (.cons (.cons (.cons (.cons (.cons (.cons (.cons (.cons (.cons (.cons (.cons .nil I I (ld (t I))) I I (lm (K:=1000) (t I) I)) I I (mv (t I))) I I (fa (f:=Accident.Path) (t I))) I I (ld (t I))) I I (mv (t I))) I I (ix (t I) (t I) hx10.e)) I I (ld (t I))) I I (ix (t I) (t I) hx11.e)) I I (ld (t I))) I I (cc I (oc (t I) (oc (t I) (oc (t I) on))) (s77 f _ _ _ _ hx12.e))) I I (mve (t I))) I I (Pn.x30 (t I))) I I (Pn.x31 (t I))) I I (Pn.x32 (t I))) I I (alr (cs:=[nz,nz,nz,nz,nz]) (z:=.agg #[nz,nz,nz,nz,nz]) kr_ I I)) I) I) I) kr_ kr_ I I sb0 I (by decide) I I ?_);refine ⟨⟨λ_=>I,I,.inr ⟨sb0,(sb1 I sb0),sn0⟩⟩,by kernel_rfl,_,I,λΨ a w s=>opr (d:=12) 1001 s I I λb13 s=>swd (K:=1001) s (t I) I (t I) I λw s=>nl ?_⟩;refine nxt Ψ s ?_;refine ⟨⟨λ_=>I,I,.inr ⟨sb0,(sb1 I sb0),sn0⟩⟩,by kernel_rfl,_,I,λΨ a w s=>sq s (sa (t I)) I λa w s=>nl ?_⟩;refine nxt Ψ s ?_;refine ⟨⟨λ_=>I,I,.inr ⟨sb0,(sb1 I sb0),sn0⟩⟩,by kernel_rfl,_,I,λΨ a w s=>sq s (sa (t I)) I λa w s=>nl ?_⟩;refine nxt Ψ s ?_;refine ⟨⟨λ_=>I,I,.inl I⟩,λa w s=>?_⟩;replace s:St M W 86 [(0,Va v0),(1,Va v1),(2,Va v2),(3,Pt v0),(5,Pt v2),(6,Va ((0:Int))),(7,Qv (pb b2 0)),(8,Va x1.2),(9,Va z4.1),(10,Va z4.2.1),(11,Va x6),(12,Qv (pb b13 0)),(13,Va x12.2.1),(14,Va x12.2.2),(1000,Mg b2 z4.2.2),(1001,Mg b13 x12.1)] a w:=s.pick [0,1,2,3,5,6,7,8,9,10,11,12,13,14,1000,1001];refine se (R 2 s λa w s=>?_);refine cmf s hm (λhb hm=>?_) λhb hm=>?_
      ·refine R 2 s λa w s=>?_;obtain rfl:=si hm;replace hm:=hko5;dsimp only at hm;cases hm;exact rT hD s I I
      ·refine rg (ru 2 s λa w s=>sw (K:=1000) s (t I) I (t I) I λw s=>ru 1 s λa w s=>nl ?_);refine R0 3 s λa w s=>?_;exact ⟨_,hm,s.fi⟩
    ·refine wpIn_exit ?_;exact ⟨_,(si hm).symm,s.fi⟩
   ·dsimp only at hm;refine se ?_;obtain ⟨r15,hr15,hm⟩:=bs hm;have gr15:=gF hr15;have er15:=gT hr15;obtain ⟨x14,hx14,gr15⟩:=gk gr15;have:=pko gr15 er15;refine R 10 s λa w s=>?_;refine cmf s hm (λhb hm=>?_) λhb hm=>?_
    ·refine R 1 s λa w s=>?_;cases hm;exact rT hD s I I
    ·refine R 1 s λa w s=>?_;cases hm;exact rT hD s I I
def m7 (f:Nat) (v0:Control) (v1:List Bool) (v2:Accident):Option (Bool):=(m25 f v0).bind λx1=>(bif (((((!x1) || (decide ((v1.length:Int) > (200:Int)))) || ((decide ((v2.Path.length:Int) > (40:Int))) && (decide ((v2.Path.length:Int)<=(4096:Int))))) || (decide ((v2.Path.length:Int) > (8192:Int)))) || (decide ((v2.Conflicts.length:Int) > (200:Int)))) then (m12 f).bind λx2=>some x2 else (m26 f v0 v1 v2).bind λx3=>(m27_1 f v0 v1 v2).bind λx4=>(bif (x3 == x4) then (m12 f).bind λx5=>some x5 else some false).bind λr6=>some r6)
theorem s7 (f:Nat) (v0:Control) (v1:List Bool) (v2:Accident) (r:Bool) (hm:m7 f v0 v1 v2=some r):Sp Tryz.prog 7 [Va v0,Va v1,Va v2] (Va r):=by
 unfold m7 at hm;refine ens func7 kr_ I ntmps7 I I λM W a hM hD s=>?_;refine R 3 s λa w s=>?_;refine se (se (rg (ru 1 s λa w s=>cB s hm (s25 f _) λx1 hm a w s=>ru 30 s λa w s=>nl ?_)));refine cmf s hm (λhb hm=>?_) λhb hm=>?_
 ·refine se (rg (cB s hm (s12 f) λx2 hm a w s=>ru 1 s λa w s=>nl ?_));cases hm;exact rT hD s I I
 ·obtain ⟨x3,hx3,hm⟩:=bk hm;obtain ⟨x4,hx4,hm⟩:=bk hm;obtain ⟨r6,hr6,hm⟩:=bs hm;have gr6:=gT hr6;have er6:=gF hr6;obtain ⟨x5,hx5,gr6⟩:=gk gr6;have:=pka gr6 er6;refine se (flow s (m:=12) (.cons (.cong (.cons (.cons (.cons (.cons (.cons (.cons (.cons (.cons (.cons (.cons .nil I (ld (t I))) I (mv (t I))) I (ld (t I))) I (cc I (oc (t I) (oc (t I) (oc (t I) on))) (s26 f _ _ _ _ hx3.e))) I (ld (t I))) I (mv (t I))) I (ld (t I))) I (cc I (oc (t I) (oc (t I) (oc (t I) on))) (s27_1 f _ _ _ _ hx4.e))) I (eq (t I) (t I))) I (mv (t I))) I I I (λhb=>(cc I on (s12 f _ (hx5.h hb))))) I (pa (t I) I (λh=>si (gr6 h)) (λh=>(si (er6 h)).symm))) kr_ I I λa w s=>sq s (sa (t I)) I λa w s=>nl ?_);cases hm;exact rT hD s I I
end Go.Pn
namespace Go.Pn
theorem ob_ {α β:Type} {a:α} {f:α->Option β}:(some a).bind f=f a:=rfl
theorem gE_ {α:Type} {l:List α} {i:Nat} (h:i < l.length):l[i]?=some l[i]:=List.getElem?_eq_getElem h
theorem dt_ {p:Prop} [inst:Decidable p] (h:p):decide p=true:=decide_eq_true h
theorem df_ {p:Prop} [inst:Decidable p] (h:¬p):decide p=false:=decide_eq_false h
theorem zf_:((0:Int) != 0)=false:=rfl
theorem nt_:(!true)=false:=rfl
theorem nf_:(!false)=true:=rfl
theorem cf_ {α:Type} {a b:α}:(bif false then a else b)=b:=rfl
theorem ct_ {α:Type} {a b:α}:(bif true then a else b)=a:=rfl
end Go.Pn
namespace Go.Pn
theorem wr_id {x:Int} (h1:-9223372036854775808<=x) (h2:x<=9223372036854775807):wr x=x:=by
 simp only [wr,IntKind.wrap,IntKind.bits,IntKind.signed];simp;omega
theorem idx_nat {α:Type} {xs:List α} {n:Nat}:idx xs (n:Int)=xs[n]?:=by simp [idx]
theorem idx_of {α:Type} {xs:List α} {i:Int} (h0:0<=i) (h:i < xs.length):∃ x,idx xs i=some x/\x∈xs:=by
 have h1:i.toNat < xs.length:=by omega
 exact ⟨xs[i.toNat],by simp [idx,h0,h1],List.getElem_mem h1⟩
theorem nodup_le:∀ (n:Nat) {q:List Int},q.Nodup->(∀ u∈q,0<=u/\u < n)->q.length<=n
 | 0,q,_,h=>by
  cases q with
  | nil=>simp
  | cons u q=>have:=h u sm_;omega
 | n + 1,q,hn,h=>by
  have h1:(q.erase (n:Int)).Nodup:=hn.erase _;have:=nodup_le n (q:=q.erase (n:Int)) h1 fun u hu=>by
   have hu2:=List.Nodup.mem_erase_iff hn |>.1 hu;have:=h u hu2.2;have:=hu2.1;omega
  have h2:=List.length_erase (a:=(n:Int)) (l:=q);split at h2 <;> omega
end Go.Pn
namespace Go.Pn
open Go
theorem wr_nat {i:Nat} (h:i < 4611686018427387904):wr ((i:Int) + 1)=((i + 1:Nat):Int):=by
 rw [wr_id om_ om_];rfl
theorem lt_dec {i n:Nat}:decide ((i:Int) < (n:Int))=decide (i < n):=by
 simp
def FF:Nat:=100000
def bad (n:Nat) (k:Int):Bool:=decide (k < 0) || decide (k>=(n:Int))
theorem beq_cast {a b:Nat}:(((a:Nat):Int) == ((b:Nat):Int))=(a == b):=by
 rw [Bool.eq_iff_iff];simp;omega
end Go.Pn
namespace Go.Pn
open Go
theorem mfind_succ {κ β:Type} {eqb:κ->κ->Bool} {k:κ}:∀ {m:List (κ×β)} {i:Nat},mfind eqb k m (i + 1)=(mfind eqb k m i).map fun q=>(q.1 + 1,q.2)
 | [],_=>rfl
 | (k',y) :: m,i=>by
  unfold mfind;split
  ·rfl
  ·exact mfind_succ
theorem mat_cons {κ ν:Type} {eqb:κ->κ->Bool} {m:List (κ×ν)} {k k':κ} {y:ν}:mat eqb ((k',y) :: m) k=if eqb k k' then some y else mat eqb m k:=by
 unfold mat
 rw [mfind];split
 ·rfl
 ·rw [mfind_succ,Option.map_map];rfl
theorem mput_cons {κ ν:Type} {eqb:κ->κ->Bool} {m:List (κ×ν)} {k k':κ} {y z:ν}:mput eqb ((k',z) :: m) k y=if eqb k k' then (k',y) :: m else (k',z) :: mput eqb m k y:=by
 unfold mput;rw [mfind];by_cases h:eqb k k'=true
 ·rw [if_pos h,if_pos h];rfl
 ·rw [if_neg h,if_neg h,mfind_succ];cases mfind eqb k m 0 with
  | none=>rfl
  | some q=>rfl
theorem mat_put {ν:Type} {m:List (Int×ν)} {k j:Int} {y:ν}:mat eqqI (mput eqqI m k y) j=if j=k then some y else mat eqqI m j:=by
 induction m with
 | nil=>
  show mat eqqI [(k,y)] j=_;rw [mat_cons];by_cases h:j=k <;> simp [eqqI,h]
 | cons p m ih=>
  obtain ⟨k',z⟩:=p;rw [mput_cons,mat_cons];by_cases h:k=k'
  ·subst h;rw [if_pos (by simp [eqqI]),mat_cons];by_cases h2:j=k <;> simp [eqqI,h2]
  ·rw [if_neg (by simp [eqqI,h]),mat_cons,ih];by_cases h2:j=k'
   ·subst h2;have h3:¬ (j=k):=fun e=>h e.symm;simp [eqqI,h3]
   ·simp [eqqI,h2]
end Go.Pn
namespace Go.Pn
open Go
theorem findIdx_cons {α:Type} {p:α->Bool} {x:α} {l:List α}:(x :: l).findIdx? p=if p x then some 0 else (l.findIdx? p).map (· + 1):=by
 rw [List.findIdx?_cons]
end Go.Pn
namespace Go.Pn
open Go
theorem srch {α β:Type} {L:Nat->Int->Option (Lo Int β)} {xs:List α} {p:Int->α->Option Bool} {q:α->Bool} {r:Int->β}
  (h:∀ n z,L (n + 1) z=(bif decide (z < (xs.length:Int)) then (idx xs z).bind fun x=>(p z x).bind fun b=>bif b then some (.ret (r z)) else L n (wr (z + (1:Int))) else some (.brk z)))
  (hl:xs.length < 4611686018427387904) (hq:∀ (i:Nat) x,xs[i]?=some x->p i x=some (q x)) :
  ∀ (n i:Nat),i<=xs.length->xs.length - i < n->L n i=match (xs.drop i).findIdx? q with
   | some j=>some (.ret (r ((i + j:Nat):Int)))
   | none=>some (.brk (xs.length:Int))
 | 0,i,_,h=>by omega
 | n + 1,i,h1,h2=>by
  rw [h];by_cases hi:i < xs.length
  ·have hx:xs[i]?=some xs[i]:=gE_ hi;rw [lt_dec,dt_ hi,ct_,idx_nat,hx,ob_,hq i _ hx,ob_,List.drop_eq_getElem_cons hi,findIdx_cons];cases q xs[i] with
   | true=>rfl
   | false=>
    rw [cf_,wr_nat om_,srch h hl hq n (i + 1) om_ om_,if_neg sm_];cases (xs.drop (i + 1)).findIdx? q with
    | none=>rfl
    | some j=>
     show some (Lo.ret (r ((i + 1 + j:Nat):Int)))=some (Lo.ret (r ((i + (j + 1):Nat):Int)));rw [show i + 1 + j=i + (j + 1) by omega]
  ·rw [lt_dec,df_ hi,cf_,List.drop_eq_nil_of_le om_];have:i=xs.length:=by omega
   subst this;rfl
theorem eqls {α:Type} [BEq α] [LawfulBEq α] {L:Nat->Int->Option (Lo Int Bool)} {xs ys:List α}
  (h:∀ n z,L (n + 1) z=(bif decide (z < (xs.length:Int)) then (idx xs z).bind fun x=>(idx ys z).bind fun y=>bif x != y then some (.ret false) else L n (wr (z + (1:Int))) else some (.brk z)))
  (hl:xs.length < 4611686018427387904) (he:xs.length=ys.length) :
  ∀ (n i:Nat),i<=xs.length->xs.length - i < n->L n i=if xs.drop i == ys.drop i then some (.brk (xs.length:Int)) else some (.ret false)
 | 0,i,_,h=>by omega
 | n + 1,i,h1,h2=>by
  rw [h];by_cases hi:i < xs.length
  ·have hi2:i < ys.length:=by omega
   rw [lt_dec,dt_ hi,ct_,idx_nat,gE_ hi,ob_,idx_nat,gE_ hi2,ob_,List.drop_eq_getElem_cons hi,List.drop_eq_getElem_cons hi2];by_cases hx:xs[i]=ys[i]
   ·rw [show (xs[i] != ys[i])=false by simp [hx],cf_,wr_nat om_,eqls h hl he n (i + 1) om_ om_];rw [List.cons_beq_cons,show (xs[i] == ys[i])=true by simpa using hx,Bool.true_and]
   ·rw [show (xs[i] != ys[i])=true by simp [hx],ct_];simp [hx]
  ·rw [lt_dec,df_ hi,cf_,List.drop_eq_nil_of_le om_,List.drop_eq_nil_of_le om_];have:i=xs.length:=by omega
   subst this;simp
theorem eqls0 {α:Type} [BEq α] [LawfulBEq α] {L:Nat->Int->Option (Lo Int Bool)} {xs ys:List α} {f:Nat}
  (h:∀ n z,L (n + 1) z=(bif decide (z < (xs.length:Int)) then (idx xs z).bind fun x=>(idx ys z).bind fun y=>bif x != y then some (.ret false) else L n (wr (z + (1:Int))) else some (.brk z)))
  (hl:xs.length < 4611686018427387904) (hf:xs.length < f) :
  (bif ((xs.length:Int) != (ys.length:Int)) then some false else ((L f (0:Int)).bind fun o2=>match o2 with | .brk o2s=>some true | .ret r=>some r))=some (xs == ys):=by
 by_cases he:xs.length=ys.length
 ·rw [show ((xs.length:Int) != (ys.length:Int))=false by simp [he],cf_];have:=eqls h hl he f 0 om_ om_;have h0:((0:Nat):Int)=0:=rfl;rw [h0,List.drop_zero,List.drop_zero] at this;rw [this];cases xs == ys <;> rfl
 ·rw [show ((xs.length:Int) != (ys.length:Int))=true by simp;omega,ct_];have:xs≠ys:=fun e=>he (by rw [e]);rw [show (xs == ys)=false by simpa using this]
theorem m15_spec {f:Nat} {xs ys:List Int} (hl:xs.length < 4611686018427387904) (hf:xs.length < f):m15 f xs ys=some (xs == ys):=by
 unfold m15;exact eqls0 (L:=m15_l1 xs ys) (fun _ _=>rfl) hl hf
theorem m97_spec {f:Nat} {xs ys:List Bool} (hl:xs.length < 4611686018427387904) (hf:xs.length < f):m97 f xs ys=some (xs == ys):=by
 unfold m97;exact eqls0 (L:=m97_l1 xs ys) (fun _ _=>rfl) hl hf
theorem m140_spec {f:Nat} {xs ys:List Int} (hl:xs.length < 4611686018427387904) (hf:xs.length < f):m140 f xs ys=some (xs == ys):=by
 unfold m140;exact eqls0 (L:=m140_l1 xs ys) (fun _ _=>rfl) hl hf
theorem m141_spec {f:Nat} {xs ys:List Bool} (hl:xs.length < 4611686018427387904) (hf:xs.length < f):m141 f xs ys=some (xs == ys):=by
 unfold m141;exact eqls0 (L:=m141_l1 xs ys) (fun _ _=>rfl) hl hf
def sst (a b:State):Bool:=(a.Ends == b.Ends) && (a.Valves == b.Valves) && (a.Inputs == b.Inputs) && (a.Values == b.Values) && (a.Timers == b.Timers)
theorem sst_iff {a b:State}:sst a b=true↔a=b:=by
 cases a;cases b
 simp [sst,and_assoc]
theorem sst_comm {a b:State}:sst a b=sst b a:=by
 rw [Bool.eq_iff_iff,sst_iff,sst_iff];exact eq_comm
structure Smst (s:State) (n:Nat):Prop where
 e:s.Ends.length<=n
 v:s.Valves.length<=n
 i:s.Inputs.length<=n
 x:s.Values.length<=n
 t:s.Timers.length<=n
theorem m43_spec {f n:Nat} {a b:State} (h:Smst a n) (hn:n < f) (hn2:n < 4611686018427387904):m43 f a b=some (sst a b):=by
 obtain ⟨h1,h2,h3,h4,h5⟩:=h;unfold m43 sst;rw [m15_spec om_ om_,m97_spec om_ om_,m97_spec om_ om_,m97_spec om_ om_,m15_spec om_ om_];cases a.Ends == b.Ends <;> cases a.Valves == b.Valves <;> cases a.Inputs == b.Inputs <;> cases a.Values == b.Values <;> cases a.Timers == b.Timers <;> rfl
theorem m86_spec {f n:Nat} {a b:State} (h:Smst a n) (hn:n < f) (hn2:n < 4611686018427387904):m86 f a b=some (sst a b):=by
 obtain ⟨h1,h2,h3,h4,h5⟩:=h;unfold m86 sst;rw [m140_spec om_ om_,m141_spec om_ om_,m141_spec om_ om_,m141_spec om_ om_,m140_spec om_ om_];cases a.Ends == b.Ends <;> cases a.Valves == b.Valves <;> cases a.Inputs == b.Inputs <;> cases a.Values == b.Values <;> cases a.Timers == b.Timers <;> rfl
theorem sorted_ext:∀ {a b:List Int},a.Pairwise (· < ·)->b.Pairwise (· < ·)->(∀ k,k∈a↔k∈b)->a=b
 | [],[],_,_,_=>rfl
 | [],y :: b,_,_,h=>absurd ((h y).2 sm_) sm_
 | x :: a,[],_,_,h=>absurd ((h x).1 sm_) sm_
 | x :: a,y :: b,ha,hb,h=>by
  obtain ⟨ha1,ha2⟩:=List.pairwise_cons.1 ha;obtain ⟨hb1,hb2⟩:=List.pairwise_cons.1 hb;have hxy:x=y:=by
   rcases List.mem_cons.1 ((h x).1 sm_) with e | e
   ·exact e
   ·rcases List.mem_cons.1 ((h y).2 sm_) with e2 | e2
    ·exact e2.symm
    ·have:=hb1 x e;have:=ha1 y e2;omega
  subst hxy;rw [sorted_ext ha2 hb2 fun k=>⟨fun hk=>?_,fun hk=>?_⟩]
  ·rcases List.mem_cons.1 ((h k).1 (by simp [hk])) with e | e
   ·subst e;have:=ha1 k hk;omega
   ·exact e
  ·rcases List.mem_cons.1 ((h k).2 (by simp [hk])) with e | e
   ·subst e;have:=hb1 k hk;omega
   ·exact e
end Go.Pn
namespace Go.Pn
open Go
theorem cs_ {α:Type} {c:Bool} {a b:α}:(bif c then some a else some b)=some (bif c then a else b):=by cases c <;> rfl
theorem n0:((0:Nat):Int)=0:=rfl
def szd:Nat->Expr->Nat
 | 0,_=>0
 | d + 1,x=>1 + (x.Args.map (szd d)).sum
def Szb (x:Expr) (n:Nat):Prop:=∀ d,szd d x<=n
def dp:Nat->Expr->Prop
 | 0,_=>False
 | d + 1,x=>x.Args.length<=256/\∀ y∈x.Args,dp d y
theorem le_sum:∀ {l:List Nat} {n:Nat},n∈l->n<=l.sum
 | a :: l,n,h=>by
  rw [List.sum_cons];rcases List.mem_cons.1 h with rfl | h
  ·omega
  ·have:=le_sum h;omega
theorem Szb.arg {x y:Expr} {n:Nat} (h:Szb x n) (hy:y∈x.Args):Szb y n:=fun d=>by
 have h1:=h (d + 1);have h2:=le_sum (List.mem_map.2 ⟨y,hy,rfl⟩:szd d y∈x.Args.map (szd d));unfold szd at h1;omega
theorem sum_ones:∀ {l:List Expr},l.length<=(l.map (szd 1)).sum
 | []=>by simp
 | x :: l=>by
  have:=sum_ones (l:=l);have h1:1<=szd 1 x:=by unfold szd;omega
  simp only [List.map_cons,List.sum_cons,List.length_cons];omega
theorem szd_succ {d:Nat} {x:Expr}:szd (d + 1) x=1 + (x.Args.map (szd d)).sum:=rfl
theorem Szb.len {x:Expr} {n:Nat} (h:Szb x n):x.Args.length < n:=by
 have h1:=h 2;rw [szd_succ] at h1;have:=sum_ones (l:=x.Args);omega
theorem sum_take {l:List Nat} {i:Nat} (h:i < l.length):(l.take (i + 1)).sum=(l.take i).sum + l[i]:=by
 rw [List.take_add_one,gE_ h,List.sum_append];simp
theorem m68_spec:∀ (k f:Nat) (x:Expr),k<=256->k + 300<=f->∃ r:Nat,m68 f x k=some (r:Int)/\1<=r/\r<=k + 1/\(r<=k->Szb x r):=by
 intro k
 induction k using Nat.strongRecOn with
 | ind k ih=>
  intro f x hk hf;obtain ⟨f,rfl⟩:∃ f',f=f' + 1:=⟨f - 1,by omega⟩;have loop:∀ (n i z:Nat),i<=x.Args.length->i + 1<=z->z<=k + 1->k + 1 - z < n->(z<=k->∀ d,1 + ((x.Args.map (szd d)).take i).sum<=z) ->
    ∃ r e:Nat,m68_l1 (m68 f) x k n ((z:Int),(i:Int))=some ((r:Int),(e:Int))/\1<=r/\r<=k + 1/\(r<=k->Szb x r):=by
   intro n
   induction n with
   | zero=>intro i z _ _ _ h;omega
   | succ n ihn=>
    intro i z hi hz1 hz2 hn hs;unfold m68_l1;dsimp only;rw [lt_dec];have hle:decide ((z:Int)<=(k:Int))=decide (z<=k):=by simp
    rw [hle];by_cases h1:i < x.Args.length
    ·by_cases h2:z<=k
     ·rw [dt_ h1,dt_ h2,Bool.and_true,ct_,idx_nat,gE_ h1,ob_,wr_id om_ om_];obtain ⟨r,hr,hr1,hr2,hr3⟩:=ih (k - z) om_ f x.Args[i] om_ om_;rw [show (k:Int) - (z:Int)=((k - z:Nat):Int) by omega,hr,ob_,wr_id om_ om_,show wr ((i:Int) + 1)=((i + 1:Nat):Int) from wr_nat om_];rw [show (z:Int) + (r:Int)=((z + r:Nat):Int) by omega];refine ihn (i + 1) (z + r) om_ om_ om_ om_ fun hle d=>?_;rw [sum_take (by simpa using h1)];have h5:=hs h2 d;have h6:=hr3 om_ d;simp only [List.getElem_map];omega
     ·rw [df_ h2,Bool.and_false,cf_];exact ⟨z,i,rfl,by omega,hz2,fun h=>absurd h h2⟩
    ·rw [df_ h1,Bool.false_and,cf_];refine ⟨z,i,rfl,by omega,hz2,fun h d=>?_⟩;cases d with
     | zero=>unfold szd;omega
     | succ d=>
      have:=hs h d;rw [List.take_of_length_le (by simp;omega)] at this;unfold szd;omega
  unfold m68;obtain ⟨r,e,h1,h2⟩:=loop f 0 1 om_ om_ om_ om_ (fun _ d=>by simp);have e1:((1:Nat):Int)=1:=rfl;rw [n0,e1] at h1;rw [h1];exact ⟨r,rfl,h2⟩
theorem m69_spec:∀ (k f:Nat) (x:Expr),Szb x 256->k<=256->k + 300<=f->∃ b,m69 f x k=some b/\(b=true->dp k x)
 | 0,f,x,_,_,hf=>by
  obtain ⟨f,rfl⟩:∃ f',f=f' + 1:=⟨f - 1,by omega⟩;exact ⟨false,rfl,by simp⟩
 | k + 1,f,x,hs,hk,hf=>by
  obtain ⟨f,rfl⟩:∃ f',f=f' + 1:=⟨f - 1,by omega⟩;have hl:=hs.len;unfold m69;rw [show decide (((k + 1:Nat):Int) < 1)=false by simp;omega,cf_];by_cases h1:k=0
  ·subst h1;rw [show ((((0 + 1:Nat):Int)) == 1)=true by simp,ct_];refine ⟨_,rfl,fun h=>⟨by omega,fun y hy=>?_⟩⟩;have:x.Args.length=0:=by simpa using h
   rw [List.eq_nil_of_length_eq_zero this] at hy;simp at hy
  ·rw [show ((((k + 1:Nat):Int)) == 1)=false by simp;omega,cf_];have loop:∀ (n i:Nat),i<=x.Args.length->x.Args.length - i < n ->
     m69_l1 (m69 f) x ((k + 1:Nat):Int) n (i:Int)=some (.ret false)\/((∃ e,m69_l1 (m69 f) x ((k + 1:Nat):Int) n (i:Int)=some (.brk e))/\∀ y∈x.Args.drop i,dp k y):=by
    intro n
    induction n with
    | zero=>intro i _ h;omega
    | succ n ihn=>
     intro i hi hn;unfold m69_l1;by_cases h2:i < x.Args.length
     ·rw [lt_dec,dt_ h2,ct_,idx_nat,gE_ h2,ob_,wr_id om_ om_,show ((k + 1:Nat):Int) - 1=(k:Int) by omega];obtain ⟨b,hb,hb2⟩:=m69_spec k f x.Args[i] (hs.arg (List.getElem_mem h2)) om_ om_;rw [hb,ob_];cases b with
      | false=>exact .inl rfl
      | true=>
       rw [nt_,cf_,wr_nat om_];rcases ihn (i + 1) om_ om_ with h | ⟨h,h3⟩
       ·exact .inl h
       ·refine .inr ⟨h,?_⟩;rw [List.drop_eq_getElem_cons h2];exact fun y hy=>(List.mem_cons.1 hy).elim (fun e=>e ▸ hb2 rfl) (h3 y)
     ·rw [lt_dec,df_ h2,cf_];refine .inr ⟨⟨_,rfl⟩,?_⟩;rw [List.drop_eq_nil_of_le om_];simp
   have h0:((0:Nat):Int)=0:=rfl;rcases loop f 0 om_ om_ with h | ⟨⟨e,h⟩,h3⟩
   ·rw [h0] at h;rw [h];exact ⟨false,rfl,by simp⟩
   ·rw [h0] at h;rw [h];exact ⟨true,rfl,fun _=>⟨by omega,by simpa using h3⟩⟩
structure Lt_ (x:Expr):Prop where
 sz:Szb x 256
 dp:dp 16 x
theorem m22_spec {f:Nat} (hf:600<=f) (x:Expr):∃ b,m22 f x=some b/\(b=true->Lt_ x):=by
 unfold m22;obtain ⟨r,hr,hr1,hr2,hr3⟩:=m68_spec 256 f x om_ om_;rw [show (256:Int)=((256:Nat):Int) from rfl,hr,ob_];by_cases h:r<=256
 ·rw [show decide ((r:Int)<=((256:Nat):Int))=true by simpa using (by omega:(r:Int)<=256),ct_];have hs:Szb x 256:=fun d=>Nat.le_trans (hr3 h d) h;obtain ⟨b,hb,hb2⟩:=m69_spec 16 f x hs om_ om_;rw [show (16:Int)=((16:Nat):Int) from rfl,hb];exact ⟨b,rfl,fun h=>⟨hs,hb2 h⟩⟩
 ·rw [show decide ((r:Int)<=((256:Nat):Int))=false by simpa using (by omega:¬ (r:Int)<=256),cf_];exact ⟨false,rfl,by simp⟩
def nod (n:Int) (v0:Expr):Int:=bif ((decide ((v0).Op < (0:Int))) || (decide ((v0).Op>=(5:Int)))) then (1:Int) else (bif ((((decide ((v0).Op<=(1:Int))) && ((((v0).Args).length:Int) != (0:Int))) || (((v0).Op == (2:Int)) && ((((v0).Args).length:Int) != (1:Int)))) || ((decide ((v0).Op>=(3:Int))) && (decide ((((v0).Args).length:Int) < (2:Int))))) then (3:Int) else (bif ((decide ((v0).Index < (0:Int))) || (decide ((v0).Index>=(bif ((v0).Op == (1:Int)) then n else bif ((v0).Op == (0:Int)) then (2:Int) else (1:Int))))) then (2:Int) else (0:Int)))
theorem m169_spec (f:Nat) (x:Expr) (n:Int):m169 f x n=some (nod n x):=by
 unfold m169 nod;simp only [cs_,ob_]
theorem nod_zero {n:Int} {x:Expr} (h:nod n x=0):0<=x.Op/\x.Op < 5/\(x.Op<=1->x.Args=[])/\(x.Op=2->x.Args.length=1)/\(3<=x.Op->2<=x.Args.length)/\0<=x.Index/\(x.Op=1->x.Index < n):=by
 unfold nod at h;cases h1:((decide ((x).Op < (0:Int))) || (decide ((x).Op>=(5:Int)))) with
 | true=>rw [h1] at h;cases h
 | false=>
  rw [h1,cf_] at h;cases h2:((((decide ((x).Op<=(1:Int))) && ((((x).Args).length:Int) != (0:Int))) || (((x).Op == (2:Int)) && ((((x).Args).length:Int) != (1:Int)))) || ((decide ((x).Op>=(3:Int))) && (decide ((((x).Args).length:Int) < (2:Int))))) with
  | true=>rw [h2] at h;cases h
  | false=>
   rw [h2,cf_] at h;cases h3:((decide ((x).Index < (0:Int))) || (decide ((x).Index>=(bif ((x).Op == (1:Int)) then n else bif ((x).Op == (0:Int)) then (2:Int) else (1:Int))))) with
   | true=>rw [h3] at h;cases h
   | false=>
    simp only [Bool.or_eq_false_iff,Bool.and_eq_false_iff,decide_eq_false_iff_not,bne_eq_false_iff_eq,beq_eq_false_iff_ne,ne_eq] at h1 h2 h3;obtain ⟨h1a,h1b⟩:=h1;obtain ⟨⟨h2a,h2b⟩,h2c⟩:=h2;obtain ⟨h3a,h3b⟩:=h3;refine ⟨by omega,by omega,fun h=>?_,fun h=>?_,fun h=>?_,by omega,fun h=>?_⟩
    ·refine List.eq_nil_of_length_eq_zero ?_;rcases h2a with h4 | h4 <;> omega
    ·rcases h2b with h4 | h4 <;> omega
    ·rcases h2c with h4 | h4 <;> omega
    ·rw [h] at h3b;simp at h3b;omega
def fnz:List Int->Int
 | []=>0
 | a :: l=>if a=0 then fnz l else a
theorem fnz_zero:∀ {l:List Int},fnz l=0->∀ a∈l,a=0
 | a :: l,h,b,hb=>by
  unfold fnz at h;split at h
  ·rename_i h0;rcases List.mem_cons.1 hb with rfl | hb
   ·exact h0
   ·exact fnz_zero h b hb
  ·contradiction
def chE:Nat->Int->Expr->Int
 | 0,_,_=>0
 | d + 1,n,x=>if nod n x=0 then fnz (x.Args.map (chE d n)) else nod n x
def okE:Nat->Int->Expr->Prop
 | 0,_,_=>False
 | d + 1,n,x=>nod n x=0/\x.Args.length<=256/\∀ y∈x.Args,okE d n y
theorem okE.of:∀ {d:Nat} {n:Int} {x:Expr},dp d x->chE d n x=0->okE d n x
 | 0,_,_,h,_=>h
 | d + 1,n,x,h,hc=>by
  unfold chE at hc;split at hc
  ·rename_i h0;refine ⟨h0,h.1,fun y hy=>okE.of (h.2 y hy) (fnz_zero hc _ (List.mem_map.2 ⟨y,hy,rfl⟩))⟩
  ·contradiction
theorem fnzl {α:Type} {L:Nat->Int->Option (Lo Int Int)} {xs:List α} {p:Int->α->Option Int} {q:α->Int}
  (h:∀ n z,L (n + 1) z=(bif decide (z < (xs.length:Int)) then (idx xs z).bind fun x=>(p z x).bind fun b=>bif b != (0:Int) then some (.ret b) else L n (wr (z + (1:Int))) else some (.brk z)))
  (hl:xs.length < 4611686018427387904) (hq:∀ (i:Nat) x,xs[i]?=some x->p i x=some (q x)) :
  ∀ (n i:Nat),i<=xs.length->xs.length - i < n->L n i=if fnz ((xs.drop i).map q)=0 then some (.brk (xs.length:Int)) else some (.ret (fnz ((xs.drop i).map q)))
 | 0,i,_,h=>by omega
 | n + 1,i,h1,h2=>by
  rw [h];by_cases hi:i < xs.length
  ·have hx:xs[i]?=some xs[i]:=gE_ hi;rw [lt_dec,dt_ hi,ct_,idx_nat,hx,ob_,hq i _ hx,ob_,List.drop_eq_getElem_cons hi,List.map_cons];unfold fnz;by_cases h0:q xs[i]=0
   ·rw [h0,if_pos rfl,zf_,cf_,wr_nat om_,fnzl h hl hq n (i + 1) om_ om_]
   ·rw [if_neg h0,show (q xs[i] != 0)=true by simpa using h0,ct_,if_neg h0]
  ·rw [lt_dec,df_ hi,cf_,List.drop_eq_nil_of_le om_];have:i=xs.length:=by omega
   subst this;rfl
theorem fnzl0 {α:Type} {L:Nat->Int->Option (Lo Int Int)} {xs:List α} {p:Int->α->Option Int} {q:α->Int} {f:Nat}
  (h:∀ n z,L (n + 1) z=(bif decide (z < (xs.length:Int)) then (idx xs z).bind fun x=>(p z x).bind fun b=>bif b != (0:Int) then some (.ret b) else L n (wr (z + (1:Int))) else some (.brk z)))
  (hl:xs.length < 4611686018427387904) (hf:xs.length < f) (hq:∀ (i:Nat) x,xs[i]?=some x->p i x=some (q x)) :
  L f (0:Int)=if fnz (xs.map q)=0 then some (.brk (xs.length:Int)) else some (.ret (fnz (xs.map q))):=by
 have:=fnzl h hl hq f 0 om_ om_;rw [n0,List.drop_zero] at this;exact this
theorem m121_spec:∀ (d f:Nat) (n:Int) (x:Expr),dp d x->d + 300<=f->m121 f x n=some (chE d n x)
 | 0,_,_,_,h,_=>h.elim
 | d + 1,f,n,x,h,hf=>by
  obtain ⟨f,rfl⟩:∃ f',f=f' + 1:=⟨f - 1,by omega⟩;unfold m121 chE;rw [m169_spec,ob_];by_cases h0:nod n x=0
  ·rw [h0,if_pos rfl,zf_,cf_];have hl:=h.1;rw [fnzl0 (L:=m121_l1 (m121 f) x n) (xs:=x.Args) (p:=fun _ y=>m121 f y n) (q:=chE d n) (fun _ _=>rfl) om_ om_ (fun i y hy=>m121_spec d f n y (h.2 y (List.mem_of_getElem? hy)) om_)];split
   ·rename_i h1;rw [h1];rfl
   ·rfl
  ·rw [if_neg h0,show (nod n x != 0)=true by simpa using h0,ct_]
theorem m73_spec {f:Nat} {n:Int} {x:Expr} (hx:Lt_ x) (hm:m22 f x=some true) (hn:0<=n) (hn2:n<=256) (hf:600<=f):m73 f x n=some (chE 16 n x):=by
 unfold m73;rw [df_ om_,df_ om_,Bool.or_false,cf_,hm,ob_,nt_,cf_,m121_spec 16 f n x hx.dp om_,ob_]
theorem m119_spec {f:Nat} {n:Int} {x:Expr} (hn:0<=n) (hn2:n<=256) (hl:x.Args.length<=256):m119 f x n=some (nod n x):=by
 unfold m119 nod;by_cases h1:x.Op < 0\/5<=x.Op
 ·have:((decide ((x).Op < (0:Int))) || (decide ((x).Op>=(5:Int))))=true:=by simpa using h1
  rw [this];rfl
 ·have:((decide ((x).Op < (0:Int))) || (decide ((x).Op>=(5:Int))))=false:=by simp;omega
  rw [this,cf_,cf_];unfold m167 m210;simp only [ob_,cs_];rw [wr_id om_ om_];have hl1:∀ b:Bool,(bif decide (0 < x.Args.length) then (3:Int) else bif b then 2 else 0)=(bif (x.Args.length:Int) != 0 then 3 else bif b then 2 else 0):=fun b=>by
   have:decide (0 < x.Args.length)=((x.Args.length:Int) != 0):=by
    rcases Nat.eq_zero_or_pos x.Args.length with h | h
    ·rw [h];rfl
    ·rw [dt_ h];symm;rw [bne_iff_ne];omega
   rw [this]
  have key:(x.Index > n - 1)↔(x.Index>=n):=by omega
  have k1:(x.Index > 1)↔(x.Index>=2):=by omega
  have k0:(x.Index > 0)↔(x.Index>=1):=by omega
  have hop:x.Op=0\/x.Op=1\/x.Op=2\/x.Op=3\/x.Op=4:=by omega
  have e0:decide ((x.Args.length:Int) < 0)=false:=by simp
  have e1:decide ((x.Args.length:Int) > 256)=false:=by simp;omega
  have e3:(decide ((x.Args.length:Int) < 1) || decide ((x.Args.length:Int) > 1))=((x.Args.length:Int) != 1):=by
   rw [Bool.eq_iff_iff];simp;omega
  rcases hop with h | h | h | h | h <;> rw [h]
  ·simp only [show idx (List.range 5) 0=some 0 by rfl,ob_];simp [e0,k1];exact hl1 _
  ·simp only [show idx (List.range 5) 1=some 1 by rfl,ob_];simp [e0,key];exact hl1 _
  ·simp only [show idx (List.range 5) 2=some 2 by rfl,ob_];simp [e3,k0]
  ·simp only [show idx (List.range 5) 3=some 3 by rfl,ob_];simp [e1,k0]
  ·simp only [show idx (List.range 5) 4=some 4 by rfl,ob_];simp [e1,k0]
theorem m309c_spec:∀ (d f:Nat) (x:Expr) (k:Int) (cnt:Nat) (mx:Int),dp d x->1<=k->k + d<=17->cnt + szd d x<=256->d + 300<=f ->
  ∃ mx',m166 m117_r1 f x k (((cnt:Int),mx),0)=some (true,((((cnt + szd d x:Nat):Int),mx'),0))
 | 0,_,_,_,_,_,h,_,_,_,_=>h.elim
 | d + 1,f,x,k,cnt,mx,h,hk,hkd,hc,hf=>by
  obtain ⟨f,rfl⟩:∃ f',f=f' + 1:=⟨f - 1,by omega⟩;have hl:=h.1;have hsz:szd (d + 1) x=1 + (x.Args.map (szd d)).sum:=by rw [szd]
  have hr1:m117_r1 (k,x) (((cnt:Int),mx),0)=some (true,((((cnt + 1:Nat):Int),(if k > mx then k else mx)),0)):=by
   unfold m117_r1;dsimp only;rw [wr_nat om_,show (decide (((cnt + 1:Nat):Int) > 256) || decide (k > 16))=false by simp;omega,cf_]
  unfold m166;rw [hr1,ob_];dsimp only;rw [nt_,cf_];have loop:∀ (n i:Nat) (mx:Int),i<=x.Args.length->x.Args.length - i < n ->
    ∃ e mx',m166_l1 (m166 m117_r1 f) x k n ((i:Int),(((cnt + 1 + ((x.Args.map (szd d)).take i).sum:Nat):Int),mx),0)=some (.brk (e,((((cnt + szd (d + 1) x:Nat):Int),mx'),0))):=by
   intro n
   induction n with
   | zero=>intro i _ _ h;omega
   | succ n ihn=>
    intro i mx hi hn;unfold m166_l1;dsimp only;by_cases h2:i < x.Args.length
    ·rw [lt_dec,dt_ h2,ct_,idx_nat,gE_ h2,ob_,show decide (k<=16)=true by simp;omega,ct_,wr_id om_ om_];have hst:=sum_take (l:=x.Args.map (szd d)) (i:=i) (by simpa using h2);have hle:((x.Args.map (szd d)).take (i + 1)).sum<=(x.Args.map (szd d)).sum:=by
      conv=>rhs;rw [← List.take_append_drop (i + 1) (x.Args.map (szd d))]
      rw [List.sum_append];omega
     simp only [List.getElem_map] at hst;obtain ⟨mx',h3⟩:=m309c_spec d f x.Args[i] (k + 1) (cnt + 1 + ((x.Args.map (szd d)).take i).sum) mx (h.2 _ (List.getElem_mem h2)) om_ om_ om_ om_;rw [h3,ob_,ct_];dsimp only;rw [nt_,cf_,wr_nat om_,show cnt + 1 + ((x.Args.map (szd d)).take i).sum + szd d x.Args[i]=cnt + 1 + ((x.Args.map (szd d)).take (i + 1)).sum by omega];exact ihn (i + 1) mx' om_ om_
    ·rw [lt_dec,df_ h2,cf_];rw [List.take_of_length_le (by simp;omega)];exact ⟨_,mx,by rw [show cnt + 1 + (x.Args.map (szd d)).sum=cnt + szd (d + 1) x by omega]⟩
  obtain ⟨e,mx',h3⟩:=loop f 0 (if k > mx then k else mx) om_ om_
  rw [n0,List.take_zero,List.sum_nil,Nat.add_zero] at h3;rw [h3];exact ⟨mx',rfl⟩
theorem m117_spec {f:Nat} {x:Expr} (hx:Lt_ x) (hf:600<=f):∃ a b,m117 f x=some (a,b,true):=by
 unfold m117 m118 m165;have h1:=hx.sz 16;obtain ⟨mx,h⟩:=m309c_spec 16 f x 1 0 0 hx.dp om_ om_ om_ om_;rw [n0] at h;rw [ob_,h];exact ⟨_,_,rfl⟩
theorem m309e_spec {F:Nat} {m:Int} (hm:0<=m) (hm2:m<=256):∀ (d f:Nat) (x:Expr) (k z:Int),dp d x->1<=k->k + d<=17->d + 300<=f ->
  m166 (m70_r1 F m) f x k (z,0)=some (if chE d m x=0 then (true,(z,0)) else (false,(chE d m x,1)))
 | 0,_,_,_,_,h,_,_,_=>h.elim
 | d + 1,f,x,k,z,h,hk,hkd,hf=>by
  obtain ⟨f,rfl⟩:∃ f',f=f' + 1:=⟨f - 1,by omega⟩;have hl:=h.1;have hr1:m70_r1 F m (k,x) (z,0)=some (if nod m x=0 then (true,(z,0)) else (false,(nod m x,1))):=by
   unfold m70_r1;dsimp only;rw [m119_spec hm hm2 hl,ob_];by_cases h0:nod m x=0
   ·rw [h0,if_pos rfl];rfl
   ·rw [if_neg h0,show (nod m x != 0)=true by simpa using h0,ct_]
  unfold m166 chE;rw [hr1,ob_];by_cases h0:nod m x=0
  ·rw [if_pos h0,if_pos h0];dsimp only;rw [nt_,cf_];have loop:∀ (n i:Nat),i<=x.Args.length->x.Args.length - i < n ->
     m166_l1 (m166 (m70_r1 F m) f) x k n ((i:Int),(z,0))=if fnz ((x.Args.drop i).map (chE d m))=0 then some (.brk ((x.Args.length:Int),(z,0))) else some (.ret (false,(fnz ((x.Args.drop i).map (chE d m)),1))):=by
    intro n
    induction n with
    | zero=>intro i _ h;omega
    | succ n ihn=>
     intro i hi hn;unfold m166_l1;dsimp only;by_cases h2:i < x.Args.length
     ·rw [lt_dec,dt_ h2,ct_,idx_nat,gE_ h2,ob_,show decide (k<=16)=true by simp;omega,ct_,wr_id om_ om_,m309e_spec hm hm2 d f x.Args[i] (k + 1) z (h.2 _ (List.getElem_mem h2)) om_ om_ om_,ob_,ct_,List.drop_eq_getElem_cons h2,List.map_cons];unfold fnz;by_cases h3:chE d m x.Args[i]=0
      ·rw [if_pos h3,if_pos h3];dsimp only;rw [nt_,cf_,wr_nat om_];exact ihn (i + 1) om_ om_
      ·rw [if_neg h3,if_neg h3,if_neg h3];rfl
     ·rw [lt_dec,df_ h2,cf_,List.drop_eq_nil_of_le om_];have:i=x.Args.length:=by omega
      subst this;rfl
   have h3:=loop f 0 om_ om_;rw [n0,List.drop_zero] at h3;rw [h3];split <;> rfl
  ·rw [if_neg h0,if_neg h0,if_neg h0];rfl
theorem m70_spec {f:Nat} {n:Int} {x:Expr} (hx:Lt_ x) (hn:0<=n) (hn2:n<=256) (hf:600<=f):m70 f x n=some (chE 16 n x):=by
 unfold m70;obtain ⟨a,b,h⟩:=m117_spec hx hf;rw [df_ om_,df_ om_,Bool.or_false,cf_,h,ob_];unfold m118 m165;dsimp only;rw [nt_,cf_,ob_,m309e_spec hn hn2 16 f x 1 0 hx.dp om_ om_ om_];by_cases h0:chE 16 n x=0
 ·rw [if_pos h0,h0];rfl
 ·rw [if_neg h0];rfl
def ev:Nat->List Bool->Expr->Bool
 | 0,_,_=>false
 | d + 1,ls,x=>if x.Op=0 then x.Index == 1 else if x.Op=1 then (idx ls x.Index).getD false else if x.Op=2 then !(x.Args.any (ev d ls)) else if x.Op=3 then x.Args.all (ev d ls) else x.Args.any (ev d ls)
theorem m35_spec:∀ (d f:Nat) (ls:List Bool) (x:Expr),okE d ls.length x->d + 300<=f->m35 f x ls=some (ev d ls x)
 | 0,_,_,_,h,_=>h.elim
 | d + 1,f,ls,x,h,hf=>by
  obtain ⟨f,rfl⟩:∃ f',f=f' + 1:=⟨f - 1,by omega⟩;obtain ⟨hn,hl,ha⟩:=h;obtain ⟨o1,o2,o3,o4,o5,i1,i2⟩:=nod_zero hn;have hev:∀ y∈x.Args,m35 f y ls=some (ev d ls y):=fun y hy=>m35_spec d f ls y (ha y hy) om_;unfold m35 ev;by_cases h0:x.Op=0
  ·rw [if_pos h0,show (x.Op == 0)=true by simpa using h0,ct_]
  ·rw [if_neg h0,show (x.Op == 0)=false by simpa using h0,cf_];by_cases h1:x.Op=1
   ·rw [if_pos h1,show (x.Op == 1)=true by simpa using h1,ct_];obtain ⟨b,hb,_⟩:=idx_of i1 (i2 h1);rw [hb];rfl
   ·rw [if_neg h1,show (x.Op == 1)=false by simpa using h1,cf_];by_cases h2:x.Op=2
    ·rw [if_pos h2,show (x.Op == 2)=true by simpa using h2,ct_];obtain ⟨y,hy⟩:=List.length_eq_one_iff.1 (o4 h2);rw [hy,show idx [y] 0=some y by rfl,ob_,hev y (by rw [hy];simp)];simp
    ·rw [if_neg h2,show (x.Op == 2)=false by simpa using h2,cf_];have loop:∀ (n i:Nat) (a b:Bool),i<=x.Args.length->x.Args.length - i < n ->
       m35_l1 (m35 f) x ls n (a,b,(i:Int))=some (a && (x.Args.drop i).all (ev d ls),b || (x.Args.drop i).any (ev d ls),(x.Args.length:Int)):=by
      intro n
      induction n with
      | zero=>intro i _ _ _ h;omega
      | succ n ihn=>
       intro i a b hi hnn;unfold m35_l1;dsimp only;by_cases h3:i < x.Args.length
       ·rw [lt_dec,dt_ h3,ct_,idx_nat,gE_ h3,ob_,hev _ (List.getElem_mem h3),ob_,wr_nat om_,ihn (i + 1) _ _ om_ om_,List.drop_eq_getElem_cons h3,List.all_cons,List.any_cons,Bool.and_assoc,Bool.or_assoc]
       ·rw [lt_dec,df_ h3,cf_,List.drop_eq_nil_of_le om_];have:i=x.Args.length:=by omega
        subst this;simp
     have h3:=loop f 0 true false om_ om_;rw [n0,List.drop_zero] at h3;rw [h3,ob_];by_cases h4:x.Op=3
     ·simp [h4]
     ·have h5:x.Op=4:=by omega
      simp [h5]
theorem m259_spec:∀ (d f:Nat) (ls:List Bool) (x:Expr),okE d ls.length x->d + 300<=f->m259 f x ls=some (ev d ls x)
 | 0,_,_,_,h,_=>h.elim
 | d + 1,f,ls,x,h,hf=>by
  obtain ⟨f,rfl⟩:∃ f',f=f' + 1:=⟨f - 1,by omega⟩;obtain ⟨hn,hl,ha⟩:=h;obtain ⟨o1,o2,o3,o4,o5,i1,i2⟩:=nod_zero hn;have hev:∀ y∈x.Args,m259 f y ls=some (ev d ls y):=fun y hy=>m259_spec d f ls y (ha y hy) om_;unfold m259 ev;by_cases h0:x.Op=0
  ·rw [if_pos h0,show (x.Op == 0)=true by simpa using h0,ct_]
  ·rw [if_neg h0,show (x.Op == 0)=false by simpa using h0,cf_];by_cases h1:x.Op=1
   ·rw [if_pos h1,show (x.Op == 1)=true by simpa using h1,ct_];obtain ⟨b,hb,_⟩:=idx_of i1 (i2 h1);rw [hb];rfl
   ·rw [if_neg h1,show (x.Op == 1)=false by simpa using h1,cf_];by_cases h2:x.Op=2
    ·rw [if_pos h2,show (x.Op == 2)=true by simpa using h2,ct_];obtain ⟨y,hy⟩:=List.length_eq_one_iff.1 (o4 h2);rw [hy,show idx [y] 0=some y by rfl,ob_,hev y (by rw [hy];simp)];simp
    ·rw [if_neg h2,show (x.Op == 2)=false by simpa using h2,cf_];by_cases h3:x.Op=3
     ·rw [if_pos h3,show (x.Op == 3)=true by simpa using h3,ct_];unfold m264 m268;have h5:=srch (L:=m268_l1 (m259 f) f x.Args ls) (xs:=x.Args) (p:=fun _ y=>m265 f (m259 f) y ls) (q:=fun y=>!ev d ls y) (r:=fun z=>z) (fun _ _=>rfl) om_ (fun i y hy=>by
       unfold m265;rw [hev y (List.mem_of_getElem? hy)];rfl) f 0 om_ om_
      rw [n0,List.drop_zero] at h5;rw [h5];cases h6:x.Args.findIdx? (fun y=>!ev d ls y) with
      | none=>
       rw [List.findIdx?_eq_none_iff] at h6;have:x.Args.all (ev d ls)=true:=List.all_eq_true.2 fun y hy=>by simpa using h6 y hy
       rw [this];rfl
      | some j=>
       obtain ⟨hj,hj2,_⟩:=List.findIdx?_eq_some_iff_getElem.1 h6;have:x.Args.all (ev d ls)=false:=List.all_eq_false.2 ⟨_,List.getElem_mem hj,by simpa using hj2⟩;rw [this];simp
     ·rw [if_neg h3,show (x.Op == 3)=false by simpa using h3,cf_];unfold m264_1 m268_1;have h5:=srch (L:=m268_1_l1 (m259 f) f x.Args ls) (xs:=x.Args) (p:=fun _ y=>m266 f (m259 f) y ls) (q:=fun y=>ev d ls y) (r:=fun z=>z) (fun _ _=>rfl) om_ (fun i y hy=>by
       unfold m266;rw [hev y (List.mem_of_getElem? hy)];rfl) f 0 om_ om_
      rw [n0,List.drop_zero] at h5;rw [h5];cases h6:x.Args.findIdx? (fun y=>ev d ls y) with
      | none=>
       rw [List.findIdx?_eq_none_iff] at h6;have:x.Args.any (ev d ls)=false:=List.any_eq_false.2 fun y hy=>by simpa using h6 y hy
       rw [this];rfl
      | some j=>
       obtain ⟨hj,hj2,_⟩:=List.findIdx?_eq_some_iff_getElem.1 h6;have:x.Args.any (ev d ls)=true:=List.any_eq_true.2 ⟨_,List.getElem_mem hj,by simpa using hj2⟩;rw [this];simp
theorem m234_spec {d f:Nat} {ls:List Bool} {x:Expr} {g:Expr->List Bool->Option Bool} (v:Bool) (hl:x.Args.length<=256) (hf:300<=f) (hev:∀ y∈x.Args,g y ls=some (ev d ls y)) :
  m234 f g v x ls=some (x.Args.all fun y=>ev d ls y == v):=by
 unfold m234 m168;have loop:∀ (n i:Nat),i<=x.Args.length->x.Args.length - i < n ->
   m168_l1 g (m234_r1 g v) x ls n ((i:Int),((),0))=if (x.Args.drop i).all (fun y=>ev d ls y == v) then some (.brk ((x.Args.length:Int),((),0))) else some (.ret ((),1)):=by
  intro n
  induction n with
  | zero=>intro i _ h;omega
  | succ n ihn=>
   intro i hi hn;unfold m168_l1 m234_r1;dsimp only;by_cases h2:i < x.Args.length
   ·rw [lt_dec,dt_ h2,ct_,idx_nat,gE_ h2,ob_,hev _ (List.getElem_mem h2),ob_,List.drop_eq_getElem_cons h2,List.all_cons];cases h3:(ev d ls x.Args[i] == v) with
    | true=>
     rw [show (ev d ls x.Args[i] != v)=false by (show (!(ev d ls x.Args[i] == v))=false);rw [h3];rfl,cf_,ob_];dsimp only;rw [nt_,cf_,wr_nat om_,Bool.true_and];exact ihn (i + 1) om_ om_
    | false=>
     rw [show (ev d ls x.Args[i] != v)=true by (show (!(ev d ls x.Args[i] == v))=true);rw [h3];rfl,ct_,ob_];rfl
   ·rw [lt_dec,df_ h2,cf_,List.drop_eq_nil_of_le om_];have:i=x.Args.length:=by omega
    subst this;rfl
 have h3:=loop f 0 om_ om_;rw [n0,List.drop_zero] at h3;rw [h3];cases x.Args.all (fun y=>ev d ls y == v) <;> rfl
theorem m120_spec:∀ (d f:Nat) (ls:List Bool) (x:Expr),okE d ls.length x->d + 300<=f->m120 f x ls=some (ev d ls x)
 | 0,_,_,_,h,_=>h.elim
 | d + 1,f,ls,x,h,hf=>by
  obtain ⟨f,rfl⟩:∃ f',f=f' + 1:=⟨f - 1,by omega⟩;obtain ⟨hn,hl,ha⟩:=h;obtain ⟨o1,o2,o3,o4,o5,i1,i2⟩:=nod_zero hn;have hev:∀ y∈x.Args,m120 f y ls=some (ev d ls y):=fun y hy=>m120_spec d f ls y (ha y hy) om_;unfold m120 ev;by_cases h0:x.Op=0
  ·rw [if_pos h0,show (x.Op == 0)=true by simpa using h0,ct_]
  ·rw [if_neg h0,show (x.Op == 0)=false by simpa using h0,cf_];by_cases h1:x.Op=1
   ·rw [if_pos h1,show (x.Op == 1)=true by simpa using h1,ct_];obtain ⟨b,hb,_⟩:=idx_of i1 (i2 h1);rw [hb];rfl
   ·rw [if_neg h1,show (x.Op == 1)=false by simpa using h1,cf_];unfold m167 m210;simp only [ob_];have hop:x.Op=2\/x.Op=3\/x.Op=4:=by omega
    rcases hop with h | h | h <;> rw [h]
    ·rw [show idx (List.range 5) 2=some 2 by rfl,ob_,show ((2:Nat) == 2)=true by rfl,ct_,m234_spec false hl om_ hev,ob_,if_pos rfl];congr 1;rw [Bool.eq_iff_iff];simp
    ·rw [show idx (List.range 5) 3=some 3 by rfl,ob_,show ((3:Nat) == 2)=false by rfl,cf_,show ((3:Nat) == 3)=true by rfl,ct_,m234_spec true hl om_ hev,ob_,if_neg om_,if_pos rfl];congr 1;rw [Bool.eq_iff_iff];simp
    ·rw [show idx (List.range 5) 4=some 4 by rfl,ob_,show ((4:Nat) == 2)=false by rfl,cf_,show ((4:Nat) == 3)=false by rfl,cf_,show ((4:Nat) == 4)=true by rfl,ct_];unfold m211 m210;rw [ob_,m234_spec false hl om_ hev,ob_,ob_,if_neg om_,if_neg om_];congr 1;rw [Bool.eq_iff_iff];simp
def occ:Nat->Int->Expr->Bool
 | 0,_,_=>false
 | d + 1,k,x=>if x.Op=1 then x.Index == k else x.Args.any (occ d k)
theorem m182_spec:∀ (d f:Nat) (k:Int) (x:Expr),dp d x->d + 300<=f->m182 f x k=some (occ d k x)
 | 0,_,_,_,h,_=>h.elim
 | d + 1,f,k,x,h,hf=>by
  obtain ⟨f,rfl⟩:∃ f',f=f' + 1:=⟨f - 1,by omega⟩;have hl:=h.1;unfold m182 occ;by_cases h1:x.Op=1
  ·rw [if_pos h1,show (x.Op == 1)=true by simpa using h1,ct_]
  ·rw [if_neg h1,show (x.Op == 1)=false by simpa using h1,cf_];have h5:=srch (L:=m182_l1 (m182 f) x k) (xs:=x.Args) (p:=fun _ y=>m182 f y k) (q:=fun y=>occ d k y) (r:=fun _=>true) (fun _ _=>rfl) om_ (fun i y hy=>m182_spec d f k y (h.2 y (List.mem_of_getElem? hy)) om_) f 0 om_ om_;rw [n0,List.drop_zero] at h5;rw [h5];cases h6:x.Args.findIdx? (fun y=>occ d k y) with
   | none=>
    rw [List.findIdx?_eq_none_iff] at h6;have:x.Args.any (occ d k)=false:=List.any_eq_false.2 fun y hy=>by simpa using h6 y hy
    rw [this];rfl
   | some j=>
    obtain ⟨hj,hj2,_⟩:=List.findIdx?_eq_some_iff_getElem.1 h6;have:x.Args.any (occ d k)=true:=List.any_eq_true.2 ⟨_,List.getElem_mem hj,by simpa using hj2⟩;rw [this];rfl
def anyv:Nat->(Int->Bool)->Expr->Bool
 | 0,_,_=>false
 | d + 1,p,x=>if x.Op=1 then p x.Index else x.Args.any (anyv d p)
theorem anyv_iff:∀ {d:Nat} {p:Int->Bool} {x:Expr},anyv d p x=true↔∃ k,p k=true/\occ d k x=true
 | 0,p,x=>by simp [anyv,occ]
 | d + 1,p,x=>by
  unfold anyv occ;by_cases h1:x.Op=1
  ·simp only [if_pos h1,beq_iff_eq];exact ⟨fun h=>⟨_,h,rfl⟩,fun ⟨k,h,e⟩=>e ▸ h⟩
  ·simp only [if_neg h1,List.any_eq_true];constructor
   ·rintro ⟨y,hy,h⟩;obtain ⟨k,hk,ho⟩:=anyv_iff.1 h;exact ⟨k,hk,y,hy,ho⟩
   ·rintro ⟨k,hk,y,hy,ho⟩;exact ⟨y,hy,anyv_iff.2 ⟨k,hk,ho⟩⟩
theorem occ_lt:∀ {d:Nat} {n k:Int} {x:Expr},okE d n x->occ d k x=true->0<=k/\k < n
 | 0,_,_,_,h,_=>h.elim
 | d + 1,n,k,x,h,ho=>by
  obtain ⟨hn,hl,ha⟩:=h;obtain ⟨o1,o2,o3,o4,o5,i1,i2⟩:=nod_zero hn;unfold occ at ho;split at ho
  ·rename_i h1;have:x.Index=k:=by simpa using ho
   have:=i2 h1;omega
  ·obtain ⟨y,hy,h⟩:=List.any_eq_true.1 ho;exact occ_lt (ha y hy) h
end Go.Pn
namespace Go.Pn
open Go
theorem srchI {β:Type} {L:Nat->Int->Option (Lo Int β)} {N:Nat} {Q:Nat->Bool} {r:Int->β}
  (h:∀ (n i:Nat),i < N->L (n + 1) (i:Int)=bif Q i then some (.ret (r (i:Int))) else L n ((i + 1:Nat):Int)) (h':∀ (n:Nat),L (n + 1) (N:Int)=some (.brk (N:Int))) :
  ∀ (n i:Nat),i<=N->N - i < n->(∃ k,i<=k/\k < N/\Q k=true/\L n (i:Int)=some (.ret (r (k:Int))))\/(L n (i:Int)=some (.brk (N:Int))/\∀ k,i<=k->k < N->Q k=false)
 | 0,i,_,h=>by omega
 | n + 1,i,h1,h2=>by
  by_cases hi:i < N
  ·rw [h n i hi];cases hq:Q i with
   | true=>exact .inl ⟨i,Nat.le_refl _,hi,hq,rfl⟩
   | false=>
    rw [cf_];rcases srchI h h' n (i + 1) om_ om_ with ⟨k,h3,h4,h5,h6⟩ | ⟨h3,h4⟩
    ·exact .inl ⟨k,by omega,h4,h5,h6⟩
    ·refine .inr ⟨h3,fun k hk hk2=>?_⟩;rcases Nat.eq_or_lt_of_le hk with rfl | h5
     ·exact hq
     ·exact h4 k h5 hk2
  ·obtain rfl:i=N:=by omega
   exact .inr ⟨h' n,fun k hk hk2=>by omega⟩
def small (b:UInt8):Bool:=decide (97<=b.toNat) && decide (b.toNat<=122)
def great (b:UInt8):Bool:=decide (65<=b.toNat) && decide (b.toNat<=90)
def digit (b:UInt8):Bool:=decide (48<=b.toNat) && decide (b.toNat<=57)
def partb (b:UInt8):Bool:=small b || great b || digit b || (b.toNat == 95)
def wd (s:ByteArray):Bool:=match s.data.toList with
 | []=>false
 | b :: l=>small b && (b :: l).all partb
theorem size_len (s:ByteArray):s.size=s.data.toList.length:=rfl
theorem sidx_nat {s:ByteArray} {i:Nat} (h:i < s.data.toList.length):sidx s (i:Int)=some s.data.toList[i]:=by
 unfold sidx;rw [if_pos om_,Int.toNat_natCast];have h1:i < s.size:=by rw [size_len];exact h
 rw [getElem?_pos s i h1];congr 1
theorem dec_lt {s:ByteArray} {i:Nat} (h:i < s.data.toList.length):(s.data.toList[i].toNat < 128->Utf8.decode s i=(s.data.toList[i].toNat,1))/\(128<=s.data.toList[i].toNat->128<=(Utf8.decode s i).1):=by
 have hg:s.get! (i + 0)=s.data.toList[i]:=by
  have h1:i < s.data.size:=by simpa using h
  show s.data[i + 0]! = _;rw [Nat.add_zero,getElem!_pos s.data i h1];simp
 constructor
 ·intro hb;unfold Utf8.decode;simp only [hg];rw [if_pos om_]
 ·intro hb;unfold Utf8.decode;simp only [hg];rw [if_neg om_];split
  ·split
   ·rename_i hx;exact hx
   ·decide
  ·split
   ·split
    ·rename_i hx;simp only [Bool.and_eq_true,decide_eq_true_eq] at hx;exact Nat.le_trans (by decide) hx.1
    ·decide
   ·split
    ·split
     ·rename_i hx;simp only [Bool.and_eq_true,decide_eq_true_eq] at hx;exact Nat.le_trans (by decide) hx.1
     ·decide
    ·decide
theorem u8n {n:Nat} (hn:n < 256):(UInt8.ofNat n).toNat=n:=by
 rw [UInt8.toNat_ofNat'];omega
theorem m222_spec (f:Nat) (b:UInt8):m222 f b=some (partb b):=by
 unfold m222 partb small great digit;simp only [u8n (show 97 < 256 by omega),u8n (show 122 < 256 by omega),u8n (show 65 < 256 by omega),u8n (show 90 < 256 by omega),u8n (show 48 < 256 by omega),u8n (show 57 < 256 by omega),u8n (show 95 < 256 by omega)];congr 1;rw [Bool.eq_iff_iff];simp;omega
theorem partb_le {b:UInt8} (h:partb b=true):b.toNat<=122:=by
 unfold partb small great digit at h;simp at h;omega
theorem m221_spec {f:Nat} {s:ByteArray} {i:Nat} (h:i < s.data.toList.length):m221 f (srn s (i:Int))=some (!partb s.data.toList[i]):=by
 obtain ⟨h1,h2⟩:=dec_lt h;unfold m221 srn;rw [Int.toNat_natCast];simp only [Ik.toI];by_cases hb:s.data.toList[i].toNat < 128
 ·rw [h1 hb];dsimp only;by_cases hc:((s.data.toList[i].toNat:Nat):Int) > 122
  ·rw [dt_ hc,ct_];have:partb s.data.toList[i]=false:=by
    cases hp:partb s.data.toList[i] with
    | false=>rfl
    | true=>have:=partb_le hp;omega
   rw [this];rfl
  ·rw [df_ hc,cf_];have:(Ik.ofI ((s.data.toList[i].toNat:Nat):Int):UInt8)=s.data.toList[i]:=by
    show wr8 _=_;unfold wr8;refine UInt8.toNat_inj.1 ?_;rw [UInt8.toNat_ofNat'];omega
   rw [this,m222_spec];rfl
 ·have h3:=h2 om_;rw [dt_ (by simp;omega),ct_];have:partb s.data.toList[i]=false:=by
   cases hp:partb s.data.toList[i] with
   | false=>rfl
   | true=>have:=partb_le hp;omega
  rw [this];rfl
theorem any_of_nat {α:Type} {l:List α} {p:α->Bool}:l.any p=true↔∃ i,∃ h:i < l.length,p l[i]=true:=by
 rw [List.any_eq_true];constructor
 ·rintro ⟨x,hx,h⟩;obtain ⟨i,hi,rfl⟩:=List.getElem_of_mem hx;exact ⟨i,hi,h⟩
 ·rintro ⟨i,hi,h⟩;exact ⟨_,List.getElem_mem hi,h⟩
theorem m220_spec {f:Nat} {s:ByteArray} (hs:s.size < f) (hs2:s.size < 1000000):m220 f s=some (s.data.toList.any fun b=>!partb b):=by
 rw [size_len] at hs hs2;unfold m220 m245 m253;have hl:=srchI (L:=m253_l1 f s true) (N:=s.data.toList.length) (Q:=fun i=>if h:i < s.data.toList.length then !partb s.data.toList[i] else false) (r:=fun z=>z) (fun n i hi=>by
  rw [m253_l1,size_len,lt_dec,dt_ hi,ct_,m221_spec hi,ob_,dif_pos hi];cases hp:partb s.data.toList[i] with
  | true=>
   rw [show ((!true) == true)=false by rfl,cf_];have:snx s (i:Int)=((i + 1:Nat):Int):=by
    unfold snx;rw [if_pos (by rw [size_len];omega),Int.toNat_natCast,(dec_lt hi).1 (by have:=partb_le hp;omega)];rfl
   rw [this];rfl
  | false=>rfl) (fun n=>by
  rw [m253_l1,size_len,lt_dec,df_ om_,cf_];unfold snx;rw [if_neg (by rw [size_len];omega)]) f 0 om_ om_
 rw [n0] at hl;rcases hl with ⟨k,_,hk,hq,h⟩ | ⟨h,hn⟩
 ·rw [h];rw [dif_pos hk] at hq;rw [any_of_nat.2 ⟨k,hk,hq⟩];simp only [ob_];rw [dt_ om_]
 ·rw [h];have:(s.data.toList.any fun b=>!partb b)=false:=by
   rw [Bool.eq_false_iff];intro ha;obtain ⟨i,hi,h2⟩:=any_of_nat.1 ha;have:=hn i om_ hi;rw [dif_pos hi,h2] at this;cases this
  rw [this];rfl
theorem m143_spec {f:Nat} {s:ByteArray} (hs:s.size < f) (hs2:s.size < 1000000):m143 f s=some (wd s):=by
 rw [size_len] at hs hs2;unfold m143;have hl:=srchI (L:=m143_l1 s) (N:=s.data.toList.length) (Q:=fun i=>if h:i < s.data.toList.length then (i == 0 && !small s.data.toList[i]) || !partb s.data.toList[i] else false) (r:=fun _=>false) (fun n i hi=>by
  rw [m143_l1,size_len,lt_dec,dt_ hi,ct_];simp only [sidx_nat hi,ob_,cs_,u8n (show 97 < 256 by omega),u8n (show 122 < 256 by omega),u8n (show 65 < 256 by omega),u8n (show 90 < 256 by omega),u8n (show 48 < 256 by omega),u8n (show 57 < 256 by omega),u8n (show 95 < 256 by omega)];rw [dif_pos hi,wr_nat om_];congr 1;rw [Bool.eq_iff_iff];unfold partb small great digit;simp;generalize s.data.toList[i].toNat=b;omega) (fun n=>by
  rw [m143_l1,size_len,lt_dec,df_ om_,cf_]) f 0 om_ om_
 rw [n0] at hl;have hemp:(s.toList == (⟨#[]⟩:ByteArray).toList)=(s.data.toList == []):=by
  rw [ByteArray.toList_eq,ByteArray.toList_eq]
 rcases hl with ⟨k,_,hk,hq,h⟩ | ⟨h,hn⟩
 ·rw [h,ob_];rw [dif_pos hk] at hq;dsimp only;congr 1
  symm
  unfold wd;cases hd:s.data.toList with
  | nil=>rfl
  | cons b l=>
   have hk':k < (b :: l).length:=by rw [← hd];exact hk
   have hg:s.data.toList[k]=(b :: l)[k]:=by simp [hd]
   rw [hg] at hq;dsimp only;rw [Bool.and_eq_false_iff];rcases Bool.or_eq_true_iff.1 hq with h1 | h1
   ·left;obtain ⟨h2,h3⟩:=Bool.and_eq_true_iff.1 h1;obtain rfl:k=0:=by simpa using h2
    simpa using h3
   ·right;exact List.all_eq_false.2 ⟨_,List.getElem_mem hk',by simpa using h1⟩
 ·rw [h,ob_,hemp];dsimp only;congr 1;unfold wd;cases hd:s.data.toList with
  | nil=>rfl
  | cons b l=>
   have hb:∀ (k:Nat) (hk:k < (b :: l).length),((k == 0 && !small (b :: l)[k]) || !partb (b :: l)[k])=false:=by
    intro k hk;have hk':k < s.data.toList.length:=by rw [hd];exact hk
    have:=hn k om_ hk';rw [dif_pos hk'] at this;have hg:s.data.toList[k]=(b :: l)[k]:=by simp [hd]
    rw [hg] at this;exact this
   have h1:=hb 0 sm_;simp at h1;dsimp only;rw [h1.1,Bool.true_and];have:(b :: l).all partb=true:=by
    rw [List.all_eq_true];intro x hx;obtain ⟨i,hi,rfl⟩:=List.getElem_of_mem hx;have:=hb i hi;rw [Bool.or_eq_false_iff] at this;simpa using this.2
   rw [this];rfl
def fx (i:Nat):ByteArray:=⟨#[UInt8.ofNat (97 + i / 2),UInt8.ofNat (48 + i % 2)]⟩
def cA (c:Control):Nat:=c.Actuators.toNat
def cS (c:Control):Nat:=2 * cA c + c.Inputs.length
def cL (c:Control):Nat:=cS c + c.Signals.length
def nmF (c:Control) (i:Nat):ByteArray:=if i < 2 * cA c then fx i else if i < cS c then c.Inputs.getD (i - 2 * cA c) ⟨#[]⟩ else ((c.Signals[i - cS c]?).map (·.Name)).getD ⟨#[]⟩
structure Bd_ (c:Control):Prop where
 a1:1<=c.Actuators
 a6:c.Actuators<=6
 i:c.Inputs.length<=16
 s:c.Signals.length<=16
theorem Bd_.a {c:Control} (h:Bd_ c):c.Actuators=(cA c:Int):=by
 have:=h.a1;unfold cA;omega
theorem Bd_.a' {c:Control} (h:Bd_ c):1<=cA c/\cA c<=6:=by
 have:=h.a1;have:=h.a6;unfold cA;omega
theorem Bd_.wa {c:Control} (h:Bd_ c):wr ((2:Int) * c.Actuators)=((2 * cA c:Nat):Int):=by
 have:=h.a;have:=h.a';rw [wr_id om_ om_];omega
theorem m144_spec {f:Nat} {c:Control} (h:Bd_ c):m144 f c=some (cS c:Int):=by
 have:=h.a';have:=h.i;unfold m144;rw [h.wa,wr_id om_ om_];unfold cS;congr 1
theorem m209_spec {f:Nat} {c:Control} (h:Bd_ c):m209 f c=some (cS c:Int):=m144_spec (f:=f) h
theorem m31_spec {f:Nat} {c:Control} (h:Bd_ c):m31 f c=some (cL c:Int):=by
 have:=h.a';have:=h.i;have:=h.s;unfold m31;have e:wr (((2 * cA c:Nat):Int) + (c.Inputs.length:Int))=((2 * cA c:Nat):Int) + (c.Inputs.length:Int):=wr_id om_ om_;rw [h.wa,e,wr_id om_ om_];unfold cL cS;congr 1
theorem m163_spec {f:Nat} {c:Control} (h:Bd_ c):m163 f c=some (cL c:Int):=by
 have:=h.a';have:=h.i;have:=h.s;unfold m163;rw [m209_spec h,ob_,wr_id (by unfold cS;omega) (by unfold cS;omega)];unfold cL;congr 1
theorem ref_fx_tab:((List.range 12).all fun i=>decide (((ssl (⟨#[97,98,99,100,101,102]⟩:ByteArray) (wr ((i:Int).tdiv (2:Int))) (wr ((wr ((i:Int).tdiv (2:Int))) + (1:Int)))).bind fun x1=>(ssl (⟨#[48,49]⟩:ByteArray) ((i:Int).tmod (2:Int)) (wr (((i:Int).tmod (2:Int)) + (1:Int)))).bind fun x2=>(cat x1 x2).bind fun x3=>some x3)=some (fx i)))=true:=by kernel_rfl
theorem ref_fx:∀ i:Nat,i < 12->((ssl (⟨#[97,98,99,100,101,102]⟩:ByteArray) (wr ((i:Int).tdiv (2:Int))) (wr ((wr ((i:Int).tdiv (2:Int))) + (1:Int)))).bind fun x1=>(ssl (⟨#[48,49]⟩:ByteArray) ((i:Int).tmod (2:Int)) (wr (((i:Int).tmod (2:Int)) + (1:Int)))).bind fun x2=>(cat x1 x2).bind fun x3=>some x3)=some (fx i):=fun i h=>of_decide_eq_true (List.all_eq_true.1 ref_fx_tab i (List.mem_range.2 h))
theorem pro_fx_tab:((List.range 12).all fun i=>decide (((cat (runeStr (Ik.toI (Ik.ofI (Ik.toI (wr ((97:Int) + (wr ((i:Int).tdiv (2:Int)))))):Kd .i32))) (runeStr (Ik.toI (Ik.ofI (Ik.toI (wr ((48:Int) + ((i:Int).tmod (2:Int))))):Kd .i32)))).bind fun x2=>some x2)=some (fx i)))=true:=by kernel_rfl
theorem pro_fx:∀ i:Nat,i < 12->((cat (runeStr (Ik.toI (Ik.ofI (Ik.toI (wr ((97:Int) + (wr ((i:Int).tdiv (2:Int)))))):Kd .i32))) (runeStr (Ik.toI (Ik.ofI (Ik.toI (wr ((48:Int) + ((i:Int).tmod (2:Int))))):Kd .i32)))).bind fun x2=>some x2)=some (fx i):=fun i h=>of_decide_eq_true (List.all_eq_true.1 pro_fx_tab i (List.mem_range.2 h))
theorem m142_spec {f:Nat} {c:Control} (h:Bd_ c) {i:Nat} (hi:i < cL c):m142 f c (i:Int)=some (nmF c i):=by
 have h1:=h.a';have h2:=h.i;have h3:=h.s;have hS:cS c=2 * cA c + c.Inputs.length:=rfl;have hL:cL c=cS c + c.Signals.length:=rfl;unfold m142 nmF;rw [h.wa,lt_dec];by_cases h4:i < 2 * cA c
 ·rw [dt_ h4,ct_,if_pos h4];exact ref_fx i om_
 ·rw [df_ h4,cf_,if_neg h4,m144_spec h,ob_,lt_dec];by_cases h5:i < cS c
  ·rw [dt_ h5,ct_,if_pos h5,wr_id om_ om_,show (i:Int) - ((2 * cA c:Nat):Int)=((i - 2 * cA c:Nat):Int) by omega,idx_nat,gE_ om_];simp [gE_ (show i - 2 * cA c < c.Inputs.length by omega)]
  ·rw [df_ h5,cf_,if_neg h5,ob_,wr_id om_ om_,show (i:Int) - (cS c:Int)=((i - cS c:Nat):Int) by omega,idx_nat,gE_ om_];rfl
theorem m189_spec {f:Nat} {c:Control} (h:Bd_ c) {i:Nat} (hi:i < cL c):m189 f c (i:Int)=some (nmF c i):=by
 have h1:=h.a';have h2:=h.i;have h3:=h.s;have hS:cS c=2 * cA c + c.Inputs.length:=rfl;have hL:cL c=cS c + c.Signals.length:=rfl;unfold m189 nmF;rw [m209_spec h,ob_,h.wa,lt_dec];by_cases h4:i < 2 * cA c
 ·rw [dt_ h4,ct_,if_pos h4];exact pro_fx i om_
 ·rw [df_ h4,cf_,if_neg h4,lt_dec];by_cases h5:i < cS c
  ·rw [dt_ h5,ct_,if_pos h5,wr_id om_ om_,show (i:Int) - ((2 * cA c:Nat):Int)=((i - 2 * cA c:Nat):Int) by omega,idx_nat,gE_ om_];simp [gE_ (show i - 2 * cA c < c.Inputs.length by omega)]
  ·rw [df_ h5,cf_,if_neg h5,wr_id om_ om_,show (i:Int) - (cS c:Int)=((i - cS c:Nat):Int) by omega,idx_nat,gE_ om_];rfl
def nme (c:Control) (i:Nat):Int:=if wd (nmF c i) then (if (nmF c i).size > 24 then 17 else if (List.range i).any (fun j=>(nmF c j).data.toList == (nmF c i).data.toList) then 7 else 0) else 3
theorem m87_spec {f:Nat} {c:Control} (h:Bd_ c) {i:Nat} (hi:i < cL c) (hn:(nmF c i).size<=200) (hf:600<=f):m87 f c (i:Int)=some (nme c i):=by
 have h1:=h.a';have h2:=h.i;have h3:=h.s;have hS:cS c=2 * cA c + c.Inputs.length:=rfl;have hL:cL c=cS c + c.Signals.length:=rfl;unfold m87 nme;rw [m142_spec h hi,ob_,m143_spec om_ om_,ob_];cases hw:wd (nmF c i) with
 | false=>rfl
 | true=>
  rw [nt_,cf_,if_pos rfl];by_cases h24:(nmF c i).size > 24
  ·rw [dt_ om_,ct_,if_pos h24]
  ·rw [df_ om_,cf_,if_neg h24];have hl:=srchI (L:=m87_l1 f c (i:Int) (nmF c i)) (N:=i) (Q:=fun j=>(nmF c j).data.toList == (nmF c i).data.toList) (r:=fun _=>7) (fun n j hj=>by
    rw [m87_l1,lt_dec,dt_ hj,ct_,m142_spec h om_,ob_,ByteArray.toList_eq,ByteArray.toList_eq,wr_nat om_]) (fun n=>by
    rw [m87_l1,lt_dec,df_ om_,cf_]) f 0 om_ om_
   rw [n0] at hl;rcases hl with ⟨k,_,hk,hq,h⟩ | ⟨h,hn⟩
   ·rw [h,if_pos (List.any_eq_true.2 ⟨k,List.mem_range.2 hk,hq⟩)];rfl
   ·rw [h,if_neg ?_]
    ·rfl
    ·intro ha;obtain ⟨k,hk,h4⟩:=List.any_eq_true.1 ha;have:=hn k om_ (List.mem_range.1 hk);rw [this] at h4;cases h4
def Kept (c:Control) (i:Nat) (m:List (ByteArray×Int)):Prop:=∀ s:ByteArray,(mat eqqS m s).isSome=(List.range i).any fun j=>(nmF c j).data.toList == s.data.toList
theorem eqqS_eq {a b:ByteArray}:eqqS a b=true↔a=b:=by
 unfold eqqS;obtain ⟨⟨x⟩⟩:=a;obtain ⟨⟨y⟩⟩:=b;simp
theorem mat_putS {m:List (ByteArray×Int)} {k j:ByteArray} {y:Int}:mat eqqS (mput eqqS m k y) j=if j=k then some y else mat eqqS m j:=by
 induction m with
 | nil=>
  show mat eqqS [(k,y)] j=_;rw [mat_cons];by_cases h:j=k
  ·rw [if_pos (eqqS_eq.2 h),if_pos h]
  ·rw [if_neg (fun e=>h (eqqS_eq.1 e)),if_neg h]
 | cons p m ih=>
  obtain ⟨k',z⟩:=p;rw [mput_cons,mat_cons];by_cases h:k=k'
  ·subst h;rw [if_pos (eqqS_eq.2 rfl),mat_cons];by_cases h2:j=k
   ·rw [if_pos (eqqS_eq.2 h2),if_pos h2]
   ·rw [if_neg (fun e=>h2 (eqqS_eq.1 e)),if_neg h2,if_neg (fun e=>h2 (eqqS_eq.1 e))]
  ·rw [if_neg (fun e=>h (eqqS_eq.1 e)),mat_cons,ih];by_cases h2:j=k'
   ·subst h2;rw [if_pos (eqqS_eq.2 rfl),if_neg (fun e=>h e.symm),if_pos (eqqS_eq.2 rfl)]
   ·rw [if_neg (fun e=>h2 (eqqS_eq.1 e)),if_neg (fun e=>h2 (eqqS_eq.1 e))]
theorem Kept.zero (c:Control):Kept c 0 []:=fun s=>rfl
theorem Kept.put {c:Control} {i:Nat} {m:List (ByteArray×Int)} (h:Kept c i m) (y:Int):Kept c (i + 1) (mput eqqS m (nmF c i) y):=by
 intro s;rw [mat_putS,List.range_succ,List.any_append];by_cases e:s=nmF c i
 ·rw [if_pos e,e];simp
 ·rw [if_neg e,h s];have:((nmF c i).data.toList == s.data.toList)=false:=by
   cases hb:((nmF c i).data.toList == s.data.toList) with
   | false=>rfl
   | true=>exact absurd (eqqS_eq.1 hb).symm e
  rw [List.any_cons,List.any_nil,Bool.or_false,this,Bool.or_false]
theorem m190_spec {f:Nat} {c:Control} (h:Bd_ c) {i:Nat} (hn:(nmF c i).size<=200) (hf:600<=f) {m:List (ByteArray×Int)} (hm:Kept c i m) (a b c' d e) :
  ∃ m',m190 f (nmF c i) a b c' d e m=some (nme c i,m')/\(nme c i=0->Kept c (i + 1) m'):=by
 unfold m190 nme;have hemp:((nmF c i).toList == (⟨#[]⟩:ByteArray).toList)=((nmF c i).data.toList == []):=by
  rw [ByteArray.toList_eq,ByteArray.toList_eq]
 rw [hemp,m220_spec om_ om_];have hwd:∀ (k:Bool->Option (Int×List (ByteArray×Int))),((bif ((nmF c i).data.toList == []) then some true else (sidx (nmF c i) (0:Int)).bind fun x1=>some (decide ((x1.toNat:Int) < (UInt8.ofNat 97).toNat))).bind fun r2=>(bif r2 then some true else (sidx (nmF c i) (0:Int)).bind fun x3=>some (decide ((x3.toNat:Int) > (UInt8.ofNat 122).toNat))).bind fun r4=>(bif r4 then some true else (some ((nmF c i).data.toList.any fun b=>!partb b)).bind fun x5=>some x5).bind k)=k (!wd (nmF c i)):=by
  intro k;cases hd:(nmF c i).data.toList with
  | nil=>unfold wd;rw [hd];rfl
  | cons b l=>
   have h0:sidx (nmF c i) (0:Int)=some b:=by
    have:=sidx_nat (s:=nmF c i) (i:=0) (by rw [hd];simp);rw [n0] at this;rw [this];simp [hd]
   unfold wd;rw [h0,hd];simp only [ob_,cs_,u8n (show 97 < 256 by omega),u8n (show 122 < 256 by omega)];congr 1;rw [Bool.eq_iff_iff];unfold small;simp only [List.all_eq_not_any_not];cases (b :: l).any (fun b=>!partb b) <;> simp <;> omega
 rw [hwd];cases hw:wd (nmF c i) with
 | false=>exact ⟨m,rfl,fun h=>by simp at h⟩
 | true=>
  rw [nt_,cf_,if_pos rfl];by_cases h24:(nmF c i).size > 24
  ·rw [dt_ om_,ct_,if_pos h24];exact ⟨m,rfl,fun h=>by simp at h⟩
  ·rw [df_ om_,cf_,if_neg h24,hm (nmF c i)];cases hx:(List.range i).any (fun j=>(nmF c j).data.toList == (nmF c i).data.toList) with
   | true=>exact ⟨m,rfl,fun h=>by simp at h⟩
   | false=>exact ⟨_,rfl,fun _=>hm.put _⟩
end Go.Pn

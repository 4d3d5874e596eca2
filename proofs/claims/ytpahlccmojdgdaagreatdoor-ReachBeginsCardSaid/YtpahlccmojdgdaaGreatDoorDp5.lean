import Derived.Test.YtpahlccmojdgdaaGreatDoorDp4
set_option synthInstance.checkSynthOrder false
set_option synthInstance.maxSize 10000
set_option synthInstance.maxHeartbeats 400000
set_option maxRecDepth 100000
set_option maxHeartbeats 4000000
set_option linter.unusedVariables false
set_option linter.unusedSimpArgs false
namespace Go.Pn
open Go Go.RowKit Go.Proofs
theorem s301 (f:Nat) (n0:Nat) (n1:Value) (n2:Value) (n3:Value) (n4:Value) (n5:Value) (n6:Value) (n7:Value) (n8:Value) (n9:Value) (v0:Int) (v1:Int) (v2:List ByteArray) (v3:List Signal) (v4:List Int) (v5:List Int) (v6:List Int) (v7:List Bool) (v8:List Bool) (v9:List Bool) (v10:List Int) (r:Bool×(List Int)×(List Bool)×(List Int)) (hm:m301 f v0 v1 v2 v3 v4 v5 v6 v7 v8 v9 v10=some r):Cg Tryz.prog 301 [Qv (pb n0 0)] [Mr n0 [(.int .i64 v0),n1,n2,n3,n4,n5,n6,n7,n8,n9,(.int .i64 v1)],At n1 (Va v2),At n2 (Va v3),At n3 (Va v4),At n4 (Va v5),Ow 3 n5 v6,Ow 4 n6 v7,Ow 4 n7 v8,Ow 4 n8 v9,Ow 3 n9 v10] (Rz (λx:Unit=>T2 (Va r.1) (Va r.2.1)) (λx=>[Mr n0 [(.int .i64 v0),n1,n2,n3,n4,n5,n6,n7,n8,n9,(.int .i64 v1)],At n1 (Va v2),At n2 (Va v3),At n3 (Va v4),At n4 (Va v5),Ow 3 n5 v6,Ow 4 n6 v7,Ow 4 n7 v8,Ow 4 n8 r.2.2.1,Ow 3 n9 r.2.2.2])):=by
 unfold m301 at hm
 refine eng Tryz.func301 (by kernel_rfl) I Tryz.ntmps301 I I λM W a hM hD s=>?_
 refine R 2 s λa w s=>?_
 obtain ⟨x1,hx1,hm⟩:=bk hm
 refine se (rg (ru 3 s λa w s=>sq s (lra (K:=1000) (ds:=[n5,n6,n7,n8,n9]) State (t I) I I I I) I λa w s=>sqz [1010,1011,1012,1013,1014] hM s (tfg (k:=1009) (flz (λ_=>fla) (λ_=>(flc flo (flc flo (flc flo (flc flo (flc flo fln))))))) I (tfg (k:=1008) (flz (λ_=>fla) (λ_=>(flc flo (flc flo (flc flo (flc flo (flc flo fln))))))) I (tfg (k:=1007) (flz (λ_=>fla) (λ_=>(flc flo (flc flo (flc flo (flc flo (flc flo fln))))))) I (tfg (k:=1006) (flz (λ_=>fla) (λ_=>(flc flo (flc flo (flc flo (flc flo (flc flo fln))))))) I (tfg (k:=1005) (flz (λ_=>fla) (λ_=>(flc flo (flc flo (flc flo (flc flo (flc flo fln))))))) I (cc I (oc (qad (y:=(⟨v6,v7,v8,v9,v10⟩:State)) (t I) (rpS30 (l:=([n5],[n6],[n7],[n8],[n9])) (rpz (k:=1005) I) (rpz (k:=1006) I) (rpz (k:=1007) I) (rpz (k:=1008) I) (rpz (k:=1009) I)) I) on) (s300 f _ _ hx1.e))))))) (λ_=>I) I I λy2 a w s=>aR 1015 s λb3 a w s=>sra (K:=1015) (m:=[y2.1,y2.2.1,y2.2.2.1,y2.2.2.2.1,y2.2.2.2.2]) (cs':=[y2.1,y2.2.1,y2.2.2.1,y2.2.2.2.1,y2.2.2.2.2]) s (t I) I (t I) (by kernel_rfl) I I I λw s=>nl ?_))
 obtain ⟨x4,hx4,hm⟩:=bk hm
 refine se (rg (ru 1 s λa w s=>cgv [1000,1001,1002,1003,1004,1005,1006,1007,1008,1009] [1000,1001,1002,1003,1004,1005,1006,1007,1008,1009] hM s qf I (oc (t I) on) vn vn (s317 f n0 n1 n2 n3 n4 n5 n6 n7 n8 n9 _ _ _ _ _ _ _ _ _ _ _ _ hx4.e) (kc I (kc I (kc I (kc I (kc I (kc I (kc I (kc I (kc I (kc I kn)))))))))) I (λ_=>I) I I I λy5 a w s=>nl ?_))
 obtain ⟨x6,hx6,hm⟩:=bk hm
 refine se (rg (ru 1 s λa w s=>cgv [1000,1001,1002,1003,1004,1005,1006,1007,1008,1009] [1000,1001,1002,1003,1004,1005,1006,1007,1008,1009,1016] hM s qf I (oc (t I) on) vn vn (s318 f n0 n1 n2 n3 n4 n5 n6 n7 n8 n9 _ _ _ _ _ _ _ _ _ _ _ _ hx6.e) (kc I (kc I (kc I (kc I (kc I (kc I (kc I (kc I (kc I (kc I kn)))))))))) I (λ_=>I) I I I λy7 a w s=>cB s hm (s319 f) λx8 hm a w s=>aR 1017 s λb9 a w s=>ru 1 s λa w s=>sra (K:=1017) (m:=[(fv 326 [] []),(fv 327 [] []),(fv 328 [] [])]) (cs':=[(fv 326 [] []),(fv 327 [] []),(fv 328 [] [])]) s (t I) I (t I) (by kernel_rfl) I I I λw s=>nl ?_))
 refine R 1 s λa w s=>?_
 refine se (se (rg (ru 5 s λa w s=>sq s (ln (ta (k:=1002) (t I) I)) I λa w s=>ru 1 s λa w s=>nl ?_)))
 refine nilt (α:=Int) (d:=7) 1018 3 s I I λc12 s=>?_
 refine lA1 hm [0,2,3,4,5,6,25,26,1000,1001,1002,1003,1004,1005,1006,1007,1015,1010,1011,1012,1013,1014,1016,1017] s (λz10 z10c0=>[(7,Qv z10c0),(27,Va z10.1),(1008,Ow 4 n8 z10.2.1),(1009,Ow 3 n9 z10.2.2.1),(1018,Ow 3 z10c0 z10.2.2.2)]) ⟨c12,s.fi⟩ (λ_=>I) (λo11s hko11 n z10 a w hm s=>?_) λo11s hm a w s=>?_
 ·obtain ⟨z10c0,s⟩:=s
  unfold m301_l1 at hm
  refine R 1 s λa w s=>?_
  refine se (cmt s hm (λhb hm=>?_) λhb hm=>?_)
  ·refine se (wpIn_block ?_)
   obtain ⟨x13,hx13,hm⟩:=bk hm
   refine se (rg (ru 1 s λa w s=>sq s (ix (ta (k:=1002) (t I) I) (t I) hx13.e) I λa w s=>ru 1 s λa w s=>aR 1019 s λb14 a w s=>ru 1 s λa w s=>sW s I λw s=>nl ?_))
   obtain ⟨x15,hx15,hm⟩:=bk hm
   obtain ⟨x16,hx16,hm⟩:=bk hm
   obtain ⟨x17,hx17,hm⟩:=bk hm
   obtain ⟨x18,hx18,hm⟩:=bk hm
   obtain ⟨r20,hr20,hm⟩:=bs hm
   have gr20:=gT hr20
   have er20:=gF hr20
   obtain ⟨x19,hx19,gr20⟩:=gk gr20
   obtain ⟨x24,hx24,hm⟩:=bk hm
   have:=pka gr20 er20
   refine se (flow s (m:=36) (.cons (.cons (.cons (.cong (.cong (.cong (.cong (.cons (.cons (.cons (.cons (.cons (.cons (.cons (.cons (.cons (.cons (.cons (.cons (.cons (.cons (.cons (.cons (.cons (.cons (.cons (.cons (.cons (.cons (.cons (.cons (.cons (.cons (.cons (.cons (.cons .nil I (fm_ (off:=1) (m:=0) (q:=1) (t I) (by kernel_rfl) I)) I (lf (K:=1019) (f:=Signal.Kind) (t I) I)) I (iax (e:=377) (t I) (t I) (by kernel_rfl) (by kernel_rfl) hx15.e)) I (lsel (K:=1017) (ds:=[(fv 326 [] []),(fv 327 [] []),(fv 328 [] [])]) (t I) I I (idxr hx15.e).1 (Nat.le_of_ble_eq_true I) (by kernel_rfl))) I (mvq (t I))) I (nkq (t I))) I (fm_ (off:=5) (m:=4) (q:=5) (t I) (by kernel_rfl) I)) I (fm_ (off:=3) (m:=0) (q:=8) (t I) (by kernel_rfl) I)) I (lrc (K:=1000) (List Bool) (t I) I I I I)) I (mv (t I))) I (ixq (α:=Bool) (k:=1008) (t I) I (t I) hx16.e)) I (lq (k:=1008) (t I) I (idxg hx16.e))) I (mvq (t I))) I (nkq (t I))) I (fm_ (off:=5) (m:=4) (q:=5) (t I) (by kernel_rfl) I)) I (fm_ (off:=4) (m:=0) (q:=9) (t I) (by kernel_rfl) I)) I (lrc (K:=1000) (List Int) (t I) I I I I)) I (mv (t I))) I (ixq (α:=Int) (k:=1009) (t I) I (t I) hx17.e)) I (lq (k:=1009) (t I) I (idxg hx17.e))) I (bl381_0_1_2 (t I) (t I) cb)) I (fm_ (off:=2) (m:=2) (q:=2) (t I) (by kernel_rfl) I)) I (lf (K:=1019) (f:=Signal.On) (t I) I)) I (mvq (t I))) I (tfg (k:=1016) fl1 I (cc I (oc (t I) (oc (ta (k:=1016) (t I) I) on)) (s320 f _ _ _ hx18.e)))) I (fm_ (off:=1) (m:=0) (q:=1) (t I) (by kernel_rfl) I)) I (lf (K:=1019) (f:=Signal.Kind) (t I) I)) I (eq (t I) ci)) I (mv (t I))) I I I (λhb=>(fm_ (off:=5) (m:=2) (q:=5) (t I) (by kernel_rfl) I))) I I I (λhb=>(lf (K:=1019) (f:=Signal.Off) (tg I hb) I))) I I I (λhb=>(mvq (t I)))) I I I (λhb=>(tfg (k:=1016) fl1 I (cc I (oc (tg I hb) (oc (ta (k:=1016) (tg I hb) I) on)) (s320 f _ _ _ (hx19.h hb)))))) I (pa (t I) I (λh=>si (gr20 h)) (λh=>(si (er20 h)).symm))) I (bifE hx24.e (λhj hx=>(ccv (qsel hj (t I) I) I (oc (t I) (oc (t I) (oc (t I) on))) vn vn (s326 f _ _ _ _ hx))) (λ_ hx=>(bifE hx (λhj hx=>(ccv (qsel hj (t I) I) I (oc (t I) (oc (t I) (oc (t I) on))) vn vn (s327 f _ _ _ _ hx))) (λ_ hx=>(bifE hx (λhj hx=>(ccv (qsel hj (t I) I) I (oc (t I) (oc (t I) (oc (t I) on))) vn vn (s328 f _ _ _ _ hx))) (λ_ hx=>(bifN hx)))))))) I (al (z:=(⟨false,(0:Int),false⟩:Change)))) (by kernel_rfl) I I λa w s=>opb (d:=10) 1020 s I I λb25 s=>sw (K:=1020) s (t I) I (t I) I λw s=>nl ?_)
   obtain ⟨x26,hx26,hm⟩:=bk hm
   obtain ⟨x27,hx27,hm⟩:=bk hm
   refine se (flow2 [(8,Va z10.1),(10,Qv (pb b25 0)),(1020,Mg b25 x24)] [0,1,2,3,4,5,6,7,8,9,10,12,13,16] [67,68,69,70,71,72,73,74,75,76,77,79,80,83] [] [81] [82,81,78] [(17,[]),(18,[82,81,78]),(19,[])] s (.skip (.skip (.skip (.cons (.late (.late (.cons (.cons (.late (.cons (.cons (.cons (.cons (.cons (.cons (.cons (.cons (.cons (.cons (.cons .nil I I (mvq (t I))) I I (nkq (t I))) I I (fm_ (off:=5) (m:=4) (q:=5) (t I) (by kernel_rfl) I)) I I (fm_ (off:=3) (m:=0) (q:=8) (t I) (by kernel_rfl) I)) I I (lrc (K:=1000) (List Bool) (t I) I I I I)) I I (mv (t I))) I I (mvq (t I))) I I (nkq (t I))) I I (fm_ (off:=5) (m:=4) (q:=5) (t I) (by kernel_rfl) I)) I I (fm_ (off:=4) (m:=0) (q:=9) (t I) (by kernel_rfl) I)) I I (lrc (K:=1000) (List Int) (t I) I I I I)) I I (mv (t I))) I I (fm_ (off:=0) (m:=0) (q:=0) (t I) (by kernel_rfl) I)) I I (lf (K:=1020) (f:=Change.value) (t I) I)) I I (fm_ (off:=1) (m:=0) (q:=1) (t I) (by kernel_rfl) I)) I I (lf (K:=1020) (f:=Change.timer) (t I) I)) I I (ixq (α:=Bool) (k:=1008) (t I) I (t I) hx26.e)) I) I) I) (by kernel_rfl) (by kernel_rfl) I I (sb1 I (sb1 I (sb1 I sb0))) I (by decide) I I ?_)
   refine ⟨⟨λ_=>I,I,.inr ⟨(sb1 I (sb1 I (sb1 I sb0))),sb0,(sn2 I sn0)⟩⟩,by kernel_rfl,_,I,λΨ a w s=>stq (k:=1008) s (t I) I (idxg hx26.e) (t I) λw s=>nl ?_⟩
   refine nxt Ψ s ?_
   refine ⟨⟨λ_=>I,I,.inr ⟨(sb1 I (sb1 I (sb1 I sb0))),sb0,(sn2 I sn0)⟩⟩,by kernel_rfl,_,I,λΨ a w s=>sq s (ixq (α:=Int) (k:=1009) (t I) I (t I) hx27.e) I λa w s=>nl ?_⟩
   refine nxt Ψ s ?_
   refine ⟨⟨λ_=>I,I,.inl I⟩,by kernel_rfl,_,I,λΨ a w s=>stq (k:=1009) s (t I) I (idxg hx27.e) (t I) λw s=>nl ?_⟩
   refine nxt Ψ s ?_
   refine ⟨⟨λ_=>I,I,.inl I⟩,λa w s=>?_⟩
   replace s:St M W 105 [(0,Qv (pb n0 0)),(2,Va false),(3,Qv nz),(4,Qv (pb b3 0)),(5,Qv y7),(6,Qv (pb b9 0)),(7,Qv z10c0),(8,Va z10.1),(9,Qv (pb b14 0)),(10,Qv (pb b25 0)),(25,Qv n2),(26,Va ((v3.length:Int))),(27,Va z10.1),(1000,Mr n0 [(.int .i64 v0),n1,n2,n3,n4,n5,n6,n7,n8,n9,(.int .i64 v1)]),(1001,At n1 (Va v2)),(1002,At n2 (Va v3)),(1003,At n3 (Va v4)),(1004,At n4 (Va v5)),(1005,Ow 3 n5 v6),(1006,Ow 4 n6 v7),(1007,Ow 4 n7 v8),(1008,Ow 4 n8 ((z10.2.1.set z10.1.toNat x24.value))),(1009,Ow 3 n9 ((z10.2.2.1.set z10.1.toNat x24.timer))),(1015,Mr b3 [y2.1,y2.2.1,y2.2.2.1,y2.2.2.2.1,y2.2.2.2.2]),(1010,Ow 3 y2.1 x1.1),(1011,Ow 4 y2.2.1 x1.2.1),(1012,Ow 4 y2.2.2.1 x1.2.2.1),(1013,Ow 4 y2.2.2.2.1 x1.2.2.2.1),(1014,Ow 3 y2.2.2.2.2 x1.2.2.2.2),(1016,Ow 4 y7 x6),(1017,Mr b9 [(fv 326 [] []),(fv 327 [] []),(fv 328 [] [])]),(1018,Ow 3 z10c0 z10.2.2.2),(1019,Mg b14 x13),(1020,Mg b25 x24)] a w:=s.pick [0,2,3,4,5,6,7,8,9,10,25,26,27,1000,1001,1002,1003,1004,1005,1006,1007,1008,1009,1015,1010,1011,1012,1013,1014,1016,1017,1018,1019,1020]
   refine R 2 s λa w s=>?_
   obtain ⟨z28,hz28,hkz28⟩:=bs hm
   refine cP1 [0,2,3,4,5,6,8,9,10,25,26,27,1000,1001,1002,1003,1004,1005,1006,1007,1008,1009,1015,1010,1011,1012,1013,1014,1016,1017,1019,1020] s (λz28c0=>[(7,Qv z28c0),(1018,Ow 3 z28c0 z28)]) ?_ λa w s=>?_
   ·refine cm s I hz28 (λhb hm=>?_) (λhb hm=>?_)
    ·obtain ⟨x29,hx29,hm⟩:=bk hm
     refine rg (ru 6 s λa w s=>sq s (ad (qi (t I)) (t I)) I λa w s=>ru 1 s λa w s=>apd (α:=Int) (k:=1018) s (t I) I (t I) hx29.e I I λc30 a w s=>ru 1 s λa w s=>nl ?_)
     obtain rfl:=si hm
     exact ⟨c30,s.fi⟩
    ·refine wpIn_skip ?_
     obtain rfl:=si hm
     exact ⟨z10c0,s.fi⟩
   ·obtain ⟨z28c0,s⟩:=s
    replace hm:=hkz28
    refine R0 2 s λa w s=>?_
    exact ⟨_,hm,⟨z28c0,s.fi⟩⟩
  ·refine wpIn_exit ?_
   obtain rfl:=si hm
   exact ⟨z10c0,s.fi⟩
 ·obtain ⟨o11sc0,s⟩:=s
  obtain ⟨x31,hx31,hm⟩:=bk hm
  refine se (flow2 [(7,Qv o11sc0)] [0,1,2,3,4,5,6] [97,98,99,100,101,102,103] [] [] [104] [(8,[]),(9,[104])] s (.skip (.skip (.late (.cons (.cons (.cons (.cons (.cons (.cons (.cons .nil I I (lra (K:=1015) (ds:=[y2.1,y2.2.1,y2.2.2.1,y2.2.2.2.1,y2.2.2.2.2]) State (t I) I I I I)) I I (mvq (t I))) I I (nkq (t I))) I I (fm_ (off:=5) (m:=4) (q:=5) (t I) (by kernel_rfl) I)) I I (lra (K:=1000) (ds:=[n5,n6,n7,n8,n9]) State (t I) I I I I)) I I (tfg (k:=1009) fl1 I (tfg (k:=1008) fl1 I (tfg (k:=1007) fl1 I (tfg (k:=1006) fl1 I (tfg (k:=1005) fl1 I (tfg (k:=1014) fl1 I (tfg (k:=1013) fl1 I (tfg (k:=1012) fl1 I (tfg (k:=1011) fl1 I (tfg (k:=1010) fl1 I (cc I (oc (qad (y:=(⟨x1.1,x1.2.1,x1.2.2.1,x1.2.2.2.1,x1.2.2.2.2⟩:State)) (t I) (rpS30 (l:=([y2.1],[y2.2.1],[y2.2.2.1],[y2.2.2.2.1],[y2.2.2.2.2])) (rpz (k:=1010) I) (rpz (k:=1011) I) (rpz (k:=1012) I) (rpz (k:=1013) I) (rpz (k:=1014) I)) I) (oc (qad (y:=(⟨v6,v7,v8,o11s.2.1,o11s.2.2.1⟩:State)) (t I) (rpS30 (l:=([n5],[n6],[n7],[n8],[n9])) (rpz (k:=1005) I) (rpz (k:=1006) I) (rpz (k:=1007) I) (rpz (k:=1008) I) (rpz (k:=1009) I)) I) on)) (s120 f _ _ _ hx31.e))))))))))))) I I (nt (t I))) I I (mvq (t I))) I) I) (by kernel_rfl) (by kernel_rfl) I I (sb1 I sb0) I (by decide) I I ?_)
  refine ⟨⟨λ_=>I,I,.inr ⟨(sb1 I sb0),sb0,sn0⟩⟩,by kernel_rfl,_,I,λΨ a w s=>sq s (sa (t I)) I λa w s=>nl ?_⟩
  refine nxt Ψ s ?_
  refine ⟨⟨λ_=>I,I,.inr ⟨(sb1 I sb0),sb0,sn0⟩⟩,by kernel_rfl,_,I,λΨ a w s=>sq s (saq (t I)) I λa w s=>nl ?_⟩
  refine nxt Ψ s ?_
  refine ⟨⟨λ_=>I,I,.inl I⟩,λa w s=>?_⟩
  replace s:St M W 105 [(0,Qv (pb n0 0)),(2,Va ((!x31))),(3,Qv o11sc0),(4,Qv (pb b3 0)),(5,Qv y7),(6,Qv (pb b9 0)),(7,Qv o11sc0),(25,Qv n2),(26,Va ((v3.length:Int))),(27,Va o11s.1),(1000,Mr n0 [(.int .i64 v0),n1,n2,n3,n4,n5,n6,n7,n8,n9,(.int .i64 v1)]),(1001,At n1 (Va v2)),(1002,At n2 (Va v3)),(1003,At n3 (Va v4)),(1004,At n4 (Va v5)),(1005,Ow 3 n5 v6),(1006,Ow 4 n6 v7),(1007,Ow 4 n7 v8),(1008,Ow 4 n8 o11s.2.1),(1009,Ow 3 n9 o11s.2.2.1),(1018,Ow 3 o11sc0 o11s.2.2.2),(1015,Mr b3 [y2.1,y2.2.1,y2.2.2.1,y2.2.2.2.1,y2.2.2.2.2]),(1010,Ow 3 y2.1 x1.1),(1011,Ow 4 y2.2.1 x1.2.1),(1012,Ow 4 y2.2.2.1 x1.2.2.1),(1013,Ow 4 y2.2.2.2.1 x1.2.2.2.1),(1014,Ow 3 y2.2.2.2.2 x1.2.2.2.2),(1016,Ow 4 y7 x6),(1017,Mr b9 [(fv 326 [] []),(fv 327 [] []),(fv 328 [] [])])] a w:=s.pick [0,2,3,4,5,6,7,25,26,27,1000,1001,1002,1003,1004,1005,1006,1007,1008,1009,1018,1015,1010,1011,1012,1013,1014,1016,1017]
  obtain rfl:=si hm
  refine fzk (α:=Int) (k:=1018) hM s I λs=>?_
  refine wpIn_ret ?_
  exact rz [1000,1001,1002,1003,1004,1005,1006,1007,1008,1009] () hM hD s I (rv2 (rt I) (ro (ta (k:=1018) (t I) I))) (kc I (kc I (kc I (kc I (kc I (kc I (kc I (kc I (kc I (kc I kn)))))))))) I
def m273_l1 (f:Nat) (v0:Int) (v1:Int) (v2:List ByteArray) (v3:List Signal) (v4:List Int) (v5:List Int) (v6:List Int) (v7:List Bool) (v8:List Bool):Nat→(Int×(List Bool)×(List Int)×(List Int))→Option (Lo (Int×(List Bool)×(List Int)×(List Int)) (Int×Int×(List Bool)×(List Int)×(List Int)))
 | 0,_=>none
 | n+1,z1=>(bif (decide (z1.1≤(64:Int))) then (m301 f v0 v1 v2 v3 v4 v5 v6 v7 v8 z1.2.1 z1.2.2.1).bind λx4=>(app z1.2.2.2 x4.2.1).bind λx6=>(bif (!x4.1) then (m206 f x6).bind λx8=>(m207 f x8).bind λx10=>some (.ret (z1.1,(0:Int),x4.2.2.1,x4.2.2.2,x10)) else m273_l1 f v0 v1 v2 v3 v4 v5 v6 v7 v8 n ((wr (z1.1 + (1:Int))),x4.2.2.1,x4.2.2.2,x6)) else some (.brk (z1.1,z1.2.1,z1.2.2.1,z1.2.2.2)))
def m273 (f:Nat) (v0:Int) (v1:Int) (v2:List ByteArray) (v3:List Signal) (v4:List Int) (v5:List Int) (v6:List Int) (v7:List Bool) (v8:List Bool) (v9:List Bool) (v10:List Int):Option (Int×Int×(List Bool)×(List Int)×(List Int)):=((m273_l1 f v0 v1 v2 v3 v4 v5 v6 v7 v8 f ((0:Int),v9,v10,([]:List Int))).bind λo2=>match o2 with | .brk o2s=>some ((0:Int),(21:Int),o2s.2.1,o2s.2.2.1,([]:List Int)) | .ret r=>some r)
theorem s273 (f:Nat) (n0:Nat) (n1:Value) (n2:Value) (n3:Value) (n4:Value) (n5:Value) (n6:Value) (n7:Value) (n8:Value) (n9:Value) (v0:Int) (v1:Int) (v2:List ByteArray) (v3:List Signal) (v4:List Int) (v5:List Int) (v6:List Int) (v7:List Bool) (v8:List Bool) (v9:List Bool) (v10:List Int) (r:Int×Int×(List Bool)×(List Int)×(List Int)) (hm:m273 f v0 v1 v2 v3 v4 v5 v6 v7 v8 v9 v10=some r):Cg Tryz.prog 273 [Qv (pb n0 0)] [Mr n0 [(.int .i64 v0),n1,n2,n3,n4,n5,n6,n7,n8,n9,(.int .i64 v1)],At n1 (Va v2),At n2 (Va v3),At n3 (Va v4),At n4 (Va v5),Ow 3 n5 v6,Ow 4 n6 v7,Ow 4 n7 v8,Ow 4 n8 v9,Ow 3 n9 v10] (Rz (λx:Value=>T3 (Va r.1) (Qv x) (Va r.2.1)) (λx=>[Mr n0 [(.int .i64 v0),n1,n2,n3,n4,n5,n6,n7,n8,n9,(.int .i64 v1)],At n1 (Va v2),At n2 (Va v3),At n3 (Va v4),At n4 (Va v5),Ow 3 n5 v6,Ow 4 n6 v7,Ow 4 n7 v8,Ow 4 n8 r.2.2.1,Ow 3 n9 r.2.2.2.1,Ow 3 x r.2.2.2.2])):=by
 unfold m273 at hm
 refine eng Tryz.func273 (by kernel_rfl) I Tryz.ntmps273 I I λM W a hM hD s=>?_
 refine R 3 s λa w s=>?_
 refine R 1 s λa w s=>?_
 refine se (R 1 s λa w s=>?_)
 refine nilt (α:=Int) (d:=5) 1010 3 s I I λc3 s=>?_
 refine lB1 hm [0,2,3,4,1000,1001,1002,1003,1004,1005,1006,1007] s (λz1 z1c0=>[(5,Qv z1c0),(6,Va z1.1),(1008,Ow 4 n8 z1.2.1),(1009,Ow 3 n9 z1.2.2.1),(1010,Ow 3 z1c0 z1.2.2.2)]) ⟨c3,s.fi⟩ (λ_=>I) (λo2 hko2 n z1 a w hm s=>?_) λo2s hm a w s=>?_
 ·obtain ⟨z1c0,s⟩:=s
  unfold m273_l1 at hm
  refine se (R 2 s λa w s=>?_)
  refine cmt s hm (λhb hm=>?_) λhb hm=>?_
  ·refine se (wpIn_block ?_)
   obtain ⟨x4,hx4,hm⟩:=bk hm
   refine se (rg (ru 1 s λa w s=>cgv [1000,1001,1002,1003,1004,1005,1006,1007,1008,1009] [1000,1001,1002,1003,1004,1005,1006,1007,1008,1009] hM s qf I (oc (t I) on) vn vn (s301 f n0 n1 n2 n3 n4 n5 n6 n7 n8 n9 _ _ _ _ _ _ _ _ _ _ _ _ hx4.e) (kc I (kc I (kc I (kc I (kc I (kc I (kc I (kc I (kc I (kc I kn)))))))))) I (λ_=>I) I I I λy5 a w s=>ru 5 s λa w s=>nl ?_))
   obtain ⟨x6,hx6,hm⟩:=bk hm
   refine se (rg (ru 2 s λa w s=>apd (α:=Int) (k:=1010) s (t I) I (t I) hx6.e I I λc7 a w s=>ru 1 s λa w s=>nl ?_))
   refine R 2 s λa w s=>?_
   refine cmf s hm (λhb hm=>?_) λhb hm=>?_
   ·obtain ⟨x8,hx8,hm⟩:=bk hm
    refine se (rg (ru 1 s λa w s=>cgv [1010] [1010] hM s qf I (oc (t I) on) vn vn (s206 f c7 _ _ hx8.e) (kc I kn) I (λ_=>I) I I I λy9 a w s=>nl ?_))
    obtain ⟨x10,hx10,hm⟩:=bk hm
    refine se (rg (ru 2 s λa w s=>cgv [1010] [1010] hM s qf I (oc (t I) on) vn vn (s207 f c7 _ _ hx10.e) (kc I kn) I (λ_=>I) I I I λy11 a w s=>ru 3 s λa w s=>nl ?_))
    obtain rfl:=si hm
    replace hm:=hko2
    dsimp only at hm
    obtain rfl:=si hm
    refine wpIn_ret ?_
    exact rz [1000,1001,1002,1003,1004,1005,1006,1007,1008,1009,1010] y11 hM hD s I (rv3 (rt I) (rt I) (rt I)) (kc I (kc I (kc I (kc I (kc I (kc I (kc I (kc I (kc I (kc I (kc I kn))))))))))) I
   ·refine R0 3 s λa w s=>?_
    exact ⟨_,hm,⟨c7,s.fi⟩⟩
  ·refine wpIn_exit ?_
   exact ⟨_,(si hm).symm,⟨z1c0,s.fi⟩⟩
 ·obtain ⟨o2sc0,s⟩:=s
  dsimp only at hm
  refine R 3 s λa w s=>?_
  obtain rfl:=si hm
  refine nilt (α:=Int) (d:=3) 1012 3 s I I λc12 s=>?_
  refine wpIn_ret ?_
  exact rz [1000,1001,1002,1003,1004,1005,1006,1007,1008,1009,1012] c12 hM hD s I (rv3 (rt I) (rt I) (rt I)) (kc I (kc I (kc I (kc I (kc I (kc I (kc I (kc I (kc I (kc I (kc I kn))))))))))) I
def m250 (f:Nat) (v0:Control) (v1:State):Option (State×Int×(List Int)):=(m272 f v0 v1).bind λx2=>match x2 with | .inl x2=>(bif (x2 != (0:Int)) then some ((⟨([]:List Int),([]:List Bool),([]:List Bool),([]:List Bool),([]:List Int)⟩:State),x2,([]:List Int)) else none) | .inr x2=>(bif (x2.1 != (0:Int)) then some ((⟨([]:List Int),([]:List Bool),([]:List Bool),([]:List Bool),([]:List Int)⟩:State),x2.1,([]:List Int)) else (m273 f x2.2.1 x2.2.2.1 x2.2.2.2.1 x2.2.2.2.2.1 x2.2.2.2.2.2.1 x2.2.2.2.2.2.2.1 x2.2.2.2.2.2.2.2.1 x2.2.2.2.2.2.2.2.2.1 x2.2.2.2.2.2.2.2.2.2.1 x2.2.2.2.2.2.2.2.2.2.2.1 x2.2.2.2.2.2.2.2.2.2.2.2).bind λx5=>(bif (x5.2.1 != (0:Int)) then some ((⟨([]:List Int),([]:List Bool),([]:List Bool),([]:List Bool),([]:List Int)⟩:State),x5.2.1,([]:List Int)) else some ((⟨x2.2.2.2.2.2.2.2.1,x2.2.2.2.2.2.2.2.2.1,x2.2.2.2.2.2.2.2.2.2.1,x5.2.2.1,x5.2.2.2.1⟩:State),(0:Int),x5.2.2.2.2)))
theorem s250 (f:Nat) (v0:Control) (v1:State) (r:State×Int×(List Int)) (hm:m250 f v0 v1=some r):Sp Tryz.prog 250 [Va v0,Va v1] (Rz (λx:Value=>T3 (Va r.1) (Qv x) (Va r.2.1)) (λx=>[Ow 3 x r.2.2])):=by
 unfold m250 at hm
 refine ens Tryz.func250 (by kernel_rfl) I Tryz.ntmps250 I I λM W a hM hD s=>?_
 refine se (rg (ru 2 s λa w s=>aR 1000 s λb1 a w s=>ru 2 s λa w s=>nl ?_))
 obtain ⟨x2,hx2,hm⟩:=bk hm
 rcases x2 with x2 | x2
 ·dsimp only at hm
  refine se (rg (ru 2 s λa w s=>sq s (cc I (oc (t I) (oc (t I) on)) (smR (R:=(T2 (Qv (.pointer none)) (Va x2))) (s272 f _ _ _ hx2.e))) I λa w s=>ru 5 s λa w s=>nl ?_))
  refine se (R 2 s λa w s=>?_)
  refine cmf s hm (λhb hm=>?_) λhb hm=>?_
  ·refine se (rg (sq s (bla (L:=[(0,1),(1,1),(2,1),(3,1),(4,1)]) (z:=[nz,nz,nz,nz,nz]) (res:=[nz,nz,nz,nz,nz]) I (by kernel_rfl) (by kernel_rfl) pdn I I) I λa w s=>ru 1 s λa w s=>sra (K:=1000) (m:=[nz,nz,nz,nz,nz]) (cs':=[nz,nz,nz,nz,nz]) s (t I) I (t I) (by kernel_rfl) I I I λw s=>ru 2 s λa w s=>nl ?_))
   obtain rfl:=si hm
   refine shut (k:=1000) (x:=(⟨([]:List Int),([]:List Bool),([]:List Bool),([]:List Bool),([]:List Int)⟩:State)) s I (rpS30 (l:=([nz],[nz],[nz],[nz],[nz])) (rpn (α:=Int)) (rpn (α:=Bool)) (rpn (α:=Bool)) (rpn (α:=Bool)) (rpn (α:=Int))) λs=>?_
   refine nilt (α:=Int) (d:=5) 1001 3 s I I λc3 s=>?_
   refine wpIn_ret ?_
   exact rz [1001] c3 hM hD s I (rv3 (rc (K:=1000) I I) (rt I) (rt I)) (kc I kn) I
  ·cases hm
 ·dsimp only at hm
  refine se (rg (ru 2 s λa w s=>sqz [1001,1002,1003,1004,1005,1006,1007,1008,1009,1010] hM s (cc I (oc (t I) (oc (t I) on)) (smR (R:=(Rz (λx:Nat×Value×Value×Value×Value×Value×Value×Value×Value×Value=>T2 (Qv (pb x.1 0)) (Va x2.1)) (λx=>[Mr x.1 [(.int .i64 x2.2.1),x.2.1,x.2.2.1,x.2.2.2.1,x.2.2.2.2.1,x.2.2.2.2.2.1,x.2.2.2.2.2.2.1,x.2.2.2.2.2.2.2.1,x.2.2.2.2.2.2.2.2.1,x.2.2.2.2.2.2.2.2.2,(.int .i64 x2.2.2.1)],At x.2.1 (Va x2.2.2.2.1),At x.2.2.1 (Va x2.2.2.2.2.1),At x.2.2.2.1 (Va x2.2.2.2.2.2.1),At x.2.2.2.2.1 (Va x2.2.2.2.2.2.2.1),Ow 3 x.2.2.2.2.2.1 x2.2.2.2.2.2.2.2.1,Ow 4 x.2.2.2.2.2.2.1 x2.2.2.2.2.2.2.2.2.1,Ow 4 x.2.2.2.2.2.2.2.1 x2.2.2.2.2.2.2.2.2.2.1,Ow 4 x.2.2.2.2.2.2.2.2.1 x2.2.2.2.2.2.2.2.2.2.2.1,Ow 3 x.2.2.2.2.2.2.2.2.2 x2.2.2.2.2.2.2.2.2.2.2.2]))) (s272 f _ _ _ hx2.e))) (λ_=>I) I I λy3 a w s=>ru 5 s λa w s=>nl ?_))
  refine se (R 2 s λa w s=>?_)
  refine cmf s hm (λhb hm=>?_) λhb hm=>?_
  ·refine se (rg (sq s (bla (L:=[(0,1),(1,1),(2,1),(3,1),(4,1)]) (z:=[nz,nz,nz,nz,nz]) (res:=[nz,nz,nz,nz,nz]) I (by kernel_rfl) (by kernel_rfl) pdn I I) I λa w s=>ru 1 s λa w s=>sra (K:=1000) (m:=[nz,nz,nz,nz,nz]) (cs':=[nz,nz,nz,nz,nz]) s (t I) I (t I) (by kernel_rfl) I I I λw s=>ru 2 s λa w s=>nl ?_))
   obtain rfl:=si hm
   refine shut (k:=1000) (x:=(⟨([]:List Int),([]:List Bool),([]:List Bool),([]:List Bool),([]:List Int)⟩:State)) s I (rpS30 (l:=([nz],[nz],[nz],[nz],[nz])) (rpn (α:=Int)) (rpn (α:=Bool)) (rpn (α:=Bool)) (rpn (α:=Bool)) (rpn (α:=Int))) λs=>?_
   refine nilt (α:=Int) (d:=5) 1011 3 s I I λc4 s=>?_
   refine wpIn_ret ?_
   exact rz [1011] c4 hM hD s I (rv3 (rc (K:=1000) I I) (rt I) (rt I)) (kc I kn) I
  ·obtain ⟨x5,hx5,hm⟩:=bk hm
   refine se (rg (ru 1 s λa w s=>cgv [1001,1002,1003,1004,1005,1006,1007,1008,1009,1010] [1001,1002,1003,1004,1005,1006,1007,1008,1009,1010,1012] hM s qf I (oc (t I) on) vn vn (s273 f y3.1 y3.2.1 y3.2.2.1 y3.2.2.2.1 y3.2.2.2.2.1 y3.2.2.2.2.2.1 y3.2.2.2.2.2.2.1 y3.2.2.2.2.2.2.2.1 y3.2.2.2.2.2.2.2.2.1 y3.2.2.2.2.2.2.2.2.2 _ _ _ _ _ _ _ _ _ _ _ _ hx5.e) (kc I (kc I (kc I (kc I (kc I (kc I (kc I (kc I (kc I (kc I kn)))))))))) I (λ_=>I) I I I λy6 a w s=>ru 7 s λa w s=>nl ?_))
   refine se (R 2 s λa w s=>?_)
   refine cmf s hm (λhb hm=>?_) λhb hm=>?_
   ·refine se (rg (sq s (bla (L:=[(0,1),(1,1),(2,1),(3,1),(4,1)]) (z:=[nz,nz,nz,nz,nz]) (res:=[nz,nz,nz,nz,nz]) I (by kernel_rfl) (by kernel_rfl) pdn I I) I λa w s=>ru 1 s λa w s=>sra (K:=1000) (m:=[nz,nz,nz,nz,nz]) (cs':=[nz,nz,nz,nz,nz]) s (t I) I (t I) (by kernel_rfl) I I I λw s=>ru 2 s λa w s=>nl ?_))
    obtain rfl:=si hm
    refine shut (k:=1000) (x:=(⟨([]:List Int),([]:List Bool),([]:List Bool),([]:List Bool),([]:List Int)⟩:State)) s I (rpS30 (l:=([nz],[nz],[nz],[nz],[nz])) (rpn (α:=Int)) (rpn (α:=Bool)) (rpn (α:=Bool)) (rpn (α:=Bool)) (rpn (α:=Int))) λs=>?_
    refine nilt (α:=Int) (d:=5) 1013 3 s I I λc7 s=>?_
    refine wpIn_ret ?_
    exact rz [1013] c7 hM hD s I (rv3 (rc (K:=1000) I I) (rt I) (rt I)) (kc I kn) I
   ·refine se (rg (ru 3 s λa w s=>sq s (lra (K:=1001) (ds:=[y3.2.2.2.2.2.1,y3.2.2.2.2.2.2.1,y3.2.2.2.2.2.2.2.1,y3.2.2.2.2.2.2.2.2.1,y3.2.2.2.2.2.2.2.2.2]) State (t I) I I I I) I λa w s=>ru 1 s λa w s=>sra (K:=1000) (m:=[y3.2.2.2.2.2.1,y3.2.2.2.2.2.2.1,y3.2.2.2.2.2.2.2.1,y3.2.2.2.2.2.2.2.2.1,y3.2.2.2.2.2.2.2.2.2]) (cs':=[y3.2.2.2.2.2.1,y3.2.2.2.2.2.2.1,y3.2.2.2.2.2.2.2.1,y3.2.2.2.2.2.2.2.2.1,y3.2.2.2.2.2.2.2.2.2]) s (t I) I (t I) (by kernel_rfl) I I I λw s=>ru 2 s λa w s=>nl ?_))
    obtain rfl:=si hm
    refine fzk (α:=Int) (k:=1006) hM s I λs=>?_
    refine fzk (α:=Bool) (k:=1007) hM s I λs=>?_
    refine fzk (α:=Bool) (k:=1008) hM s I λs=>?_
    refine fzk (α:=Bool) (k:=1009) hM s I λs=>?_
    refine fzk (α:=Int) (k:=1010) hM s I λs=>?_
    refine shut (k:=1000) (x:=(⟨x2.2.2.2.2.2.2.2.1,x2.2.2.2.2.2.2.2.2.1,x2.2.2.2.2.2.2.2.2.2.1,x5.2.2.1,x5.2.2.2.1⟩:State)) s I (rpS30 (l:=([y3.2.2.2.2.2.1],[y3.2.2.2.2.2.2.1],[y3.2.2.2.2.2.2.2.1],[y3.2.2.2.2.2.2.2.2.1],[y3.2.2.2.2.2.2.2.2.2])) (rpz (k:=1006) I) (rpz (k:=1007) I) (rpz (k:=1008) I) (rpz (k:=1009) I) (rpz (k:=1010) I)) λs=>?_
    refine wpIn_ret ?_
    exact rz [1012] y6 hM hD s I (rv3 (rc (K:=1000) I I) (rt I) (rt I)) (kc I kn) I
def m251 (f:Nat) (v0:Control) (v1:State) (v2:Int):Option (Bool):=(bif (decide (v2 < (wr ((2:Int) * v0.Actuators)))) then (idx v1.Ends (wr (v2.tdiv (2:Int)))).bind λx1=>(idx [(0:Int),(2:Int)] (v2.tmod (2:Int))).bind λx2=>some (x1 == x2) else (bif (decide ((wr (v2 - (wr ((2:Int) * v0.Actuators)))) < (v1.Inputs.length:Int))) then (idx v1.Inputs (wr (v2 - (wr ((2:Int) * v0.Actuators))))).bind λx3=>some x3 else (idx v1.Values (wr ((wr (v2 - (wr ((2:Int) * v0.Actuators)))) - (v1.Inputs.length:Int)))).bind λx4=>some x4))
theorem s251 (f:Nat) (v0:Control) (v1:State) (v2:Int) (r:Bool) (hm:m251 f v0 v1 v2=some r):Sp Tryz.prog 251 [Va v0,Va v1,Va v2] (Va r):=by
 unfold m251 at hm
 refine ens Tryz.func251 (by kernel_rfl) I Tryz.ntmps251 I I λM W a hM hD s=>?_
 refine R 3 s λa w s=>?_
 refine se (R 5 s λa w s=>?_)
 refine cmf s hm (λhb hm=>?_) λhb hm=>?_
 ·obtain ⟨x1,hx1,hm⟩:=bk hm
  obtain ⟨x2,hx2,hm⟩:=bk hm
  refine se (flow s (m:=11) (.cons (.cons (.cons (.cons (.cons (.cons (.cons (.cons (.cons (.cons (.cons .nil I (fa (f:=State.Ends) (t I))) I (ld (t I))) I (mv (t I))) I (qu (t I) ci (by decide))) I (ix (t I) (t I) hx1.e)) I (ld (t I))) I (bly (e:=3) (len:=2) (z:=[(.int .i64 (0:Int)),(.int .i64 (0:Int))]) (cs:=[(.int .i64 (0:Int)),(.int .i64 (2:Int))]) I (cd1 (iq ci) (ocr I) (cd1 (iq ci) (ocr I) cd0)) (by kernel_rfl) (by kernel_rfl) (by kernel_rfl) I)) I (mv (t I))) I (rm (t I) ci (by decide))) I (aix (e:=3) (xs:=[(0:Int),(2:Int)]) (t I) (t I) (by kernel_rfl) (by kernel_rfl) (by kernel_rfl) I I hx2.e)) I (eq (t I) (t I))) (by kernel_rfl) I I λa w s=>sq s (sa (t I)) I λa w s=>nl ?_)
  cases hm;exact rT hD s I I
 ·refine R 6 s λa w s=>?_
  refine se (R 5 s λa w s=>?_)
  refine cmf s hm (λhb hm=>?_) λhb hm=>?_
  ·refine se (rg (ru 3 s λa w s=>iB s hm λx3 hm a w s=>ru 2 s λa w s=>nl ?_))
   cases hm;exact rT hD s I I
  ·refine se (rg (ru 7 s λa w s=>iB s hm λx4 hm a w s=>ru 2 s λa w s=>nl ?_))
   cases hm;exact rT hD s I I
instance {f:Nat} {v0:Control} {v1:State} {v2:Int}:Cn Tryz.prog 251 (m251 f v0 v1 v2) [Va v0,Va v1,Va v2] (λr:Bool=>(Va r)):=⟨s251 f v0 v1 v2⟩
def m135 (f:Nat) (v0:State):Option ((List Int)×(List Bool)×(List Bool)×(List Bool)×(List Int)):=(m128 f v0.Ends).bind λx2=>(m129 f v0.Valves).bind λx3=>(m129 f v0.Inputs).bind λx4=>(m129 f v0.Values).bind λx5=>(m128 f v0.Timers).bind λx6=>some (x2,x3,x4,x5,x6)
theorem s135 (f:Nat) (v0:State) (r:(List Int)×(List Bool)×(List Bool)×(List Bool)×(List Int)) (hm:m135 f v0=some r):Sp Tryz.prog 135 [Va v0] (Rz (λx:Value×Value×Value×Value×Value=>Qa [x.1,x.2.1,x.2.2.1,x.2.2.2.1,x.2.2.2.2]) (λx=>[Ow 3 x.1 r.1,Ow 4 x.2.1 r.2.1,Ow 4 x.2.2.1 r.2.2.1,Ow 4 x.2.2.2.1 r.2.2.2.1,Ow 3 x.2.2.2.2 r.2.2.2.2])):=by
 unfold m135 at hm
 refine ens Tryz.func135 (by kernel_rfl) I Tryz.ntmps135 I I λM W a hM hD s=>?_
 refine se (rg (ru 1 s λa w s=>aR 1000 s λb1 a w s=>nl ?_))
 obtain ⟨x2,hx2,hm⟩:=bk hm
 obtain ⟨x3,hx3,hm⟩:=bk hm
 obtain ⟨x4,hx4,hm⟩:=bk hm
 obtain ⟨x5,hx5,hm⟩:=bk hm
 obtain ⟨x6,hx6,hm⟩:=bk hm
 refine se (fW 15 s (by kernel_rfl) I I λa w s=>opz (d:=5) [1006] s I (λ_=>I) I λy7 s=>opz (d:=8) [1007] s I (λ_=>I) I λy8 s=>opz (d:=11) [1008] s I (λ_=>I) I λy9 s=>opz (d:=14) [1009] s I (λ_=>I) I λy10 s=>opz (d:=17) [1010] s I (λ_=>I) I λy11 s=>sq s (bla (L:=[(0,1),(1,1),(2,1),(3,1),(4,1)]) (z:=[nz,nz,nz,nz,nz]) (res:=[y7,y8,y9,y10,y11]) I (by kernel_rfl) (by kernel_rfl) (pdq (t I) (oco (k:=1006) I) (pdq (t I) (oco (k:=1007) I) (pdq (t I) (oco (k:=1008) I) (pdq (t I) (oco (k:=1009) I) (pdq (t I) (oco (k:=1010) I) pdn))))) I I) I λa w s=>sra (K:=1000) (m:=[y7,y8,y9,y10,y11]) (cs':=[y7,y8,y9,y10,y11]) s (t I) I (t I) (by kernel_rfl) I I I λw s=>nl ?_)
 obtain rfl:=si hm
 refine wpIn_ret ?_
 exact rz [1006,1007,1008,1009,1010] (y7,y8,y9,y10,y11) hM hD s I (rv1 (rca (K:=1000) I I (by kernel_rfl) I (by kernel_rfl))) (kc I (kc I (kc I (kc I (kc I kn))))) I
def m204_l1 (f:Nat) (v0:Control) (x2:State×Int×(List Int)):Nat→(Int×(List Int)×(List Int)×(List Bool))→Option (Int×(List Int)×(List Int)×(List Bool))
 | 0,_=>none
 | n+1,z9=>(bif (decide (z9.1 < v0.Actuators)) then (idx v0.Plus z9.1).bind λx11=>(m251 f v0 x2.1 x11).bind λx12=>(idx v0.Minus z9.1).bind λx13=>(m251 f v0 x2.1 x13).bind λx14=>(bif (x12 && x14) then (app z9.2.1 ([(wr ((wr ((wr ((wr ((2:Int) * v0.Actuators)) + (v0.Inputs.length:Int))) + (v0.Signals.length:Int))) + z9.1))]:List Int)).bind λx16=>some (x16,z9.2.2.2) else (bif (x12 || x14) then (idx z9.2.2.2 z9.1).bind λx19=>some (z9.2.2.2.set z9.1.toNat x12) else some z9.2.2.2).bind λz18=>some (z9.2.1,z18)).bind λz15=>(idx z9.2.2.1 z9.1).bind λx20=>(idx z15.2 z9.1).bind λx22=>(bif x22 then some ((2:Int),(1:Int)) else some ((0:Int),(3:Int))).bind λz23=>(bif ((x20 != z23.1) && (x20 != z23.2)) then (idx z9.2.2.1 z9.1).bind λx25=>some (z9.2.2.1.set z9.1.toNat z23.2) else some z9.2.2.1).bind λz24=>m204_l1 f v0 x2 n ((wr (z9.1 + (1:Int))),z15.1,z24,z15.2) else some (z9.1,z9.2.1,z9.2.2.1,z9.2.2.2))
def m204 (f:Nat) (v0:Control) (v1:State):Option (State×Int×(List Int)):=(m250 f v0 v1).bind λx2=>(bif (x2.2.1 != (0:Int)) then some ((⟨([]:List Int),([]:List Bool),([]:List Bool),([]:List Bool),([]:List Int)⟩:State),x2.2.1,([]:List Int)) else (m135 f x2.1).bind λx6=>(m204_l1 f v0 x2 f ((0:Int),x2.2.2,x6.1,x6.2.1)).bind λo10s=>some ((⟨o10s.2.2.1,o10s.2.2.2,x6.2.2.1,x6.2.2.2.1,x6.2.2.2.2⟩:State),(0:Int),o10s.2.1))
theorem s204 (f:Nat) (v0:Control) (v1:State) (r:State×Int×(List Int)) (hm:m204 f v0 v1=some r):Sp Tryz.prog 204 [Va v0,Va v1] (Rz (λx:Value=>T3 (Va r.1) (Qv x) (Va r.2.1)) (λx=>[Ow 3 x r.2.2])):=by
 unfold m204 at hm
 refine ens Tryz.func204 (by kernel_rfl) I Tryz.ntmps204 I I λM W a hM hD s=>?_
 refine se (rg (ru 2 s λa w s=>aR 1000 s λb1 a w s=>ru 2 s λa w s=>nl ?_))
 obtain ⟨x2,hx2,hm⟩:=bk hm
 refine se (rg (ru 2 s λa w s=>sqz [1001] hM s (cc I (oc (t I) (oc (t I) on)) (s250 f _ _ _ hx2.e)) (λ_=>I) I I λy3 a w s=>ru 4 s λa w s=>aR 1002 s λb4 a w s=>sW s I λw s=>ru 2 s λa w s=>nl ?_))
 refine se (R 2 s λa w s=>?_)
 refine cmf s hm (λhb hm=>?_) λhb hm=>?_
 ·refine se (rg (sq s (bla (L:=[(0,1),(1,1),(2,1),(3,1),(4,1)]) (z:=[nz,nz,nz,nz,nz]) (res:=[nz,nz,nz,nz,nz]) I (by kernel_rfl) (by kernel_rfl) pdn I I) I λa w s=>ru 1 s λa w s=>sra (K:=1000) (m:=[nz,nz,nz,nz,nz]) (cs':=[nz,nz,nz,nz,nz]) s (t I) I (t I) (by kernel_rfl) I I I λw s=>ru 2 s λa w s=>nl ?_))
  obtain rfl:=si hm
  refine shut (k:=1000) (x:=(⟨([]:List Int),([]:List Bool),([]:List Bool),([]:List Bool),([]:List Int)⟩:State)) s I (rpS30 (l:=([nz],[nz],[nz],[nz],[nz])) (rpn (α:=Int)) (rpn (α:=Bool)) (rpn (α:=Bool)) (rpn (α:=Bool)) (rpn (α:=Int))) λs=>?_
  refine nilt (α:=Int) (d:=5) 1003 3 s I I λc5 s=>?_
  refine wpIn_ret ?_
  exact rz [1003] c5 hM hD s I (rv3 (rc (K:=1000) I I) (rt I) (rt I)) (kc I kn) I
 ·obtain ⟨x6,hx6,hm⟩:=bk hm
  refine se (rg (ru 1 s λa w s=>sqz [1004,1005,1006,1007,1008] hM s (cc I (oc (t I) on) (s135 f _ _ hx6.e)) (λ_=>I) I I λy7 a w s=>aR 1009 s λb8 a w s=>sra (K:=1009) (m:=[y7.1,y7.2.1,y7.2.2.1,y7.2.2.2.1,y7.2.2.2.2]) (cs':=[y7.1,y7.2.1,y7.2.2.1,y7.2.2.2.1,y7.2.2.2.2]) s (t I) I (t I) (by kernel_rfl) I I I λw s=>nl ?_))
  refine R 12 s λa w s=>?_
  refine se (R 3 s λa w s=>?_)
  refine lA1 hm [0,1,2,3,4,5,6,7,9,10,11,42,1000,1002,1009,1006,1007,1008] s (λz9 z9c0=>[(8,Qv z9c0),(43,Va z9.1),(1001,Ow 3 z9c0 z9.2.1),(1004,Ow 3 y7.1 z9.2.2.1),(1005,Ow 4 y7.2.1 z9.2.2.2)]) ⟨y3,s.fi⟩ (λ_=>I) (λo10s hko10 n z9 a w hm s=>?_) λo10s hm a w s=>?_
  ·obtain ⟨z9c0,s⟩:=s
   unfold m204_l1 at hm
   refine R 1 s λa w s=>?_
   refine se (cmt s hm (λhb hm=>?_) λhb hm=>?_)
   ·refine se (wpIn_block ?_)
    refine R 2 s λa w s=>?_
    obtain ⟨x11,hx11,hm⟩:=bk hm
    obtain ⟨x12,hx12,hm⟩:=bk hm
    obtain ⟨x13,hx13,hm⟩:=bk hm
    obtain ⟨x14,hx14,hm⟩:=bk hm
    refine se (fW 16 s (by kernel_rfl) I I λa w s=>ru 2 s λa w s=>nl ?_)
    refine se (wpIn_block ?_)
    refine R 5 s λa w s=>?_
    obtain ⟨z15,hz15,hkz15⟩:=bs hm
    refine cP1 [0,1,2,3,4,5,6,7,9,10,11,12,13,14,42,43,1000,1002,1009,1004,1006,1007,1008] s (λz15c0=>[(8,Qv z15c0),(1001,Ow 3 z15c0 z15.1),(1005,Ow 4 y7.2.1 z15.2)]) ?_ λa w s=>?_
    ·refine cm s I hz15 (λhb hm=>?_) (λhb hm=>?_)
     ·obtain ⟨x16,hx16,hm⟩:=bk hm
      refine rg (ru 5 s λa w s=>apd (α:=Int) (k:=1001) s (t I) I (t I) hx16.e I I λc17 a w s=>ru 1 s λa w s=>nl ?_)
      obtain rfl:=si hm
      exact ⟨c17,s.fi⟩
     ·refine R 5 s λa w s=>?_
      obtain ⟨z18,hz18,hkz18⟩:=bs hm
      refine cP [0,1,2,3,4,5,6,7,8,9,10,11,12,13,14,42,43,1000,1002,1001,1009,1004,1006,1007,1008] s [(1005,Ow 4 y7.2.1 z18)] ?_ λa w s=>?_
      ·refine cm s I hz18 (λhb hm=>?_) (λhb hm=>?_)
       ·obtain ⟨x19,hx19,hm⟩:=bk hm
        refine rg (ru 5 s λa w s=>stq (k:=1005) s (t I) I (idxg hx19.e) (t I) λw s=>nl ?_)
        obtain rfl:=si hm
        exact s.fi
       ·refine wpIn_skip ?_
        obtain rfl:=si hm
        exact s.fi
      ·replace hm:=hkz18
       obtain rfl:=si hm
       exact ⟨z9c0,s.fi⟩
    ·obtain ⟨z15c0,s⟩:=s
     replace hm:=hkz15
     obtain ⟨x20,hx20,hm⟩:=bk hm
     refine se (rg (ru 5 s λa w s=>sq s (bly (e:=3) (len:=2) (z:=[(.int .i64 (0:Int)),(.int .i64 (0:Int))]) (cs:=[(.int .i64 (0:Int)),(.int .i64 (3:Int))]) I (cd1 (iq ci) (ocr I) (cd1 (iq ci) (ocr I) cd0)) (by kernel_rfl) (by kernel_rfl) (by kernel_rfl) I) I λa w s=>aR 1011 s λb21 a w s=>ru 1 s λa w s=>sra (K:=1011) (m:=[(.int .i64 (0:Int)),(.int .i64 (3:Int))]) (cs':=[(.int .i64 (0:Int)),(.int .i64 (3:Int))]) s (t I) I (t I) (by kernel_rfl) I I I λw s=>nl ?_))
     refine se ?_
     obtain ⟨x22,hx22,hm⟩:=bk hm
     refine R 5 s λa w s=>?_
     obtain ⟨z23,hz23,hkz23⟩:=bs hm
     refine cP [0,1,2,3,4,5,6,7,8,9,10,11,12,13,14,15,16,42,43,1000,1002,1001,1009,1004,1005,1006,1007,1008] s [(1011,Mr b21 [(.int .i64 z23.1),(.int .i64 z23.2)])] ?_ λa w s=>?_
     ·refine cm s I hz23 (λhb hm=>?_) (λhb hm=>?_)
      ·refine rg (sq s (bly (e:=3) (len:=2) (z:=[(.int .i64 (0:Int)),(.int .i64 (0:Int))]) (cs:=[(.int .i64 (2:Int)),(.int .i64 (1:Int))]) I (cd1 (iq ci) (ocr I) (cd1 (iq ci) (ocr I) cd0)) (by kernel_rfl) (by kernel_rfl) (by kernel_rfl) I) I λa w s=>sra (K:=1011) (m:=[(.int .i64 (2:Int)),(.int .i64 (1:Int))]) (cs':=[(.int .i64 (2:Int)),(.int .i64 (1:Int))]) s (t I) I (t I) (by kernel_rfl) I I I λw s=>nl ?_)
       obtain rfl:=si hm
       exact s.fi
      ·refine wpIn_skip ?_
       obtain rfl:=si hm
       exact s.fi
     ·replace hm:=hkz23
      refine se (rg (ru 1 s λa w s=>sq s (iax (e:=3) (len:=2) (j:=0) (t I) ci (by kernel_rfl) (by kernel_rfl) (by kernel_rfl)) I λa w s=>ru 1 s λa w s=>sq s (ne (t I) (qi (t I))) I λa w s=>ru 2 s λa w s=>sg s I I (λhb=>(iax (e:=3) (len:=2) (j:=1) (t I) ci (by kernel_rfl) (by kernel_rfl) (by kernel_rfl))) I λa w s=>ru 1 s λa w s=>sg s I I (λhb=>(ne (tg I hb) (qi (tg I hb)))) I λa w s=>ru 1 s λa w s=>nl ?_))
      obtain ⟨z24,hz24,hkz24⟩:=bs hm
      refine cP [0,1,2,3,4,5,6,7,8,9,10,11,12,13,14,15,16,42,43,1000,1002,1001,1009,1005,1006,1007,1008,1011] s [(1004,Ow 3 y7.1 z24)] ?_ λa w s=>?_
      ·refine cm s I hz24 (λhb hm=>?_) (λhb hm=>?_)
       ·obtain ⟨x25,hx25,hm⟩:=bk hm
        refine rg (ru 3 s λa w s=>sq s (iax (e:=3) (len:=2) (j:=1) (t I) ci (by kernel_rfl) (by kernel_rfl) (by kernel_rfl)) I λa w s=>ru 2 s λa w s=>stq (k:=1004) s (t I) I (idxg hx25.e) (qi (t I)) λw s=>nl ?_)
        obtain rfl:=si hm
        exact s.fi
       ·refine wpIn_skip ?_
        obtain rfl:=si hm
        exact s.fi
      ·replace hm:=hkz24
       refine R0 2 s λa w s=>?_
       exact ⟨_,hm,⟨z15c0,s.fi⟩⟩
   ·refine wpIn_exit ?_
    obtain rfl:=si hm
    exact ⟨z9c0,s.fi⟩
  ·obtain ⟨o10sc0,s⟩:=s
   refine se (rg (sq s (lra (K:=1009) (ds:=[y7.1,y7.2.1,y7.2.2.1,y7.2.2.2.1,y7.2.2.2.2]) State (t I) I I I I) I λa w s=>ru 1 s λa w s=>sra (K:=1000) (m:=[y7.1,y7.2.1,y7.2.2.1,y7.2.2.2.1,y7.2.2.2.2]) (cs':=[y7.1,y7.2.1,y7.2.2.1,y7.2.2.2.1,y7.2.2.2.2]) s (t I) I (t I) (by kernel_rfl) I I I λw s=>ru 2 s λa w s=>nl ?_))
   obtain rfl:=si hm
   refine fzk (α:=Int) (k:=1004) hM s I λs=>?_
   refine fzk (α:=Bool) (k:=1005) hM s I λs=>?_
   refine fzk (α:=Bool) (k:=1006) hM s I λs=>?_
   refine fzk (α:=Bool) (k:=1007) hM s I λs=>?_
   refine fzk (α:=Int) (k:=1008) hM s I λs=>?_
   refine shut (k:=1000) (x:=(⟨o10s.2.2.1,o10s.2.2.2,x6.2.2.1,x6.2.2.2.1,x6.2.2.2.2⟩:State)) s I (rpS30 (l:=([y7.1],[y7.2.1],[y7.2.2.1],[y7.2.2.2.1],[y7.2.2.2.2])) (rpz (k:=1004) I) (rpz (k:=1005) I) (rpz (k:=1006) I) (rpz (k:=1007) I) (rpz (k:=1008) I)) λs=>?_
   refine wpIn_ret ?_
   exact rz [1001] o10sc0 hM hD s I (rv3 (rc (K:=1000) I I) (rt I) (rt I)) (kc I kn) I
def m186 (f:Nat) (v0:Control) (v1:State):Option (Bool×Int):=(m203 f v0 v1).bind λx1=>(bif (x1 != (0:Int)) then some (false,x1) else (m204 f v0 v1).bind λx2=>(bif (x2.2.1 == (0:Int)) then (m120 f x2.1 v1).bind λx5=>some x5 else some false).bind λr6=>some (r6,(0:Int)))
theorem s186 (f:Nat) (v0:Control) (v1:State) (r:Bool×Int) (hm:m186 f v0 v1=some r):Sp Tryz.prog 186 [Va v0,Va v1] (T2 (Va r.1) (Va r.2)):=by
 unfold m186 at hm
 refine ens Tryz.func186 (by kernel_rfl) I Tryz.ntmps186 I I λM W a hM hD s=>?_
 refine R 4 s λa w s=>?_
 refine se (se (rg (ru 2 s λa w s=>cB s hm (s203 f _ _) λx1 hm a w s=>ru 1 s λa w s=>nl ?_)))
 refine R 2 s λa w s=>?_
 refine cmf s hm (λhb hm=>?_) λhb hm=>?_
 ·refine R 3 s λa w s=>?_
  cases hm;exact rU hD s I I
 ·obtain ⟨x2,hx2,hm⟩:=bk hm
  refine se (rg (ru 2 s λa w s=>sqz [1000] hM s (cc I (oc (t I) (oc (t I) on)) (s204 f _ _ _ hx2.e)) (λ_=>I) I I λy3 a w s=>ru 4 s λa w s=>aR 1001 s λb4 a w s=>sW s I λw s=>ru 2 s λa w s=>nl ?_))
  obtain ⟨r6,hr6,hm⟩:=bs hm
  have gr6:=gT hr6
  have er6:=gF hr6
  obtain ⟨x5,hx5,gr6⟩:=gk gr6
  have:=pka gr6 er6
  refine R 9 s λa w s=>?_
  cases hm;exact rU hD s I I
def m110 (f:Nat) (v0:Control) (v1:State):Option (Int):=(m186 f v0 v1).bind λx1=>(bif (x1.2 != (0:Int)) then some x1.2 else (bif (!x1.1) then some (14:Int) else some (0:Int)))
theorem s110 (f:Nat) (v0:Control) (v1:State) (r:Int) (hm:m110 f v0 v1=some r):Sp Tryz.prog 110 [Va v0,Va v1] (Va r):=by
 unfold m110 at hm
 refine ens Tryz.func110 (by kernel_rfl) I Tryz.ntmps110 I I λM W a hM hD s=>?_
 refine R 3 s λa w s=>?_
 refine se (rg (ru 2 s λa w s=>cB s hm (s186 f _ _) λx1 hm a w s=>ru 5 s λa w s=>nl ?_))
 refine se (wpIn_block ?_)
 refine R 3 s λa w s=>?_
 refine cM s hm (λhb hm=>?_) λhb hm=>?_
 ·refine R 2 s λa w s=>?_
  cases hm;exact rT hD s I I
 ·refine R 3 s λa w s=>?_
  refine cmf s hm (λhb hm=>?_) λhb hm=>?_
  ·refine R 1 s λa w s=>?_
   cases hm;exact rT hD s I I
  ·refine R 1 s λa w s=>?_
   cases hm;exact rT hD s I I
def m188_l2 {σ:Type} (gy:Event→σ→Option (Bool×σ)) (v0:State):Nat→(Int×σ)→Option (Lo (Int×σ) (σ))
 | 0,_=>none
 | n+1,z4=>(bif (decide (z4.1 < (v0.Timers.length:Int))) then (idx v0.Timers z4.1).bind λx6=>bif (x6 == (1:Int)) then ((gy (⟨(1:Int),z4.1,false⟩:Event) z4.2).bind λx7=>(bif (bif (x6 == (1:Int)) then (!x7.1) else false) then some (.ret x7.2) else m188_l2 gy v0 n ((wr (z4.1 + (1:Int))),x7.2))) else (bif false then some (.ret z4.2) else m188_l2 gy v0 n ((wr (z4.1 + (1:Int))),z4.2)) else some (.brk (z4.1,z4.2)))
def m188_l1 {σ:Type} (gy:Event→σ→Option (Bool×σ)) (v0:State):Nat→(Int×σ)→Option (Lo (Int×σ) (σ))
 | 0,_=>none
 | n+1,z1=>(bif (decide (z1.1 < (v0.Ends.length:Int))) then (idx v0.Ends z1.1).bind λx3=>bif ((x3 == (1:Int)) || (x3 == (3:Int))) then ((gy (⟨(0:Int),z1.1,false⟩:Event) z1.2).bind λx4=>(bif (bif ((x3 == (1:Int)) || (x3 == (3:Int))) then (!x4.1) else false) then some (.ret x4.2) else m188_l1 gy v0 n ((wr (z1.1 + (1:Int))),x4.2))) else (bif false then some (.ret z1.2) else m188_l1 gy v0 n ((wr (z1.1 + (1:Int))),z1.2)) else some (.brk (z1.1,z1.2)))
def m188 {σ:Type} (gy:Event→σ→Option (Bool×σ)) (f:Nat) (v0:State) (v1:σ):Option (σ):=((m188_l1 gy v0 f ((0:Int),v1)).bind λo2=>match o2 with | .brk o2s=>((m188_l2 gy v0 f ((0:Int),o2s.2)).bind λo5=>match o5 with | .brk o5s=>some o5s.2 | .ret r=>some r) | .ret r=>some r)
theorem s188 {σ:Type} (E:σ→Ent) [hE:∀ s,Gh (E s)] (n0:Nat) (gy:Event→σ→Option (Bool×σ)) (ihy:∀ x s r,gy x s=some r→Cy Tryz.prog n0 [Va x] [E s] (Rz (λ_:Unit=>Va r.1) λ_=>[E r.2])) (f:Nat) (v0:State) (v1:σ) (r:σ) (hm:m188 gy f v0 v1=some r):Cg Tryz.prog 188 [Qv (yv n0),Pt v0] [E v1] (Rz (λx:Unit=>Dd) (λx=>[E r])):=by
 unfold m188 at hm
 refine eng Tryz.func188 (by kernel_rfl) I Tryz.ntmps188 I I λM W a hM hD s=>?_
 refine se (R 4 s λa w s=>?_)
 refine lB hm [0,1,8,9] s (λz1=>[(10,Va z1.1),(1000,E z1.2)]) s.fi (λ_=>I) (λo2 hko2 n z1 a w hm s=>?_) λo2s hm a w s=>?_
 ·unfold m188_l1 at hm
  refine R 1 s λa w s=>?_
  refine se (cmt s hm (λhb hm=>?_) λhb hm=>?_)
  ·refine se (wpIn_block ?_)
   refine se (rg (ru 1 s λa w s=>iB s hm λx3 hm a w s=>ru 3 s λa w s=>nl ?_))
   rcases bfc hm with ⟨hb0,hm⟩ | ⟨hb0,hm⟩
   ·obtain ⟨x4,hx4,hm⟩:=bk hm
    refine se (rg (ru 7 s λa w s=>gon s I I hb0 <| sq s (mvq (t I)) I λa w s=>gon s I I hb0 <| sq s (mv (t I)) I λa w s=>gon s I I hb0 <| sq s (bl79_0_1 ci (t I)) I λa w s=>gon s I I hb0 <| cgy [1000] [1000] hM s (t I) I (oc (t I) on) (ihy _ _ _ hx4.e) (kc I kn) I (λ_=>I) I I I λy5 a w s=>gon s I I hb0 <| sq s (nt (t I)) I λa w s=>sq s (pk (t I) (t I) cb) I λa w s=>nl ?_))
    refine cmf s hm (λhb hm=>?_) λhb hm=>?_
    ·obtain rfl:=si hm
     replace hm:=hko2
     dsimp only at hm
     obtain rfl:=si hm
     refine wpIn_ret ?_
     exact rz [1000] () hM hD s I rv0 (kc I kn) I
    ·refine R0 2 s λa w s=>?_
     exact ⟨_,hm,s.fi⟩
   ·refine se (rg (ru 7 s λa w s=>goff s I I hb0 I λa w s=>goff s I I hb0 I λa w s=>goff s I I hb0 I λa w s=>goff s I I hb0 I λa w s=>goff s I I hb0 I λa w s=>sq s (pkF (t I) hb0 cb) I λa w s=>nl ?_))
    refine cmf s hm (λhb hm=>?_) λhb hm=>?_
    ·obtain rfl:=si hm
     replace hm:=hko2
     dsimp only at hm
     obtain rfl:=si hm
     refine wpIn_ret ?_
     exact rz [1000] () hM hD s I rv0 (kc I kn) I
    ·refine R0 2 s λa w s=>?_
     exact ⟨_,hm,s.fi⟩
  ·refine wpIn_exit ?_
   exact ⟨_,(si hm).symm,s.fi⟩
 ·dsimp only at hm
  refine R 4 s λa w s=>?_
  refine lB hm [0,1,8,9,10,30,31] s (λz4=>[(32,Va z4.1),(1000,E z4.2)]) s.fi (λ_=>I) (λo5 hko5 n z4 a w hm s=>?_) λo5s hm a w s=>?_
  ·unfold m188_l2 at hm
   refine R 1 s λa w s=>?_
   refine se (cmt s hm (λhb hm=>?_) λhb hm=>?_)
   ·refine se (wpIn_block ?_)
    refine se (rg (ru 1 s λa w s=>iB s hm λx6 hm a w s=>ru 3 s λa w s=>nl ?_))
    rcases bfc hm with ⟨hb0,hm⟩ | ⟨hb0,hm⟩
    ·obtain ⟨x7,hx7,hm⟩:=bk hm
     refine se (rg (ru 3 s λa w s=>gon s I I hb0 <| sq s (mvq (t I)) I λa w s=>gon s I I hb0 <| sq s (mv (t I)) I λa w s=>gon s I I hb0 <| sq s (bl79_0_1 ci (t I)) I λa w s=>gon s I I hb0 <| cgy [1000] [1000] hM s (t I) I (oc (t I) on) (ihy _ _ _ hx7.e) (kc I kn) I (λ_=>I) I I I λy8 a w s=>gon s I I hb0 <| sq s (nt (t I)) I λa w s=>sq s (pk (t I) (t I) cb) I λa w s=>nl ?_))
     refine cmf s hm (λhb hm=>?_) λhb hm=>?_
     ·obtain rfl:=si hm
      replace hm:=hko5
      dsimp only at hm
      obtain rfl:=si hm
      refine wpIn_ret ?_
      exact rz [1000] () hM hD s I rv0 (kc I kn) I
     ·refine R0 2 s λa w s=>?_
      exact ⟨_,hm,s.fi⟩
    ·refine se (rg (ru 3 s λa w s=>goff s I I hb0 I λa w s=>goff s I I hb0 I λa w s=>goff s I I hb0 I λa w s=>goff s I I hb0 I λa w s=>goff s I I hb0 I λa w s=>sq s (pkF (t I) hb0 cb) I λa w s=>nl ?_))
     refine cmf s hm (λhb hm=>?_) λhb hm=>?_
     ·obtain rfl:=si hm
      replace hm:=hko5
      dsimp only at hm
      obtain rfl:=si hm
      refine wpIn_ret ?_
      exact rz [1000] () hM hD s I rv0 (kc I kn) I
     ·refine R0 2 s λa w s=>?_
      exact ⟨_,hm,s.fi⟩
   ·refine wpIn_exit ?_
    exact ⟨_,(si hm).symm,s.fi⟩
  ·dsimp only at hm
   obtain rfl:=si hm
   exact rze [1000] () hM hD s I rv0 (kc I kn) I
def m187_r1 :Event→((List Event))×Nat→Option (Bool×(((List Event))×Nat)):=λu5 z3=>match z3 with
 | (z3,0)=>(app z3 ([u5]:List Event)).bind λx7=>some (true,(x7,0))
 | (_,_ + 1)=>none
def m187 (f:Nat) (v0:State):Option ((List Event)):=(m188 m187_r1 f v0 (([]:List Event),0)).bind λo9=>(bif o9.2 == 0 then some o9.1 else none)
theorem s187 (f:Nat) (n0:Value) (v0:State) (r:(List Event)) (hm:m187 f v0=some r):Cg Tryz.prog 187 [Qv nz,Qv (fv 188 [] [n0])] [At n0 (Pt v0)] (Rz (λx:Value=>Qv x) (λx=>[At n0 (Pt v0),Ow 79 x r])):=by
 unfold m187 at hm
 refine eng Tryz.func187 (by kernel_rfl) I Tryz.ntmps187 I I λM W a hM hD s=>?_
 refine se (rg (sqr 1001 s (bxr (t I) (ocr I)) I I λb1 a w s=>ru 1 s λa w s=>nl ?_))
 refine se (R 1 s λa w s=>?_)
 refine wpIn_block (nilc (α:=Event) (k:=1001) (cs':=λc2=>[c2]) 1002 79 s I (λ_=>I) I λc2 s=>?_)
 obtain ⟨o9,ho9,hko9⟩:=bs hm
 refine rfn (α:=Event) (X:=Value) (σ:=(List Event)) (pe:=λx=>[Va x]) (gb:=(m187_r1)) (r:=o9) [(2,Qv (pb b1 0))] [] (λz3 n4=>[Mr b1 [n4],Ow 79 n4 z3]) ([]:List Event) c2 1005 1003 1004 [1001,1002] hM s (t I) vn (va (k:=1000) I vn) (kc I (kc I kn)) I (λ_ _=>I) (λ_ _ h=>look_pick (l:=[2]) h) (zs1 zs0) I I I (λE _ l ihy=>s188 E l m187_r1 ihy f _ _ _ ho9) (λl fn D tm htm u5 z3 r hm=>?_) (λd10 a w n11 s=>?_)
 ·rcases z3 with ⟨z3,_ | j⟩
  ·unfold m187_r1 at hm
   dsimp only at hm
   refine Cy.mk (KL:=1003) (KT:=1004) [1001,1002] [7] z3 htm I I I I I I (λ_=>I) λM W a n4 TB hM hD hTB s=>?_
   refine rg (sqb 1006 s (al (z:=(⟨(0:Int),(0:Int),false⟩:Event))) I I λb6 a w s=>sw (K:=1006) s (t I) I (t I) I λw s=>nl ?_)
   refine bgn (K:=1003) s I I λRB w hRB s=>?_
   refine wpIn_block ?_
   obtain ⟨x7,hx7,hm⟩:=bk hm
   refine rg (ru 3 s λa w s=>apd (α:=Event) (k:=1002) s (t I) I (t I) hx7.e I I λc8 a w s=>srq (K:=1001) (cs':=[c8]) s (t I) I (t I) (by kernel_rfl) (oco (k:=1002) I) I I λw s=>nl ?_)
   obtain rfl:=si hm
   exact rde (KL:=1003) (KT:=1004) [1001,1002] none 0 true x7 c8 hM s I I hRB hTB (kc I (kc I kn)) I I I I
  ·unfold m187_r1 at hm
   cases hm
 ·replace hm:=hko9
  rcases bfc hm with ⟨hj,hm⟩ | ⟨hj,hm⟩
  ·refine af0 hj ?_
   refine R 2 s λa w s=>?_
   obtain rfl:=si hm
   refine wpIn_ret (lvm (KD:=1005) s I I I λa w ha s=>?_)
   rw [← ha]
   exact rz [1000,1002] n11 hM hD s I (rv1 (rt I)) (kc I (kc I kn)) I
  ·cases hm
def m111 (f:Nat) (v0:State):Option ((List Event)):=(m187 f v0).bind λx1=>some x1
theorem s111 (f:Nat) (n0:Value) (v0:State) (r:(List Event)) (hm:m111 f v0=some r):Cg Tryz.prog 111 [Qv (fv 188 [] [n0])] [At n0 (Pt v0)] (Rz (λx:Value=>Qv x) (λx=>[At n0 (Pt v0),Ow 79 x r])):=by
 unfold m111 at hm
 refine eng Tryz.func111 (by kernel_rfl) I Tryz.ntmps111 I I λM W a hM hD s=>?_
 refine R 1 s λa w s=>?_
 obtain ⟨x1,hx1,hm⟩:=bk hm
 refine se (rg (ru 1 s λa w s=>cgv [1000] [1000,1001] hM s qf I (oc cq (oc (t I) on)) vn vn (s187 f n0 _ _ hx1.e) (kc I kn) I (λ_=>I) I I I λy2 a w s=>ru 1 s λa w s=>nl ?_))
 obtain rfl:=si hm
 refine wpIn_ret ?_
 exact rz [1000,1001] y2 hM hD s I (rv1 (rt I)) (kc I (kc I kn)) I
def m45 (f:Nat) (v0:Control) (v1:State):Option (Int×(List Event)):=(m110 f v0 v1).bind λx1=>(bif (x1 != (0:Int)) then some (x1,([]:List Event)) else (m112 f v1).bind λx3=>(m111 f x3).bind λx5=>some ((0:Int),x5))
theorem s45 (f:Nat) (v0:Control) (v1:State) (r:Int×(List Event)) (hm:m45 f v0 v1=some r):Sp Tryz.prog 45 [Va v0,Va v1] (Rz (λx:Value=>T2 (Qv x) (Va r.1)) (λx=>[Ow 79 x r.2])):=by
 unfold m45 at hm
 refine ens Tryz.func45 (by kernel_rfl) I Tryz.ntmps45 I I λM W a hM hD s=>?_
 refine R 4 s λa w s=>?_
 refine se (se (rg (ru 2 s λa w s=>cB s hm (s110 f _ _) λx1 hm a w s=>ru 1 s λa w s=>nl ?_)))
 refine R 2 s λa w s=>?_
 refine cmf s hm (λhb hm=>?_) λhb hm=>?_
 ·refine R 3 s λa w s=>?_
  obtain rfl:=si hm
  refine nilt (α:=Event) (d:=4) 1000 79 s I I λc2 s=>?_
  refine wpIn_ret ?_
  exact rz [1000] c2 hM hD s I (rv2 (rt I) (rt I)) (kc I kn) I
 ·obtain ⟨x3,hx3,hm⟩:=bk hm
  obtain ⟨x5,hx5,hm⟩:=bk hm
  refine se (rg (ru 1 s λa w s=>sqz [1001] hM s (cc I (oc (t I) on) (s112 f _ _ hx3.e)) (λ_=>I) I I λy4 a w s=>cgv [1001] [1001,1002] hM s qf I (oc (t I) on) vn vn (s111 f y4 _ _ hx5.e) (kc I kn) I (λ_=>I) I I I λy6 a w s=>ru 2 s λa w s=>nl ?_))
  obtain rfl:=si hm
  refine wpIn_ret ?_
  exact rz [1002] y6 hM hD s I (rv2 (rt I) (rt I)) (kc I kn) I
def m137 (f:Nat) (v0:List Int) (v1:List Int):Option ((List Int)):=(m205 f ([v0,v1]:List (List Int))).bind λx1=>(m206 f x1).bind λx3=>(m207 f x3).bind λx5=>some x5
theorem s137 (f:Nat) (v0:List Int) (v1:List Int) (r:(List Int)) (hm:m137 f v0 v1=some r):Sp Tryz.prog 137 [Va v0,Va v1] (Rz (λx:Value=>Qv x) (λx=>[Ow 3 x r])):=by
 unfold m137 at hm
 refine ens Tryz.func137 (by kernel_rfl) I Tryz.ntmps137 I I λM W a hM hD s=>?_
 refine R 1 s λa w s=>?_
 obtain ⟨x1,hx1,hm⟩:=bk hm
 refine se (rg (ru 3 s λa w s=>sqz [1000] hM s (cc I (oc (t I) on) (s205 f _ _ hx1.e)) (λ_=>I) I I λy2 a w s=>ru 1 s λa w s=>nl ?_))
 obtain ⟨x3,hx3,hm⟩:=bk hm
 refine se (rg (ru 1 s λa w s=>cgv [1000] [1000] hM s qf I (oc (t I) on) vn vn (s206 f y2 _ _ hx3.e) (kc I kn) I (λ_=>I) I I I λy4 a w s=>nl ?_))
 obtain ⟨x5,hx5,hm⟩:=bk hm
 refine se (rg (ru 1 s λa w s=>cgv [1000] [1000] hM s qf I (oc (t I) on) vn vn (s207 f y2 _ _ hx5.e) (kc I kn) I (λ_=>I) I I I λy6 a w s=>ru 1 s λa w s=>nl ?_))
 obtain rfl:=si hm
 refine wpIn_ret ?_
 exact rz [1000] y6 hM hD s I (rv1 (rt I)) (kc I kn) I
def m134_l1 (f:Nat) (v0:Control):Nat→(Int×State×(List Int))→Option (Lo (Int×State×(List Int)) (State×Int×(List Int)))
 | 0,_=>none
 | n+1,z5=>(bif (decide (z5.1 < (65:Int))) then (m204 f v0 z5.2.1).bind λx8=>(bif (x8.2.1 != (0:Int)) then some (.ret ((⟨([]:List Int),([]:List Bool),([]:List Bool),([]:List Bool),([]:List Int)⟩:State),x8.2.1,([]:List Int))) else (m137 f z5.2.2 x8.2.2).bind λx12=>(m120 f x8.1 z5.2.1).bind λx14=>(bif x14 then some (.ret (x8.1,(0:Int),x12)) else m134_l1 f v0 n ((wr (z5.1 + (1:Int))),x8.1,x12))) else some (.brk (z5.1,z5.2.1,z5.2.2)))
def m134 (f:Nat) (v0:Control) (v1:State):Option (State×Int×(List Int)):=(m203 f v0 v1).bind λx3=>(bif (x3 != (0:Int)) then some ((⟨([]:List Int),([]:List Bool),([]:List Bool),([]:List Bool),([]:List Int)⟩:State),x3,([]:List Int)) else ((m134_l1 f v0 f ((0:Int),v1,([]:List Int))).bind λo6=>match o6 with | .brk o6s=>some ((⟨([]:List Int),([]:List Bool),([]:List Bool),([]:List Bool),([]:List Int)⟩:State),(21:Int),([]:List Int)) | .ret r=>some r))
theorem s134 (f:Nat) (v0:Control) (v1:State) (r:State×Int×(List Int)) (hm:m134 f v0 v1=some r):Sp Tryz.prog 134 [Va v0,Va v1] (Rz (λx:Value=>T3 (Va r.1) (Qv x) (Va r.2.1)) (λx=>[Ow 3 x r.2.2])):=by
 unfold m134 at hm
 refine ens Tryz.func134 (by kernel_rfl) I Tryz.ntmps134 I I λM W a hM hD s=>?_
 refine se (rg (ru 1 s λa w s=>sqb 1000 s (bxm (t I)) I I λb1 a w s=>sqr 1001 s (alr (cs:=[nz,nz,nz,nz,nz]) (z:=.agg #[nz,nz,nz,nz,nz]) (by kernel_rfl) I I) I I λb2 a w s=>ru 2 s λa w s=>nl ?_))
 refine se (se (rg (ru 1 s λa w s=>sq s (lm (K:=1000) (t I) I) I λa w s=>cB s hm (s203 f _ _) λx3 hm a w s=>ru 1 s λa w s=>nl ?_)))
 refine R 2 s λa w s=>?_
 refine cmf s hm (λhb hm=>?_) λhb hm=>?_
 ·refine se (rg (sq s (bla (L:=[(0,1),(1,1),(2,1),(3,1),(4,1)]) (z:=[nz,nz,nz,nz,nz]) (res:=[nz,nz,nz,nz,nz]) I (by kernel_rfl) (by kernel_rfl) pdn I I) I λa w s=>ru 1 s λa w s=>sra (K:=1001) (m:=[nz,nz,nz,nz,nz]) (cs':=[nz,nz,nz,nz,nz]) s (t I) I (t I) (by kernel_rfl) I I I λw s=>ru 2 s λa w s=>nl ?_))
  obtain rfl:=si hm
  refine shut (k:=1001) (x:=(⟨([]:List Int),([]:List Bool),([]:List Bool),([]:List Bool),([]:List Int)⟩:State)) s I (rpS30 (l:=([nz],[nz],[nz],[nz],[nz])) (rpn (α:=Int)) (rpn (α:=Bool)) (rpn (α:=Bool)) (rpn (α:=Bool)) (rpn (α:=Int))) λs=>?_
  refine nilt (α:=Int) (d:=5) 1002 3 s I I λc4 s=>?_
  refine wpIn_ret ?_
  exact rz [1002] c4 hM hD s I (rv3 (rc (K:=1001) I I) (rt I) (rt I)) (kc I kn) I
 ·refine R 1 s λa w s=>?_
  refine se (R 1 s λa w s=>?_)
  refine nilt (α:=Int) (d:=8) 1003 3 s I I λc7 s=>?_
  refine lb hm (λz5 a w=>∃ (z5c0:Value),St M W 43 [(0,Va v0),(1,Va v1),(2,Pt v0),(3,Qv (pb b1 0)),(4,Qv (pb b2 0)),(5,Qv nz),(6,Va ((0:Int))),(7,Va x3),(8,Qv z5c0),(19,Va z5.1),(1000,Mg b1 z5.2.1),(1001,Mr b2 [nz,nz,nz,nz,nz]),(1003,Ow 3 z5c0 z5.2.2)] a w) ⟨c7,s.fi⟩ (λ_=>I) (λo6 hko6 n z5 a w hm s=>?_) λo6s hm a w s=>?_
  ·obtain ⟨z5c0,s⟩:=s
   unfold m134_l1 at hm
   refine R 1 s λa w s=>?_
   refine se (cmt s hm (λhb hm=>?_) λhb hm=>?_)
   ·refine se (wpIn_block ?_)
    obtain ⟨x8,hx8,hm⟩:=bs hm
    refine se (rg (ru 1 s λa w s=>sq s (lm (K:=1000) (t I) I) I λa w s=>sqz [1004] hM s (cc I (oc (t I) (oc (t I) on)) (s204 f _ _ _ hx8)) (λ_=>I) I I λy9 a w s=>ru 4 s λa w s=>sqr 1005 s (alr (cs:=[nz,nz,nz,nz,nz]) (z:=.agg #[nz,nz,nz,nz,nz]) (by kernel_rfl) I I) I I λb10 a w s=>swd (K:=1005) s (t I) I (t I) I λw s=>ru 2 s λa w s=>nl ?_))
    refine se (R 2 s λa w s=>?_)
    refine cmf s hm (λhb hm=>?_) λhb hm=>?_
    ·refine se (rg (sq s (bla (L:=[(0,1),(1,1),(2,1),(3,1),(4,1)]) (z:=[nz,nz,nz,nz,nz]) (res:=[nz,nz,nz,nz,nz]) I (by kernel_rfl) (by kernel_rfl) pdn I I) I λa w s=>ru 1 s λa w s=>sra (K:=1001) (m:=[nz,nz,nz,nz,nz]) (cs':=[nz,nz,nz,nz,nz]) s (t I) I (t I) (by kernel_rfl) I I I λw s=>ru 2 s λa w s=>nl ?_))
     obtain rfl:=si hm
     replace hm:=hko6
     dsimp only at hm
     obtain rfl:=si hm
     refine shut (k:=1001) (x:=(⟨([]:List Int),([]:List Bool),([]:List Bool),([]:List Bool),([]:List Int)⟩:State)) s I (rpS30 (l:=([nz],[nz],[nz],[nz],[nz])) (rpn (α:=Int)) (rpn (α:=Bool)) (rpn (α:=Bool)) (rpn (α:=Bool)) (rpn (α:=Int))) λs=>?_
     refine nilt (α:=Int) (d:=5) 1006 3 s I I λc11 s=>?_
     refine wpIn_ret ?_
     exact rz [1006] c11 hM hD s I (rv3 (rc (K:=1001) I I) (rt I) (rt I)) (kc I kn) I
    ·obtain ⟨x12,hx12,hm⟩:=bs hm
     refine se (rg (ru 2 s λa w s=>sqz [1007] hM s (tfg (k:=1004) (flz (λ_=>flq) (λ_=>(flc flo fln))) I (tfg (k:=1003) (flz (λ_=>flq) (λ_=>(flc flo fln))) I (cc I (oc (ta (k:=1003) (t I) I) (oc (ta (k:=1004) (t I) I) on)) (s137 f _ _ _ hx12)))) (λ_=>I) I I λy13 a w s=>ru 1 s λa w s=>nl ?_))
     refine se (se (rg (sq s (lm (K:=1005) (t I) I) I λa w s=>sq s (lm (K:=1000) (t I) I) I λa w s=>cB s hm (s120 f _ _) λx14 hm a w s=>nl ?_)))
     refine cmf s hm (λhb hm=>?_) λhb hm=>?_
     ·refine se (rg (sq s (lm (K:=1005) (t I) I) I λa w s=>ru 1 s λa w s=>swd (K:=1001) s (t I) I (t I) I λw s=>ru 2 s λa w s=>nl ?_))
      obtain rfl:=si hm
      replace hm:=hko6
      dsimp only at hm
      obtain rfl:=si hm
      refine wpIn_ret ?_
      exact rz [1007] y13 hM hD s I (rv3 (rc (K:=1001) I I) (rt I) (rt I)) (kc I kn) I
     ·refine rg (sq s (lm (K:=1005) (t I) I) I λa w s=>sw (K:=1000) s (t I) I (t I) I λw s=>nl ?_)
      refine R0 2 s λa w s=>?_
      exact ⟨_,hm,⟨y13,s.rekey (l:=[(0,0),(1,1),(2,2),(3,3),(4,4),(5,5),(6,6),(7,7),(8,8),(19,19),(1000,1000),(1001,1001),(1007,1003)]) (.same I (.same I (.same I (.same I (.same I (.same I (.same I (.same I (.same I (.same I (.same I (.same I (.key (t:=1007) (u:=1003) I .nil))))))))))))) I I⟩⟩
   ·refine wpIn_exit ?_
    exact ⟨_,(si hm).symm,⟨z5c0,s.fi⟩⟩
  ·obtain ⟨o6sc0,s⟩:=s
   dsimp only at hm
   refine se (rg (sq s (bla (L:=[(0,1),(1,1),(2,1),(3,1),(4,1)]) (z:=[nz,nz,nz,nz,nz]) (res:=[nz,nz,nz,nz,nz]) I (by kernel_rfl) (by kernel_rfl) pdn I I) I λa w s=>sra (K:=1001) (m:=[nz,nz,nz,nz,nz]) (cs':=[nz,nz,nz,nz,nz]) s (t I) I (t I) (by kernel_rfl) I I I λw s=>ru 2 s λa w s=>nl ?_))
   obtain rfl:=si hm
   refine shut (k:=1001) (x:=(⟨([]:List Int),([]:List Bool),([]:List Bool),([]:List Bool),([]:List Int)⟩:State)) s I (rpS30 (l:=([nz],[nz],[nz],[nz],[nz])) (rpn (α:=Int)) (rpn (α:=Bool)) (rpn (α:=Bool)) (rpn (α:=Bool)) (rpn (α:=Int))) λs=>?_
   refine nilt (α:=Int) (d:=5) 1008 3 s I I λc15 s=>?_
   refine wpIn_ret ?_
   exact rz [1008] c15 hM hD s I (rv3 (rc (K:=1001) I I) (rt I) (rt I)) (kc I kn) I
def m189 (f:Nat) (v0:Event) (v1:List Int) (v2:List Bool) (v3:List Bool) (v4:List Bool) (v5:List Int):Option (Bool×(List Int)×(List Bool)×(List Bool)×(List Bool)×(List Int)):=(bif ((decide (v0.Index < (0:Int))) || (decide (v0.Index≥(v1.length:Int)))) then some (false,v1,v2,v3,v4,v5) else (idx v1 v0.Index).bind λx1=>(bif (x1 == (1:Int)) then some (true,(v1.set v0.Index.toNat (2:Int)),v2,v3,v4,v5) else (bif (x1 == (3:Int)) then some (true,(v1.set v0.Index.toNat (0:Int)),v2,v3,v4,v5) else some (false,v1,v2,v3,v4,v5))))
theorem s189 (f:Nat) (n0:Nat) (n1:Value) (n2:Value) (n3:Value) (n4:Value) (n5:Value) (v0:Event) (v1:List Int) (v2:List Bool) (v3:List Bool) (v4:List Bool) (v5:List Int) (r:Bool×(List Int)×(List Bool)×(List Bool)×(List Bool)×(List Int)) (hm:m189 f v0 v1 v2 v3 v4 v5=some r):Cg Tryz.prog 189 [Qv (pb n0 0),Va v0] [Mr n0 [n1,n2,n3,n4,n5],Ow 3 n1 v1,Ow 4 n2 v2,Ow 4 n3 v3,Ow 4 n4 v4,Ow 3 n5 v5] (Rz (λx:Unit=>Va r.1) (λx=>[Mr n0 [n1,n2,n3,n4,n5],Ow 3 n1 r.2.1,Ow 4 n2 r.2.2.1,Ow 4 n3 r.2.2.2.1,Ow 4 n4 r.2.2.2.2.1,Ow 3 n5 r.2.2.2.2.2])):=by
 unfold m189 at hm
 refine eng Tryz.func189 (by kernel_rfl) I Tryz.ntmps189 I I λM W a hM hD s=>?_
 refine R 2 s λa w s=>?_
 refine se (se (fW 14 s (by kernel_rfl) I I λa w s=>nl ?_))
 refine cmf s hm (λhb hm=>?_) λhb hm=>?_
 ·refine R 1 s λa w s=>?_
  obtain rfl:=si hm
  refine wpIn_ret ?_
  exact rz [1000,1001,1002,1003,1004,1005] () hM hD s I (rv1 (rt I)) (kc I (kc I (kc I (kc I (kc I (kc I kn)))))) I
 ·refine se ?_
  obtain ⟨x1,hx1,hm⟩:=bk hm
  refine se (fW 8 s (by kernel_rfl) I I λa w s=>sq s (sae (t I)) I λa w s=>nl ?_)
  refine se (rg (ru 1 s λa w s=>sq s (nke (t I)) I λa w s=>ru 1 s λa w s=>nl ?_))
  refine wpIn_block (R 2 s λa w s=>?_)
  refine cM s hm (λhb hm=>?_) λhb hm=>?_
  ·refine rg (ru 1 s λa w s=>sq s (nke (t I)) I λa w s=>stq (k:=1001) s (t I) I (idxg hx1.e) ci λw s=>nl ?_)
   refine R 1 s λa w s=>?_
   obtain rfl:=si hm
   refine wpIn_ret ?_
   exact rz [1000,1001,1002,1003,1004,1005] () hM hD s I (rv1 (rt I)) (kc I (kc I (kc I (kc I (kc I (kc I kn)))))) I
  ·refine R 2 s λa w s=>?_
   refine cM s hm (λhb hm=>?_) λhb hm=>?_
   ·refine rg (ru 1 s λa w s=>sq s (nke (t I)) I λa w s=>stq (k:=1001) s (t I) I (idxg hx1.e) ci λw s=>nl ?_)
    refine R 1 s λa w s=>?_
    obtain rfl:=si hm
    refine wpIn_ret ?_
    exact rz [1000,1001,1002,1003,1004,1005] () hM hD s I (rv1 (rt I)) (kc I (kc I (kc I (kc I (kc I (kc I kn)))))) I
   ·refine R 1 s λa w s=>?_
    obtain rfl:=si hm
    refine wpIn_ret ?_
    exact rz [1000,1001,1002,1003,1004,1005] () hM hD s I (rv1 (rt I)) (kc I (kc I (kc I (kc I (kc I (kc I kn)))))) I
def m190 (f:Nat) (v0:Event) (v1:List Int) (v2:List Bool) (v3:List Bool) (v4:List Bool) (v5:List Int):Option (Bool×(List Int)×(List Bool)×(List Bool)×(List Bool)×(List Int)):=(bif ((decide (v0.Index < (0:Int))) || (decide (v0.Index≥(v5.length:Int)))) then some true else (idx v5 v0.Index).bind λx1=>some (x1 != (1:Int))).bind λr2=>(bif r2 then some (false,v1,v2,v3,v4,v5) else (idx v5 v0.Index).bind λx3=>(idx v4 v0.Index).bind λx4=>some (true,v1,v2,v3,(v4.set v0.Index.toNat true),(v5.set v0.Index.toNat (2:Int))))
theorem s190 (f:Nat) (n0:Nat) (n1:Value) (n2:Value) (n3:Value) (n4:Value) (n5:Value) (v0:Event) (v1:List Int) (v2:List Bool) (v3:List Bool) (v4:List Bool) (v5:List Int) (r:Bool×(List Int)×(List Bool)×(List Bool)×(List Bool)×(List Int)) (hm:m190 f v0 v1 v2 v3 v4 v5=some r):Cg Tryz.prog 190 [Qv (pb n0 0),Va v0] [Mr n0 [n1,n2,n3,n4,n5],Ow 3 n1 v1,Ow 4 n2 v2,Ow 4 n3 v3,Ow 4 n4 v4,Ow 3 n5 v5] (Rz (λx:Unit=>Va r.1) (λx=>[Mr n0 [n1,n2,n3,n4,n5],Ow 3 n1 r.2.1,Ow 4 n2 r.2.2.1,Ow 4 n3 r.2.2.2.1,Ow 4 n4 r.2.2.2.2.1,Ow 3 n5 r.2.2.2.2.2])):=by
 unfold m190 at hm
 refine eng Tryz.func190 (by kernel_rfl) I Tryz.ntmps190 I I λM W a hM hD s=>?_
 refine R 2 s λa w s=>?_
 refine se ?_
 obtain ⟨r2,hr2,hm⟩:=bs hm
 have gr2:=gF hr2
 have er2:=gT hr2
 obtain ⟨x1,hx1,gr2⟩:=gk gr2
 have:=pko gr2 er2
 refine se (fW 26 s (by kernel_rfl) I I λa w s=>nl ?_)
 refine cmf s hm (λhb hm=>?_) λhb hm=>?_
 ·refine R 1 s λa w s=>?_
  obtain rfl:=si hm
  refine wpIn_ret ?_
  exact rz [1000,1001,1002,1003,1004,1005] () hM hD s I (rv1 (rt I)) (kc I (kc I (kc I (kc I (kc I (kc I kn)))))) I
 ·obtain ⟨x3,hx3,hm⟩:=bk hm
  obtain ⟨x4,hx4,hm⟩:=bk hm
  refine se (flow2 [(3,Pt v0)] [0,1,2,3,4,5,6,7,8,9,10,11,14] [31,32,33,34,35,36,37,38,39,40,41,42,45] [] [43] [44,43] [(15,[]),(16,[44,43]),(17,[])] s (.skip (.skip (.skip (.cons (.late (.late (.cons (.cons (.cons (.cons (.cons (.cons (.cons (.cons (.cons (.cons (.cons (.cons .nil I I (mvq (t I))) I I (nkq (t I))) I I (fm_ (off:=0) (m:=4) (q:=0) (t I) (by kernel_rfl) I)) I I (fm_ (off:=4) (m:=0) (q:=4) (t I) (by kernel_rfl) I)) I I (lrc (K:=1000) (List Int) (t I) I I I I)) I I (fa (f:=Event.Index) (t I))) I I (ld (t I))) I I (mvq (t I))) I I (nkq (t I))) I I (fm_ (off:=0) (m:=4) (q:=0) (t I) (by kernel_rfl) I)) I I (fm_ (off:=3) (m:=0) (q:=3) (t I) (by kernel_rfl) I)) I I (lrc (K:=1000) (List Bool) (t I) I I I I)) I I (fa (f:=Event.Index) (t I))) I I (ld (t I))) I I (ixq (α:=Int) (k:=1005) (t I) I (t I) hx3.e)) I) I) I) (by kernel_rfl) (by kernel_rfl) I I (sb1 I sb0) I (by decide) I I ?_)
  refine ⟨⟨λ_=>I,I,.inr ⟨(sb1 I sb0),sb0,(sn2 I sn0)⟩⟩,by kernel_rfl,_,I,λΨ a w s=>stq (k:=1005) s (t I) I (idxg hx3.e) ci λw s=>nl ?_⟩
  refine nxt Ψ s ?_
  refine ⟨⟨λ_=>I,I,.inr ⟨(sb1 I sb0),sb0,(sn2 I sn0)⟩⟩,by kernel_rfl,_,I,λΨ a w s=>sq s (ixq (α:=Bool) (k:=1004) (t I) I (t I) hx4.e) I λa w s=>nl ?_⟩
  refine nxt Ψ s ?_
  refine ⟨⟨λ_=>I,I,.inl I⟩,by kernel_rfl,_,I,λΨ a w s=>stq (k:=1004) s (t I) I (idxg hx4.e) cb λw s=>nl ?_⟩
  refine nxt Ψ s ?_
  refine ⟨⟨λ_=>I,I,.inl I⟩,λa w s=>?_⟩
  replace s:St M W 47 [(0,Qv (pb n0 0)),(1,Va v0),(3,Pt v0),(4,Va false),(1000,Mr n0 [n1,n2,n3,n4,n5]),(1001,Ow 3 n1 v1),(1002,Ow 4 n2 v2),(1003,Ow 4 n3 v3),(1004,Ow 4 n4 ((v4.set v0.Index.toNat true))),(1005,Ow 3 n5 ((v5.set v0.Index.toNat (2:Int))))] a w:=s.pick [0,1,3,4,1000,1001,1002,1003,1004,1005]
  refine R 1 s λa w s=>?_
  obtain rfl:=si hm
  refine wpIn_ret ?_
  exact rz [1000,1001,1002,1003,1004,1005] () hM hD s I (rv1 (rt I)) (kc I (kc I (kc I (kc I (kc I (kc I kn)))))) I
def m191 (f:Nat) (v0:Event) (v1:List Int) (v2:List Bool) (v3:List Bool) (v4:List Bool) (v5:List Int):Option (Bool×(List Int)×(List Bool)×(List Bool)×(List Bool)×(List Int)):=(bif ((decide (v0.Index < (0:Int))) || (decide (v0.Index≥(v3.length:Int)))) then some true else (idx v3 v0.Index).bind λx1=>some (x1 == v0.Value)).bind λr2=>(bif r2 then some (false,v1,v2,v3,v4,v5) else (idx v3 v0.Index).bind λx3=>some (true,v1,v2,(v3.set v0.Index.toNat v0.Value),v4,v5))
theorem s191 (f:Nat) (n0:Nat) (n1:Value) (n2:Value) (n3:Value) (n4:Value) (n5:Value) (v0:Event) (v1:List Int) (v2:List Bool) (v3:List Bool) (v4:List Bool) (v5:List Int) (r:Bool×(List Int)×(List Bool)×(List Bool)×(List Bool)×(List Int)) (hm:m191 f v0 v1 v2 v3 v4 v5=some r):Cg Tryz.prog 191 [Qv (pb n0 0),Va v0] [Mr n0 [n1,n2,n3,n4,n5],Ow 3 n1 v1,Ow 4 n2 v2,Ow 4 n3 v3,Ow 4 n4 v4,Ow 3 n5 v5] (Rz (λx:Unit=>Va r.1) (λx=>[Mr n0 [n1,n2,n3,n4,n5],Ow 3 n1 r.2.1,Ow 4 n2 r.2.2.1,Ow 4 n3 r.2.2.2.1,Ow 4 n4 r.2.2.2.2.1,Ow 3 n5 r.2.2.2.2.2])):=by
 unfold m191 at hm
 refine eng Tryz.func191 (by kernel_rfl) I Tryz.ntmps191 I I λM W a hM hD s=>?_
 refine R 2 s λa w s=>?_
 refine se ?_
 obtain ⟨r2,hr2,hm⟩:=bs hm
 have gr2:=gF hr2
 have er2:=gT hr2
 obtain ⟨x1,hx1,gr2⟩:=gk gr2
 have:=pko gr2 er2
 refine se (fW 28 s (by kernel_rfl) I I λa w s=>nl ?_)
 refine cmf s hm (λhb hm=>?_) λhb hm=>?_
 ·refine R 1 s λa w s=>?_
  obtain rfl:=si hm
  refine wpIn_ret ?_
  exact rz [1000,1001,1002,1003,1004,1005] () hM hD s I (rv1 (rt I)) (kc I (kc I (kc I (kc I (kc I (kc I kn)))))) I
 ·obtain ⟨x3,hx3,hm⟩:=bk hm
  refine se (fW 10 s (by kernel_rfl) I I λa w s=>stq (k:=1003) s (t I) I (idxg hx3.e) (t I) λw s=>nl ?_)
  refine R 1 s λa w s=>?_
  obtain rfl:=si hm
  refine wpIn_ret ?_
  exact rz [1000,1001,1002,1003,1004,1005] () hM hD s I (rv1 (rt I)) (kc I (kc I (kc I (kc I (kc I (kc I kn)))))) I
def m134_1_l1 (f:Nat) (v0:Control):Nat→(Int×State×(List Int))→Option (Lo (Int×State×(List Int)) (State×(List Int)×Int))
 | 0,_=>none
 | n+1,z4=>(bif (decide (z4.1 < (65:Int))) then (m204 f v0 z4.2.1).bind λx7=>(bif (x7.2.1 != (0:Int)) then some (.ret ((⟨([]:List Int),([]:List Bool),([]:List Bool),([]:List Bool),([]:List Int)⟩:State),([]:List Int),x7.2.1)) else (m137 f z4.2.2 x7.2.2).bind λx10=>(m120 f x7.1 z4.2.1).bind λx12=>(bif x12 then some (.ret (x7.1,x10,(0:Int))) else m134_1_l1 f v0 n ((wr (z4.1 + (1:Int))),x7.1,x10))) else some (.brk (z4.1,z4.2.1,z4.2.2)))
def m134_1 (f:Nat) (v0:Control) (v1:State):Option (State×(List Int)×Int):=(m203 f v0 v1).bind λx3=>(bif (x3 != (0:Int)) then some ((⟨([]:List Int),([]:List Bool),([]:List Bool),([]:List Bool),([]:List Int)⟩:State),([]:List Int),x3) else ((m134_1_l1 f v0 f ((0:Int),v1,([]:List Int))).bind λo5=>match o5 with | .brk o5s=>some ((⟨([]:List Int),([]:List Bool),([]:List Bool),([]:List Bool),([]:List Int)⟩:State),([]:List Int),(21:Int)) | .ret r=>some r))
theorem s134_1 (f:Nat) (v0:Control) (v1:State) (r:State×(List Int)×Int) (hm:m134_1 f v0 v1=some r):Sp Tryz.prog 134 [Va v0,Va v1] (T3 (Va r.1) (Va r.2.1) (Va r.2.2)):=by
 unfold m134_1 at hm
 refine ens Tryz.func134 (by kernel_rfl) I Tryz.ntmps134 I I λM W a hM hD s=>?_
 refine se (rg (ru 1 s λa w s=>sqb 1000 s (bxm (t I)) I I λb1 a w s=>sqr 1001 s (alr (cs:=[nz,nz,nz,nz,nz]) (z:=.agg #[nz,nz,nz,nz,nz]) (by kernel_rfl) I I) I I λb2 a w s=>ru 2 s λa w s=>nl ?_))
 refine se (se (rg (ru 1 s λa w s=>sq s (lm (K:=1000) (t I) I) I λa w s=>cB s hm (s203 f _ _) λx3 hm a w s=>ru 1 s λa w s=>nl ?_)))
 refine R 2 s λa w s=>?_
 refine cmf s hm (λhb hm=>?_) λhb hm=>?_
 ·refine se (rg (sq s (bl31_ ) I λa w s=>ru 1 s λa w s=>swd (K:=1001) s (t I) I (t I) I λw s=>ru 2 s λa w s=>nl ?_))
  cases hm;exact rV hD s I I
 ·refine R 1 s λa w s=>?_
  refine se (R 1 s λa w s=>?_)
  refine nilt (α:=Int) (d:=8) 1002 3 s I I λc6 s=>?_
  refine lb hm (λz4 a w=>∃ (z4c0:Value),St M W 43 [(0,Va v0),(1,Va v1),(2,Pt v0),(3,Qv (pb b1 0)),(4,Qv (pb b2 0)),(5,Qv nz),(6,Va ((0:Int))),(7,Va x3),(8,Qv z4c0),(19,Va z4.1),(1000,Mg b1 z4.2.1),(1001,Mr b2 [nz,nz,nz,nz,nz]),(1002,Ow 3 z4c0 z4.2.2)] a w) ⟨c6,s.fi⟩ (λ_=>I) (λo5 hko5 n z4 a w hm s=>?_) λo5s hm a w s=>?_
  ·obtain ⟨z4c0,s⟩:=s
   unfold m134_1_l1 at hm
   refine R 1 s λa w s=>?_
   refine se (cmt s hm (λhb hm=>?_) λhb hm=>?_)
   ·refine se (wpIn_block ?_)
    obtain ⟨x7,hx7,hm⟩:=bs hm
    refine se (rg (ru 1 s λa w s=>sq s (lm (K:=1000) (t I) I) I λa w s=>sqz [1003] hM s (cc I (oc (t I) (oc (t I) on)) (s204 f _ _ _ hx7)) (λ_=>I) I I λy8 a w s=>ru 4 s λa w s=>sqr 1004 s (alr (cs:=[nz,nz,nz,nz,nz]) (z:=.agg #[nz,nz,nz,nz,nz]) (by kernel_rfl) I I) I I λb9 a w s=>swd (K:=1004) s (t I) I (t I) I λw s=>ru 2 s λa w s=>nl ?_))
    refine se (R 2 s λa w s=>?_)
    refine cmf s hm (λhb hm=>?_) λhb hm=>?_
    ·refine se (rg (sq s (bl31_ ) I λa w s=>ru 1 s λa w s=>swd (K:=1001) s (t I) I (t I) I λw s=>ru 2 s λa w s=>nl ?_))
     obtain rfl:=si hm
     replace hm:=hko5
     dsimp only at hm
     cases hm;exact rV hD s I I
    ·obtain ⟨x10,hx10,hm⟩:=bs hm
     refine se (rg (ru 2 s λa w s=>sqz [1005] hM s (tfg (k:=1003) (flz (λ_=>flq) (λ_=>(flc flo fln))) I (tfg (k:=1002) (flz (λ_=>flq) (λ_=>(flc flo fln))) I (cc I (oc (ta (k:=1002) (t I) I) (oc (ta (k:=1003) (t I) I) on)) (s137 f _ _ _ hx10)))) (λ_=>I) I I λy11 a w s=>ru 1 s λa w s=>nl ?_))
     refine se (se (rg (sq s (lm (K:=1004) (t I) I) I λa w s=>sq s (lm (K:=1000) (t I) I) I λa w s=>cB s hm (s120 f _ _) λx12 hm a w s=>nl ?_)))
     refine cmf s hm (λhb hm=>?_) λhb hm=>?_
     ·refine se (rg (sq s (lm (K:=1004) (t I) I) I λa w s=>ru 1 s λa w s=>swd (K:=1001) s (t I) I (t I) I λw s=>ru 2 s λa w s=>nl ?_))
      obtain rfl:=si hm
      replace hm:=hko5
      dsimp only at hm
      obtain rfl:=si hm
      refine fzk (α:=Int) (k:=1005) hM s I λs=>?_
      refine wpIn_ret ?_
      exact rn hD s I (rv3 (rc (K:=1001) I I) (ro (ta (k:=1005) (t I) I)) (rt I))
     ·refine rg (sq s (lm (K:=1004) (t I) I) I λa w s=>sw (K:=1000) s (t I) I (t I) I λw s=>nl ?_)
      refine R0 2 s λa w s=>?_
      exact ⟨_,hm,⟨y11,s.rekey (l:=[(0,0),(1,1),(2,2),(3,3),(4,4),(5,5),(6,6),(7,7),(8,8),(19,19),(1000,1000),(1001,1001),(1005,1002)]) (.same I (.same I (.same I (.same I (.same I (.same I (.same I (.same I (.same I (.same I (.same I (.same I (.key (t:=1005) (u:=1002) I .nil))))))))))))) I I⟩⟩
   ·refine wpIn_exit ?_
    exact ⟨_,(si hm).symm,⟨z4c0,s.fi⟩⟩
  ·obtain ⟨o5sc0,s⟩:=s
   dsimp only at hm
   refine se (rg (sq s (bl31_ ) I λa w s=>swd (K:=1001) s (t I) I (t I) I λw s=>ru 2 s λa w s=>nl ?_))
   cases hm;exact rV hD s I I
def m113 (f:Nat) (v0:Control) (v1:State) (v2:Event):Option (State×(List Int)×Int):=(m135 f v1).bind λx2=>(bif ((decide (v2.Kind < (0:Int))) || (decide (v2.Kind≥(3:Int)))) then some ((⟨([]:List Int),([]:List Bool),([]:List Bool),([]:List Bool),([]:List Int)⟩:State),([]:List Int),(1:Int)) else (idx (List.range 3) v2.Kind).bind λx6=>((bif x6 == 0 then m189 f v2 x2.1 x2.2.1 x2.2.2.1 x2.2.2.2.1 x2.2.2.2.2 else bif x6 == 1 then m190 f v2 x2.1 x2.2.1 x2.2.2.1 x2.2.2.2.1 x2.2.2.2.2 else bif x6 == 2 then m191 f v2 x2.1 x2.2.1 x2.2.2.1 x2.2.2.2.1 x2.2.2.2.2 else none)).bind λx9=>(bif (!x9.1) then some ((⟨([]:List Int),([]:List Bool),([]:List Bool),([]:List Bool),([]:List Int)⟩:State),([]:List Int),(14:Int)) else (m134_1 f v0 (⟨x9.2.1,x9.2.2.1,x9.2.2.2.1,x9.2.2.2.2.1,x9.2.2.2.2.2⟩:State)).bind λx11=>some (x11.1,x11.2.1,x11.2.2)))
theorem s113 (f:Nat) (v0:Control) (v1:State) (v2:Event) (r:State×(List Int)×Int) (hm:m113 f v0 v1 v2=some r):Sp Tryz.prog 113 [Va v0,Va v1,Va v2] (T3 (Va r.1) (Va r.2.1) (Va r.2.2)):=by
 unfold m113 at hm
 refine ens Tryz.func113 (by kernel_rfl) I Tryz.ntmps113 I I λM W a hM hD s=>?_
 refine se (rg (ru 3 s λa w s=>aR 1000 s λb1 a w s=>ru 2 s λa w s=>nl ?_))
 obtain ⟨x2,hx2,hm⟩:=bk hm
 refine se (rg (ru 1 s λa w s=>sqz [1001,1002,1003,1004,1005] hM s (cc I (oc (t I) on) (s135 f _ _ hx2.e)) (λ_=>I) I I λy3 a w s=>sq s (bla (L:=[(0,5)]) (z:=[nz,nz,nz,nz,nz]) (res:=[y3.1,y3.2.1,y3.2.2.1,y3.2.2.2.1,y3.2.2.2.2]) I (by kernel_rfl) (by kernel_rfl) (pda (t I) pdn) I I) I λa w s=>sqr 1006 s (bxa (t I)) I I λb4 a w s=>ru 1 s λa w s=>nl ?_))
 refine se (rg (ru 1 s λa w s=>sq s (mkf I I (qc (t I) qn) qn) I λa w s=>ru 1 s λa w s=>sq s (mkf I I (qc (t I) qn) qn) I λa w s=>ru 1 s λa w s=>sq s (mkf I I (qc (t I) qn) qn) I λa w s=>sq s (bly (e:=258) (len:=3) (z:=[.nilFunc,.nilFunc,.nilFunc]) (cs:=[(fv 189 [(pb b4 0)] []),(fv 190 [(pb b4 0)] []),(fv 191 [(pb b4 0)] [])]) I (cd1 (t I) (ocr I) (cd1 (t I) (ocr I) (cd1 (t I) (ocr I) cd0))) (by kernel_rfl) (by kernel_rfl) (by kernel_rfl) I) I λa w s=>aR 1007 s λb5 a w s=>sra (K:=1007) (m:=[(fv 189 [(pb b4 0)] []),(fv 190 [(pb b4 0)] []),(fv 191 [(pb b4 0)] [])]) (cs':=[(fv 189 [(pb b4 0)] []),(fv 190 [(pb b4 0)] []),(fv 191 [(pb b4 0)] [])]) s (t I) I (t I) (by kernel_rfl) I I I λw s=>nl ?_))
 refine se (R 8 s λa w s=>?_)
 refine cmf s hm (λhb hm=>?_) λhb hm=>?_
 ·refine se (rg (sq s (bla (L:=[(0,1),(1,1),(2,1),(3,1),(4,1)]) (z:=[nz,nz,nz,nz,nz]) (res:=[nz,nz,nz,nz,nz]) I (by kernel_rfl) (by kernel_rfl) pdn I I) I λa w s=>sra (K:=1000) (m:=[nz,nz,nz,nz,nz]) (cs':=[nz,nz,nz,nz,nz]) s (t I) I (t I) (by kernel_rfl) I I I λw s=>ru 2 s λa w s=>nl ?_))
  obtain rfl:=si hm
  refine shut (k:=1000) (x:=(⟨([]:List Int),([]:List Bool),([]:List Bool),([]:List Bool),([]:List Int)⟩:State)) s I (rpS30 (l:=([nz],[nz],[nz],[nz],[nz])) (rpn (α:=Int)) (rpn (α:=Bool)) (rpn (α:=Bool)) (rpn (α:=Bool)) (rpn (α:=Int))) λs=>?_
  refine wpIn_ret ?_
  exact rn hD s I (rv3 (rc (K:=1000) I I) (ro (qns (α:=Int) (t I))) (rt I))
 ·refine se ?_
  obtain ⟨x6,hx6,hm⟩:=bk hm
  obtain ⟨x9,hx9,hm⟩:=bk hm
  refine se (flow s (m:=5) (.cons (.cons (.cons (.cons (.cons .nil I (fa (f:=Event.Kind) (t I))) I (ld (t I))) I (iax (e:=258) (t I) (t I) (by kernel_rfl) (by kernel_rfl) hx6.e)) I (lsel (K:=1007) (ds:=[(fv 189 [(pb b4 0)] []),(fv 190 [(pb b4 0)] []),(fv 191 [(pb b4 0)] [])]) (t I) I I (idxr hx6.e).1 (Nat.le_of_ble_eq_true I) (by kernel_rfl))) I (ld (t I))) (by kernel_rfl) I I λa w s=>cgv [1006,1001,1002,1003,1004,1005] [1006,1001,1002,1003,1004,1005] hM s (qsel3 (selt hx9.e) (t I)) I (oc (t I) on) (vq vn) vn (cgsel3 (Q:=λF=>Cg Tryz.prog F [Qv (pb b4 0),Va v2] [Mr b4 [y3.1,y3.2.1,y3.2.2.1,y3.2.2.2.1,y3.2.2.2.2],Ow 3 y3.1 x2.1,Ow 4 y3.2.1 x2.2.1,Ow 4 y3.2.2.1 x2.2.2.1,Ow 4 y3.2.2.2.1 x2.2.2.2.1,Ow 3 y3.2.2.2.2 x2.2.2.2.2] (Rz (λx:Unit=>Va x9.1) (λx=>[Mr b4 [y3.1,y3.2.1,y3.2.2.1,y3.2.2.2.1,y3.2.2.2.2],Ow 3 y3.1 x9.2.1,Ow 4 y3.2.1 x9.2.2.1,Ow 4 y3.2.2.1 x9.2.2.2.1,Ow 4 y3.2.2.2.1 x9.2.2.2.2.1,Ow 3 y3.2.2.2.2 x9.2.2.2.2.2]))) hx9.e (λh=>s189 f b4 y3.1 y3.2.1 y3.2.2.1 y3.2.2.2.1 y3.2.2.2.2 _ _ _ _ _ _ _ h) (λh=>s190 f b4 y3.1 y3.2.1 y3.2.2.1 y3.2.2.2.1 y3.2.2.2.2 _ _ _ _ _ _ _ h) (λh=>s191 f b4 y3.1 y3.2.1 y3.2.2.1 y3.2.2.2.1 y3.2.2.2.2 _ _ _ _ _ _ _ h)) (kc I (kc I (kc I (kc I (kc I (kc I kn)))))) I (λ_=>I) I I I λy10 a w s=>sq s (nt (t I)) I λa w s=>nl ?_)
  refine cmf s hm (λhb hm=>?_) λhb hm=>?_
  ·refine se (rg (sq s (bla (L:=[(0,1),(1,1),(2,1),(3,1),(4,1)]) (z:=[nz,nz,nz,nz,nz]) (res:=[nz,nz,nz,nz,nz]) I (by kernel_rfl) (by kernel_rfl) pdn I I) I λa w s=>sra (K:=1000) (m:=[nz,nz,nz,nz,nz]) (cs':=[nz,nz,nz,nz,nz]) s (t I) I (t I) (by kernel_rfl) I I I λw s=>ru 2 s λa w s=>nl ?_))
   obtain rfl:=si hm
   refine shut (k:=1000) (x:=(⟨([]:List Int),([]:List Bool),([]:List Bool),([]:List Bool),([]:List Int)⟩:State)) s I (rpS30 (l:=([nz],[nz],[nz],[nz],[nz])) (rpn (α:=Int)) (rpn (α:=Bool)) (rpn (α:=Bool)) (rpn (α:=Bool)) (rpn (α:=Int))) λs=>?_
   refine wpIn_ret ?_
   exact rn hD s I (rv3 (rc (K:=1000) I I) (ro (qns (α:=Int) (t I))) (rt I))
  ·refine fzk (α:=Int) (k:=1001) hM s I λs=>?_
   refine fzk (α:=Bool) (k:=1002) hM s I λs=>?_
   refine fzk (α:=Bool) (k:=1003) hM s I λs=>?_
   refine fzk (α:=Bool) (k:=1004) hM s I λs=>?_
   refine fzk (α:=Int) (k:=1005) hM s I λs=>?_
   obtain ⟨x11,hx11,hm⟩:=bk hm
   refine se (flow s (m:=9) (.cons (.cons (.cons (.cons (.cons (.cons (.cons (.cons (.cons .nil I (ld (t I))) I (mvq (t I))) I (nkq (t I))) I (fm_ (off:=0) (m:=4) (q:=0) (t I) (by kernel_rfl) I)) I (lra (K:=1006) (ds:=[y3.1,y3.2.1,y3.2.2.1,y3.2.2.2.1,y3.2.2.2.2]) State (t I) I I I I)) I (cc I (oc (t I) (oc (qad (y:=(⟨x9.2.1,x9.2.2.1,x9.2.2.2.1,x9.2.2.2.2.1,x9.2.2.2.2.2⟩:State)) (t I) (rpS30 (l:=([y3.1],[y3.2.1],[y3.2.2.1],[y3.2.2.2.1],[y3.2.2.2.2])) (rpz (k:=1001) I) (rpz (k:=1002) I) (rpz (k:=1003) I) (rpz (k:=1004) I) (rpz (k:=1005) I)) I) on)) (s134_1 f _ _ _ hx11.e))) I (Pn.x30 (t I))) I (Pn.x31 (t I))) I (Pn.x32 (t I))) (by kernel_rfl) I I λa w s=>sW s I λw s=>sq s (sa (t I)) I λa w s=>sq s (sa (t I)) I λa w s=>nl ?_)
   cases hm;exact rV hD s I I
def m46 (f:Nat) (v0:Control) (v1:State) (v2:Event):Option (State×(List Int)×Int):=(m110 f v0 v1).bind λx2=>(bif (x2 != (0:Int)) then some ((⟨([]:List Int),([]:List Bool),([]:List Bool),([]:List Bool),([]:List Int)⟩:State),([]:List Int),x2) else (m113 f v0 v1 v2).bind λx3=>some (x3.1,x3.2.1,x3.2.2))
theorem s46 (f:Nat) (v0:Control) (v1:State) (v2:Event) (r:State×(List Int)×Int) (hm:m46 f v0 v1 v2=some r):Sp Tryz.prog 46 [Va v0,Va v1,Va v2] (T3 (Va r.1) (Va r.2.1) (Va r.2.2)):=by
 unfold m46 at hm
 refine ens Tryz.func46 (by kernel_rfl) I Tryz.ntmps46 I I λM W a hM hD s=>?_
 refine se (rg (ru 3 s λa w s=>aR 1000 s λb1 a w s=>ru 2 s λa w s=>nl ?_))
 refine se (se (rg (ru 2 s λa w s=>cB s hm (s110 f _ _) λx2 hm a w s=>ru 1 s λa w s=>nl ?_)))
 refine R 2 s λa w s=>?_
 refine cmf s hm (λhb hm=>?_) λhb hm=>?_
 ·refine se (rg (sq s (bl31_ ) I λa w s=>ru 1 s λa w s=>sW s I λw s=>ru 2 s λa w s=>nl ?_))
  cases hm;exact rV hD s I I
 ·refine se (rg (ru 3 s λa w s=>cB s hm (s113 f _ _ _) λx3 hm a w s=>ru 3 s λa w s=>sW s I λw s=>ru 2 s λa w s=>nl ?_))
  cases hm;exact rV hD s I I
def m246_l1 (v0:State):Nat→(Int×(List Bool))→Option (Int×(List Bool))
 | 0,_=>none
 | n+1,z1=>(bif (decide (z1.1 < (v0.Ends.length:Int))) then (idx v0.Ends z1.1).bind λx4=>(app z1.2 ([(x4 == (0:Int)),(x4 == (2:Int))]:List Bool)).bind λx5=>m246_l1 v0 n ((wr (z1.1 + (1:Int))),x5) else some (z1.1,z1.2))
def m246 (f:Nat) (v0:State):Option ((List Bool)):=(m246_l1 v0 f ((0:Int),([]:List Bool))).bind λo2s=>(app o2s.2 v0.Inputs).bind λx7=>(app x7 v0.Values).bind λx9=>some x9
theorem s246 (f:Nat) (v0:State) (r:(List Bool)) (hm:m246 f v0=some r):Sp Tryz.prog 246 [Va v0] (Rz (λx:Value=>Qv x) (λx=>[Ow 4 x r])):=by
 unfold m246 at hm
 refine ens Tryz.func246 (by kernel_rfl) I Tryz.ntmps246 I I λM W a hM hD s=>?_
 refine R 2 s λa w s=>?_
 refine R 1 s λa w s=>?_
 refine se (R 4 s λa w s=>?_)
 refine nilt (α:=Bool) (d:=3) 1000 4 s I I λc3 s=>?_
 refine lA1 hm [0,1,2,7,8] s (λz1 z1c0=>[(3,Qv z1c0),(9,Va z1.1),(1000,Ow 4 z1c0 z1.2)]) ⟨c3,s.fi⟩ (λ_=>I) (λo2s hko2 n z1 a w hm s=>?_) λo2s hm a w s=>?_
 ·obtain ⟨z1c0,s⟩:=s
  unfold m246_l1 at hm
  refine R 1 s λa w s=>?_
  refine se (cmt s hm (λhb hm=>?_) λhb hm=>?_)
  ·refine se (wpIn_block ?_)
   refine se (rg (iB s hm λx4 hm a w s=>ru 2 s λa w s=>nl ?_))
   obtain ⟨x5,hx5,hm⟩:=bk hm
   refine rg (ru 6 s λa w s=>apd (α:=Bool) (k:=1000) s (t I) I (t I) hx5.e I I λc6 a w s=>ru 1 s λa w s=>nl ?_)
   refine R0 2 s λa w s=>?_
   exact ⟨_,hm,⟨c6,s.fi⟩⟩
  ·refine wpIn_exit ?_
   obtain rfl:=si hm
   exact ⟨z1c0,s.fi⟩
 ·obtain ⟨o2sc0,s⟩:=s
  obtain ⟨x7,hx7,hm⟩:=bk hm
  obtain ⟨x9,hx9,hm⟩:=bk hm
  refine se (flow2 [(1,Pt v0)] [0,1,2] [21,22,23] [] [25] [26,25] [(3,[]),(6,[26,25]),(7,[])] s (.skip (.skip (.late (.late (.skip (.cons (.cons (.cons .nil I I (mvq (t I))) I I (fa (f:=State.Inputs) (t I))) I I (ld (t I))) I) I I (fa (f:=State.Values) (t I))) I I (ld (t I))) I) I) (by kernel_rfl) (by kernel_rfl) I I (sb1 I sb0) I (by decide) I I ?_)
  refine ⟨⟨λ_=>I,I,.inr ⟨(sb1 I sb0),sb0,(sn2 I sn0)⟩⟩,by kernel_rfl,_,I,λΨ a w s=>apd (α:=Bool) (k:=1000) s (t I) I (t I) hx7.e I I λc8 a w s=>nl ?_⟩
  refine nxt Ψ s ?_
  refine ⟨⟨λ_=>I,I,.inr ⟨(sb1 I sb0),sb0,(sn2 I sn0)⟩⟩,by kernel_rfl,_,I,λΨ a w s=>apd (α:=Bool) (k:=1000) s (t I) I (t I) hx9.e I I λc10 a w s=>nl ?_⟩
  refine nxt Ψ s ?_
  refine ⟨⟨λ_=>I,I,.inl I⟩,by kernel_rfl,_,I,λΨ a w s=>sq s (saq (t I)) I λa w s=>nl ?_⟩
  refine nxt Ψ s ?_
  refine ⟨⟨λ_=>I,I,.inl I⟩,λa w s=>?_⟩
  replace s:St M W 28 [(0,Va v0),(1,Pt v0),(2,Qv c10),(3,Qv o2sc0),(7,Va v0.Ends),(8,Va ((v0.Ends.length:Int))),(9,Va o2s.1),(1000,Ow 4 c10 x9)] a w:=s.pick [0,1,2,3,7,8,9,1000]
  obtain rfl:=si hm
  refine wpIn_ret ?_
  exact rz [1000] c10 hM hD s I (rv1 (rt I)) (kc I kn) I
def m299_l1 {σ:Type} (g269:Expr→(List Bool)→Option (Bool)) (gy:Bool→σ→Option (Bool×σ)) (v0:Expr) (v1:List Bool):Nat→(Int×σ)→Option (Lo (Int×σ) (σ))
 | 0,_=>none
 | n+1,z1=>(bif (decide (z1.1 < (v0.Args.length:Int))) then (idx v0.Args z1.1).bind λx3=>(g269 x3 v1).bind λx5=>(gy x5 z1.2).bind λx6=>(bif (!x6.1) then some (.ret x6.2) else m299_l1 g269 gy v0 v1 n ((wr (z1.1 + (1:Int))),x6.2)) else some (.brk (z1.1,z1.2)))
def m299 {σ:Type} (gy:Bool→σ→Option (Bool×σ)) (f:Nat) (g269:Expr→(List Bool)→Option (Bool)) (v0:Expr) (v1:List Bool) (v2:σ):Option (σ):=((m299_l1 g269 gy v0 v1 f ((0:Int),v2)).bind λo2=>match o2 with | .brk o2s=>some o2s.2 | .ret r=>some r)
theorem s299 {σ:Type} (E:σ→Ent) [hE:∀ s,Gh (E s)] (n0:Nat) (gy:Bool→σ→Option (Bool×σ)) (ihy:∀ x s r,gy x s=some r→Cy Tryz.prog n0 [Va x] [E s] (Rz (λ_:Unit=>Va r.1) λ_=>[E r.2])) (f:Nat) (g269:Expr→(List Bool)→Option (Bool)) (ih269:∀ (v0:Expr) (v1:List Bool) (r:Bool),g269 v0 v1=some r→Sp Tryz.prog 269 [Va v0,Va v1] (Va r)) (v0:Expr) (v1:List Bool) (v2:σ) (r:σ) (hm:m299 gy f g269 v0 v1 v2=some r):Cg Tryz.prog 299 [Qv (yv n0),Pt v0,Pt v1] [E v2] (Rz (λx:Unit=>Dd) (λx=>[E r])):=by
 unfold m299 at hm
 refine eng Tryz.func299 (by kernel_rfl) I Tryz.ntmps299 I I λM W a hM hD s=>?_
 refine R 4 s λa w s=>?_
 refine lB hm [0,1,2,7,8] s (λz1=>[(9,Va z1.1),(1000,E z1.2)]) s.fi (λ_=>I) (λo2 hko2 n z1 a w hm s=>?_) λo2s hm a w s=>?_
 ·unfold m299_l1 at hm
  refine R 1 s λa w s=>?_
  refine se (cmt s hm (λhb hm=>?_) λhb hm=>?_)
  ·refine se (wpIn_block ?_)
   refine se (rg (iB s hm λx3 hm a w s=>ru 1 s λa w s=>aR 1001 s λb4 a w s=>sW s I λw s=>nl ?_))
   obtain ⟨x5,hx5,hm⟩:=bk hm
   obtain ⟨x6,hx6,hm⟩:=bk hm
   refine se (rg (ru 3 s λa w s=>sq s (cc I (oc (t I) (oc (t I) on)) (ih269 _ _ _ hx5.e)) I λa w s=>cgy [1000] [1000] hM s (t I) I (oc (t I) on) (ihy _ _ _ hx6.e) (kc I kn) I (λ_=>I) I I I λy7 a w s=>ru 1 s λa w s=>nl ?_))
   refine cmf s hm (λhb hm=>?_) λhb hm=>?_
   ·obtain rfl:=si hm
    replace hm:=hko2
    dsimp only at hm
    obtain rfl:=si hm
    refine wpIn_ret ?_
    exact rz [1000] () hM hD s I rv0 (kc I kn) I
   ·refine R0 2 s λa w s=>?_
    exact ⟨_,hm,s.fi⟩
  ·refine wpIn_exit ?_
   exact ⟨_,(si hm).symm,s.fi⟩
 ·dsimp only at hm
  obtain rfl:=si hm
  exact rze [1000] () hM hD s I rv0 (kc I kn) I
def m324_r1 (g269:Expr→(List Bool)→Option (Bool)) (v0:Bool):Bool→(Unit)×Nat→Option (Bool×((Unit)×Nat)):=λu4 z2=>match z2 with
 | (z2,0)=>(bif (u4 != v0) then some (false,((),1)) else some (true,((),0)))
 | (_,_ + 1)=>none
def m324 (f:Nat) (g269:Expr→(List Bool)→Option (Bool)) (v0:Bool) (v1:Expr) (v2:List Bool):Option (Bool):=(m299 (m324_r1 g269 v0) f g269 v1 v2 ((),0)).bind λo5=>(bif o5.2 == 0 then some true else (bif o5.2 == 1 then some false else none))
theorem s324 (f:Nat) (g269:Expr→(List Bool)→Option (Bool)) (ih269:∀ (v0:Expr) (v1:List Bool) (r:Bool),g269 v0 v1=some r→Sp Tryz.prog 269 [Va v0,Va v1] (Va r)) (n0:Value) (n1:Value) (v0:Bool) (v1:Expr) (v2:List Bool) (r:Bool) (hm:m324 f g269 v0 v1 v2=some r):Cg Tryz.prog 324 [Qv (fv 299 [] [n0,n1]),Pt v0] [At n0 (Pt v1),At n1 (Pt v2)] (Rz (λx:Unit=>Va r) (λx=>[At n0 (Pt v1),At n1 (Pt v2)])):=by
 unfold m324 at hm
 refine eng Tryz.func324 (by kernel_rfl) I Tryz.ntmps324 I I λM W a hM hD s=>?_
 refine se (rg (sqb 1002 s (al (z:=false)) I I λb1 a w s=>nl ?_))
 refine se (R 1 s λa w s=>?_)
 refine wpIn_block ?_
 obtain ⟨o5,ho5,hko5⟩:=bs hm
 refine rfn (α:=Bool) (X:=Unit) (σ:=Unit) (pe:=λx=>[Va x]) (gb:=(m324_r1 g269 v0)) (r:=o5) [(1,Pt v0),(3,Qv (pb b1 0))] [.ret] (λz2 n3=>[Mg b1 false]) () () 1005 1003 1004 [1002] hM s (t I) vn (va (k:=1000) I (va (k:=1001) I vn)) (kc I kn) I (λ_ _=>I) (λ_ _ h=>look_pick (l:=[1,3]) h) (zs1 (zs1 zs0)) I I I (λE _ l ihy=>s299 E l (m324_r1 g269 v0) ihy f g269 ih269 _ _ _ _ ho5) (λl fn D tm htm u4 z2 r hm=>?_) (λd6 a w n7 s=>?_)
 ·rcases z2 with ⟨z2,_ | j⟩
  ·unfold m324_r1 at hm
   dsimp only at hm
   refine Cy.mk (KL:=1003) (KT:=1004) [1002] [6] z2 htm I I I I I I (λ_=>I) λM W a n3 TB hM hD hTB s=>?_
   refine R0 1 s λa w s=>?_
   refine bgn (K:=1003) s I I λRB w hRB s=>?_
   refine wpIn_block (R 3 s λa w s=>?_)
   refine cmf s hm (λhb hm=>?_) λhb hm=>?_
   ·refine se (rg (sw (K:=1002) s (t I) I cb I λw s=>nl ?_))
    obtain rfl:=si hm
    refine wpIn_ret ?_
    exact rde (KL:=1003) (KT:=1004) [1002] (some (.ret)) 1 false () () hM s I I hRB hTB (kc I kn) I I I I
   ·obtain rfl:=si hm
    exact rde (KL:=1003) (KT:=1004) [1002] none 0 true () () hM s I I hRB hTB (kc I kn) I I I I
  ·unfold m324_r1 at hm
   cases hm
 ·replace hm:=hko5
  rcases bfc hm with ⟨hj,hm⟩ | ⟨hj,hm⟩
  ·refine af0 hj ?_
   refine se (rg (sw (K:=1002) s (t I) I cb I λw s=>nl ?_))
   obtain rfl:=si hm
   refine wpIn_ret (lvm (KD:=1005) s I I I λa w ha s=>?_)
   rw [← ha]
   exact rz [1000,1001] () hM hD s I (rv1 (rc (K:=1002) I I)) (kc I (kc I kn)) I
  ·rcases bfc hm with ⟨hj,hm⟩ | ⟨hj,hm⟩
   ·refine af1 (k:=0) hj I ?_
    obtain rfl:=si hm
    refine wpIn_ret (lvm (KD:=1005) s I I I λa w ha s=>?_)
    rw [← ha]
    exact rz [1000,1001] () hM hD s I (rv1 (rc (K:=1002) I I)) (kc I (kc I kn)) I
   ·cases hm
def m316 (f:Nat) (g269:Expr→(List Bool)→Option (Bool)) (v0:Expr) (v1:List Bool):Option (Bool):=(m315 f false).bind λx1=>(m324 f g269 x1 v0 v1).bind λx3=>some (!x3)
theorem s316 (f:Nat) (g269:Expr→(List Bool)→Option (Bool)) (ih269:∀ (v0:Expr) (v1:List Bool) (r:Bool),g269 v0 v1=some r→Sp Tryz.prog 269 [Va v0,Va v1] (Va r)) (n0:Value) (n1:Value) (v0:Expr) (v1:List Bool) (r:Bool) (hm:m316 f g269 v0 v1=some r):Cg Tryz.prog 316 [Qv (fv 299 [] [n0,n1])] [At n0 (Pt v0),At n1 (Pt v1)] (Rz (λx:Unit=>Va r) (λx=>[At n0 (Pt v0),At n1 (Pt v1)])):=by
 unfold m316 at hm
 refine eng Tryz.func316 (by kernel_rfl) I Tryz.ntmps316 I I λM W a hM hD s=>?_
 refine R 1 s λa w s=>?_
 obtain ⟨x1,hx1,hm⟩:=bk hm
 obtain ⟨x3,hx3,hm⟩:=bk hm
 refine se (rg (sqz [1002] hM s (cc I (oc cb on) (s315 f _ _ hx1.e)) (λ_=>I) I I λy2 a w s=>ru 1 s λa w s=>cgv [1000,1001] [1000,1001] hM s (t I) I (oc (t I) on) vn (va (k:=1002) I vn) (s324 f g269 ih269 n0 n1 _ _ _ _ hx3.e) (kc I (kc I kn)) I (λ_=>I) I I I λy4 a w s=>ru 2 s λa w s=>nl ?_))
 obtain rfl:=si hm
 refine wpIn_ret ?_
 exact rz [1000,1001] () hM hD s I (rv1 (rt I)) (kc I (kc I kn)) I
def m269:Nat→Expr→(List Bool)→Option (Bool)
 | 0,_,_=>none
 | f+1,v0,v1=>(bif (v0.Op == (0:Int)) then some (v0.Index == (1:Int)) else (bif (v0.Op == (1:Int)) then (idx v1 v0.Index).bind λx1=>some x1 else (m298 f).bind λx4=>(idx (List.range 5) v0.Op).bind λx6=>(bif x6 == 2 then ((m324 f (m269 f) x4.2.2.2.2.2.2.2.2.2.2.1 v0 v1).bind λx7=>some x7) else (bif x6 == 3 then ((m324 f (m269 f) x4.2.2.2.2.2.2.2.2.2.2.2 v0 v1).bind λx7=>some x7) else (bif x6 == 4 then ((m316 f (m269 f) v0 v1).bind λx7=>some x7) else none)))))
theorem s269:∀ (f:Nat) (v0:Expr) (v1:List Bool) (r:Bool),m269 f v0 v1=some r→Sp Tryz.prog 269 [Va v0,Va v1] (Va r):=by
 intro f
 induction f with
 | zero=>intro v0 v1 r hm;cases hm
 | succ f ih=>
 intro v0 v1 r hm
 unfold m269 at hm
 refine ens Tryz.func269 (by kernel_rfl) I Tryz.ntmps269 I I λM W a hM hD s=>?_
 refine R 3 s λa w s=>?_
 refine se (R 2 s λa w s=>?_)
 refine wpIn_block (R 2 s λa w s=>?_)
 refine cM s hm (λhb hm=>?_) λhb hm=>?_
 ·refine R 4 s λa w s=>?_
  cases hm;exact rT hD s I I
 ·refine R 2 s λa w s=>?_
  refine cmf s hm (λhb hm=>?_) λhb hm=>?_
  ·refine se (rg (ru 3 s λa w s=>iB s hm λx1 hm a w s=>ru 2 s λa w s=>nl ?_))
   cases hm;exact rT hD s I I
  ·obtain ⟨x4,hx4,hm⟩:=bk hm
   obtain ⟨x6,hx6,hm⟩:=bk hm
   rcases bfc hm with ⟨hj0,hm⟩ | ⟨_,hm⟩
   ·refine nmk (d:=3) 1004 s I I λc2 s=>?_
    refine nmk (d:=2) 1007 s I I λc3 s=>?_
    obtain ⟨x7,hx7,hm⟩:=bk hm
    refine se (flow2 [(2,Qv c3),(3,Qv c2)] [0,1,2] [19,20,21] [] [] [24] [(3,[]),(4,[]),(6,[24]),(7,[])] s (.skip (.skip (.late (.skip (.skip (.cons (.cons (.cons .nil I I (cc I on (s298 f _ hx4.e))) I I (fa (f:=Expr.Op) (ta (k:=1007) (t I) I))) I I (ld (t I))) I) I) I I (mkf I I qn (qc (t I) (qc (t I) qn)))) I) I) (by kernel_rfl) (by kernel_rfl) I I (sb1 I (sb1 I sb0)) I (by decide) I I ?_)
    refine ⟨⟨λ_=>I,I,.inr ⟨(sb1 I (sb1 I sb0)),sb0,sn0⟩⟩,by kernel_rfl,_,I,λΨ a w s=>opz (d:=19) [1008,1009] s I (λ_=>I) I λy5 s=>sq s (aixA (e:=355) (len:=5) (sz:=3) (cols:=[[(.int .i64 x4.1),(.int .i64 x4.2.2.1),(.int .i64 x4.2.2.2.2.1),(.int .i64 x4.2.2.2.2.2.2.1),(.int .i64 x4.2.2.2.2.2.2.2.2.1)],[(.int .i64 x4.2.1),(.int .i64 x4.2.2.2.1),(.int .i64 x4.2.2.2.2.2.1),(.int .i64 x4.2.2.2.2.2.2.2.1),(.int .i64 x4.2.2.2.2.2.2.2.2.2.1)],[.nilFunc,.nilFunc,(fv 324 [] [y5.1]),(fv 324 [] [y5.2]),(fv 316 [] [])]]) (t I) (t I) (by kernel_rfl) (by kernel_rfl) (by kernel_rfl) I hx6.e) I λa w s=>nl ?_⟩
    refine nxt Ψ s ?_
    refine ⟨⟨λ_=>I,I,.inr ⟨(sb1 I (sb1 I sb0)),sb0,sn0⟩⟩,by kernel_rfl,_,I,λΨ a w s=>sq s (fldq (off:=2) (t I) (by kernel_rfl) I) I λa w s=>nl ?_⟩
    refine nxt Ψ s ?_
    refine ⟨⟨λ_=>I,I,.inr ⟨(sb1 I (sb1 I sb0)),sb0,sn0⟩⟩,by kernel_rfl,_,I,λΨ a w s=>cgv [1007,1004] [1007,1004] hM s (qsel hj0 (t I) I) I (oc (t I) on) vn (va (k:=1008) I vn) (s324 f (m269 f) ih c3 c2 _ _ _ _ hx7.e) (kc I (kc I kn)) I (λ_=>I) I I I λy8 a w s=>nl ?_⟩
    refine nxt Ψ s ?_
    refine ⟨⟨λ_=>I,I,.inl I⟩,by kernel_rfl,_,I,λΨ a w s=>sq s (sa (t I)) I λa w s=>nl ?_⟩
    refine nxt Ψ s ?_
    refine ⟨⟨λ_=>I,I,.inl I⟩,λa w s=>?_⟩
    replace s:St M W 26 [(0,Va v0),(1,Va v1),(2,Qv c3),(3,Qv c2),(4,Va x7),(6,Va v0.Op),(1007,At c3 (Pt v0)),(1004,At c2 (Pt v1))] a w:=s.pick [0,1,2,3,4,6,1007,1004]
    cases hm;exact rT hD s I I
   ·rcases bfc hm with ⟨hj0,hm⟩ | ⟨_,hm⟩
    ·refine nmk (d:=3) 1004 s I I λc2 s=>?_
     refine nmk (d:=2) 1007 s I I λc3 s=>?_
     obtain ⟨x7,hx7,hm⟩:=bk hm
     refine se (flow2 [(2,Qv c3),(3,Qv c2)] [0,1,2] [19,20,21] [] [] [24] [(3,[]),(4,[]),(6,[24]),(7,[])] s (.skip (.skip (.late (.skip (.skip (.cons (.cons (.cons .nil I I (cc I on (s298 f _ hx4.e))) I I (fa (f:=Expr.Op) (ta (k:=1007) (t I) I))) I I (ld (t I))) I) I) I I (mkf I I qn (qc (t I) (qc (t I) qn)))) I) I) (by kernel_rfl) (by kernel_rfl) I I (sb1 I (sb1 I sb0)) I (by decide) I I ?_)
     refine ⟨⟨λ_=>I,I,.inr ⟨(sb1 I (sb1 I sb0)),sb0,sn0⟩⟩,by kernel_rfl,_,I,λΨ a w s=>opz (d:=19) [1008,1009] s I (λ_=>I) I λy5 s=>sq s (aixA (e:=355) (len:=5) (sz:=3) (cols:=[[(.int .i64 x4.1),(.int .i64 x4.2.2.1),(.int .i64 x4.2.2.2.2.1),(.int .i64 x4.2.2.2.2.2.2.1),(.int .i64 x4.2.2.2.2.2.2.2.2.1)],[(.int .i64 x4.2.1),(.int .i64 x4.2.2.2.1),(.int .i64 x4.2.2.2.2.2.1),(.int .i64 x4.2.2.2.2.2.2.2.1),(.int .i64 x4.2.2.2.2.2.2.2.2.2.1)],[.nilFunc,.nilFunc,(fv 324 [] [y5.1]),(fv 324 [] [y5.2]),(fv 316 [] [])]]) (t I) (t I) (by kernel_rfl) (by kernel_rfl) (by kernel_rfl) I hx6.e) I λa w s=>nl ?_⟩
     refine nxt Ψ s ?_
     refine ⟨⟨λ_=>I,I,.inr ⟨(sb1 I (sb1 I sb0)),sb0,sn0⟩⟩,by kernel_rfl,_,I,λΨ a w s=>sq s (fldq (off:=2) (t I) (by kernel_rfl) I) I λa w s=>nl ?_⟩
     refine nxt Ψ s ?_
     refine ⟨⟨λ_=>I,I,.inr ⟨(sb1 I (sb1 I sb0)),sb0,sn0⟩⟩,by kernel_rfl,_,I,λΨ a w s=>cgv [1007,1004] [1007,1004] hM s (qsel hj0 (t I) I) I (oc (t I) on) vn (va (k:=1009) I vn) (s324 f (m269 f) ih c3 c2 _ _ _ _ hx7.e) (kc I (kc I kn)) I (λ_=>I) I I I λy8 a w s=>nl ?_⟩
     refine nxt Ψ s ?_
     refine ⟨⟨λ_=>I,I,.inl I⟩,by kernel_rfl,_,I,λΨ a w s=>sq s (sa (t I)) I λa w s=>nl ?_⟩
     refine nxt Ψ s ?_
     refine ⟨⟨λ_=>I,I,.inl I⟩,λa w s=>?_⟩
     replace s:St M W 26 [(0,Va v0),(1,Va v1),(2,Qv c3),(3,Qv c2),(4,Va x7),(6,Va v0.Op),(1007,At c3 (Pt v0)),(1004,At c2 (Pt v1))] a w:=s.pick [0,1,2,3,4,6,1007,1004]
     cases hm;exact rT hD s I I
    ·rcases bfc hm with ⟨hj0,hm⟩ | ⟨_,hm⟩
     ·refine nmk (d:=3) 1004 s I I λc2 s=>?_
      refine nmk (d:=2) 1007 s I I λc3 s=>?_
      obtain ⟨x7,hx7,hm⟩:=bk hm
      refine se (flow2 [(2,Qv c3),(3,Qv c2)] [0,1,2] [19,20,21] [] [] [24] [(3,[]),(4,[]),(6,[24]),(7,[])] s (.skip (.skip (.late (.skip (.skip (.cons (.cons (.cons .nil I I (cc I on (s298 f _ hx4.e))) I I (fa (f:=Expr.Op) (ta (k:=1007) (t I) I))) I I (ld (t I))) I) I) I I (mkf I I qn (qc (t I) (qc (t I) qn)))) I) I) (by kernel_rfl) (by kernel_rfl) I I (sb1 I (sb1 I sb0)) I (by decide) I I ?_)
      refine ⟨⟨λ_=>I,I,.inr ⟨(sb1 I (sb1 I sb0)),sb0,sn0⟩⟩,by kernel_rfl,_,I,λΨ a w s=>opz (d:=19) [1008,1009] s I (λ_=>I) I λy5 s=>sq s (aixA (e:=355) (len:=5) (sz:=3) (cols:=[[(.int .i64 x4.1),(.int .i64 x4.2.2.1),(.int .i64 x4.2.2.2.2.1),(.int .i64 x4.2.2.2.2.2.2.1),(.int .i64 x4.2.2.2.2.2.2.2.2.1)],[(.int .i64 x4.2.1),(.int .i64 x4.2.2.2.1),(.int .i64 x4.2.2.2.2.2.1),(.int .i64 x4.2.2.2.2.2.2.2.1),(.int .i64 x4.2.2.2.2.2.2.2.2.2.1)],[.nilFunc,.nilFunc,(fv 324 [] [y5.1]),(fv 324 [] [y5.2]),(fv 316 [] [])]]) (t I) (t I) (by kernel_rfl) (by kernel_rfl) (by kernel_rfl) I hx6.e) I λa w s=>nl ?_⟩
      refine nxt Ψ s ?_
      refine ⟨⟨λ_=>I,I,.inr ⟨(sb1 I (sb1 I sb0)),sb0,sn0⟩⟩,by kernel_rfl,_,I,λΨ a w s=>sq s (fldq (off:=2) (t I) (by kernel_rfl) I) I λa w s=>nl ?_⟩
      refine nxt Ψ s ?_
      refine ⟨⟨λ_=>I,I,.inr ⟨(sb1 I (sb1 I sb0)),sb0,sn0⟩⟩,by kernel_rfl,_,I,λΨ a w s=>cgv [1007,1004] [1007,1004] hM s (qsel hj0 (t I) I) I (oc (t I) on) vn vn (s316 f (m269 f) ih c3 c2 _ _ _ hx7.e) (kc I (kc I kn)) I (λ_=>I) I I I λy8 a w s=>nl ?_⟩
      refine nxt Ψ s ?_
      refine ⟨⟨λ_=>I,I,.inl I⟩,by kernel_rfl,_,I,λΨ a w s=>sq s (sa (t I)) I λa w s=>nl ?_⟩
      refine nxt Ψ s ?_
      refine ⟨⟨λ_=>I,I,.inl I⟩,λa w s=>?_⟩
      replace s:St M W 26 [(0,Va v0),(1,Va v1),(2,Qv c3),(3,Qv c2),(4,Va x7),(6,Va v0.Op),(1007,At c3 (Pt v0)),(1004,At c2 (Pt v1))] a w:=s.pick [0,1,2,3,4,6,1007,1004]
      cases hm;exact rT hD s I I
     ·cases hm
def m247 (f:Nat) (v0:Expr) (v1:List Bool):Option (Bool×Int):=(m260 f v0 (v1.length:Int)).bind λx1=>(bif (x1 != (0:Int)) then some (false,x1) else (m269 f v0 v1).bind λx2=>some (x2,(0:Int)))
theorem s247 (f:Nat) (v0:Expr) (v1:List Bool) (r:Bool×Int) (hm:m247 f v0 v1=some r):Sp Tryz.prog 247 [Va v0,Va v1] (T2 (Va r.1) (Va r.2)):=by
 unfold m247 at hm
 refine ens Tryz.func247 (by kernel_rfl) I Tryz.ntmps247 I I λM W a hM hD s=>?_
 refine R 3 s λa w s=>?_
 refine se (se (rg (ru 3 s λa w s=>cB s hm (s260 f _ _) λx1 hm a w s=>ru 1 s λa w s=>nl ?_)))
 refine R 2 s λa w s=>?_
 refine cmf s hm (λhb hm=>?_) λhb hm=>?_
 ·refine R 3 s λa w s=>?_
  cases hm;exact rU hD s I I
 ·refine se (rg (ru 2 s λa w s=>cB s hm (s269 f _ _) λx2 hm a w s=>ru 2 s λa w s=>nl ?_))
  cases hm;exact rU hD s I I
def m202_l1 (f:Nat) (v0:Control):Nat→(Int×(List Bool)×(List Bool))→Option (Int×(List Bool)×(List Bool))
 | 0,_=>none
 | n+1,z15=>(bif (decide (z15.1 < (v0.Signals.length:Int))) then (idx v0.Signals z15.1).bind λx17=>(bif (x17.Kind == (0:Int)) then (m247 f x17.On z15.2.2).bind λx20=>(m248 f v0).bind λx21=>(idx z15.2.1 z15.1).bind λx22=>(idx z15.2.2 (wr (x21 + z15.1))).bind λx23=>some ((z15.2.1.set z15.1.toNat x20.1),(z15.2.2.set (wr (x21 + z15.1)).toNat x20.1)) else some (z15.2.1,z15.2.2)).bind λz19=>m202_l1 f v0 n ((wr (z15.1 + (1:Int))),z19.1,z19.2) else some (z15.1,z15.2.1,z15.2.2))
def m202 (f:Nat) (v0:Control) (v1:State):Option (State):=(m128 f v1.Ends).bind λx2=>(m129 f v1.Valves).bind λx3=>(m129 f v1.Inputs).bind λx4=>(m129 f v1.Values).bind λx5=>(m128 f v1.Timers).bind λx6=>(m246 f (⟨x2,x3,x4,x5,x6⟩:State)).bind λx13=>(m202_l1 f v0 f ((0:Int),x5,x13)).bind λo16s=>some (⟨x2,x3,x4,o16s.2.1,x6⟩:State)
theorem s202 (f:Nat) (v0:Control) (v1:State) (r:State) (hm:m202 f v0 v1=some r):Sp Tryz.prog 202 [Va v0,Va v1] (Va r):=by
 unfold m202 at hm
 refine ens Tryz.func202 (by kernel_rfl) I Tryz.ntmps202 I I λM W a hM hD s=>?_
 refine se (rg (ru 2 s λa w s=>sqr 1000 s (alr (cs:=[nz,nz,nz,nz,nz]) (z:=.agg #[nz,nz,nz,nz,nz]) (by kernel_rfl) I I) I I λb1 a w s=>nl ?_))
 obtain ⟨x2,hx2,hm⟩:=bs hm
 obtain ⟨x3,hx3,hm⟩:=bs hm
 obtain ⟨x4,hx4,hm⟩:=bs hm
 obtain ⟨x5,hx5,hm⟩:=bs hm
 obtain ⟨x6,hx6,hm⟩:=bs hm
 refine se (flow2 [] [0,1,2,3,4,5,6,7,8,9,10,11,12,13,14] [11,12,13,14,15,16,17,18,19,20,21,22,23,24,25] [] [] [5] [(15,[]),(17,[5])] s (.skip (.late (.skip (.cons (.cons (.cons (.cons (.cons (.cons (.cons (.cons (.cons (.cons (.cons (.cons (.cons (.cons (.cons .nil I I (fa (f:=State.Ends) (t I))) I I (ld (t I))) I I (cc I (oc (t I) on) (s128 f _ _ hx2))) I I (fa (f:=State.Valves) (t I))) I I (ld (t I))) I I (cc I (oc (t I) on) (s129 f _ _ hx3))) I I (fa (f:=State.Inputs) (t I))) I I (ld (t I))) I I (cc I (oc (t I) on) (s129 f _ _ hx4))) I I (fa (f:=State.Values) (t I))) I I (ld (t I))) I I (cc I (oc (t I) on) (s129 f _ _ hx5))) I I (fa (f:=State.Timers) (t I))) I I (ld (t I))) I I (cc I (oc (t I) on) (s128 f _ _ hx6))) I) I I (alr (cs:=[nz,nz,nz,nz,nz]) (z:=.agg #[nz,nz,nz,nz,nz]) (by kernel_rfl) I I)) I) (by kernel_rfl) (by kernel_rfl) I I sb0 I (by decide) I I ?_)
 refine ⟨⟨λ_=>I,I,.inr ⟨sb0,sb0,sn0⟩⟩,by kernel_rfl,_,I,λΨ a w s=>opz (d:=13) [1006] s I (λ_=>I) I λy8 s=>opz (d:=16) [1007] s I (λ_=>I) I λy9 s=>opz (d:=19) [1008] s I (λ_=>I) I λy10 s=>opz (d:=22) [1009] s I (λ_=>I) I λy11 s=>opz (d:=25) [1010] s I (λ_=>I) I λy12 s=>sq s (bla (L:=[(0,1),(1,1),(2,1),(3,1),(4,1)]) (z:=[nz,nz,nz,nz,nz]) (res:=[y8,y9,y10,y11,y12]) I (by kernel_rfl) (by kernel_rfl) (pdq (t I) (oco (k:=1006) I) (pdq (t I) (oco (k:=1007) I) (pdq (t I) (oco (k:=1008) I) (pdq (t I) (oco (k:=1009) I) (pdq (t I) (oco (k:=1010) I) pdn))))) I I) I λa w s=>nl ?_⟩
 refine nxt Ψ s ?_
 refine ⟨⟨λ_=>I,I,.inr ⟨sb0,sb0,sn0⟩⟩,by kernel_rfl,_,I,λΨ a w s=>opr (d:=5) 1011 s I I λb7 s=>sra (K:=1011) (m:=[y8,y9,y10,y11,y12]) (cs':=[y8,y9,y10,y11,y12]) s (t I) I (t I) (by kernel_rfl) I I I λw s=>nl ?_⟩
 refine nxt Ψ s ?_
 refine ⟨⟨λ_=>I,I,.inl I⟩,λa w s=>?_⟩
 replace s:St M W 61 [(0,Va v0),(1,Va v1),(2,Pt v0),(3,Pt v1),(4,Qv (pb b1 0)),(5,Qv (pb b7 0)),(1000,Mr b1 [nz,nz,nz,nz,nz]),(1011,Mr b7 [y8,y9,y10,y11,y12]),(1006,Ow 3 y8 x2),(1007,Ow 4 y9 x3),(1008,Ow 4 y10 x4),(1009,Ow 4 y11 x5),(1010,Ow 3 y12 x6)] a w:=s.pick [0,1,2,3,4,5,1000,1011,1006,1007,1008,1009,1010]
 obtain ⟨x13,hx13,hm⟩:=bs hm
 refine se (rg (sq s (lra (K:=1011) (ds:=[y8,y9,y10,y11,y12]) State (t I) I I I I) I λa w s=>sqz [1012] hM s (tfg (k:=1010) (flz (λ_=>flq) (λ_=>(flc flo fln))) I (tfg (k:=1009) (flz (λ_=>flq) (λ_=>(flc flo fln))) I (tfg (k:=1008) (flz (λ_=>flq) (λ_=>(flc flo fln))) I (tfg (k:=1007) (flz (λ_=>flq) (λ_=>(flc flo fln))) I (tfg (k:=1006) (flz (λ_=>flq) (λ_=>(flc flo fln))) I (cc I (oc (qad (y:=(⟨x2,x3,x4,x5,x6⟩:State)) (t I) (rpS30 (l:=([y8],[y9],[y10],[y11],[y12])) (rpz (k:=1006) I) (rpz (k:=1007) I) (rpz (k:=1008) I) (rpz (k:=1009) I) (rpz (k:=1010) I)) I) on) (s246 f _ _ hx13))))))) (λ_=>I) I I λy14 a w s=>ru 1 s λa w s=>nl ?_))
 refine se (R 4 s λa w s=>?_)
 refine la hm (λz15 a w=>St M W 61 [(0,Va v0),(1,Va v1),(2,Pt v0),(3,Pt v1),(4,Qv (pb b1 0)),(5,Qv (pb b7 0)),(6,Qv y14),(30,Va v0.Signals),(31,Va ((v0.Signals.length:Int))),(32,Va z15.1),(1000,Mr b1 [nz,nz,nz,nz,nz]),(1011,Mr b7 [y8,y9,y10,y11,y12]),(1006,Ow 3 y8 x2),(1007,Ow 4 y9 x3),(1008,Ow 4 y10 x4),(1009,Ow 4 y11 z15.2.1),(1010,Ow 3 y12 x6),(1012,Ow 4 y14 z15.2.2)] a w) s.fi (λ_=>I) (λo16s hko16 n z15 a w hm s=>?_) λo16s hm a w s=>?_
 ·unfold m202_l1 at hm
  refine R 1 s λa w s=>?_
  refine se (cmt s hm (λhb hm=>?_) λhb hm=>?_)
  ·refine se (wpIn_block ?_)
   refine se (rg (ru 1 s λa w s=>iB s hm λx17 hm a w s=>ru 1 s λa w s=>sqr 1013 s (alr (cs:=[(.string ByteArray.empty),(.int .i64 (0:Int)),(.int .i64 (0:Int)),(.int .i64 (0:Int)),nz,(.int .i64 (0:Int)),(.int .i64 (0:Int)),nz,(.int .i64 (0:Int)),(.bool false)]) (z:=.agg #[(.string ByteArray.empty),(.int .i64 (0:Int)),(.int .i64 (0:Int)),(.int .i64 (0:Int)),nz,(.int .i64 (0:Int)),(.int .i64 (0:Int)),nz,(.int .i64 (0:Int)),(.bool false)]) (by kernel_rfl) I I) I I λb18 a w s=>ru 1 s λa w s=>swd (K:=1013) s (t I) I (t I) I λw s=>nl ?_))
   refine se (rg (sq s (fm_ (off:=1) (m:=0) (q:=1) (t I) (by kernel_rfl) I) I λa w s=>sq s (lf (K:=1013) (f:=Signal.Kind) (t I) I) I λa w s=>ru 1 s λa w s=>nl ?_))
   obtain ⟨z19,hz19,hkz19⟩:=bs hm
   refine cpI (λa w=>St M W 61 [(0,Va v0),(1,Va v1),(2,Pt v0),(3,Pt v1),(4,Qv (pb b1 0)),(5,Qv (pb b7 0)),(6,Qv y14),(7,Va z15.1),(8,Qv (pb b18 0)),(30,Va v0.Signals),(31,Va ((v0.Signals.length:Int))),(32,Va z15.1),(1000,Mr b1 [nz,nz,nz,nz,nz]),(1011,Mr b7 [y8,y9,y10,y11,y12]),(1006,Ow 3 y8 x2),(1007,Ow 4 y9 x3),(1008,Ow 4 y10 x4),(1009,Ow 4 y11 z19.1),(1010,Ow 3 y12 x6),(1012,Ow 4 y14 z19.2),(1013,Mg b18 x17)] a w) ?_ λa w s=>?_
   ·refine cm s I hz19 (λhb hm=>?_) (λhb hm=>?_)
    ·obtain ⟨x20,hx20,hm⟩:=bs hm
     refine se (rg (sq s (fm_ (off:=2) (m:=2) (q:=2) (t I) (by kernel_rfl) I) I λa w s=>sq s (lf (K:=1013) (f:=Signal.On) (t I) I) I λa w s=>ru 1 s λa w s=>sq s (tfg (k:=1012) (fl2 fl1 fl1) I (cc I (oc (t I) (oc (ta (k:=1012) (t I) I) on)) (s247 f _ _ _ hx20))) I λa w s=>ru 5 s λa w s=>nl ?_))
     obtain ⟨x21,hx21,hm⟩:=bs hm
     obtain ⟨x22,hx22,hm⟩:=bs hm
     obtain ⟨x23,hx23,hm⟩:=bs hm
     refine flow2 [(6,Qv y14),(7,Va z15.1),(9,Va x20.1)] [0,1,2,4,5,8,10] [47,48,49,51,52,55,57] [52] [53] [56,54,53,50] [(11,[]),(12,[56,54,53,50]),(13,[])] s (.skip (.skip (.skip (.cons (.late (.cons (.late (.late (.cons (.cons (.late (.cons (.cons (.cons .nil I I (fm_ (off:=3) (m:=0) (q:=3) (t I) (by kernel_rfl) I)) I I (lrc (K:=1011) (List Bool) (t I) I I I I)) I I (mv (t I))) I I (mvq (t I))) I I (ld (t I))) I I (cc I (oc (t I) on) (s248 f _ _ hx21))) I I (mv (t I))) I I (ad (t I) (t I))) I I (mv (t I))) I I (mv (t I))) I I (ixq (α:=Bool) (k:=1009) (t I) I (t I) hx22)) I) I) I) (by kernel_rfl) (by kernel_rfl) I I (sb1 I (sb1 I (sb1 I sb0))) I (by decide) I I ?_
     refine ⟨⟨λ_=>I,I,.inr ⟨(sb1 I (sb1 I (sb1 I sb0))),(sb1 I sb0),(sn2 I sn0)⟩⟩,by kernel_rfl,_,I,λΨ a w s=>stq (k:=1009) s (t I) I (idxg hx22) (t I) λw s=>nl ?_⟩
     refine nxt Ψ s ?_
     refine ⟨⟨λ_=>I,I,.inr ⟨(sb1 I (sb1 I (sb1 I sb0))),(sb1 I sb0),(sn2 I sn0)⟩⟩,by kernel_rfl,_,I,λΨ a w s=>sq s (ixq (α:=Bool) (k:=1012) (t I) I (t I) hx23) I λa w s=>nl ?_⟩
     refine nxt Ψ s ?_
     refine ⟨⟨λ_=>I,I,.inl I⟩,by kernel_rfl,_,I,λΨ a w s=>stq (k:=1012) s (t I) I (idxg hx23) (t I) λw s=>nl ?_⟩
     refine nxt Ψ s ?_
     refine ⟨⟨λ_=>I,I,.inl I⟩,λa w s=>?_⟩
     replace s:St M W 61 [(0,Va v0),(1,Va v1),(2,Pt v0),(3,Pt v1),(4,Qv (pb b1 0)),(5,Qv (pb b7 0)),(6,Qv y14),(7,Va z15.1),(8,Qv (pb b18 0)),(9,Va x20.1),(30,Va v0.Signals),(31,Va ((v0.Signals.length:Int))),(32,Va z15.1),(1000,Mr b1 [nz,nz,nz,nz,nz]),(1011,Mr b7 [y8,y9,y10,y11,y12]),(1006,Ow 3 y8 x2),(1007,Ow 4 y9 x3),(1008,Ow 4 y10 x4),(1009,Ow 4 y11 ((z15.2.1.set z15.1.toNat x20.1))),(1010,Ow 3 y12 x6),(1012,Ow 4 y14 ((z15.2.2.set (wr (x21 + z15.1)).toNat x20.1))),(1013,Mg b18 x17)] a w:=s.pick [0,1,2,3,4,5,6,7,8,9,30,31,32,1000,1011,1006,1007,1008,1009,1010,1012,1013]
     obtain rfl:=si hm
     exact s.fi
    ·refine wpIn_skip ?_
     obtain rfl:=si hm
     exact s.fi
   ·replace hm:=hkz19
    refine R0 2 s λa w s=>?_
    exact ⟨_,hm,s.fi⟩
  ·refine wpIn_exit ?_
   obtain rfl:=si hm
   exact s.fi
 ·refine se (rg (sq s (lra (K:=1011) (ds:=[y8,y9,y10,y11,y12]) State (t I) I I I I) I λa w s=>sra (K:=1000) (m:=[y8,y9,y10,y11,y12]) (cs':=[y8,y9,y10,y11,y12]) s (t I) I (t I) (by kernel_rfl) I I I λw s=>nl ?_))
  obtain rfl:=si hm
  refine fzk (α:=Int) (k:=1006) hM s I λs=>?_
  refine fzk (α:=Bool) (k:=1007) hM s I λs=>?_
  refine fzk (α:=Bool) (k:=1008) hM s I λs=>?_
  refine fzk (α:=Bool) (k:=1009) hM s I λs=>?_
  refine fzk (α:=Int) (k:=1010) hM s I λs=>?_
  refine shut (k:=1000) (x:=(⟨x2,x3,x4,o16s.2.1,x6⟩:State)) s I (rpS30 (l:=([y8],[y9],[y10],[y11],[y12])) (rpz (k:=1006) I) (rpz (k:=1007) I) (rpz (k:=1008) I) (rpz (k:=1009) I) (rpz (k:=1010) I)) λs=>?_
  refine wpIn_ret ?_
  exact rn hD s I (rv1 (rc (K:=1000) I I))
def m133_l1 (v0:Control):Nat→(Int×(List Bool))→Option (Int×(List Bool))
 | 0,_=>none
 | n+1,z14=>(bif (decide (z14.1 < (v0.Signals.length:Int))) then (idx v0.Signals z14.1).bind λx16=>(idx z14.2 z14.1).bind λx18=>m133_l1 v0 n ((wr (z14.1 + (1:Int))),(z14.2.set z14.1.toNat x16.Init)) else some (z14.1,z14.2))
def m133 (f:Nat) (v0:Control):Option (State×Int):=(m82 f v0).bind λx2=>(bif (x2 != (0:Int)) then some ((⟨([]:List Int),([]:List Bool),([]:List Bool),([]:List Bool),([]:List Int)⟩:State),x2) else (mks (0:Int) v0.Actuators).bind λx3=>(mks false v0.Actuators).bind λx5=>(mks false (v0.Inputs.length:Int)).bind λx7=>(mks false (v0.Signals.length:Int)).bind λx9=>(mks (0:Int) (v0.Signals.length:Int)).bind λx11=>(m133_l1 v0 f ((0:Int),x9)).bind λo15s=>(m202 f v0 (⟨x3,x5,x7,o15s.2,x11⟩:State)).bind λx19=>some (x19,(0:Int)))
theorem s133 (f:Nat) (v0:Control) (r:State×Int) (hm:m133 f v0=some r):Sp Tryz.prog 133 [Va v0] (T2 (Va r.1) (Va r.2)):=by
 unfold m133 at hm
 refine ens Tryz.func133 (by kernel_rfl) I Tryz.ntmps133 I I λM W a hM hD s=>?_
 refine se (rg (ru 1 s λa w s=>aR 1000 s λb1 a w s=>ru 1 s λa w s=>nl ?_))
 refine se (se (rg (ru 1 s λa w s=>cB s hm (s82 f _) λx2 hm a w s=>ru 1 s λa w s=>nl ?_)))
 refine R 2 s λa w s=>?_
 refine cmf s hm (λhb hm=>?_) λhb hm=>?_
 ·refine se (rg (sq s (bl31_ ) I λa w s=>ru 1 s λa w s=>sW s I λw s=>ru 1 s λa w s=>nl ?_))
  cases hm;exact rU hD s I I
 ·refine R 4 s λa w s=>?_
  obtain ⟨x3,hx3,hm⟩:=bk hm
  obtain ⟨x5,hx5,hm⟩:=bk hm
  obtain ⟨x7,hx7,hm⟩:=bk hm
  obtain ⟨x9,hx9,hm⟩:=bk hm
  obtain ⟨x11,hx11,hm⟩:=bk hm
  refine se (flow2 [] [0,1,2,3,4,5,6,7,8,9,10,11,12,13] [18,19,20,21,22,23,24,25,26,27,28,29,30,31] [] [] [6] [(14,[]),(16,[6])] s (.skip (.late (.skip (.cons (.cons (.cons (.cons (.cons (.cons (.cons (.cons (.cons (.cons (.cons (.cons (.cons (.cons .nil I I (fa (f:=Control.Actuators) (t I))) I I (ld (t I))) I I (mkS (t I) (t I) hx3.e)) I I (fa (f:=Control.Actuators) (t I))) I I (ld (t I))) I I (mkS (t I) (t I) hx5.e)) I I (fa (f:=Control.Inputs) (t I))) I I (ld (t I))) I I (ln (t I))) I I (mkS (t I) (t I) hx7.e)) I I (mv (t I))) I I (mkS (t I) (t I) hx9.e)) I I (mv (t I))) I I (mkS (t I) (t I) hx11.e)) I) I I (alr (cs:=[nz,nz,nz,nz,nz]) (z:=.agg #[nz,nz,nz,nz,nz]) (by kernel_rfl) I I)) I) (by kernel_rfl) (by kernel_rfl) I I sb0 I (by decide) I I ?_)
  refine ⟨⟨λ_=>I,I,.inr ⟨sb0,sb0,sn0⟩⟩,by kernel_rfl,_,I,λΨ a w s=>opo (d:=20) 1006 s I I λc4 s=>opo (d:=23) 1007 s I I λc6 s=>opo (d:=27) 1008 s I I λc8 s=>opo (d:=29) 1009 s I I λc10 s=>opo (d:=31) 1010 s I I λc12 s=>sq s (bla (L:=[(0,1),(1,1),(2,1),(3,1),(4,1)]) (z:=[nz,nz,nz,nz,nz]) (res:=[c4,c6,c8,c10,c12]) I (by kernel_rfl) (by kernel_rfl) (pdq (t I) (oco (k:=1006) I) (pdq (t I) (oco (k:=1007) I) (pdq (t I) (oco (k:=1008) I) (pdq (t I) (oco (k:=1009) I) (pdq (t I) (oco (k:=1010) I) pdn))))) I I) I λa w s=>nl ?_⟩
  refine nxt Ψ s ?_
  refine ⟨⟨λ_=>I,I,.inr ⟨sb0,sb0,sn0⟩⟩,by kernel_rfl,_,I,λΨ a w s=>opr (d:=6) 1011 s I I λb13 s=>sra (K:=1011) (m:=[c4,c6,c8,c10,c12]) (cs':=[c4,c6,c8,c10,c12]) s (t I) I (t I) (by kernel_rfl) I I I λw s=>nl ?_⟩
  refine nxt Ψ s ?_
  refine ⟨⟨λ_=>I,I,.inl I⟩,λa w s=>?_⟩
  replace s:St M W 51 [(0,Va v0),(1,Pt v0),(2,Qv (pb b1 0)),(3,Va ((0:Int))),(4,Va x2),(5,Va ((v0.Signals.length:Int))),(6,Qv (pb b13 0)),(1000,Mr b1 [nz,nz,nz,nz,nz]),(1011,Mr b13 [c4,c6,c8,c10,c12]),(1006,Ow 3 c4 x3),(1007,Ow 4 c6 x5),(1008,Ow 4 c8 x7),(1009,Ow 4 c10 x9),(1010,Ow 3 c12 x11)] a w:=s.pick [0,1,2,3,4,5,6,1000,1011,1006,1007,1008,1009,1010]
  refine se (R 4 s λa w s=>?_)
  refine lA hm [0,1,2,3,4,5,6,34,35,1000,1011,1006,1007,1008,1010] s (λz14=>[(36,Va z14.1),(1009,Ow 4 c10 z14.2)]) s.fi (λ_=>I) (λo15s hko15 n z14 a w hm s=>?_) λo15s hm a w s=>?_
  ·unfold m133_l1 at hm
   refine R 1 s λa w s=>?_
   refine se (cmt s hm (λhb hm=>?_) λhb hm=>?_)
   ·refine se (wpIn_block ?_)
    refine se (rg (ru 1 s λa w s=>iB s hm λx16 hm a w s=>ru 1 s λa w s=>aR 1012 s λb17 a w s=>ru 1 s λa w s=>sW s I λw s=>nl ?_))
    obtain ⟨x18,hx18,hm⟩:=bk hm
    refine rg (ru 6 s λa w s=>stq (k:=1009) s (t I) I (idxg hx18.e) (t I) λw s=>nl ?_)
    refine R0 2 s λa w s=>?_
    exact ⟨_,hm,s.fi⟩
   ·refine wpIn_exit ?_
    obtain rfl:=si hm
    exact s.fi
  ·obtain ⟨x19,hx19,hm⟩:=bk hm
   refine se (rg (ru 1 s λa w s=>sq s (lra (K:=1011) (ds:=[c4,c6,c8,c10,c12]) State (t I) I I I I) I λa w s=>fzk (α:=Int) (k:=1006) hM s I λs=>fzk (α:=Bool) (k:=1007) hM s I λs=>fzk (α:=Bool) (k:=1008) hM s I λs=>fzk (α:=Bool) (k:=1009) hM s I λs=>fzk (α:=Int) (k:=1010) hM s I λs=>sq s (cc I (oc (t I) (oc (qad (y:=(⟨x3,x5,x7,o15s.2,x11⟩:State)) (t I) (rpS30 (l:=([c4],[c6],[c8],[c10],[c12])) (rpz (k:=1006) I) (rpz (k:=1007) I) (rpz (k:=1008) I) (rpz (k:=1009) I) (rpz (k:=1010) I)) I) on)) (s202 f _ _ _ hx19.e)) I λa w s=>sW s I λw s=>ru 1 s λa w s=>nl ?_))
   cases hm;exact rU hD s I I
def m71 (f:Nat) (v0:Control):Option (State×(List Int)×Int):=(m133 f v0).bind λx2=>(bif (x2.2 != (0:Int)) then some ((⟨([]:List Int),([]:List Bool),([]:List Bool),([]:List Bool),([]:List Int)⟩:State),([]:List Int),x2.2) else (m134 f v0 x2.1).bind λx4=>some (x4.1,x4.2.2,x4.2.1))
theorem s71 (f:Nat) (v0:Control) (r:State×(List Int)×Int) (hm:m71 f v0=some r):Sp Tryz.prog 71 [Va v0] (T3 (Va r.1) (Va r.2.1) (Va r.2.2)):=by
 unfold m71 at hm
 refine ens Tryz.func71 (by kernel_rfl) I Tryz.ntmps71 I I λM W a hM hD s=>?_
 refine se (rg (ru 1 s λa w s=>aR 1000 s λb1 a w s=>ru 2 s λa w s=>nl ?_))
 refine se (rg (ru 1 s λa w s=>cB s hm (s133 f _) λx2 hm a w s=>ru 3 s λa w s=>aR 1001 s λb3 a w s=>sW s I λw s=>ru 1 s λa w s=>nl ?_))
 refine se (R 2 s λa w s=>?_)
 refine cmf s hm (λhb hm=>?_) λhb hm=>?_
 ·refine se (rg (sq s (bl31_ ) I λa w s=>ru 1 s λa w s=>sW s I λw s=>ru 2 s λa w s=>nl ?_))
  cases hm;exact rV hD s I I
 ·obtain ⟨x4,hx4,hm⟩:=bk hm
  refine se (rg (ru 2 s λa w s=>sqz [1002] hM s (cc I (oc (t I) (oc (t I) on)) (s134 f _ _ _ hx4.e)) (λ_=>I) I I λy5 a w s=>ru 3 s λa w s=>sW s I λw s=>ru 2 s λa w s=>nl ?_))
  obtain rfl:=si hm
  refine fzk (α:=Int) (k:=1002) hM s I λs=>?_
  refine wpIn_ret ?_
  exact rn hD s I (rv3 (rc (K:=1000) I I) (ro (ta (k:=1002) (t I) I)) (rt I))
def m21_l1 (f:Nat) (v0:Control) (v1:List Bool):Nat→(Int×Int×State)→Option (Int×Int×State)
 | 0,_=>none
 | n+1,z5=>(bif (decide (z5.2.1 < (v1.length:Int))) then (idx v1 z5.2.1).bind λx7=>(bif ((z5.1 == (0:Int)) && x7) then (m46 f v0 z5.2.2 (⟨(2:Int),z5.2.1,true⟩:Event)).bind λx9=>some (x9.2.2,x9.1) else some (z5.1,z5.2.2)).bind λz8=>m21_l1 f v0 v1 n (z8.1,(wr (z5.2.1 + (1:Int))),z8.2) else some (z5.1,z5.2.1,z5.2.2))
def m21 (f:Nat) (v0:Control) (v1:List Bool):Option (State×Int):=(m82 f v0).bind λx2=>(bif (x2 != (0:Int)) then some ((⟨([]:List Int),([]:List Bool),([]:List Bool),([]:List Bool),([]:List Int)⟩:State),x2) else (bif ((v1.length:Int) != (v0.Inputs.length:Int)) then some ((⟨([]:List Int),([]:List Bool),([]:List Bool),([]:List Bool),([]:List Int)⟩:State),(8:Int)) else (m71 f v0).bind λx3=>(m21_l1 f v0 v1 f (x3.2.2,(0:Int),x3.1)).bind λo6s=>(bif (o6s.1 != (0:Int)) then some ((⟨([]:List Int),([]:List Bool),([]:List Bool),([]:List Bool),([]:List Int)⟩:State),o6s.1) else some (o6s.2.2,(0:Int)))))
theorem s21 (f:Nat) (v0:Control) (v1:List Bool) (r:State×Int) (hm:m21 f v0 v1=some r):Sp Tryz.prog 21 [Va v0,Va v1] (T2 (Va r.1) (Va r.2)):=by
 unfold m21 at hm
 refine ens Tryz.func21 (by kernel_rfl) I Tryz.ntmps21 I I λM W a hM hD s=>?_
 refine se (rg (ru 1 s λa w s=>aR 1000 s λb1 a w s=>ru 1 s λa w s=>nl ?_))
 refine se (se (rg (ru 1 s λa w s=>cB s hm (s82 f _) λx2 hm a w s=>ru 1 s λa w s=>nl ?_)))
 refine R 2 s λa w s=>?_
 refine cmf s hm (λhb hm=>?_) λhb hm=>?_
 ·refine se (rg (sq s (bl31_ ) I λa w s=>ru 1 s λa w s=>sW s I λw s=>ru 1 s λa w s=>nl ?_))
  cases hm;exact rU hD s I I
 ·refine se (R 6 s λa w s=>?_)
  refine cmf s hm (λhb hm=>?_) λhb hm=>?_
  ·refine se (rg (sq s (bl31_ ) I λa w s=>sW s I λw s=>ru 1 s λa w s=>nl ?_))
   cases hm;exact rU hD s I I
  ·refine se (rg (ru 1 s λa w s=>cB s hm (s71 f _) λx3 hm a w s=>ru 4 s λa w s=>aR 1001 s λb4 a w s=>sW s I λw s=>ru 2 s λa w s=>nl ?_))
   refine se (R 3 s λa w s=>?_)
   refine lA hm [0,1,2,4,5,6,7,31,32,1000] s (λz5=>[(9,Va z5.1),(33,Va z5.2.1),(1001,Mg b4 z5.2.2)]) s.fi (λ_=>I) (λo6s hko6 n z5 a w hm s=>?_) λo6s hm a w s=>?_
   ·unfold m21_l1 at hm
    refine R 1 s λa w s=>?_
    refine se (cmt s hm (λhb hm=>?_) λhb hm=>?_)
    ·refine se (wpIn_block ?_)
     refine se (rg (ru 1 s λa w s=>iB s hm λx7 hm a w s=>ru 3 s λa w s=>nl ?_))
     refine R 5 s λa w s=>?_
     obtain ⟨z8,hz8,hkz8⟩:=bs hm
     refine cP [0,1,2,4,5,6,7,10,11,31,32,33,1000] s [(9,Va z8.1),(1001,Mg b4 z8.2)] ?_ λa w s=>?_
     ·refine cm s I hz8 (λhb hm=>?_) (λhb hm=>?_)
      ·refine rg (ru 3 s λa w s=>sq s (bl79_0_1_2 ci (t I) cb) I λa w s=>cB s hm (s46 f _ _ _) λx9 hm a w s=>ru 4 s λa w s=>sw (K:=1001) s (t I) I (t I) I λw s=>ru 1 s λa w s=>nl ?_)
       obtain rfl:=si hm
       exact s.fi
      ·refine wpIn_skip ?_
       obtain rfl:=si hm
       exact s.fi
     ·replace hm:=hkz8
      refine R0 2 s λa w s=>?_
      exact ⟨_,hm,s.fi⟩
    ·refine wpIn_exit ?_
     obtain rfl:=si hm
     exact s.fi
   ·refine se (R 2 s λa w s=>?_)
    refine cmf s hm (λhb hm=>?_) λhb hm=>?_
    ·refine se (rg (sq s (bl31_ ) I λa w s=>ru 1 s λa w s=>sW s I λw s=>ru 1 s λa w s=>nl ?_))
     cases hm;exact rU hD s I I
    ·refine se (rg (ru 1 s λa w s=>sW s I λw s=>ru 1 s λa w s=>nl ?_))
     cases hm;exact rU hD s I I
def m90_3 (f:Nat) (v0:State) (v1:List (Key×Int)) (v2:List State) (v3:List (List Int)) (v4:List Int):Option (Int×(List (Key×Int))×(List State)×(List Int)):=(m88 f v0).bind λx1=>(bif (!(mat eqq144 v1 x1).isSome) then (bif ((v2.length:Int) == (16384:Int)) then some ((12:Int),v1,v2,v4) else (app v2 ([v0]:List State)).bind λx3=>(app v4 ([(v2.length:Int)]:List Int)).bind λx5=>some ((0:Int),(mput eqq144 v1 x1 (v2.length:Int)),x3,x5)) else (app v4 ([((mat eqq144 v1 x1).getD (0:Int))]:List Int)).bind λx7=>some ((0:Int),v1,v2,x7))
theorem s90_3 (f:Nat) (n0:Nat) (n1:Nat) (n2:Nat) (n3:Nat) (n4:Value) (n5:Value) (n6:Value) (v0:State) (v1:List (Key×Int)) (v2:List State) (v3:List (List Int)) (v4:List Int) (r:Int×(List (Key×Int))×(List State)×(List Int)) (hm:m90_3 f v0 v1 v2 v3 v4=some r):Cg Tryz.prog 90 [Va v0,Qv (pb n0 0),Qv (pb n1 0),Qv (pb n2 0)] [Mr n0 [(.map (some n3))],Om n3 (v1:List (Key×Int)),Mr n1 [n4,n5],Ow 31 n4 v2,Ow 24 n5 v3,Mr n2 [n6],Ow 3 n6 v4] (Rz (λx:Value×Value=>Va r.1) (λx=>[Mr n0 [(.map (some n3))],Om n3 (r.2.1:List (Key×Int)),Mr n1 [x.1,n5],Ow 31 x.1 r.2.2.1,Ow 24 n5 v3,Mr n2 [x.2],Ow 3 x.2 r.2.2.2])):=by
 unfold m90_3 at hm
 refine eng Tryz.func90 (by kernel_rfl) I Tryz.ntmps90 I I λM W a hM hD s=>?_
 refine R 2 s λa w s=>?_
 refine se (rg (ru 1 s λa w s=>cB s hm (s88 f _) λx1 hm a w s=>sqb 1007 s (al (z:=(⟨ByteArray.empty,ByteArray.empty,ByteArray.empty,ByteArray.empty,ByteArray.empty⟩:Key))) I I λb2 a w s=>sw (K:=1007) s (t I) I (t I) I λw s=>nl ?_))
 refine se (rg (sq s (lrp (K:=1000) (t I) I I (by kernel_rfl)) I λa w s=>ru 1 s λa w s=>sq s (lko (K:=144) (E:=3) (KK:=1001) (z:=(0:Int)) (t I) I (t I) (by kernel_rfl) (by kernel_rfl)) I λa w s=>ru 5 s λa w s=>nl ?_))
 refine se (R 2 s λa w s=>?_)
 refine cmf s hm (λhb hm=>?_) λhb hm=>?_
 ·refine se (R 4 s λa w s=>?_)
  refine cmf s hm (λhb hm=>?_) λhb hm=>?_
  ·refine R 1 s λa w s=>?_
   obtain rfl:=si hm
   refine wpIn_ret ?_
   exact rz [1000,1001,1002,1003,1004,1005,1006] (n4,n6) hM hD s I (rv1 (rt I)) (kc I (kc I (kc I (kc I (kc I (kc I (kc I kn))))))) I
  ·refine R 4 s λa w s=>?_
   refine se (rg (sq s (lrp (K:=1000) (t I) I I (by kernel_rfl)) I λa w s=>ru 2 s λa w s=>stm (K:=144) (E:=3) (KK:=1001) s (t I) I (t I) (t I) (by kernel_rfl) λw s=>nl ?_))
   obtain ⟨x3,hx3,hm⟩:=bk hm
   refine rg (ru 4 s λa w s=>apd (α:=State) (k:=1003) s (t I) I (t I) hx3.e I I λc4 a w s=>ru 1 s λa w s=>srq (K:=1002) (cs':=[c4,n5]) s (t I) I (t I) (by kernel_rfl) (oco (k:=1003) I) I I λw s=>nl ?_)
   obtain ⟨x5,hx5,hm⟩:=bk hm
   refine se (rg (ru 3 s λa w s=>apd (α:=Int) (k:=1006) s (t I) I (t I) hx5.e I I λc6 a w s=>srq (K:=1005) (cs':=[c6]) s (t I) I (t I) (by kernel_rfl) (oco (k:=1006) I) I I λw s=>nl ?_))
   refine R 1 s λa w s=>?_
   obtain rfl:=si hm
   refine wpIn_ret ?_
   exact rz [1000,1001,1002,1003,1004,1005,1006] (c4,c6) hM hD s I (rv1 (rt I)) (kc I (kc I (kc I (kc I (kc I (kc I (kc I kn))))))) I
 ·obtain ⟨x7,hx7,hm⟩:=bk hm
  refine se (rg (ru 3 s λa w s=>apd (α:=Int) (k:=1006) s (t I) I (t I) hx7.e I I λc8 a w s=>srq (K:=1005) (cs':=[c8]) s (t I) I (t I) (by kernel_rfl) (oco (k:=1006) I) I I λw s=>nl ?_))
  refine R 1 s λa w s=>?_
  obtain rfl:=si hm
  refine wpIn_ret ?_
  exact rz [1000,1001,1002,1003,1004,1005,1006] (n4,c8) hM hD s I (rv1 (rt I)) (kc I (kc I (kc I (kc I (kc I (kc I (kc I kn))))))) I
def m89_1_l1 (f:Nat) (v0:Control) (v1:State) (v4:List (List Int)) (x1:Int×(List Event)):Nat→(Int×(List (Key×Int))×(List State)×(List Int))→Option (Lo (Int×(List (Key×Int))×(List State)×(List Int)) (Int×(List (Key×Int))×(List State)×(List Int)))
 | 0,_=>none
 | n+1,z4=>(bif (decide (z4.1 < (x1.2.length:Int))) then (idx x1.2 z4.1).bind λx7=>(m46 f v0 v1 x7).bind λx9=>(bif (x9.2.2 != (0:Int)) then some (.ret (x9.2.2,z4.2.1,z4.2.2.1,z4.2.2.2)) else (m90_3 f x9.1 z4.2.1 z4.2.2.1 v4 z4.2.2.2).bind λx11=>(bif (x11.1 != (0:Int)) then some (.ret (x11.1,x11.2.1,x11.2.2.1,x11.2.2.2)) else m89_1_l1 f v0 v1 v4 x1 n ((wr (z4.1 + (1:Int))),x11.2.1,x11.2.2.1,x11.2.2.2))) else some (.brk (z4.1,z4.2.1,z4.2.2.1,z4.2.2.2)))
def m89_1 (f:Nat) (v0:Control) (v1:State) (v2:List (Key×Int)) (v3:List State) (v4:List (List Int)):Option (Int×(List (Key×Int))×(List State)×(List Int)):=(m45 f v0 v1).bind λx1=>(bif (x1.1 != (0:Int)) then some (x1.1,v2,v3,([]:List Int)) else ((m89_1_l1 f v0 v1 v4 x1 f ((0:Int),v2,v3,([]:List Int))).bind λo5=>match o5 with | .brk o5s=>some ((0:Int),o5s.2.1,o5s.2.2.1,o5s.2.2.2) | .ret r=>some r))
theorem s89_1 (f:Nat) (n0:Nat) (n1:Nat) (n2:Nat) (n3:Nat) (n4:Value) (n5:Value) (v0:Control) (v1:State) (v2:List (Key×Int)) (v3:List State) (v4:List (List Int)) (r:Int×(List (Key×Int))×(List State)×(List Int)) (hm:m89_1 f v0 v1 v2 v3 v4=some r):Cg Tryz.prog 89 [Va v0,Va v1,Qv (fv 90 [] [(pb n0 0),(pb n1 0),(pb n2 0)])] [Mr n0 [(.map (some n3))],Om n3 (v2:List (Key×Int)),Mr n1 [n4,n5],Ow 31 n4 v3,Ow 24 n5 v4,Mr n2 [nz]] (Rz (λx:Value×Value=>Va r.1) (λx=>[Mr n0 [(.map (some n3))],Om n3 (r.2.1:List (Key×Int)),Mr n1 [x.1,n5],Ow 31 x.1 r.2.2.1,Ow 24 n5 v4,Mr n2 [x.2],Ow 3 x.2 r.2.2.2])):=by
 unfold m89_1 at hm
 refine eng Tryz.func89 (by kernel_rfl) I Tryz.ntmps89 I I λM W a hM hD s=>?_
 refine R 3 s λa w s=>?_
 obtain ⟨x1,hx1,hm⟩:=bk hm
 refine se (rg (ru 2 s λa w s=>sqz [1006] hM s (cc I (oc (t I) (oc (t I) on)) (s45 f _ _ _ hx1.e)) (λ_=>I) I I λy2 a w s=>ru 5 s λa w s=>nl ?_))
 refine se (R 2 s λa w s=>?_)
 refine cmf s hm (λhb hm=>?_) λhb hm=>?_
 ·refine R 2 s λa w s=>?_
  obtain rfl:=si hm
  refine nilc (α:=Int) (k:=1005) (cs':=λc3=>[c3]) 1007 3 s I (λ_=>I) I λc3 s=>?_
  refine wpIn_ret ?_
  exact rz [1000,1001,1002,1003,1004,1005,1007] (n4,c3) hM hD s I (rv1 (rt I)) (kc I (kc I (kc I (kc I (kc I (kc I (kc I kn))))))) I
 ·refine se (R 3 s λa w s=>?_)
  refine nilc (α:=Int) (k:=1005) (cs':=λc6=>[c6]) 1008 3 s I (λ_=>I) I λc6 s=>?_
  refine lB2 hm [0,1,2,3,4,6,7,8,24,25,1000,1004,1006] s (λz4 z4c0 z4c1=>[(26,Va z4.1),(1001,Om n3 (z4.2.1:List (Key×Int))),(1002,Mr n1 [z4c0,n5]),(1003,Ow 31 z4c0 z4.2.2.1),(1005,Mr n2 [z4c1]),(1008,Ow 3 z4c1 z4.2.2.2)]) ⟨n4,c6,s.fi⟩ (λ_=>I) (λo5 hko5 n z4 a w hm s=>?_) λo5s hm a w s=>?_
  ·obtain ⟨z4c0,z4c1,s⟩:=s
   unfold m89_1_l1 at hm
   refine R 1 s λa w s=>?_
   refine se (cmt s hm (λhb hm=>?_) λhb hm=>?_)
   ·refine se (wpIn_block ?_)
    obtain ⟨x7,hx7,hm⟩:=bk hm
    refine se (rg (ru 2 s λa w s=>sqb 1009 s (al (z:=(⟨(0:Int),(0:Int),false⟩:Event))) I I λb8 a w s=>sw (K:=1009) s (t I) I (t I) I λw s=>nl ?_))
    refine se (rg (ru 3 s λa w s=>cB s hm (s46 f _ _ _) λx9 hm a w s=>ru 4 s λa w s=>aR 1010 s λb10 a w s=>sW s I λw s=>ru 2 s λa w s=>nl ?_))
    refine se (R 2 s λa w s=>?_)
    refine cmf s hm (λhb hm=>?_) λhb hm=>?_
    ·refine R 2 s λa w s=>?_
     obtain rfl:=si hm
     replace hm:=hko5
     dsimp only at hm
     obtain rfl:=si hm
     refine wpIn_ret ?_
     exact rz [1000,1001,1002,1003,1004,1005,1008] (z4c0,z4c1) hM hD s I (rv1 (rt I)) (kc I (kc I (kc I (kc I (kc I (kc I (kc I kn))))))) I
    ·obtain ⟨x11,hx11,hm⟩:=bk hm
     refine se (rg (ru 2 s λa w s=>cgv [1000,1001,1002,1003,1004,1005,1008] [1000,1001,1002,1003,1004,1005,1008] hM s (t I) I (oc (t I) on) vn (vq (vq (vq vn))) (s90_3 f n0 n1 n2 n3 z4c0 n5 z4c1 _ _ _ _ _ _ hx11.e) (kc I (kc I (kc I (kc I (kc I (kc I (kc I kn))))))) I (λ_=>I) I I I λy12 a w s=>ru 1 s λa w s=>nl ?_))
     refine R 2 s λa w s=>?_
     refine cmf s hm (λhb hm=>?_) λhb hm=>?_
     ·refine R 2 s λa w s=>?_
      obtain rfl:=si hm
      replace hm:=hko5
      dsimp only at hm
      obtain rfl:=si hm
      refine wpIn_ret ?_
      exact rz [1000,1001,1002,1003,1004,1005,1008] (y12.1,y12.2) hM hD s I (rv1 (rt I)) (kc I (kc I (kc I (kc I (kc I (kc I (kc I kn))))))) I
     ·refine R0 2 s λa w s=>?_
      exact ⟨_,hm,⟨y12.1,y12.2,s.fi⟩⟩
   ·refine wpIn_exit ?_
    exact ⟨_,(si hm).symm,⟨z4c0,z4c1,s.fi⟩⟩
  ·obtain ⟨o5sc0,o5sc1,s⟩:=s
   dsimp only at hm
   refine R 1 s λa w s=>?_
   obtain rfl:=si hm
   refine wpIn_ret ?_
   exact rz [1000,1001,1002,1003,1004,1005,1008] (o5sc0,o5sc1) hM hD s I (rv1 (rt I)) (kc I (kc I (kc I (kc I (kc I (kc I (kc I kn))))))) I
def m25_l1 (f:Nat) (v0:Control):Nat→(Int×(List State)×(List (List Int))×(List (Key×Int)))→Option (Lo (Int×(List State)×(List (List Int))×(List (Key×Int))) (Space×Int))
 | 0,_=>none
 | n+1,z9=>(bif (decide (z9.1 < (z9.2.1.length:Int))) then (idx z9.2.1 z9.1).bind λx13=>(m89_1 f v0 x13 z9.2.2.2 z9.2.1 z9.2.2.1).bind λx14=>(bif (x14.1 != (0:Int)) then some (.ret ((⟨([]:List State),([]:List (List Int))⟩:Space),x14.1)) else (app z9.2.2.1 ([x14.2.2.2]:List (List Int))).bind λx16=>m25_l1 f v0 n ((wr (z9.1 + (1:Int))),x14.2.2.1,x16,x14.2.1)) else some (.brk (z9.1,z9.2.1,z9.2.2.1,z9.2.2.2)))
def m25 (f:Nat) (v0:Control) (v1:List Bool):Option (Space×Int):=(m21 f v0 v1).bind λx2=>(bif (x2.2 != (0:Int)) then some ((⟨([]:List State),([]:List (List Int))⟩:Space),x2.2) else (m88 f x2.1).bind λx7=>((m25_l1 f v0 f ((0:Int),([x2.1]:List State),([]:List (List Int)),(mput eqq144 ([]:List (Key×Int)) x7 (0:Int)))).bind λo10=>match o10 with | .brk o10s=>some ((⟨o10s.2.1,o10s.2.2.1⟩:Space),(0:Int)) | .ret r=>some r))
theorem s25 (f:Nat) (v0:Control) (v1:List Bool) (r:Space×Int) (hm:m25 f v0 v1=some r):Sp Tryz.prog 25 [Va v0,Va v1] (T2 (Va r.1) (Va r.2)):=by
 unfold m25 at hm
 refine ens Tryz.func25 (by kernel_rfl) I Tryz.ntmps25 I I λM W a hM hD s=>?_
 refine se (rg (ru 1 s λa w s=>aR 1000 s λb1 a w s=>ru 1 s λa w s=>nl ?_))
 refine se (rg (ru 2 s λa w s=>cB s hm (s21 f _ _) λx2 hm a w s=>ru 3 s λa w s=>aR 1001 s λb3 a w s=>sW s I λw s=>ru 1 s λa w s=>nl ?_))
 refine se (R 2 s λa w s=>?_)
 refine cmf s hm (λhb hm=>?_) λhb hm=>?_
 ·refine se (rg (sq s (bl42_ ) I λa w s=>ru 1 s λa w s=>sW s I λw s=>ru 1 s λa w s=>nl ?_))
  cases hm;exact rU hD s I I
 ·refine se (rg (ru 1 s λa w s=>sqo 1002 s (bso (o1 (t I) o0) I I (by kernel_rfl)) I I λc4 a w s=>sq s (bla (L:=[(0,1),(1,1)]) (z:=[nz,nz]) (res:=[c4,nz]) I (by kernel_rfl) (by kernel_rfl) (pdq (t I) (oco (k:=1002) I) pdn) I I) I λa w s=>aR 1003 s λb5 a w s=>sra (K:=1003) (m:=[c4,nz]) (cs':=[c4,nz]) s (t I) I (t I) (by kernel_rfl) I I I λw s=>nl ?_))
  refine se (rg (sqm 1004 s (mkm (κ:=Key) (ν:=Int)) I I λb6 a w s=>ru 1 s λa w s=>cB s hm (s88 f _) λx7 hm a w s=>stmi (K:=144) (E:=3) (KK:=1004) s (t I) I (t I) ci (by kernel_rfl) λw s=>ru 1 s λa w s=>aR 1005 s λb8 a w s=>srq (K:=1005) (cs':=[(.map (some b6))]) s (t I) I (t I) (by kernel_rfl) (ocr I) I I λw s=>nl ?_))
  refine se (R 1 s λa w s=>?_)
  refine nilc (α:=List Int) (k:=1003) (cs':=λc11=>[c4,c11]) 1006 24 s I (λ_=>I) I λc11 s=>?_
  refine lB2 hm [0,1,2,4,5,6,7,8,9,1000,1001,1005] s (λz9 z9c0 z9c1=>[(10,Va z9.1),(1003,Mr b5 [z9c0,z9c1]),(1002,Ow 31 z9c0 z9.2.1),(1006,Ow 24 z9c1 z9.2.2.1),(1004,Om b6 (z9.2.2.2:List (Key×Int)))]) ⟨c4,c11,s.fi⟩ (λ_=>I) (λo10 hko10 n z9 a w hm s=>?_) λo10s hm a w s=>?_
  ·obtain ⟨z9c0,z9c1,s⟩:=s
   unfold m25_l1 at hm
   refine se (R 5 s λa w s=>?_)
   refine cmt s hm (λhb hm=>?_) λhb hm=>?_
   ·refine se (wpIn_block ?_)
    refine se (rg (sqr 1007 s (alr (cs:=[nz]) (z:=nz) (by kernel_rfl) I I) I I λb12 a w s=>nl ?_))
    obtain ⟨x13,hx13,hm⟩:=bk hm
    obtain ⟨x14,hx14,hm⟩:=bk hm
    refine se (flow s (m:=7) (.cons (.cons (.cons (.cons (.cons (.cons (.cons .nil I (ld (t I))) I (fm_ (off:=0) (m:=0) (q:=0) (t I) (by kernel_rfl) I)) I (lrc (K:=1003) (List State) (t I) I I I I)) I (mv (t I))) I (ixq (α:=State) (k:=1002) (t I) I (t I) hx13.e)) I (lq (k:=1002) (t I) I (idxg hx13.e))) I (mkf I I qn (qc (t I) (qc (t I) (qc (t I) qn))))) (by kernel_rfl) I I λa w s=>cgv [1005,1004,1003,1002,1006,1007] [1005,1004,1003,1002,1006,1007,1008] hM s qf I (oc (t I) (oc (t I) (oc (t I) on))) vn vn (s89_1 f b8 b5 b12 b6 z9c0 z9c1 _ _ _ _ _ _ hx14.e) (kc I (kc I (kc I (kc I (kc I (kc I kn)))))) I (λ_=>I) I I I λy15 a w s=>sq s (sa (t I)) I λa w s=>nl ?_)
    refine se (R 2 s λa w s=>?_)
    refine cmf s hm (λhb hm=>?_) λhb hm=>?_
    ·refine se (rg (sq s (bl42_ ) I λa w s=>ru 1 s λa w s=>sW s I λw s=>ru 1 s λa w s=>nl ?_))
     obtain rfl:=si hm
     replace hm:=hko10
     dsimp only at hm
     cases hm;exact rU hD s I I
    ·obtain ⟨x16,hx16,hm⟩:=bk hm
     refine rg (ru 3 s λa w s=>sq s (bsw (β:=Int) (cd1 (t I) (oco (k:=1008) I) cd0) I I (by kernel_rfl)) I λa w s=>fzk (α:=Int) (k:=1008) hM s I λs=>apd (α:=List Int) (k:=1006) s (t I) I (rwd (t I) (rl1 (rpz (k:=1008) I) rl0)) hx16.e I I λc17 a w s=>ru 1 s λa w s=>srq (K:=1003) (cs':=[y15.1,c17]) s (t I) I (t I) (by kernel_rfl) (oco (k:=1006) I) I I λw s=>nl ?_)
     refine R0 3 s λa w s=>?_
     exact ⟨_,hm,⟨y15.1,c17,s.fi⟩⟩
   ·refine wpIn_exit ?_
    exact ⟨_,(si hm).symm,⟨z9c0,z9c1,s.fi⟩⟩
  ·obtain ⟨o10sc0,o10sc1,s⟩:=s
   dsimp only at hm
   refine se (rg (sq s (lra (K:=1003) (ds:=[o10sc0,o10sc1]) Space (t I) I I I I) I λa w s=>sra (K:=1000) (m:=[o10sc0,o10sc1]) (cs':=[o10sc0,o10sc1]) s (t I) I (t I) (by kernel_rfl) I I I λw s=>ru 1 s λa w s=>nl ?_))
   obtain rfl:=si hm
   refine fzk (α:=State) (k:=1002) hM s I λs=>?_
   refine fzk (α:=List Int) (k:=1006) hM s I λs=>?_
   refine shut (k:=1000) (x:=(⟨o10s.2.1,o10s.2.2.1⟩:Space)) s I (rpS41 (l:=([o10sc0],[o10sc1])) (rpz (k:=1002) I) (rpz (k:=1006) I)) λs=>?_
   refine wpIn_ret ?_
   exact rn hD s I (rv2 (rc (K:=1000) I I) (rt I))
def m123 (f:Nat) (v0:Int) (v1:List Int) (v2:Int):Option (Bool):=(idx v1 v0).bind λx1=>(idx v1 v2).bind λx2=>some (x1 == (wr (x2 - (1:Int))))
theorem s123 (f:Nat) (n0:Nat) (n1:Nat) (n2:Value) (v0:Int) (v1:List Int) (v2:Int) (r:Bool) (hm:m123 f v0 v1 v2=some r):Cg Tryz.prog 123 [Va v0,Qv (pb n0 0),Qv (pb n1 0)] [Mr n0 [n2],Ow 3 n2 v1,Mg n1 v2] (Rz (λx:Unit=>Va r) (λx=>[Mr n0 [n2],Ow 3 n2 v1,Mg n1 v2])):=by
 unfold m123 at hm
 refine eng Tryz.func123 (by kernel_rfl) I Tryz.ntmps123 I I λM W a hM hD s=>?_
 refine R 1 s λa w s=>?_
 obtain ⟨x1,hx1,hm⟩:=bk hm
 obtain ⟨x2,hx2,hm⟩:=bk hm
 refine se (fW 10 s (by kernel_rfl) I I λa w s=>ru 1 s λa w s=>nl ?_)
 obtain rfl:=si hm
 refine wpIn_ret ?_
 exact rz [1000,1001,1002] () hM hD s I (rv1 (rt I)) (kc I (kc I (kc I kn))) I
def m122_3_l1 (f:Nat) (v0:List Int) (v1:List Int) (v2:Int):Nat→Int→Option (Lo (Int) (Int))
 | 0,_=>none
 | n+1,z1=>(bif (decide (z1 < (v0.length:Int))) then (idx v0 z1).bind λx3=>(m123 f x3 v1 v2).bind λx4=>(bif x4 then some (.ret z1) else m122_3_l1 f v0 v1 v2 n (wr (z1 + (1:Int)))) else some (.brk z1))
def m122_3 (f:Nat) (v0:List Int) (v1:List Int) (v2:Int):Option (Int):=((m122_3_l1 f v0 v1 v2 f (0:Int)).bind λo2=>match o2 with | .brk o2s=>some (-1:Int) | .ret r=>some r)
theorem s122_3 (f:Nat) (n0:Nat) (n1:Nat) (n2:Value) (v0:List Int) (v1:List Int) (v2:Int) (r:Int) (hm:m122_3 f v0 v1 v2=some r):Cg Tryz.prog 122 [Va v0,Qv (fv 123 [] [(pb n0 0),(pb n1 0)])] [Mr n0 [n2],Ow 3 n2 v1,Mg n1 v2] (Rz (λx:Unit=>Va r) (λx=>[Mr n0 [n2],Ow 3 n2 v1,Mg n1 v2])):=by
 unfold m122_3 at hm
 refine eng Tryz.func122 (by kernel_rfl) I Tryz.ntmps122 I I λM W a hM hD s=>?_
 refine R 1 s λa w s=>?_
 refine se (R 3 s λa w s=>?_)
 refine lB hm [0,1,4,7,1000,1001,1002] s (λz1=>[(8,Va z1)]) s.fi (λ_=>I) (λo2 hko2 n z1 a w hm s=>?_) λo2s hm a w s=>?_
 ·unfold m122_3_l1 at hm
  refine R 1 s λa w s=>?_
  refine se (cmt s hm (λhb hm=>?_) λhb hm=>?_)
  ·refine se (wpIn_block ?_)
   refine R 2 s λa w s=>?_
   obtain ⟨x3,hx3,hm⟩:=bk hm
   obtain ⟨x4,hx4,hm⟩:=bk hm
   refine se (rg (ru 5 s λa w s=>cgv [1000,1001,1002] [1000,1001,1002] hM s (t I) I (oc (t I) on) vn (vq (vq vn)) (s123 f n0 n1 n2 _ _ _ _ hx4.e) (kc I (kc I (kc I kn))) I (λ_=>I) I I I λy5 a w s=>nl ?_))
   refine cmf s hm (λhb hm=>?_) λhb hm=>?_
   ·refine R 2 s λa w s=>?_
    obtain rfl:=si hm
    replace hm:=hko2
    dsimp only at hm
    obtain rfl:=si hm
    refine wpIn_ret ?_
    exact rz [1000,1001,1002] () hM hD s I (rv1 (rt I)) (kc I (kc I (kc I kn))) I
   ·refine R0 2 s λa w s=>?_
    exact ⟨_,hm,s.fi⟩
  ·refine wpIn_exit ?_
   exact ⟨_,(si hm).symm,s.fi⟩
 ·dsimp only at hm
  refine R 1 s λa w s=>?_
  obtain rfl:=si hm
  refine wpIn_ret ?_
  exact rz [1000,1001,1002] () hM hD s I (rv1 (rt I)) (kc I (kc I (kc I kn))) I
def m57_l1 (f:Nat) (v0:Space) (v1:Int) (x3:(List Int)):Nat→((List Int)×Int)→Option (Lo ((List Int)×Int) ((List Int)×Int))
 | 0,_=>none
 | n+1,z8=>(bif (z8.2 != v1) then (idx v0.Moves z8.2).bind λx11=>(m122_3 f x11 x3 z8.2).bind λx12=>(bif (decide (x12 < (0:Int))) then some (.ret (([]:List Int),(6:Int))) else (app z8.1 ([x12]:List Int)).bind λx14=>(idx v0.Moves z8.2).bind λx16=>(idx x16 x12).bind λx17=>m57_l1 f v0 v1 x3 n (x14,x17)) else some (.brk (z8.1,z8.2)))
def m57 (f:Nat) (v0:Space) (v1:Int):Option ((List Int)×Int):=(m114 f v0).bind λx1=>(bif (x1 != (0:Int)) then some (([]:List Int),x1) else (bif ((decide (v1 < (0:Int))) || (decide (v1≥(v0.States.length:Int)))) then some (([]:List Int),(2:Int)) else (m116 f v0.Moves).bind λx2=>(m115 f x2 v1).bind λx3=>(idx x3 (0:Int)).bind λx6=>(bif (decide (x6 < (0:Int))) then some (([]:List Int),(6:Int)) else ((m57_l1 f v0 v1 x3 f (([]:List Int),(0:Int))).bind λo9=>match o9 with | .brk o9s=>some (o9s.1,(0:Int)) | .ret r=>some r))))
theorem s57 (f:Nat) (v0:Space) (v1:Int) (r:(List Int)×Int) (hm:m57 f v0 v1=some r):Sp Tryz.prog 57 [Va v0,Va v1] (T2 (Va r.1) (Va r.2)):=by
 unfold m57 at hm
 refine ens Tryz.func57 (by kernel_rfl) I Tryz.ntmps57 I I λM W a hM hD s=>?_
 refine R 3 s λa w s=>?_
 refine se (se (rg (ru 1 s λa w s=>cB s hm (s114 f _) λx1 hm a w s=>ru 1 s λa w s=>nl ?_)))
 refine R 2 s λa w s=>?_
 refine cmf s hm (λhb hm=>?_) λhb hm=>?_
 ·refine R 3 s λa w s=>?_
  cases hm;exact rU hD s I I
 ·refine se (R 9 s λa w s=>?_)
  refine cmf s hm (λhb hm=>?_) λhb hm=>?_
  ·refine R 2 s λa w s=>?_
   cases hm;exact rU hD s I I
  ·obtain ⟨x2,hx2,hm⟩:=bk hm
   obtain ⟨x3,hx3,hm⟩:=bk hm
   refine se (rg (ru 4 s λa w s=>sqz [1000] hM s (cc I (oc (t I) (oc (t I) on)) (s115 f _ _ _ hx3.e)) (λ_=>I) I I λy4 a w s=>aR 1001 s λb5 a w s=>srq (K:=1001) (cs':=[y4]) s (t I) I (t I) (by kernel_rfl) (oco (k:=1000) I) I I λw s=>nl ?_))
   refine se ?_
   obtain ⟨x6,hx6,hm⟩:=bk hm
   refine R 4 s λa w s=>?_
   refine cmf s hm (λhb hm=>?_) λhb hm=>?_
   ·refine R 2 s λa w s=>?_
    cases hm;exact rU hD s I I
   ·refine R 1 s λa w s=>?_
    refine se (se (rg (sqb 1002 s (al (z:=(0:Int))) I I λb7 a w s=>sw (K:=1002) s (t I) I ci I λw s=>nl ?_)))
    refine nilt (α:=Int) (d:=8) 1003 3 s I I λc10 s=>?_
    refine lb hm (λz8 a w=>∃ (z8c0:Value) (z8c1:Nat),St M W 60 [(0,Va v0),(1,Va v1),(2,Pt v0),(4,Qv nz),(5,Va ((0:Int))),(6,Va x1),(7,Qv (pb b5 0)),(8,Qv z8c0),(9,Qv (pb z8c1 0)),(1001,Mr b5 [y4]),(1000,Ow 3 y4 x3),(1003,Ow 3 z8c0 z8.1),(1002,Mg z8c1 z8.2)] a w) ⟨c10,b7,s.fi⟩ (λ_=>I) (λo9 hko9 n z8 a w hm s=>?_) λo9s hm a w s=>?_
    ·obtain ⟨z8c0,z8c1,s⟩:=s
     unfold m57_l1 at hm
     refine se (R 3 s λa w s=>?_)
     refine cmt s hm (λhb hm=>?_) λhb hm=>?_
     ·refine se (wpIn_block ?_)
      obtain ⟨x11,hx11,hm⟩:=bk hm
      obtain ⟨x12,hx12,hm⟩:=bk hm
      refine se (rg (ru 5 s λa w s=>sq s (mkf I I qn (qc (t I) (qc (t I) qn))) I λa w s=>cgv [1001,1000,1002] [1001,1000,1002] hM s qf I (oc (t I) (oc (t I) on)) vn vn (s122_3 f b5 z8c1 y4 _ _ _ _ hx12.e) (kc I (kc I (kc I kn))) I (λ_=>I) I I I λy13 a w s=>ru 1 s λa w s=>nl ?_))
      refine se (R 2 s λa w s=>?_)
      refine cmf s hm (λhb hm=>?_) λhb hm=>?_
      ·refine R 2 s λa w s=>?_
       obtain rfl:=si hm
       replace hm:=hko9
       dsimp only at hm
       cases hm;exact rU hD s I I
      ·obtain ⟨x14,hx14,hm⟩:=bk hm
       refine se (rg (ru 3 s λa w s=>apd (α:=Int) (k:=1003) s (t I) I (t I) hx14.e I I λc15 a w s=>ru 1 s λa w s=>nl ?_))
       refine rg (ru 3 s λa w s=>iB s hm λx16 hm a w s=>ru 2 s λa w s=>iB s hm λx17 hm a w s=>ru 1 s λa w s=>sw (K:=1002) s (t I) I (t I) I λw s=>nl ?_)
       refine R 1 s λa w s=>?_
       refine rg (sqb 1004 s (al (z:=(0:Int))) I I λb18 a w s=>sw (K:=1004) s (t I) I (t I) I λw s=>nl ?_)
       exact ⟨_,hm,⟨c15,b18,s.rekey (l:=[(0,0),(1,1),(2,2),(4,4),(5,5),(6,6),(7,7),(8,8),(9,9),(1001,1001),(1000,1000),(1003,1003),(1004,1002)]) (.same I (.same I (.same I (.same I (.same I (.same I (.same I (.same I (.same I (.same I (.same I (.same I (.key (t:=1004) (u:=1002) I .nil))))))))))))) I I⟩⟩
     ·refine wpIn_exit ?_
      exact ⟨_,(si hm).symm,⟨z8c0,z8c1,s.fi⟩⟩
    ·obtain ⟨o9sc0,o9sc1,s⟩:=s
     dsimp only at hm
     refine R 3 s λa w s=>?_
     obtain rfl:=si hm
     refine fzk (α:=Int) (k:=1003) hM s I λs=>?_
     refine wpIn_ret ?_
     exact rn hD s I (rv2 (ro (ta (k:=1003) (t I) I)) (rt I))
def m20 (f:Nat) :Option (Bool):=(m79 f).bind λx1=>(m25 f x1 ([true]:List Bool)).bind λx2=>(m79 f).bind λx4=>(m25 f x4 ([false]:List Bool)).bind λx5=>(bif (((((wr (x2.2 + x5.2)) != (0:Int)) || ((x2.1.States.length:Int) != (2:Int))) || ((x5.1.States.length:Int) != (1:Int))) || ((x2.1.Moves.length:Int) != (2:Int))) then some true else (idx x2.1.Moves (0:Int)).bind λx7=>(m53 f x7 ([(1:Int)]:List Int)).bind λx8=>some (!x8)).bind λr9=>(bif r9 then some true else (idx x2.1.Moves (1:Int)).bind λx10=>(m53 f x10 ([(0:Int)]:List Int)).bind λx11=>some (!x11)).bind λr12=>(bif r12 then some false else (m80 f (⟨#[65,43,32,66,43,59,32,65,45,32,66,45]⟩:ByteArray)).bind λx13=>(m81 f x13.1).bind λx15=>(m25 f x15 ([true]:List Bool)).bind λx16=>(m51 f x16.1).bind λx18=>(m49 f x5.1).bind λx19=>(m57 f x16.1 (3:Int)).bind λx20=>(bif ((((wr ((wr ((wr (x16.2 + x18.2)) + x19.2)) + x20.2)) == (0:Int)) && ((x16.1.States.length:Int) == (6:Int))) && ((x18.1.length:Int) == (6:Int))) then (m53 f x19.1 ([(0:Int)]:List Int)).bind λx21=>some x21 else some false).bind λr22=>(bif r22 then (m53 f x20.1 ([(0:Int),(0:Int)]:List Int)).bind λx23=>some x23 else some false).bind λr24=>some r24)
theorem s20 (f:Nat) (r:Bool) (hm:m20 f =some r):Sp Tryz.prog 20 [] (Va r):=by
 unfold m20 at hm
 refine ens Tryz.func20 (by kernel_rfl) I Tryz.ntmps20 I I λM W a hM hD s=>?_
 refine R 1 s λa w s=>?_
 obtain ⟨x1,hx1,hm⟩:=bk hm
 refine se (rg (ru 2 s λa w s=>cB s hm (s25 f _ _) λx2 hm a w s=>ru 3 s λa w s=>aR 1000 s λb3 a w s=>sW s I λw s=>ru 1 s λa w s=>nl ?_))
 obtain ⟨x4,hx4,hm⟩:=bk hm
 refine se (rg (ru 2 s λa w s=>cB s hm (s25 f _ _) λx5 hm a w s=>ru 3 s λa w s=>aR 1001 s λb6 a w s=>sW s I λw s=>ru 1 s λa w s=>nl ?_))
 refine se ?_
 obtain ⟨r9,hr9,hm⟩:=bs hm
 have gr9:=gF hr9
 have er9:=gT hr9
 obtain ⟨x7,hx7,gr9⟩:=gk gr9
 obtain ⟨x8,hx8,gr9⟩:=gk gr9
 obtain ⟨r12,hr12,hm⟩:=bs hm
 have gr12:=gF hr12
 have er12:=gT hr12
 obtain ⟨x10,hx10,gr12⟩:=gk gr12
 obtain ⟨x11,hx11,gr12⟩:=gk gr12
 have:=pko gr12 er12
 have:=pko gr9 er9
 refine R 40 s λa w s=>?_
 refine cmf s hm (λhb hm=>?_) λhb hm=>?_
 ·refine R 1 s λa w s=>?_
  cases hm;exact rT hD s I I
 ·refine se (rg (cB s hm (s80 f _) λx13 hm a w s=>ru 4 s λa w s=>aR 1002 s λb14 a w s=>sW s I λw s=>ru 2 s λa w s=>nl ?_))
  obtain ⟨x15,hx15,hm⟩:=bk hm
  refine se (rg (ru 3 s λa w s=>cB s hm (s25 f _ _) λx16 hm a w s=>ru 3 s λa w s=>aR 1003 s λb17 a w s=>sW s I λw s=>ru 1 s λa w s=>nl ?_))
  refine se (rg (ru 1 s λa w s=>cB s hm (s51 f _) λx18 hm a w s=>ru 5 s λa w s=>nl ?_))
  refine se (rg (ru 1 s λa w s=>cB s hm (s49 f _) λx19 hm a w s=>ru 5 s λa w s=>nl ?_))
  refine se (rg (ru 1 s λa w s=>cB s hm (s57 f _ _) λx20 hm a w s=>ru 5 s λa w s=>nl ?_))
  obtain ⟨r22,hr22,hm⟩:=bs hm
  have gr22:=gT hr22
  have er22:=gF hr22
  obtain ⟨x21,hx21,gr22⟩:=gk gr22
  obtain ⟨r24,hr24,hm⟩:=bs hm
  have gr24:=gT hr24
  have er24:=gF hr24
  obtain ⟨x23,hx23,gr24⟩:=gk gr24
  have:=pka gr22 er22
  have:=pka gr24 er24
  refine R 30 s λa w s=>?_
  cases hm;exact rT hD s I I
instance {f:Nat}:Cn Tryz.prog 20 (m20 f ) [] (λr:Bool=>(Va r)):=⟨s20 f⟩
def m176_l1 (v0:ByteArray):Nat→Int→Option (Lo (Int) (Bool))
 | 0,_=>none
 | n+1,z1=>(bif (decide (z1 < (v0.size:Int))) then (sidx v0 z1).bind λx3=>(bif (decide ((x3.toNat:Int)≥(UInt8.ofNat 97).toNat)) then (sidx v0 z1).bind λx4=>some (decide ((x4.toNat:Int)≤(UInt8.ofNat 122).toNat)) else some false).bind λr5=>(sidx v0 z1).bind λx6=>(bif (decide ((x6.toNat:Int)≥(UInt8.ofNat 65).toNat)) then (sidx v0 z1).bind λx7=>some (decide ((x7.toNat:Int)≤(UInt8.ofNat 90).toNat)) else some false).bind λr8=>(bif ((z1 == (0:Int)) && (!r5)) then some true else (bif ((!r5) && (!r8)) then (sidx v0 z1).bind λx9=>some ((x9.toNat:Int) != (UInt8.ofNat 95).toNat) else some false).bind λr10=>(bif r10 then (sidx v0 z1).bind λx11=>(bif (decide ((x11.toNat:Int) < (UInt8.ofNat 48).toNat)) then some true else (sidx v0 z1).bind λx12=>some (decide ((x12.toNat:Int) > (UInt8.ofNat 57).toNat))).bind λr13=>some r13 else some false).bind λr14=>some r14).bind λr15=>(bif r15 then some (.ret false) else m176_l1 v0 n (wr (z1 + (1:Int)))) else some (.brk z1))
def m176 (f:Nat) (v0:ByteArray):Option (Bool):=((m176_l1 v0 f (0:Int)).bind λo2=>match o2 with | .brk o2s=>some (!(v0.toList == (⟨#[]⟩:ByteArray).toList)) | .ret r=>some r)
theorem s176 (f:Nat) (v0:ByteArray) (r:Bool) (hm:m176 f v0=some r):Sp Tryz.prog 176 [Va v0] (Va r):=by
 unfold m176 at hm
 refine ens Tryz.func176 (by kernel_rfl) I Tryz.ntmps176 I I λM W a hM hD s=>?_
 refine R 1 s λa w s=>?_
 refine se (R 1 s λa w s=>?_)
 refine lB hm [0,2] s (λz1=>[(3,Va z1)]) s.fi (λ_=>I) (λo2 hko2 n z1 a w hm s=>?_) λo2s hm a w s=>?_
 ·unfold m176_l1 at hm
  refine se (R 4 s λa w s=>?_)
  refine cmt s hm (λhb hm=>?_) λhb hm=>?_
  ·refine se (wpIn_block ?_)
   obtain ⟨x3,hx3,hm⟩:=bk hm
   obtain ⟨r5,hr5,hm⟩:=bs hm
   have gr5:=gT hr5
   have er5:=gF hr5
   obtain ⟨x4,hx4,gr5⟩:=gk gr5
   obtain ⟨x6,hx6,hm⟩:=bk hm
   obtain ⟨r8,hr8,hm⟩:=bs hm
   have gr8:=gT hr8
   have er8:=gF hr8
   obtain ⟨x7,hx7,gr8⟩:=gk gr8
   have:=pka gr5 er5
   have:=pka gr8 er8
   refine se (flow s (m:=22) (.cons (.cons (.cons (.cong (.cong (.cong (.cong (.cons (.cons (.cons (.cons (.cons (.cons (.cong (.cong (.cong (.cong (.cons (.cons (.cons (.cons (.cons .nil I (mv (t I))) I (mv (t I))) I (sx (t I) (t I) Tryz.underlying9 hx3.e)) I (ge8 (t I) (c8 (by decide)))) I (mv (t I))) I I I (λhb=>(mv (t I)))) I I I (λhb=>(mv (t I)))) I I I (λhb=>(sx (tg I hb) (tg I hb) Tryz.underlying9 (hx4.h hb)))) I I I (λhb=>(le8 (tg I hb) (c8 (by decide))))) I (pa (t I) I (λh=>si (gr5 h)) (λh=>(si (er5 h)).symm))) I (mv (t I))) I (mv (t I))) I (sx (t I) (t I) Tryz.underlying9 hx6.e)) I (ge8 (t I) (c8 (by decide)))) I (mv (t I))) I I I (λhb=>(mv (t I)))) I I I (λhb=>(mv (t I)))) I I I (λhb=>(sx (tg I hb) (tg I hb) Tryz.underlying9 (hx7.h hb)))) I I I (λhb=>(le8 (tg I hb) (c8 (by decide))))) I (pa (t I) I (λh=>si (gr8 h)) (λh=>(si (er8 h)).symm))) I (sa (t I))) I (sa (t I))) (by kernel_rfl) I I λa w s=>nl ?_)
   obtain ⟨r15,hr15,hm⟩:=bs hm
   have gr15:=gF hr15
   have er15:=gT hr15
   obtain ⟨r10,hr10,gr15⟩:=gx gr15
   have gr10:=gT2 hr10
   have er10:=gF1 hr10
   obtain ⟨x9,hx9,gr10⟩:=gk gr10
   obtain ⟨r14,hr14,gr15⟩:=gx gr15
   have gr14:=gT2 hr14
   have er14:=gF1 hr14
   obtain ⟨x11,hx11,gr14⟩:=gk gr14
   obtain ⟨r13,hr13,gr14⟩:=gx gr14
   have gr13:=gF2 hr13
   have er13:=gT1 hr13
   obtain ⟨x12,hx12,gr13⟩:=gk gr13
   have:=pko gr15 er15
   refine se (rg (ru 16 s λa w s=>sn s I I (λhb hc=>(sx (tg I (g2 hb hc)) (tg I (g2 hb hc)) Tryz.underlying9 (hx9.h (g2 hb hc)))) I λa w s=>sn s I I (λhb hc=>(ne8 (tg I (g2 hb hc)) (c8 (by decide)))) I λa w s=>sg s I I (λhb=>(pag (tg I hb) I (λh=>g2 hb h) (λh=>si (gr10 (g2 hb h))) (λh=>(si (er10 hb h)).symm))) I λa w s=>ru 3 s λa w s=>sn s I I (λhb hc=>(sx (tg I (g2 hb hc)) (tg I (g2 hb hc)) Tryz.underlying9 (hx11.h (g2 hb hc)))) I λa w s=>sn s I I (λhb hc=>(lt8 (tg I (g2 hb hc)) (c8 (by decide)))) I λa w s=>ru 3 s λa w s=>sn s I I (λhb hc=>(sx (tg I (g2 hb hc)) (tg I (g2 hb hc)) Tryz.underlying9 (hx12.h (g2 hb hc)))) I λa w s=>sn s I I (λhb hc=>(gt8 (tg I (g2 hb hc)) (c8 (by decide)))) I λa w s=>sn s I I (λhb hc=>(pog (tg I (g2 hb hc)) I (λh=>g2 (g2 hb hc) h) (λh=>si (gr13 (g2 (g2 hb hc) h))) (λh=>(si (er13 (g2 hb hc) h)).symm))) I λa w s=>sg s I I (λhb=>(pag (tg I hb) I (λh=>g2 hb h) (λh=>si (gr14 (g2 hb h))) (λh=>(si (er14 hb h)).symm))) I λa w s=>ru 1 s λa w s=>nl ?_))
   refine cmf s hm (λhb hm=>?_) λhb hm=>?_
   ·refine R 1 s λa w s=>?_
    obtain rfl:=si hm
    replace hm:=hko2
    dsimp only at hm
    cases hm;exact rT hD s I I
   ·refine R0 3 s λa w s=>?_
    exact ⟨_,hm,s.fi⟩
  ·refine wpIn_exit ?_
   exact ⟨_,(si hm).symm,s.fi⟩
 ·dsimp only at hm
  refine se (rg (ru 1 s λa w s=>sq s (sne (t I) cs) I λa w s=>ru 1 s λa w s=>nl ?_))
  cases hm;exact rT hD s I I
def m177 (f:Nat) (v0:Control):Option (Int):=some (wr ((wr ((2:Int) * v0.Actuators)) + (v0.Inputs.length:Int)))
theorem s177 (f:Nat) (v0:Control) (r:Int) (hm:m177 f v0=some r):Sp Tryz.prog 177 [Va v0] (Va r):=by
 unfold m177 at hm
 refine ens Tryz.func177 (by kernel_rfl) I Tryz.ntmps177 I I λM W a hM hD s=>?_
 refine R 2 s λa w s=>?_
 refine R 8 s λa w s=>?_
 cases hm;exact rT hD s I I
instance {f:Nat} {v0:Control}:Cn Tryz.prog 177 (m177 f v0) [Va v0] (λr:Int=>(Va r)):=⟨s177 f v0⟩
def m175 (f:Nat) (v0:Control) (v1:Int):Option (ByteArray):=(bif (decide (v1 < (wr ((2:Int) * v0.Actuators)))) then (ssl (⟨#[97,98,99,100,101,102]⟩:ByteArray) (wr (v1.tdiv (2:Int))) (wr ((wr (v1.tdiv (2:Int))) + (1:Int)))).bind λx1=>(ssl (⟨#[48,49]⟩:ByteArray) (v1.tmod (2:Int)) (wr ((v1.tmod (2:Int)) + (1:Int)))).bind λx2=>(cat x1 x2).bind λx3=>some x3 else (m177 f v0).bind λx4=>(bif (decide (v1 < x4)) then (idx v0.Inputs (wr (v1 - (wr ((2:Int) * v0.Actuators))))).bind λx5=>some x5 else (m177 f v0).bind λx6=>(idx v0.Signals (wr (v1 - x6))).bind λx7=>some x7.Name))
theorem s175 (f:Nat) (v0:Control) (v1:Int) (r:ByteArray) (hm:m175 f v0 v1=some r):Sp Tryz.prog 175 [Va v0,Va v1] (Va r):=by
 unfold m175 at hm
 refine ens Tryz.func175 (by kernel_rfl) I Tryz.ntmps175 I I λM W a hM hD s=>?_
 refine R 2 s λa w s=>?_
 refine se (R 5 s λa w s=>?_)
 refine cmf s hm (λhb hm=>?_) λhb hm=>?_
 ·obtain ⟨x1,hx1,hm⟩:=bk hm
  obtain ⟨x2,hx2,hm⟩:=bk hm
  obtain ⟨x3,hx3,hm⟩:=bk hm
  refine se (flow s (m:=13) (.cons (.cons (.cons (.cons (.cons (.cons (.cons (.cons (.cons (.cons (.cons (.cons (.cons .nil I (mv (t I))) I (qu (t I) ci (by decide))) I (mv (t I))) I (qu (t I) ci (by decide))) I (ad (t I) ci)) I (sl2 cs (t I) (t I) Tryz.underlying9 hx1.e)) I (mv (t I))) I (rm (t I) ci (by decide))) I (mv (t I))) I (rm (t I) ci (by decide))) I (ad (t I) ci)) I (sl2 cs (t I) (t I) Tryz.underlying9 hx2.e)) I (ct (t I) (t I) hx3.e)) (by kernel_rfl) I I λa w s=>sq s (sa (t I)) I λa w s=>nl ?_)
  cases hm;exact rT hD s I I
 ·refine se (se (rg (ru 2 s λa w s=>cB s hm (s177 f _) λx4 hm a w s=>ru 1 s λa w s=>nl ?_)))
  refine cmf s hm (λhb hm=>?_) λhb hm=>?_
  ·refine se (rg (ru 7 s λa w s=>iB s hm λx5 hm a w s=>ru 2 s λa w s=>nl ?_))
   cases hm;exact rT hD s I I
  ·obtain ⟨x6,hx6,hm⟩:=bk hm
   obtain ⟨x7,hx7,hm⟩:=bk hm
   refine se (fW 9 s (by kernel_rfl) I I λa w s=>ru 1 s λa w s=>nl ?_)
   cases hm;exact rT hD s I I
def m105_l1 (f:Nat) (v0:Control) (v1:Int) (x1:ByteArray):Nat→Int→Option (Lo (Int) (Int))
 | 0,_=>none
 | n+1,z3=>(bif (decide (z3 < v1)) then (m175 f v0 z3).bind λx5=>(bif (x5.toList == x1.toList) then some (.ret (7:Int)) else m105_l1 f v0 v1 x1 n (wr (z3 + (1:Int)))) else some (.brk z3))
def m105 (f:Nat) (v0:Control) (v1:Int):Option (Int):=(m175 f v0 v1).bind λx1=>(m176 f x1).bind λx2=>(bif (!x2) then some (3:Int) else (bif (decide ((x1.size:Int) > (24:Int))) then some (17:Int) else ((m105_l1 f v0 v1 x1 f (0:Int)).bind λo4=>match o4 with | .brk o4s=>some (0:Int) | .ret r=>some r)))
theorem s105 (f:Nat) (v0:Control) (v1:Int) (r:Int) (hm:m105 f v0 v1=some r):Sp Tryz.prog 105 [Va v0,Va v1] (Va r):=by
 unfold m105 at hm
 refine ens Tryz.func105 (by kernel_rfl) I Tryz.ntmps105 I I λM W a hM hD s=>?_
 refine R 2 s λa w s=>?_
 refine se (rg (ru 2 s λa w s=>cB s hm (s175 f _ _) λx1 hm a w s=>ru 1 s λa w s=>nl ?_))
 refine se (se (rg (ru 1 s λa w s=>cB s hm (s176 f _) λx2 hm a w s=>ru 1 s λa w s=>nl ?_)))
 refine cmf s hm (λhb hm=>?_) λhb hm=>?_
 ·refine R 1 s λa w s=>?_
  cases hm;exact rT hD s I I
 ·refine se (R 3 s λa w s=>?_)
  refine cmf s hm (λhb hm=>?_) λhb hm=>?_
  ·refine R 1 s λa w s=>?_
   cases hm;exact rT hD s I I
  ·refine se (R 1 s λa w s=>?_)
   refine lB hm [0,1,2,4,5] s (λz3=>[(6,Va z3)]) s.fi (λ_=>I) (λo4 hko4 n z3 a w hm s=>?_) λo4s hm a w s=>?_
   ·unfold m105_l1 at hm
    refine se (R 3 s λa w s=>?_)
    refine cmt s hm (λhb hm=>?_) λhb hm=>?_
    ·refine se (wpIn_block ?_)
     refine se (rg (ru 2 s λa w s=>cB s hm (s175 f _ _) λx5 hm a w s=>ru 2 s λa w s=>nl ?_))
     refine cmf s hm (λhb hm=>?_) λhb hm=>?_
     ·refine R 1 s λa w s=>?_
      obtain rfl:=si hm
      replace hm:=hko4
      dsimp only at hm
      cases hm;exact rT hD s I I
     ·refine R0 3 s λa w s=>?_
      exact ⟨_,hm,s.fi⟩
    ·refine wpIn_exit ?_
     exact ⟨_,(si hm).symm,s.fi⟩
   ·dsimp only at hm
    refine R 1 s λa w s=>?_
    cases hm;exact rT hD s I I
instance {f:Nat} {v0:Control} {v1:Int}:Cn Tryz.prog 105 (m105 f v0 v1) [Va v0,Va v1] (λr:Int=>(Va r)):=⟨s105 f v0 v1⟩
def m267 (f:Nat) (v0:Expr) (v1:Int):Option (Int):=(bif ((decide (v0.Op < (0:Int))) || (decide (v0.Op≥(5:Int)))) then some (1:Int) else (bif ((((decide (v0.Op≤(1:Int))) && ((v0.Args.length:Int) != (0:Int))) || ((v0.Op == (2:Int)) && ((v0.Args.length:Int) != (1:Int)))) || ((decide (v0.Op≥(3:Int))) && (decide ((v0.Args.length:Int) < (2:Int))))) then some (3:Int) else (bif (v0.Op == (0:Int)) then some (2:Int) else some (1:Int)).bind λz1=>(bif (v0.Op == (1:Int)) then some v1 else some z1).bind λz2=>(bif ((decide (v0.Index < (0:Int))) || (decide (v0.Index≥z2))) then some (2:Int) else some (0:Int))))
theorem s267 (f:Nat) (v0:Expr) (v1:Int) (r:Int) (hm:m267 f v0 v1=some r):Sp Tryz.prog 267 [Va v0,Va v1] (Va r):=by
 unfold m267 at hm
 refine ens Tryz.func267 (by kernel_rfl) I Tryz.ntmps267 I I λM W a hM hD s=>?_
 refine R 2 s λa w s=>?_
 refine se (R 8 s λa w s=>?_)
 refine cmf s hm (λhb hm=>?_) λhb hm=>?_
 ·refine R 1 s λa w s=>?_
  cases hm;exact rT hD s I I
 ·refine R 4 s λa w s=>?_
  refine se (R 25 s λa w s=>?_)
  refine cmf s hm (λhb hm=>?_) λhb hm=>?_
  ·refine R 1 s λa w s=>?_
   cases hm;exact rT hD s I I
  ·refine R 1 s λa w s=>?_
   refine se (R 3 s λa w s=>?_)
   obtain ⟨z1,hz1,hkz1⟩:=bs hm
   refine cP [0,1,2,4,5] s [(6,Va z1)] ?_ λa w s=>?_
   ·refine cm s I hz1 (λhb hm=>?_) (λhb hm=>?_)
    ·refine R0 1 s λa w s=>?_
     obtain rfl:=si hm
     exact s.fi
    ·refine wpIn_skip ?_
     obtain rfl:=si hm
     exact s.fi
   ·replace hm:=hkz1
    refine se (R 3 s λa w s=>?_)
    obtain ⟨z2,hz2,hkz2⟩:=bs hm
    refine cP [0,1,2,4,5] s [(6,Va z2)] ?_ λa w s=>?_
    ·refine cm s I hz2 (λhb hm=>?_) (λhb hm=>?_)
     ·refine R0 2 s λa w s=>?_
      obtain rfl:=si hm
      exact s.fi
     ·refine wpIn_skip ?_
      obtain rfl:=si hm
      exact s.fi
    ·replace hm:=hkz2
     refine se (R 9 s λa w s=>?_)
     refine cmf s hm (λhb hm=>?_) λhb hm=>?_
     ·refine R 1 s λa w s=>?_
      cases hm;exact rT hD s I I
     ·refine R 1 s λa w s=>?_
      cases hm;exact rT hD s I I
def m239_l1 (g239:Expr→Int→Option (Int)) (v0:Expr) (v1:Int):Nat→Int→Option (Lo (Int) (Int))
 | 0,_=>none
 | n+1,z2=>(bif (decide (z2 < (v0.Args.length:Int))) then (idx v0.Args z2).bind λx4=>(g239 x4 v1).bind λx5=>(bif (x5 != (0:Int)) then some (.ret x5) else m239_l1 g239 v0 v1 n (wr (z2 + (1:Int)))) else some (.brk z2))
def m239:Nat→Expr→Int→Option (Int)
 | 0,_,_=>none
 | f+1,v0,v1=>(m267 f v0 v1).bind λx1=>(bif (x1 != (0:Int)) then some x1 else ((m239_l1 (m239 f) v0 v1 f (0:Int)).bind λo3=>match o3 with | .brk o3s=>some (0:Int) | .ret r=>some r))
theorem s239:∀ (f:Nat) (v0:Expr) (v1:Int) (r:Int),m239 f v0 v1=some r→Sp Tryz.prog 239 [Va v0,Va v1] (Va r):=by
 intro f
 induction f with
 | zero=>intro v0 v1 r hm;cases hm
 | succ f ih=>
 intro v0 v1 r hm
 unfold m239 at hm
 refine ens Tryz.func239 (by kernel_rfl) I Tryz.ntmps239 I I λM W a hM hD s=>?_
 refine R 2 s λa w s=>?_
 refine se (se (rg (ru 2 s λa w s=>cB s hm (s267 f _ _) λx1 hm a w s=>ru 1 s λa w s=>nl ?_)))
 refine R 2 s λa w s=>?_
 refine cmf s hm (λhb hm=>?_) λhb hm=>?_
 ·refine R 2 s λa w s=>?_
  cases hm;exact rT hD s I I
 ·refine se (R 1 s λa w s=>?_)
  refine lB hm [0,1,2,4,5] s (λz2=>[(6,Va z2)]) s.fi (λ_=>I) (λo3 hko3 n z2 a w hm s=>?_) λo3s hm a w s=>?_
  ·unfold m239_l1 at hm
   refine se (R 5 s λa w s=>?_)
   refine cmt s hm (λhb hm=>?_) λhb hm=>?_
   ·refine se (wpIn_block ?_)
    obtain ⟨x4,hx4,hm⟩:=bk hm
    obtain ⟨x5,hx5,hm⟩:=bk hm
    refine se (rg (ru 6 s λa w s=>sq s (cc I (oc (t I) (oc (t I) on)) (ih _ _ _ hx5.e)) I λa w s=>ru 1 s λa w s=>nl ?_))
    refine R 2 s λa w s=>?_
    refine cmf s hm (λhb hm=>?_) λhb hm=>?_
    ·refine R 2 s λa w s=>?_
     obtain rfl:=si hm
     replace hm:=hko3
     dsimp only at hm
     cases hm;exact rT hD s I I
    ·refine R0 3 s λa w s=>?_
     exact ⟨_,hm,s.fi⟩
   ·refine wpIn_exit ?_
    exact ⟨_,(si hm).symm,s.fi⟩
  ·dsimp only at hm
   refine R 1 s λa w s=>?_
   cases hm;exact rT hD s I I
def m178 (f:Nat) (v0:Expr) (v1:Int):Option (Int):=(bif ((decide (v1 < (0:Int))) || (decide (v1 > (256:Int)))) then some (2:Int) else (m78 f v0).bind λx1=>(bif (!x1) then some (5:Int) else (m239 f v0 v1).bind λx2=>some x2))
theorem s178 (f:Nat) (v0:Expr) (v1:Int) (r:Int) (hm:m178 f v0 v1=some r):Sp Tryz.prog 178 [Va v0,Va v1] (Va r):=by
 unfold m178 at hm
 refine ens Tryz.func178 (by kernel_rfl) I Tryz.ntmps178 I I λM W a hM hD s=>?_
 refine R 2 s λa w s=>?_
 refine se (R 6 s λa w s=>?_)
 refine cmf s hm (λhb hm=>?_) λhb hm=>?_
 ·refine R 1 s λa w s=>?_
  cases hm;exact rT hD s I I
 ·refine se (se (rg (ru 1 s λa w s=>cB s hm (s78 f _) λx1 hm a w s=>ru 1 s λa w s=>nl ?_)))
  refine cmf s hm (λhb hm=>?_) λhb hm=>?_
  ·refine R 1 s λa w s=>?_
   cases hm;exact rT hD s I I
  ·refine se (rg (ru 2 s λa w s=>cB s hm (s239 f _ _) λx2 hm a w s=>ru 1 s λa w s=>nl ?_))
   cases hm;exact rT hD s I I
instance {f:Nat} {v0:Expr} {v1:Int}:Cn Tryz.prog 178 (m178 f v0 v1) [Va v0,Va v1] (λr:Int=>(Va r)):=⟨s178 f v0 v1⟩
def m240_l1 (g240:Expr→Int→Option (Bool)) (v0:Expr) (v1:Int):Nat→Int→Option (Lo (Int) (Bool))
 | 0,_=>none
 | n+1,z1=>(bif (decide (z1 < (v0.Args.length:Int))) then (idx v0.Args z1).bind λx3=>(g240 x3 v1).bind λx4=>(bif x4 then some (.ret true) else m240_l1 g240 v0 v1 n (wr (z1 + (1:Int)))) else some (.brk z1))
def m240:Nat→Expr→Int→Option (Bool)
 | 0,_,_=>none
 | f+1,v0,v1=>(bif (v0.Op == (1:Int)) then some (v0.Index == v1) else ((m240_l1 (m240 f) v0 v1 f (0:Int)).bind λo2=>match o2 with | .brk o2s=>some false | .ret r=>some r))
theorem s240:∀ (f:Nat) (v0:Expr) (v1:Int) (r:Bool),m240 f v0 v1=some r→Sp Tryz.prog 240 [Va v0,Va v1] (Va r):=by
 intro f
 induction f with
 | zero=>intro v0 v1 r hm;cases hm
 | succ f ih=>
 intro v0 v1 r hm
 unfold m240 at hm
 refine ens Tryz.func240 (by kernel_rfl) I Tryz.ntmps240 I I λM W a hM hD s=>?_
 refine R 2 s λa w s=>?_
 refine se (R 3 s λa w s=>?_)
 refine cmf s hm (λhb hm=>?_) λhb hm=>?_
 ·refine R 5 s λa w s=>?_
  cases hm;exact rT hD s I I
 ·refine se (R 1 s λa w s=>?_)
  refine lB hm [0,1,2,4] s (λz1=>[(5,Va z1)]) s.fi (λ_=>I) (λo2 hko2 n z1 a w hm s=>?_) λo2s hm a w s=>?_
  ·unfold m240_l1 at hm
   refine se (R 5 s λa w s=>?_)
   refine cmt s hm (λhb hm=>?_) λhb hm=>?_
   ·refine se (wpIn_block ?_)
    obtain ⟨x3,hx3,hm⟩:=bk hm
    obtain ⟨x4,hx4,hm⟩:=bk hm
    refine se (rg (ru 6 s λa w s=>sq s (cc I (oc (t I) (oc (t I) on)) (ih _ _ _ hx4.e)) I λa w s=>nl ?_))
    refine cmf s hm (λhb hm=>?_) λhb hm=>?_
    ·refine R 1 s λa w s=>?_
     obtain rfl:=si hm
     replace hm:=hko2
     dsimp only at hm
     cases hm;exact rT hD s I I
    ·refine R0 3 s λa w s=>?_
     exact ⟨_,hm,s.fi⟩
   ·refine wpIn_exit ?_
    exact ⟨_,(si hm).symm,s.fi⟩
  ·dsimp only at hm
   refine R 1 s λa w s=>?_
   cases hm;exact rT hD s I I
instance {f:Nat} {v0:Expr} {v1:Int}:Cn Tryz.prog 240 (m240 f v0 v1) [Va v0,Va v1] (λr:Bool=>(Va r)):=⟨s240 f v0 v1⟩
def m180_l1 (f:Nat) (v0:Control) (v1:Int):Nat→Int→Option (Lo (Int) (Bool))
 | 0,_=>none
 | n+1,z1=>(bif (decide (z1 < (v0.Signals.length:Int))) then (idx v0.Signals z1).bind λx3=>(bif (x3.Kind == (0:Int)) then (idx v0.Signals v1).bind λx4=>(m177 f v0).bind λx5=>(m240 f x4.On (wr (x5 + z1))).bind λx6=>some x6 else some false).bind λr7=>(bif r7 then some (.ret true) else m180_l1 f v0 v1 n (wr (z1 + (1:Int)))) else some (.brk z1))
def m180 (f:Nat) (v0:Control) (v1:Int):Option (Bool):=((m180_l1 f v0 v1 f v1).bind λo2=>match o2 with | .brk o2s=>some false | .ret r=>some r)
theorem s180 (f:Nat) (v0:Control) (v1:Int) (r:Bool) (hm:m180 f v0 v1=some r):Sp Tryz.prog 180 [Va v0,Va v1] (Va r):=by
 unfold m180 at hm
 refine ens Tryz.func180 (by kernel_rfl) I Tryz.ntmps180 I I λM W a hM hD s=>?_
 refine R 2 s λa w s=>?_
 refine se (R 2 s λa w s=>?_)
 refine lB hm [0,1,2,4] s (λz1=>[(5,Va z1)]) s.fi (λ_=>I) (λo2 hko2 n z1 a w hm s=>?_) λo2s hm a w s=>?_
 ·unfold m180_l1 at hm
  refine se (R 5 s λa w s=>?_)
  refine cmt s hm (λhb hm=>?_) λhb hm=>?_
  ·refine se (wpIn_block ?_)
   obtain ⟨x3,hx3,hm⟩:=bk hm
   obtain ⟨r7,hr7,hm⟩:=bs hm
   have gr7:=gT hr7
   have er7:=gF hr7
   obtain ⟨x4,hx4,gr7⟩:=gk gr7
   obtain ⟨x5,hx5,gr7⟩:=gk gr7
   obtain ⟨x6,hx6,gr7⟩:=gk gr7
   have:=pka gr7 er7
   refine se (fW 20 s (by kernel_rfl) I I λa w s=>nl ?_)
   refine cmf s hm (λhb hm=>?_) λhb hm=>?_
   ·refine R 1 s λa w s=>?_
    obtain rfl:=si hm
    replace hm:=hko2
    dsimp only at hm
    cases hm;exact rT hD s I I
   ·refine R0 3 s λa w s=>?_
    exact ⟨_,hm,s.fi⟩
  ·refine wpIn_exit ?_
   exact ⟨_,(si hm).symm,s.fi⟩
 ·dsimp only at hm
  refine R 1 s λa w s=>?_
  cases hm;exact rT hD s I I
instance {f:Nat} {v0:Control} {v1:Int}:Cn Tryz.prog 180 (m180 f v0 v1) [Va v0,Va v1] (λr:Bool=>(Va r)):=⟨s180 f v0 v1⟩
def m181 (f:Nat) (v0:Expr):Option (Bool):=some (((v0.Op == (0:Int)) && (v0.Index == (0:Int))) && ((v0.Args.length:Int) == (0:Int)))
theorem s181 (f:Nat) (v0:Expr) (r:Bool) (hm:m181 f v0=some r):Sp Tryz.prog 181 [Va v0] (Va r):=by
 unfold m181 at hm
 refine ens Tryz.func181 (by kernel_rfl) I Tryz.ntmps181 I I λM W a hM hD s=>?_
 refine R 2 s λa w s=>?_
 refine R 15 s λa w s=>?_
 cases hm;exact rT hD s I I
instance {f:Nat} {v0:Expr}:Cn Tryz.prog 181 (m181 f v0) [Va v0] (λr:Bool=>(Va r)):=⟨s181 f v0⟩
def m106 (f:Nat) (v0:Control) (v1:Int):Option (Int):=(idx v0.Signals v1).bind λx1=>(m177 f v0).bind λx3=>(m105 f v0 (wr (x3 + v1))).bind λx4=>(bif (x4 != (0:Int)) then some x4 else (bif ((decide (x1.Kind < (0:Int))) || (decide (x1.Kind≥(3:Int)))) then some (1:Int) else (m179 f v0).bind λx5=>(m178 f x1.On x5).bind λx6=>(bif (x6 != (0:Int)) then some x6 else (bif (x1.Kind == (1:Int)) then (m179 f v0).bind λx7=>(m178 f x1.Off x7).bind λx8=>(bif (x8 != (0:Int)) then some x8 else (bif (x1.Kind == (0:Int)) then (m180 f v0 v1).bind λx9=>some x9 else some false).bind λr10=>(bif r10 then some (9:Int) else (bif ((x1.Kind == (2:Int)) && ((decide (x1.Delay < (1:Int))) || (decide (x1.Delay > (1000000:Int))))) then some (2:Int) else (bif (!(x1.Kind == (1:Int))) then (m181 f x1.Off).bind λx11=>some ((!x11) || x1.Init) else some false).bind λr12=>(bif (r12 || ((!(x1.Kind == (2:Int))) && (x1.Delay != (0:Int)))) then some (3:Int) else some (0:Int))))) else (bif (x1.Kind == (0:Int)) then (m180 f v0 v1).bind λx13=>some x13 else some false).bind λr14=>(bif r14 then some (9:Int) else (bif ((x1.Kind == (2:Int)) && ((decide (x1.Delay < (1:Int))) || (decide (x1.Delay > (1000000:Int))))) then some (2:Int) else (bif (!(x1.Kind == (1:Int))) then (m181 f x1.Off).bind λx15=>some ((!x15) || x1.Init) else some false).bind λr16=>(bif (r16 || ((!(x1.Kind == (2:Int))) && (x1.Delay != (0:Int)))) then some (3:Int) else some (0:Int))))))))
theorem s106 (f:Nat) (v0:Control) (v1:Int) (r:Int) (hm:m106 f v0 v1=some r):Sp Tryz.prog 106 [Va v0,Va v1] (Va r):=by
 unfold m106 at hm
 refine ens Tryz.func106 (by kernel_rfl) I Tryz.ntmps106 I I λM W a hM hD s=>?_
 refine R 2 s λa w s=>?_
 refine se (rg (ru 3 s λa w s=>iB s hm λx1 hm a w s=>ru 1 s λa w s=>aR 1000 s λb2 a w s=>sW s I λw s=>nl ?_))
 refine se ?_
 obtain ⟨x3,hx3,hm⟩:=bk hm
 obtain ⟨x4,hx4,hm⟩:=bk hm
 refine se (fW 6 s (by kernel_rfl) I I λa w s=>ru 1 s λa w s=>nl ?_)
 refine R 2 s λa w s=>?_
 refine cmf s hm (λhb hm=>?_) λhb hm=>?_
 ·refine R 2 s λa w s=>?_
  cases hm;exact rT hD s I I
 ·refine se (R 8 s λa w s=>?_)
  refine cmf s hm (λhb hm=>?_) λhb hm=>?_
  ·refine R 1 s λa w s=>?_
   cases hm;exact rT hD s I I
  ·refine se ?_
   obtain ⟨x5,hx5,hm⟩:=bk hm
   obtain ⟨x6,hx6,hm⟩:=bk hm
   refine se (fW 5 s (by kernel_rfl) I I λa w s=>ru 1 s λa w s=>nl ?_)
   refine R 2 s λa w s=>?_
   refine cmf s hm (λhb hm=>?_) λhb hm=>?_
   ·refine R 2 s λa w s=>?_
    cases hm;exact rT hD s I I
   ·refine se (flow2 [(5,Qv (pb b2 0)),(1000,Mg b2 x1)] [0,1,2] [41,42,43] [] [45,44] [46,45,44] [(6,[]),(7,[46,45,44])] s (.skip (.skip (.late (.late (.late (.cons (.cons (.cons .nil I I (fm_ (off:=1) (m:=0) (q:=1) (t I) (by kernel_rfl) I)) I I (lf (K:=1000) (f:=Signal.Kind) (t I) I)) I I (eq (t I) ci)) I I (fm_ (off:=1) (m:=0) (q:=1) (t I) (by kernel_rfl) I)) I I (lf (K:=1000) (f:=Signal.Kind) (t I) I)) I I (eq (t I) ci)) I) I) (by kernel_rfl) (by kernel_rfl) I I (sb1 I (sb1 I sb0)) I (by decide) I I ?_)
    refine ⟨⟨λ_=>I,I,.inr ⟨(sb1 I (sb1 I sb0)),sb0,(sn2 I (sn2 I sn0))⟩⟩,by kernel_rfl,_,I,λΨ a w s=>sq s (sa (t I)) I λa w s=>nl ?_⟩
    refine nxt Ψ s ?_
    refine ⟨⟨λ_=>I,I,.inr ⟨(sb1 I (sb1 I sb0)),sb0,(sn2 I (sn2 I sn0))⟩⟩,by kernel_rfl,_,I,λΨ a w s=>sq s (sa (t I)) I λa w s=>nl ?_⟩
    refine nxt Ψ s ?_
    refine ⟨⟨λ_=>I,I,.inl I⟩,λa w s=>?_⟩
    replace s:St M W 96 [(0,Va v0),(1,Va v1),(2,Pt v0),(4,Va ((0:Int))),(5,Qv (pb b2 0)),(6,Va x4),(7,Va x6),(8,Va ((x1.Kind == (1:Int)))),(9,Va ((x1.Kind == (2:Int)))),(1000,Mg b2 x1)] a w:=s.pick [0,1,2,4,5,6,7,8,9,1000]
    refine se (R 1 s λa w s=>?_)
    refine cmf s hm (λhb hm=>?_) λhb hm=>?_
    ·obtain ⟨x7,hx7,hm⟩:=bk hm
     obtain ⟨x8,hx8,hm⟩:=bk hm
     refine se (fW 5 s (by kernel_rfl) I I λa w s=>ru 1 s λa w s=>nl ?_)
     refine R 2 s λa w s=>?_
     refine cmf s hm (λhb hm=>?_) λhb hm=>?_
     ·refine R 2 s λa w s=>?_
      cases hm;exact rT hD s I I
     ·refine se ?_
      obtain ⟨r10,hr10,hm⟩:=bs hm
      have gr10:=gT hr10
      have er10:=gF hr10
      obtain ⟨x9,hx9,gr10⟩:=gk gr10
      have:=pka gr10 er10
      refine R 8 s λa w s=>?_
      refine cmf s hm (λhb hm=>?_) λhb hm=>?_
      ·refine R 1 s λa w s=>?_
       cases hm;exact rT hD s I I
      ·refine se (R 11 s λa w s=>?_)
       refine cmf s hm (λhb hm=>?_) λhb hm=>?_
       ·refine R 1 s λa w s=>?_
        cases hm;exact rT hD s I I
       ·refine se ?_
        obtain ⟨r12,hr12,hm⟩:=bs hm
        have gr12:=gT hr12
        have er12:=gF hr12
        obtain ⟨x11,hx11,gr12⟩:=gk gr12
        have:=pka gr12 er12
        refine R 21 s λa w s=>?_
        refine cmf s hm (λhb hm=>?_) λhb hm=>?_
        ·refine R 1 s λa w s=>?_
         cases hm;exact rT hD s I I
        ·refine R 1 s λa w s=>?_
         cases hm;exact rT hD s I I
    ·refine se ?_
     obtain ⟨r14,hr14,hm⟩:=bs hm
     have gr14:=gT hr14
     have er14:=gF hr14
     obtain ⟨x13,hx13,gr14⟩:=gk gr14
     have:=pka gr14 er14
     refine R 8 s λa w s=>?_
     refine cmf s hm (λhb hm=>?_) λhb hm=>?_
     ·refine R 1 s λa w s=>?_
      cases hm;exact rT hD s I I
     ·refine se (R 11 s λa w s=>?_)
      refine cmf s hm (λhb hm=>?_) λhb hm=>?_
      ·refine R 1 s λa w s=>?_
       cases hm;exact rT hD s I I
      ·refine se ?_
       obtain ⟨r16,hr16,hm⟩:=bs hm
       have gr16:=gT hr16
       have er16:=gF hr16
       obtain ⟨x15,hx15,gr16⟩:=gk gr16
       have:=pka gr16 er16
       refine R 21 s λa w s=>?_
       refine cmf s hm (λhb hm=>?_) λhb hm=>?_
       ·refine R 1 s λa w s=>?_
        cases hm;exact rT hD s I I
       ·refine R 1 s λa w s=>?_
        cases hm;exact rT hD s I I
def m107_l2 (f:Nat) (v0:Control) (x3:List Int):Nat→Int→Option (Lo (Int) (Int))
 | 0,_=>none
 | n+1,z4=>(bif (decide (z4 < (x3.length:Int))) then (idx x3 z4).bind λx6=>(bif (decide (x6 < (0:Int))) then some true else (idx x3 z4).bind λx7=>(m179 f v0).bind λx8=>some (decide (x7≥x8))).bind λr9=>(bif r9 then some (.ret (6:Int)) else m107_l2 f v0 x3 n (wr (z4 + (1:Int)))) else some (.brk z4))
def m107_l1 (f:Nat) (v0:Control):Nat→Int→Option (Lo (Int) (Int))
 | 0,_=>none
 | n+1,z1=>(bif (decide (z1 < (([v0.Plus,v0.Minus]:List (List Int)).length:Int))) then (idx ([v0.Plus,v0.Minus]:List (List Int)) z1).bind λx3=>((m107_l2 f v0 x3 f (0:Int)).bind λo5=>match o5 with | .brk o5s=>m107_l1 f v0 n (wr (z1 + (1:Int))) | .ret r=>some (.ret r)) else some (.brk z1))
def m107 (f:Nat) (v0:Control):Option (Int):=(bif (((v0.Plus.length:Int) != v0.Actuators) || ((v0.Minus.length:Int) != v0.Actuators)) then some (8:Int) else ((m107_l1 f v0 f (0:Int)).bind λo2=>match o2 with | .brk o2s=>some (0:Int) | .ret r=>some r))
theorem s107 (f:Nat) (v0:Control) (r:Int) (hm:m107 f v0=some r):Sp Tryz.prog 107 [Va v0] (Va r):=by
 unfold m107 at hm
 refine ens Tryz.func107 (by kernel_rfl) I Tryz.ntmps107 I I λM W a hM hD s=>?_
 refine R 2 s λa w s=>?_
 refine se (R 14 s λa w s=>?_)
 refine cmf s hm (λhb hm=>?_) λhb hm=>?_
 ·refine R 1 s λa w s=>?_
  cases hm;exact rT hD s I I
 ·refine se (R 7 s λa w s=>?_)
  refine lB hm [0,1,2,24,25] s (λz1=>[(26,Va z1)]) s.fi (λ_=>I) (λo2 hko2 n z1 a w hm s=>?_) λo2s hm a w s=>?_
  ·unfold m107_l1 at hm
   refine R 1 s λa w s=>?_
   refine se (cmt s hm (λhb hm=>?_) λhb hm=>?_)
   ·refine se (wpIn_block ?_)
    refine se (rg (iB s hm λx3 hm a w s=>ru 2 s λa w s=>nl ?_))
    refine R 1 s λa w s=>?_
    refine lB hm [0,1,2,4,24,25,26] s (λz4=>[(5,Va z4)]) s.fi (λ_=>I) (λo5 hko5 n z4 a w hm s=>?_) λo5s hm a w s=>?_
    ·unfold m107_l2 at hm
     refine se (R 4 s λa w s=>?_)
     refine cmt s hm (λhb hm=>?_) λhb hm=>?_
     ·refine se (wpIn_block ?_)
      obtain ⟨x6,hx6,hm⟩:=bk hm
      obtain ⟨r9,hr9,hm⟩:=bs hm
      have gr9:=gF hr9
      have er9:=gT hr9
      obtain ⟨x7,hx7,gr9⟩:=gk gr9
      obtain ⟨x8,hx8,gr9⟩:=gk gr9
      have:=pko gr9 er9
      refine se (fW 14 s (by kernel_rfl) I I λa w s=>nl ?_)
      refine cmf s hm (λhb hm=>?_) λhb hm=>?_
      ·refine R 1 s λa w s=>?_
       obtain rfl:=si hm
       replace hm:=hko5
       dsimp only at hm
       obtain rfl:=si hm
       replace hm:=hko2
       dsimp only at hm
       cases hm;exact rT hD s I I
      ·refine R0 3 s λa w s=>?_
       exact ⟨_,hm,s.fi⟩
     ·refine wpIn_exit ?_
      exact ⟨_,(si hm).symm,s.fi⟩
    ·dsimp only at hm
     refine R0 2 s λa w s=>?_
     exact ⟨_,hm,s.fi⟩
   ·refine wpIn_exit ?_
    exact ⟨_,(si hm).symm,s.fi⟩
  ·dsimp only at hm
   refine R 1 s λa w s=>?_
   cases hm;exact rT hD s I I
def m42_l2 (f:Nat) (v0:Control):Nat→Int→Option (Lo (Int) (Int))
 | 0,_=>none
 | n+1,z4=>(bif (decide (z4 < (v0.Signals.length:Int))) then (m106 f v0 z4).bind λx6=>(bif (x6 != (0:Int)) then some (.ret x6) else m42_l2 f v0 n (wr (z4 + (1:Int)))) else some (.brk z4))
def m42_l1 (f:Nat) (v0:Control):Nat→Int→Option (Lo (Int) (Int))
 | 0,_=>none
 | n+1,z1=>(bif (decide (z1 < (v0.Inputs.length:Int))) then (m105 f v0 (wr ((wr ((2:Int) * v0.Actuators)) + z1))).bind λx3=>(bif (x3 != (0:Int)) then some (.ret x3) else m42_l1 f v0 n (wr (z1 + (1:Int)))) else some (.brk z1))
def m42 (f:Nat) (v0:Control):Option (Int):=(bif ((decide (v0.Actuators < (1:Int))) || (decide (v0.Actuators > (6:Int)))) then some (2:Int) else (bif ((decide ((v0.Inputs.length:Int) > (16:Int))) || (decide ((v0.Signals.length:Int) > (64:Int)))) then some (5:Int) else ((m42_l1 f v0 f (0:Int)).bind λo2=>match o2 with | .brk o2s=>((m42_l2 f v0 f (0:Int)).bind λo5=>match o5 with | .brk o5s=>(m107 f v0).bind λx7=>some x7 | .ret r=>some r) | .ret r=>some r)))
theorem s42 (f:Nat) (v0:Control) (r:Int) (hm:m42 f v0=some r):Sp Tryz.prog 42 [Va v0] (Va r):=by
 unfold m42 at hm
 refine ens Tryz.func42 (by kernel_rfl) I Tryz.ntmps42 I I λM W a hM hD s=>?_
 refine R 2 s λa w s=>?_
 refine se (R 8 s λa w s=>?_)
 refine cmf s hm (λhb hm=>?_) λhb hm=>?_
 ·refine R 1 s λa w s=>?_
  cases hm;exact rT hD s I I
 ·refine se (R 10 s λa w s=>?_)
  refine cmf s hm (λhb hm=>?_) λhb hm=>?_
  ·refine R 1 s λa w s=>?_
   cases hm;exact rT hD s I I
  ·refine se (R 1 s λa w s=>?_)
   refine lB hm [0,1,2] s (λz1=>[(3,Va z1)]) s.fi (λ_=>I) (λo2 hko2 n z1 a w hm s=>?_) λo2s hm a w s=>?_
   ·unfold m42_l1 at hm
    refine se (R 5 s λa w s=>?_)
    refine cmt s hm (λhb hm=>?_) λhb hm=>?_
    ·refine se (wpIn_block ?_)
     refine se (rg (ru 6 s λa w s=>cB s hm (s105 f _ _) λx3 hm a w s=>ru 1 s λa w s=>nl ?_))
     refine R 2 s λa w s=>?_
     refine cmf s hm (λhb hm=>?_) λhb hm=>?_
     ·refine R 2 s λa w s=>?_
      obtain rfl:=si hm
      replace hm:=hko2
      dsimp only at hm
      cases hm;exact rT hD s I I
     ·refine R0 3 s λa w s=>?_
      exact ⟨_,hm,s.fi⟩
    ·refine wpIn_exit ?_
     exact ⟨_,(si hm).symm,s.fi⟩
   ·dsimp only at hm
    refine se (R 1 s λa w s=>?_)
    refine lB hm [0,1,2,3] s (λz4=>[(5,Va z4)]) s.fi (λ_=>I) (λo5 hko5 n z4 a w hm s=>?_) λo5s hm a w s=>?_
    ·unfold m42_l2 at hm
     refine se (R 5 s λa w s=>?_)
     refine cmt s hm (λhb hm=>?_) λhb hm=>?_
     ·refine se (wpIn_block ?_)
      refine se (rg (ru 2 s λa w s=>cB s hm (s106 f _ _) λx6 hm a w s=>ru 1 s λa w s=>nl ?_))
      refine R 2 s λa w s=>?_
      refine cmf s hm (λhb hm=>?_) λhb hm=>?_
      ·refine R 2 s λa w s=>?_
       obtain rfl:=si hm
       replace hm:=hko5
       dsimp only at hm
       cases hm;exact rT hD s I I
      ·refine R0 3 s λa w s=>?_
       exact ⟨_,hm,s.fi⟩
     ·refine wpIn_exit ?_
      exact ⟨_,(si hm).symm,s.fi⟩
    ·dsimp only at hm
     refine se (rg (ru 1 s λa w s=>cB s hm (s107 f _) λx7 hm a w s=>ru 1 s λa w s=>nl ?_))
     cases hm;exact rT hD s I I
def m83 (f:Nat) (v0:Control) (v1:List Bool):Option (Int):=(m42 f v0).bind λx1=>(bif (x1 != (0:Int)) then some x1 else (bif ((v1.length:Int) != (v0.Inputs.length:Int)) then some (8:Int) else some (0:Int)))
theorem s83 (f:Nat) (v0:Control) (v1:List Bool) (r:Int) (hm:m83 f v0 v1=some r):Sp Tryz.prog 83 [Va v0,Va v1] (Va r):=by
 unfold m83 at hm
 refine ens Tryz.func83 (by kernel_rfl) I Tryz.ntmps83 I I λM W a hM hD s=>?_
 refine R 2 s λa w s=>?_
 refine se (se (rg (ru 1 s λa w s=>cB s hm (s42 f _) λx1 hm a w s=>ru 1 s λa w s=>nl ?_)))
 refine R 2 s λa w s=>?_
 refine cmf s hm (λhb hm=>?_) λhb hm=>?_
 ·refine R 2 s λa w s=>?_
  cases hm;exact rT hD s I I
 ·refine se (R 6 s λa w s=>?_)
  refine cmf s hm (λhb hm=>?_) λhb hm=>?_
  ·refine R 1 s λa w s=>?_
   cases hm;exact rT hD s I I
  ·refine R 1 s λa w s=>?_
   cases hm;exact rT hD s I I
def m185_l1 (v0:List Int) (v1:List Int):Nat→(Int×Int×(List Int))→Option (Int×Int×(List Int))
 | 0,_=>none
 | n+1,z1=>(bif ((decide (z1.1 < (v0.length:Int))) || (decide (z1.2.1 < (v1.length:Int)))) then (bif (z1.2.1 == (v1.length:Int)) then some true else (bif (decide (z1.1 < (v0.length:Int))) then (idx v0 z1.1).bind λx4=>(idx v1 z1.2.1).bind λx5=>some (decide (x4 < x5)) else some false).bind λr6=>some r6).bind λr7=>(bif r7 then (idx v0 z1.1).bind λx9=>(app z1.2.2 ([x9]:List Int)).bind λx10=>some ((wr (z1.1 + (1:Int))),z1.2.1,x10) else (bif (z1.1 == (v0.length:Int)) then some true else (idx v1 z1.2.1).bind λx12=>(idx v0 z1.1).bind λx13=>some (decide (x12 < x13))).bind λr14=>(bif r14 then (idx v1 z1.2.1).bind λx16=>(app z1.2.2 ([x16]:List Int)).bind λx17=>some (z1.1,x17) else (idx v0 z1.1).bind λx19=>(app z1.2.2 ([x19]:List Int)).bind λx20=>some ((wr (z1.1 + (1:Int))),x20)).bind λz15=>some (z15.1,(wr (z1.2.1 + (1:Int))),z15.2)).bind λz8=>m185_l1 v0 v1 n (z8.1,z8.2.1,z8.2.2) else some (z1.1,z1.2.1,z1.2.2))
def m185 (f:Nat) (v0:List Int) (v1:List Int):Option ((List Int)):=(m185_l1 v0 v1 f ((0:Int),(0:Int),([]:List Int))).bind λo2s=>some o2s.2.2
theorem s185 (f:Nat) (v0:List Int) (v1:List Int) (r:(List Int)) (hm:m185 f v0 v1=some r):Sp Tryz.prog 185 [Va v0,Va v1] (Va r):=by
 unfold m185 at hm
 refine ens Tryz.func185 (by kernel_rfl) I Tryz.ntmps185 I I λM W a hM hD s=>?_
 refine R 1 s λa w s=>?_
 refine R 1 s λa w s=>?_
 refine R 2 s λa w s=>?_
 refine se (nilt (α:=Int) (d:=5) 1000 3 s I I λc3 s=>?_)
 refine la hm (λz1 a w=>∃ (z1c0:Value),St M W 86 [(0,Va v0),(1,Va v1),(4,Qv nz),(5,Qv z1c0),(6,Va z1.1),(7,Va z1.2.1),(1000,Ow 3 z1c0 z1.2.2)] a w) ⟨c3,s.fi⟩ (λ_=>I) (λo2s hko2 n z1 a w hm s=>?_) λo2s hm a w s=>?_
 ·obtain ⟨z1c0,s⟩:=s
  unfold m185_l1 at hm
  refine se (R 10 s λa w s=>?_)
  refine cmt s hm (λhb hm=>?_) λhb hm=>?_
  ·refine wpIn_block (wpIn_block ?_)
   obtain ⟨r7,hr7,hm⟩:=bs hm
   have gr7:=gF hr7
   have er7:=gT hr7
   obtain ⟨r6,hr6,gr7⟩:=gx gr7
   have gr6:=gT2 hr6
   have er6:=gF1 hr6
   obtain ⟨x4,hx4,gr6⟩:=gx gr6
   obtain ⟨x5,hx5,gr6⟩:=gx gr6
   refine se (flow s (m:=21) (.cons (.cong (.cont (.cont (.cont (.cont (.cont (.cont (.cont (.cont (.cont (.cong (.cong (.cong (.cong (.cong (.cons (.cons (.cons (.cons (.cons .nil I (mv (t I))) I (mv (t I))) I (ln (t I))) I (eq (t I) (t I))) I (mv (t I))) I I I (λhb=>(mv (t I)))) I I I (λhb=>(mv (t I)))) I I I (λhb=>(ln (tg I hb)))) I I I (λhb=>(lt (tg I hb) (tg I hb)))) I I I (λhb=>(mv (tg I hb)))) I I I (λhb hc=>(mv (t I)))) I I I (λhb hc=>(mv (t I)))) I I I (λhb hc=>(ix (tg I (g2 hb hc)) (tg I (g2 hb hc)) (hx4 (g2 hb hc))))) I I I (λhb hc=>(ld (tg I (g2 hb hc))))) I I I (λhb hc=>(mv (t I)))) I I I (λhb hc=>(mv (t I)))) I I I (λhb hc=>(ix (tg I (g2 hb hc)) (tg I (g2 hb hc)) (hx5 (g2 hb hc))))) I I I (λhb hc=>(ld (tg I (g2 hb hc))))) I I I (λhb hc=>(lt (tg I (g2 hb hc)) (tg I (g2 hb hc))))) I I I (λhb=>(pag (tg I hb) I (λh=>g2 hb h) (λh=>si (gr6 (g2 hb h))) (λh=>(si (er6 hb h)).symm)))) I (po (t I) I (λh=>si (gr7 h)) (λh=>(si (er7 h)).symm))) (by kernel_rfl) I I λa w s=>sq s (sa (t I)) I λa w s=>nl ?_)
   obtain ⟨z8,hz8,hkz8⟩:=bs hm
   refine cpI (λa w=>∃ (z8c0:Value),St M W 86 [(0,Va v0),(1,Va v1),(4,Qv nz),(5,Qv z8c0),(6,Va z8.1),(7,Va z8.2.1),(1000,Ow 3 z8c0 z8.2.2)] a w) ?_ λa w s=>?_
   ·refine cm s I hz8 (λhb hm=>?_) (λhb hm=>?_)
    ·obtain ⟨x9,hx9,hm⟩:=bs hm
     obtain ⟨x10,hx10,hm⟩:=bs hm
     refine se (rg (ru 3 s λa w s=>sq s (ix (t I) (t I) hx9) I λa w s=>ru 1 s λa w s=>sq s (bsv (o1 (t I) o0) I I (by kernel_rfl)) I λa w s=>apd (α:=Int) (k:=1000) s (t I) I (t I) hx10 I I λc11 a w s=>ru 1 s λa w s=>nl ?_))
     refine R0 3 s λa w s=>?_
     obtain rfl:=si hm
     exact ⟨c11,s.fi⟩
    ·obtain ⟨r14,hr14,hm⟩:=bs hm
     have gr14:=gF hr14
     have er14:=gT hr14
     obtain ⟨x12,hx12,gr14⟩:=gx gr14
     obtain ⟨x13,hx13,gr14⟩:=gx gr14
     refine se (flow s (m:=15) (.cons (.cong (.cong (.cong (.cong (.cong (.cong (.cong (.cong (.cong (.cons (.cons (.cons (.cons (.cons .nil I (mv (t I))) I (mv (t I))) I (ln (t I))) I (eq (t I) (t I))) I (mv (t I))) I I I (λhb=>(mv (t I)))) I I I (λhb=>(mv (t I)))) I I I (λhb=>(ix (tg I hb) (tg I hb) (hx12 hb)))) I I I (λhb=>(ld (tg I hb)))) I I I (λhb=>(mv (t I)))) I I I (λhb=>(mv (t I)))) I I I (λhb=>(ix (tg I hb) (tg I hb) (hx13 hb)))) I I I (λhb=>(ld (tg I hb)))) I I I (λhb=>(lt (tg I hb) (tg I hb)))) I (po (t I) I (λh=>si (gr14 h)) (λh=>(si (er14 h)).symm))) (by kernel_rfl) I I λa w s=>sq s (sa (t I)) I λa w s=>nl ?_)
     obtain ⟨z15,hz15,hkz15⟩:=bs hm
     refine cpI (λa w=>∃ (z15c0:Value),St M W 86 [(0,Va v0),(1,Va v1),(4,Qv nz),(5,Qv z15c0),(6,Va z15.1),(7,Va ((wr (z1.2.1 + (1:Int))))),(1000,Ow 3 z15c0 z15.2)] a w) ?_ λa w s=>?_
     ·refine cm s I hz15 (λhb hm=>?_) (λhb hm=>?_)
      ·obtain ⟨x16,hx16,hm⟩:=bs hm
       obtain ⟨x17,hx17,hm⟩:=bs hm
       refine se (rg (ru 3 s λa w s=>sq s (ix (t I) (t I) hx16) I λa w s=>ru 1 s λa w s=>sq s (bsv (o1 (t I) o0) I I (by kernel_rfl)) I λa w s=>apd (α:=Int) (k:=1000) s (t I) I (t I) hx17 I I λc18 a w s=>ru 1 s λa w s=>nl ?_))
       refine R0 3 s λa w s=>?_
       obtain rfl:=si hm
       exact ⟨c18,s.fi⟩
      ·obtain ⟨x19,hx19,hm⟩:=bs hm
       obtain ⟨x20,hx20,hm⟩:=bs hm
       refine se (rg (ru 3 s λa w s=>sq s (ix (t I) (t I) hx19) I λa w s=>ru 1 s λa w s=>sq s (bsv (o1 (t I) o0) I I (by kernel_rfl)) I λa w s=>apd (α:=Int) (k:=1000) s (t I) I (t I) hx20 I I λc21 a w s=>ru 1 s λa w s=>nl ?_))
       refine R 3 s λa w s=>?_
       refine R0 3 s λa w s=>?_
       obtain rfl:=si hm
       exact ⟨c21,s.fi⟩
     ·obtain ⟨z15c0,s⟩:=s
      replace hm:=hkz15
      obtain rfl:=si hm
      exact ⟨z15c0,s.fi⟩
   ·obtain ⟨z8c0,s⟩:=s
    replace hm:=hkz8
    exact ⟨_,hm,⟨z8c0,s.fi⟩⟩
  ·refine wpIn_exit ?_
   obtain rfl:=si hm
   exact ⟨z1c0,s.fi⟩
 ·obtain ⟨o2sc0,s⟩:=s
  refine R 2 s λa w s=>?_
  obtain rfl:=si hm
  refine fzk (α:=Int) (k:=1000) hM s I λs=>?_
  refine wpIn_ret ?_
  exact rn hD s I (rv1 (ro (ta (k:=1000) (t I) I)))
def m232 (f:Nat) (v0:State):Option ((List Int)×(List Bool)×(List Bool)×(List Bool)×(List Int)):=(app ([]:List Int) v0.Ends).bind λx2=>(app ([]:List Bool) v0.Valves).bind λx4=>(app ([]:List Bool) v0.Inputs).bind λx6=>(app ([]:List Bool) v0.Values).bind λx8=>(app ([]:List Int) v0.Timers).bind λx10=>some (x2,x4,x6,x8,x10)
theorem s232 (f:Nat) (v0:State) (r:(List Int)×(List Bool)×(List Bool)×(List Bool)×(List Int)) (hm:m232 f v0=some r):Sp Tryz.prog 232 [Va v0] (Rz (λx:Value×Value×Value×Value×Value=>Qa [x.1,x.2.1,x.2.2.1,x.2.2.2.1,x.2.2.2.2]) (λx=>[Ow 3 x.1 r.1,Ow 4 x.2.1 r.2.1,Ow 4 x.2.2.1 r.2.2.1,Ow 4 x.2.2.2.1 r.2.2.2.1,Ow 3 x.2.2.2.2 r.2.2.2.2])):=by
 unfold m232 at hm
 refine ens Tryz.func232 (by kernel_rfl) I Tryz.ntmps232 I I λM W a hM hD s=>?_
 refine se (rg (ru 1 s λa w s=>aR 1000 s λb1 a w s=>nl ?_))
 obtain ⟨x2,hx2,hm⟩:=bk hm
 obtain ⟨x4,hx4,hm⟩:=bk hm
 obtain ⟨x6,hx6,hm⟩:=bk hm
 obtain ⟨x8,hx8,hm⟩:=bk hm
 obtain ⟨x10,hx10,hm⟩:=bk hm
 refine se (flow s (m:=20) (.cons (.cons (.cons (.cons (.cons (.cons (.cons (.cons (.cons (.cons (.cons (.cons (.cons (.cons (.cons (.cons (.cons (.cons (.cons (.cons .nil I (bse (α:=Int) I)) I (fa (f:=State.Ends) (t I))) I (ld (t I))) I (apo (t I) (t I) hx2.e)) I (bse (α:=Bool) I)) I (fa (f:=State.Valves) (t I))) I (ld (t I))) I (apo (t I) (t I) hx4.e)) I (bse (α:=Bool) I)) I (fa (f:=State.Inputs) (t I))) I (ld (t I))) I (apo (t I) (t I) hx6.e)) I (bse (α:=Bool) I)) I (fa (f:=State.Values) (t I))) I (ld (t I))) I (apo (t I) (t I) hx8.e)) I (bse (α:=Int) I)) I (fa (f:=State.Timers) (t I))) I (ld (t I))) I (apo (t I) (t I) hx10.e)) (by kernel_rfl) I I λa w s=>opo (d:=6) 1006 s I I λc3 s=>opo (d:=10) 1007 s I I λc5 s=>opo (d:=14) 1008 s I I λc7 s=>opo (d:=18) 1009 s I I λc9 s=>opo (d:=22) 1010 s I I λc11 s=>sq s (bla (L:=[(0,1),(1,1),(2,1),(3,1),(4,1)]) (z:=[nz,nz,nz,nz,nz]) (res:=[c3,c5,c7,c9,c11]) I (by kernel_rfl) (by kernel_rfl) (pdq (t I) (oco (k:=1006) I) (pdq (t I) (oco (k:=1007) I) (pdq (t I) (oco (k:=1008) I) (pdq (t I) (oco (k:=1009) I) (pdq (t I) (oco (k:=1010) I) pdn))))) I I) I λa w s=>sra (K:=1000) (m:=[c3,c5,c7,c9,c11]) (cs':=[c3,c5,c7,c9,c11]) s (t I) I (t I) (by kernel_rfl) I I I λw s=>nl ?_)
 obtain rfl:=si hm
 refine wpIn_ret ?_
 exact rz [1006,1007,1008,1009,1010] (c3,c5,c7,c9,c11) hM hD s I (rv1 (rca (K:=1000) I I (by kernel_rfl) I (by kernel_rfl))) (kc I (kc I (kc I (kc I (kc I kn))))) I
def m184_l1 (v0:State):Nat→(Int×(List Int))→Option (Int×(List Int))
 | 0,_=>none
 | n+1,z5=>(bif (decide (z5.1 < (v0.Ends.length:Int))) then (idx v0.Valves z5.1).bind λx7=>(bif x7 then (idx v0.Ends z5.1).bind λx8=>(bif (x8 == (0:Int)) then some true else (idx v0.Ends z5.1).bind λx9=>some (x9 == (3:Int))).bind λr10=>some r10 else some false).bind λr11=>(bif r11 then (idx z5.2 z5.1).bind λx13=>some (z5.2.set z5.1.toNat (1:Int)) else some z5.2).bind λz12=>(idx v0.Valves z5.1).bind λx14=>(bif (!x14) then (idx v0.Ends z5.1).bind λx15=>(bif (x15 == (2:Int)) then some true else (idx v0.Ends z5.1).bind λx16=>some (x16 == (1:Int))).bind λr17=>some r17 else some false).bind λr18=>(bif r18 then (idx z12 z5.1).bind λx20=>some (z12.set z5.1.toNat (3:Int)) else some z12).bind λz19=>m184_l1 v0 n ((wr (z5.1 + (1:Int))),z19) else some (z5.1,z5.2))
def m184 (f:Nat) (v0:State):Option (State):=(m232 f v0).bind λx2=>(m184_l1 v0 f ((0:Int),x2.1)).bind λo6s=>some (⟨o6s.2,x2.2.1,x2.2.2.1,x2.2.2.2.1,x2.2.2.2.2⟩:State)
theorem s184 (f:Nat) (v0:State) (r:State) (hm:m184 f v0=some r):Sp Tryz.prog 184 [Va v0] (Va r):=by
 unfold m184 at hm
 refine ens Tryz.func184 (by kernel_rfl) I Tryz.ntmps184 I I λM W a hM hD s=>?_
 refine se (rg (ru 1 s λa w s=>aR 1000 s λb1 a w s=>nl ?_))
 obtain ⟨x2,hx2,hm⟩:=bk hm
 refine se (rg (ru 1 s λa w s=>sqz [1001,1002,1003,1004,1005] hM s (cc I (oc (t I) on) (s232 f _ _ hx2.e)) (λ_=>I) I I λy3 a w s=>aR 1006 s λb4 a w s=>sra (K:=1006) (m:=[y3.1,y3.2.1,y3.2.2.1,y3.2.2.2.1,y3.2.2.2.2]) (cs':=[y3.1,y3.2.1,y3.2.2.1,y3.2.2.2.1,y3.2.2.2.2]) s (t I) I (t I) (by kernel_rfl) I I I λw s=>nl ?_))
 refine se (R 1 s λa w s=>?_)
 refine lA hm [0,1,2,3,1000,1006,1002,1003,1004,1005] s (λz5=>[(4,Va z5.1),(1001,Ow 3 y3.1 z5.2)]) s.fi (λ_=>I) (λo6s hko6 n z5 a w hm s=>?_) λo6s hm a w s=>?_
 ·unfold m184_l1 at hm
  refine se (R 5 s λa w s=>?_)
  refine cmt s hm (λhb hm=>?_) λhb hm=>?_
  ·refine se (wpIn_block ?_)
   refine se ?_
   obtain ⟨x7,hx7,hm⟩:=bk hm
   obtain ⟨r11,hr11,hm⟩:=bs hm
   have gr11:=gT hr11
   have er11:=gF hr11
   obtain ⟨x8,hx8,gr11⟩:=gk gr11
   obtain ⟨r10,hr10,gr11⟩:=gx gr11
   have gr10:=gF2 hr10
   have er10:=gT1 hr10
   obtain ⟨x9,hx9,gr10⟩:=gk gr10
   have:=pka gr11 er11
   refine se (rg (ru 16 s λa w s=>sn s I I (λhb hc=>(ix (tg I (g2 hb hc)) (tg I (g2 hb hc)) (hx9.h (g2 hb hc)))) I λa w s=>ru 2 s λa w s=>sg s I I (λhb=>(pog (tg I hb) I (λh=>g2 hb h) (λh=>si (gr10 (g2 hb h))) (λh=>(si (er10 hb h)).symm))) I λa w s=>ru 1 s λa w s=>nl ?_))
   obtain ⟨z12,hz12,hkz12⟩:=bs hm
   refine cP [0,1,2,3,4,1000,1006,1002,1003,1004,1005] s [(1001,Ow 3 y3.1 z12)] ?_ λa w s=>?_
   ·refine cm s I hz12 (λhb hm=>?_) (λhb hm=>?_)
    ·obtain ⟨x13,hx13,hm⟩:=bk hm
     refine rg (ru 4 s λa w s=>stq (k:=1001) s (t I) I (idxg hx13.e) ci λw s=>nl ?_)
     obtain rfl:=si hm
     exact s.fi
    ·refine wpIn_skip ?_
     obtain rfl:=si hm
     exact s.fi
   ·replace hm:=hkz12
    obtain ⟨x14,hx14,hm⟩:=bk hm
    obtain ⟨r18,hr18,hm⟩:=bs hm
    have gr18:=gT hr18
    have er18:=gF hr18
    obtain ⟨x15,hx15,gr18⟩:=gk gr18
    obtain ⟨r17,hr17,gr18⟩:=gx gr18
    have gr17:=gF2 hr17
    have er17:=gT1 hr17
    obtain ⟨x16,hx16,gr17⟩:=gk gr17
    have:=pka gr18 er18
    refine se (rg (ru 17 s λa w s=>sn s I I (λhb hc=>(ix (tg I (g2 hb hc)) (tg I (g2 hb hc)) (hx16.h (g2 hb hc)))) I λa w s=>ru 2 s λa w s=>sg s I I (λhb=>(pog (tg I hb) I (λh=>g2 hb h) (λh=>si (gr17 (g2 hb h))) (λh=>(si (er17 hb h)).symm))) I λa w s=>ru 1 s λa w s=>nl ?_))
    obtain ⟨z19,hz19,hkz19⟩:=bs hm
    refine cP [0,1,2,3,4,1000,1006,1002,1003,1004,1005] s [(1001,Ow 3 y3.1 z19)] ?_ λa w s=>?_
    ·refine cm s I hz19 (λhb hm=>?_) (λhb hm=>?_)
     ·obtain ⟨x20,hx20,hm⟩:=bk hm
      refine rg (ru 4 s λa w s=>stq (k:=1001) s (t I) I (idxg hx20.e) ci λw s=>nl ?_)
      obtain rfl:=si hm
      exact s.fi
     ·refine wpIn_skip ?_
      obtain rfl:=si hm
      exact s.fi
    ·replace hm:=hkz19
     refine R0 3 s λa w s=>?_
     exact ⟨_,hm,s.fi⟩
  ·refine wpIn_exit ?_
   obtain rfl:=si hm
   exact s.fi
 ·refine se (rg (sq s (lra (K:=1006) (ds:=[y3.1,y3.2.1,y3.2.2.1,y3.2.2.2.1,y3.2.2.2.2]) State (t I) I I I I) I λa w s=>sra (K:=1000) (m:=[y3.1,y3.2.1,y3.2.2.1,y3.2.2.2.1,y3.2.2.2.2]) (cs':=[y3.1,y3.2.1,y3.2.2.1,y3.2.2.2.1,y3.2.2.2.2]) s (t I) I (t I) (by kernel_rfl) I I I λw s=>nl ?_))
  obtain rfl:=si hm
  refine fzk (α:=Int) (k:=1001) hM s I λs=>?_
  refine fzk (α:=Bool) (k:=1002) hM s I λs=>?_
  refine fzk (α:=Bool) (k:=1003) hM s I λs=>?_
  refine fzk (α:=Bool) (k:=1004) hM s I λs=>?_
  refine fzk (α:=Int) (k:=1005) hM s I λs=>?_
  refine shut (k:=1000) (x:=(⟨o6s.2,x2.2.1,x2.2.2.1,x2.2.2.2.1,x2.2.2.2.2⟩:State)) s I (rpS30 (l:=([y3.1],[y3.2.1],[y3.2.2.1],[y3.2.2.2.1],[y3.2.2.2.2])) (rpz (k:=1001) I) (rpz (k:=1002) I) (rpz (k:=1003) I) (rpz (k:=1004) I) (rpz (k:=1005) I)) λs=>?_
  refine wpIn_ret ?_
  exact rn hD s I (rv1 (rc (K:=1000) I I))
def m264_l1 (g264:Expr→(List Bool)→Option (Bool)) (v0:Expr) (v1:List Bool):Nat→(Bool×Bool×Int)→Option (Bool×Bool×Int)
 | 0,_=>none
 | n+1,z4=>(bif (decide (z4.2.2 < (v0.Args.length:Int))) then (idx v0.Args z4.2.2).bind λx6=>(g264 x6 v1).bind λx7=>m264_l1 g264 v0 v1 n ((z4.1 && x7),(z4.2.1 || x7),(wr (z4.2.2 + (1:Int)))) else some (z4.1,z4.2.1,z4.2.2))
def m264:Nat→Expr→(List Bool)→Option (Bool)
 | 0,_,_=>none
 | f+1,v0,v1=>(bif (v0.Op == (0:Int)) then some (v0.Index == (1:Int)) else (bif (v0.Op == (1:Int)) then (idx v1 v0.Index).bind λx1=>some x1 else (bif (v0.Op == (2:Int)) then (idx v0.Args (0:Int)).bind λx2=>((m264 f) x2 v1).bind λx3=>some (!x3) else (m264_l1 (m264 f) v0 v1 f (true,false,(0:Int))).bind λo5s=>some (((v0.Op == (3:Int)) && o5s.1) || ((v0.Op == (4:Int)) && o5s.2.1)))))
theorem s264:∀ (f:Nat) (v0:Expr) (v1:List Bool) (r:Bool),m264 f v0 v1=some r→Sp Tryz.prog 264 [Va v0,Va v1] (Va r):=by
 intro f
 induction f with
 | zero=>intro v0 v1 r hm;cases hm
 | succ f ih=>
 intro v0 v1 r hm
 unfold m264 at hm
 refine ens Tryz.func264 (by kernel_rfl) I Tryz.ntmps264 I I λM W a hM hD s=>?_
 refine R 2 s λa w s=>?_
 refine se (R 2 s λa w s=>?_)
 refine wpIn_block (R 2 s λa w s=>?_)
 refine cM s hm (λhb hm=>?_) λhb hm=>?_
 ·refine R 4 s λa w s=>?_
  cases hm;exact rT hD s I I
 ·refine R 2 s λa w s=>?_
  refine cM s hm (λhb hm=>?_) λhb hm=>?_
  ·refine se (rg (ru 3 s λa w s=>iB s hm λx1 hm a w s=>ru 2 s λa w s=>nl ?_))
   cases hm;exact rT hD s I I
  ·refine R 2 s λa w s=>?_
   refine cmf s hm (λhb hm=>?_) λhb hm=>?_
   ·obtain ⟨x2,hx2,hm⟩:=bk hm
    obtain ⟨x3,hx3,hm⟩:=bk hm
    refine se (rg (ru 5 s λa w s=>sq s (cc I (oc (t I) (oc (t I) on)) (ih _ _ _ hx3.e)) I λa w s=>ru 2 s λa w s=>nl ?_))
    cases hm;exact rT hD s I I
   ·refine R 2 s λa w s=>?_
    refine se (R 1 s λa w s=>?_)
    refine lA hm [0,1,2,4,10] s (λz4=>[(5,Va z4.1),(6,Va z4.2.1),(7,Va z4.2.2)]) s.fi (λ_=>I) (λo5s hko5 n z4 a w hm s=>?_) λo5s hm a w s=>?_
    ·unfold m264_l1 at hm
     refine se (R 5 s λa w s=>?_)
     refine cmt s hm (λhb hm=>?_) λhb hm=>?_
     ·refine se (wpIn_block ?_)
      obtain ⟨x6,hx6,hm⟩:=bk hm
      obtain ⟨x7,hx7,hm⟩:=bk hm
      refine se (rg (ru 6 s λa w s=>sq s (cc I (oc (t I) (oc (t I) on)) (ih _ _ _ hx7.e)) I λa w s=>ru 1 s λa w s=>nl ?_))
      refine R0 10 s λa w s=>?_
      refine R0 3 s λa w s=>?_
      exact ⟨_,hm,s.fi⟩
     ·refine wpIn_exit ?_
      obtain rfl:=si hm
      exact s.fi
    ·refine R 15 s λa w s=>?_
     cases hm;exact rT hD s I I
def m242_l1 (v0:Control) (v1:State):Nat→(Int×(List Bool))→Option (Int×(List Bool))
 | 0,_=>none
 | n+1,z1=>(bif (decide (z1.1 < v0.Actuators)) then (idx v1.Ends z1.1).bind λx4=>(idx v1.Ends z1.1).bind λx5=>(app z1.2 ([(x4 == (0:Int)),(x5 == (2:Int))]:List Bool)).bind λx6=>m242_l1 v0 v1 n ((wr (z1.1 + (1:Int))),x6) else some (z1.1,z1.2))
def m242 (f:Nat) (v0:Control) (v1:State):Option ((List Bool)):=(m242_l1 v0 v1 f ((0:Int),([]:List Bool))).bind λo2s=>(app o2s.2 v1.Inputs).bind λx8=>(app x8 v1.Values).bind λx10=>some x10
theorem s242 (f:Nat) (v0:Control) (v1:State) (r:(List Bool)) (hm:m242 f v0 v1=some r):Sp Tryz.prog 242 [Va v0,Va v1] (Rz (λx:Value=>Qv x) (λx=>[Ow 4 x r])):=by
 unfold m242 at hm
 refine ens Tryz.func242 (by kernel_rfl) I Tryz.ntmps242 I I λM W a hM hD s=>?_
 refine R 3 s λa w s=>?_
 refine R 1 s λa w s=>?_
 refine se (R 1 s λa w s=>?_)
 refine nilt (α:=Bool) (d:=5) 1000 4 s I I λc3 s=>?_
 refine la hm (λz1 a w=>∃ (z1c0:Value),St M W 36 [(0,Va v0),(1,Va v1),(2,Pt v0),(3,Pt v1),(4,Qv nz),(5,Qv z1c0),(6,Va z1.1),(1000,Ow 4 z1c0 z1.2)] a w) ⟨c3,s.fi⟩ (λ_=>I) (λo2s hko2 n z1 a w hm s=>?_) λo2s hm a w s=>?_
 ·obtain ⟨z1c0,s⟩:=s
  unfold m242_l1 at hm
  refine se (R 4 s λa w s=>?_)
  refine cmt s hm (λhb hm=>?_) λhb hm=>?_
  ·refine se (wpIn_block ?_)
   obtain ⟨x4,hx4,hm⟩:=bs hm
   obtain ⟨x5,hx5,hm⟩:=bs hm
   obtain ⟨x6,hx6,hm⟩:=bs hm
   refine flow s (m:=14) (.cons (.cons (.cons (.cons (.cons (.cons (.cons (.cons (.cons (.cons (.cons (.cons (.cons (.cons .nil I (mvq (t I))) I (fa (f:=State.Ends) (t I))) I (ld (t I))) I (mv (t I))) I (ix (t I) (t I) hx4)) I (ld (t I))) I (eq (t I) ci)) I (fa (f:=State.Ends) (t I))) I (ld (t I))) I (mv (t I))) I (ix (t I) (t I) hx5)) I (ld (t I))) I (eq (t I) ci)) I (bsv (o1 (t I) (o1 (t I) o0)) I I (by kernel_rfl))) (by kernel_rfl) I I λa w s=>apd (α:=Bool) (k:=1000) s (t I) I (t I) hx6 I I λc7 a w s=>sq s (saq (t I)) I λa w s=>nl ?_
   refine R0 3 s λa w s=>?_
   exact ⟨_,hm,⟨c7,s.fi⟩⟩
  ·refine wpIn_exit ?_
   obtain rfl:=si hm
   exact ⟨z1c0,s.fi⟩
 ·obtain ⟨o2sc0,s⟩:=s
  obtain ⟨x8,hx8,hm⟩:=bs hm
  refine se (rg (ru 3 s λa w s=>apd (α:=Bool) (k:=1000) s (t I) I (t I) hx8 I I λc9 a w s=>ru 1 s λa w s=>nl ?_))
  obtain ⟨x10,hx10,hm⟩:=bs hm
  refine se (rg (ru 3 s λa w s=>apd (α:=Bool) (k:=1000) s (t I) I (t I) hx10 I I λc11 a w s=>ru 1 s λa w s=>nl ?_))
  obtain rfl:=si hm
  refine wpIn_ret ?_
  exact rz [1000] c11 hM hD s I (rv1 (rt I)) (kc I kn) I
def m228_l1 (f:Nat) (v0:Control) (x2:(List Int)×(List Bool)×(List Bool)×(List Bool)×(List Int)):Nat→(Int×(List Bool))→Option (Int×(List Bool))
 | 0,_=>none
 | n+1,z5=>(bif (decide (z5.1 < (v0.Signals.length:Int))) then (idx v0.Signals z5.1).bind λx7=>(bif (x7.Kind == (0:Int)) then (idx v0.Signals z5.1).bind λx9=>(m242 f v0 (⟨x2.1,x2.2.1,x2.2.2.1,z5.2,x2.2.2.2.2⟩:State)).bind λx10=>(m264 f x9.On x10).bind λx12=>(idx z5.2 z5.1).bind λx13=>some (z5.2.set z5.1.toNat x12) else some z5.2).bind λz8=>m228_l1 f v0 x2 n ((wr (z5.1 + (1:Int))),z8) else some (z5.1,z5.2))
def m228 (f:Nat) (v0:Control) (v1:State):Option (State):=(m232 f v1).bind λx2=>(m228_l1 f v0 x2 f ((0:Int),x2.2.2.2.1)).bind λo6s=>some (⟨x2.1,x2.2.1,x2.2.2.1,o6s.2,x2.2.2.2.2⟩:State)
theorem s228 (f:Nat) (v0:Control) (v1:State) (r:State) (hm:m228 f v0 v1=some r):Sp Tryz.prog 228 [Va v0,Va v1] (Va r):=by
 unfold m228 at hm
 refine ens Tryz.func228 (by kernel_rfl) I Tryz.ntmps228 I I λM W a hM hD s=>?_
 refine se (rg (ru 2 s λa w s=>aR 1000 s λb1 a w s=>nl ?_))
 obtain ⟨x2,hx2,hm⟩:=bk hm
 refine se (rg (ru 1 s λa w s=>sqz [1001,1002,1003,1004,1005] hM s (cc I (oc (t I) on) (s232 f _ _ hx2.e)) (λ_=>I) I I λy3 a w s=>aR 1006 s λb4 a w s=>sra (K:=1006) (m:=[y3.1,y3.2.1,y3.2.2.1,y3.2.2.2.1,y3.2.2.2.2]) (cs':=[y3.1,y3.2.1,y3.2.2.1,y3.2.2.2.1,y3.2.2.2.2]) s (t I) I (t I) (by kernel_rfl) I I I λw s=>nl ?_))
 refine se (R 1 s λa w s=>?_)
 refine lA hm [0,1,2,3,4,5,1000,1006,1001,1002,1003,1005] s (λz5=>[(6,Va z5.1),(1004,Ow 4 y3.2.2.2.1 z5.2)]) s.fi (λ_=>I) (λo6s hko6 n z5 a w hm s=>?_) λo6s hm a w s=>?_
 ·unfold m228_l1 at hm
  refine se (R 5 s λa w s=>?_)
  refine cmt s hm (λhb hm=>?_) λhb hm=>?_
  ·refine se (wpIn_block ?_)
   refine se (rg (ru 3 s λa w s=>iB s hm λx7 hm a w s=>ru 3 s λa w s=>nl ?_))
   obtain ⟨z8,hz8,hkz8⟩:=bs hm
   refine cP [0,1,2,3,4,5,6,1000,1006,1001,1002,1003,1005] s [(1004,Ow 4 y3.2.2.2.1 z8)] ?_ λa w s=>?_
   ·refine cm s I hz8 (λhb hm=>?_) (λhb hm=>?_)
    ·obtain ⟨x9,hx9,hm⟩:=bk hm
     obtain ⟨x10,hx10,hm⟩:=bk hm
     obtain ⟨x12,hx12,hm⟩:=bk hm
     obtain ⟨x13,hx13,hm⟩:=bk hm
     refine flow2 [(5,Qv (pb b4 0)),(6,Va z5.1),(1006,Mr b4 [y3.1,y3.2.1,y3.2.2.1,y3.2.2.2.1,y3.2.2.2.2])] [3,4,5,6,7,8,9,10,11] [26,27,28,29,30,31,32,33,34] [] [23] [25,24,23] [(12,[]),(13,[25,24,23]),(14,[])] s (.skip (.skip (.skip (.cons (.cons (.cons (.cons (.cons (.cons (.cons (.cons (.cons (.late (.late (.late .nil I I (fm_ (off:=3) (m:=0) (q:=3) (t I) (by kernel_rfl) I)) I I (lrc (K:=1006) (List Bool) (t I) I I I I)) I I (mv (t I))) I I (fa (f:=Control.Signals) (t I))) I I (ld (t I))) I I (mv (t I))) I I (ix (t I) (t I) hx9.e)) I I (fa (f:=Signal.On) (t I))) I I (ld (t I))) I I (ld (t I))) I I (lra (K:=1006) (ds:=[y3.1,y3.2.1,y3.2.2.1,y3.2.2.2.1,y3.2.2.2.2]) State (t I) I I I I)) I I (tfg (k:=1005) (flz (λ_=>flq) (λ_=>(flc flo fln))) I (tfg (k:=1004) (flz (λ_=>flq) (λ_=>(flc flo fln))) I (tfg (k:=1003) (flz (λ_=>flq) (λ_=>(flc flo fln))) I (tfg (k:=1002) (flz (λ_=>flq) (λ_=>(flc flo fln))) I (tfg (k:=1001) (flz (λ_=>flq) (λ_=>(flc flo fln))) I (cc I (oc (t I) (oc (qad (y:=(⟨x2.1,x2.2.1,x2.2.2.1,z5.2,x2.2.2.2.2⟩:State)) (t I) (rpS30 (l:=([y3.1],[y3.2.1],[y3.2.2.1],[y3.2.2.2.1],[y3.2.2.2.2])) (rpz (k:=1001) I) (rpz (k:=1002) I) (rpz (k:=1003) I) (rpz (k:=1004) I) (rpz (k:=1005) I)) I) on)) (s242 f _ _ _ hx10.e)))))))) I) I) I) (by kernel_rfl) (by kernel_rfl) I I (sb1 I (sb1 I (sb1 I sb0))) I (by decide) I I ?_
     refine ⟨⟨λ_=>I,I,.inr ⟨(sb1 I (sb1 I (sb1 I sb0))),sb0,(sn2 I sn0)⟩⟩,by kernel_rfl,_,I,λΨ a w s=>opz (d:=34) [1008] s I (λ_=>I) I λy11 s=>sq s (tfg (k:=1008) fl1 I (cc I (oc (t I) (oc (ta (k:=1008) (t I) I) on)) (s264 f _ _ _ hx12.e))) I λa w s=>nl ?_⟩
     refine nxt Ψ s ?_
     refine ⟨⟨λ_=>I,I,.inr ⟨(sb1 I (sb1 I (sb1 I sb0))),sb0,(sn2 I sn0)⟩⟩,by kernel_rfl,_,I,λΨ a w s=>sq s (ixq (α:=Bool) (k:=1004) (t I) I (t I) hx13.e) I λa w s=>nl ?_⟩
     refine nxt Ψ s ?_
     refine ⟨⟨λ_=>I,I,.inl I⟩,by kernel_rfl,_,I,λΨ a w s=>stq (k:=1004) s (t I) I (idxg hx13.e) (t I) λw s=>nl ?_⟩
     refine nxt Ψ s ?_
     refine ⟨⟨λ_=>I,I,.inl I⟩,λa w s=>?_⟩
     replace s:St M W 38 [(0,Va v0),(1,Va v1),(2,Pt v0),(3,Pt v1),(4,Qv (pb b1 0)),(5,Qv (pb b4 0)),(6,Va z5.1),(1000,Mr b1 [nz,nz,nz,nz,nz]),(1006,Mr b4 [y3.1,y3.2.1,y3.2.2.1,y3.2.2.2.1,y3.2.2.2.2]),(1001,Ow 3 y3.1 x2.1),(1002,Ow 4 y3.2.1 x2.2.1),(1003,Ow 4 y3.2.2.1 x2.2.2.1),(1004,Ow 4 y3.2.2.2.1 ((z5.2.set z5.1.toNat x12))),(1005,Ow 3 y3.2.2.2.2 x2.2.2.2.2)] a w:=s.pick [0,1,2,3,4,5,6,1000,1006,1001,1002,1003,1004,1005]
     obtain rfl:=si hm
     exact s.fi
    ·refine wpIn_skip ?_
     obtain rfl:=si hm
     exact s.fi
   ·replace hm:=hkz8
    refine R0 3 s λa w s=>?_
    exact ⟨_,hm,s.fi⟩
  ·refine wpIn_exit ?_
   obtain rfl:=si hm
   exact s.fi
 ·refine se (rg (sq s (lra (K:=1006) (ds:=[y3.1,y3.2.1,y3.2.2.1,y3.2.2.2.1,y3.2.2.2.2]) State (t I) I I I I) I λa w s=>sra (K:=1000) (m:=[y3.1,y3.2.1,y3.2.2.1,y3.2.2.2.1,y3.2.2.2.2]) (cs':=[y3.1,y3.2.1,y3.2.2.1,y3.2.2.2.1,y3.2.2.2.2]) s (t I) I (t I) (by kernel_rfl) I I I λw s=>nl ?_))
  obtain rfl:=si hm
  refine fzk (α:=Int) (k:=1001) hM s I λs=>?_
  refine fzk (α:=Bool) (k:=1002) hM s I λs=>?_
  refine fzk (α:=Bool) (k:=1003) hM s I λs=>?_
  refine fzk (α:=Bool) (k:=1004) hM s I λs=>?_
  refine fzk (α:=Int) (k:=1005) hM s I λs=>?_
  refine shut (k:=1000) (x:=(⟨x2.1,x2.2.1,x2.2.2.1,o6s.2,x2.2.2.2.2⟩:State)) s I (rpS30 (l:=([y3.1],[y3.2.1],[y3.2.2.1],[y3.2.2.2.1],[y3.2.2.2.2])) (rpz (k:=1001) I) (rpz (k:=1002) I) (rpz (k:=1003) I) (rpz (k:=1004) I) (rpz (k:=1005) I)) λs=>?_
  refine wpIn_ret ?_
  exact rn hD s I (rv1 (rc (K:=1000) I I))
def m296 (f:Nat) (v0:Signal) (v1:List Bool):Option (Bool×Bool):=(m264 f v0.On v1).bind λx1=>(bif (v0.Kind == (1:Int)) then (m264 f v0.Off v1).bind λx2=>some x2 else some false).bind λr3=>some (x1,r3)
theorem s296 (f:Nat) (v0:Signal) (v1:List Bool) (r:Bool×Bool) (hm:m296 f v0 v1=some r):Sp Tryz.prog 296 [Va v0,Va v1] (T2 (Va r.1) (Va r.2)):=by
 unfold m296 at hm
 refine ens Tryz.func296 (by kernel_rfl) I Tryz.ntmps296 I I λM W a hM hD s=>?_
 refine R 3 s λa w s=>?_
 obtain ⟨x1,hx1,hm⟩:=bk hm
 obtain ⟨r3,hr3,hm⟩:=bs hm
 have gr3:=gT hr3
 have er3:=gF hr3
 obtain ⟨x2,hx2,gr3⟩:=gk gr3
 refine se (flow2 [] [0,1,2,3,4,5,6,7,8,9,10,11] [6,7,8,9,10,11,12,13,14,15,16,17] [17,13] [] [18] [(13,[]),(14,[18])] s (.skip (.skip (.late (.cong (.cong (.cong (.cong (.cons (.cons (.cons (.cons (.cons (.cons (.cons (.cons .nil I I (fa (f:=Signal.On) (t I))) I I (ld (t I))) I I (mv (t I))) I I (cc I (oc (t I) (oc (t I) on)) (s264 f _ _ _ hx1.e))) I I (fa (f:=Signal.Kind) (t I))) I I (ld (t I))) I I (eq (t I) ci)) I I (mv (t I))) I I I I (λhb=>(fa (f:=Signal.Off) (t I)))) I I I I (λhb=>(ld (tg I hb)))) I I I I (λhb=>(mv (t I)))) I I I I (λhb=>(cc I (oc (tg I hb) (oc (tg I hb) on)) (s264 f _ _ _ (hx2.h hb))))) I I (pa (t I) I (λh=>si (gr3 h)) (λh=>(si (er3 h)).symm))) I) I) (by kernel_rfl) (by kernel_rfl) I I sb0 I (by decide) I I ?_)
 refine ⟨⟨λ_=>I,I,.inr ⟨sb0,(sb1 I (sb1 I sb0)),sn0⟩⟩,by kernel_rfl,_,I,λΨ a w s=>sq s (sa (t I)) I λa w s=>nl ?_⟩
 refine nxt Ψ s ?_
 refine ⟨⟨λ_=>I,I,.inr ⟨sb0,(sb1 I (sb1 I sb0)),sn0⟩⟩,by kernel_rfl,_,I,λΨ a w s=>sq s (sa (t I)) I λa w s=>nl ?_⟩
 refine nxt Ψ s ?_
 refine ⟨⟨λ_=>I,I,.inl I⟩,λa w s=>?_⟩
 replace s:St M W 19 [(0,Va v0),(1,Va v1),(2,Pt v0),(4,Va x1),(5,Va r3)] a w:=s.pick [0,1,2,4,5]
 cases hm;exact rU hD s I I
def m242_1_l1 (v0:Control) (v1:State):Nat→(Int×(List Bool))→Option (Int×(List Bool))
 | 0,_=>none
 | n+1,z1=>(bif (decide (z1.1 < v0.Actuators)) then (idx v1.Ends z1.1).bind λx4=>(idx v1.Ends z1.1).bind λx5=>(app z1.2 ([(x4 == (0:Int)),(x5 == (2:Int))]:List Bool)).bind λx6=>m242_1_l1 v0 v1 n ((wr (z1.1 + (1:Int))),x6) else some (z1.1,z1.2))
def m242_1 (f:Nat) (v0:Control) (v1:State):Option ((List Bool)):=(m242_1_l1 v0 v1 f ((0:Int),([]:List Bool))).bind λo2s=>(app o2s.2 v1.Inputs).bind λx8=>(app x8 v1.Values).bind λx10=>some x10
theorem s242_1 (f:Nat) (v0:Control) (v1:State) (r:(List Bool)) (hm:m242_1 f v0 v1=some r):Sp Tryz.prog 242 [Va v0,Va v1] (Va r):=by
 unfold m242_1 at hm
 refine ens Tryz.func242 (by kernel_rfl) I Tryz.ntmps242 I I λM W a hM hD s=>?_
 refine R 3 s λa w s=>?_
 refine R 1 s λa w s=>?_
 refine se (R 1 s λa w s=>?_)
 refine nilt (α:=Bool) (d:=5) 1000 4 s I I λc3 s=>?_
 refine la hm (λz1 a w=>∃ (z1c0:Value),St M W 36 [(0,Va v0),(1,Va v1),(2,Pt v0),(3,Pt v1),(4,Qv nz),(5,Qv z1c0),(6,Va z1.1),(1000,Ow 4 z1c0 z1.2)] a w) ⟨c3,s.fi⟩ (λ_=>I) (λo2s hko2 n z1 a w hm s=>?_) λo2s hm a w s=>?_
 ·obtain ⟨z1c0,s⟩:=s
  unfold m242_1_l1 at hm
  refine se (R 4 s λa w s=>?_)
  refine cmt s hm (λhb hm=>?_) λhb hm=>?_
  ·refine se (wpIn_block ?_)
   obtain ⟨x4,hx4,hm⟩:=bs hm
   obtain ⟨x5,hx5,hm⟩:=bs hm
   obtain ⟨x6,hx6,hm⟩:=bs hm
   refine flow s (m:=14) (.cons (.cons (.cons (.cons (.cons (.cons (.cons (.cons (.cons (.cons (.cons (.cons (.cons (.cons .nil I (mvq (t I))) I (fa (f:=State.Ends) (t I))) I (ld (t I))) I (mv (t I))) I (ix (t I) (t I) hx4)) I (ld (t I))) I (eq (t I) ci)) I (fa (f:=State.Ends) (t I))) I (ld (t I))) I (mv (t I))) I (ix (t I) (t I) hx5)) I (ld (t I))) I (eq (t I) ci)) I (bsv (o1 (t I) (o1 (t I) o0)) I I (by kernel_rfl))) (by kernel_rfl) I I λa w s=>apd (α:=Bool) (k:=1000) s (t I) I (t I) hx6 I I λc7 a w s=>sq s (saq (t I)) I λa w s=>nl ?_
   refine R0 3 s λa w s=>?_
   exact ⟨_,hm,⟨c7,s.fi⟩⟩
  ·refine wpIn_exit ?_
   obtain rfl:=si hm
   exact ⟨z1c0,s.fi⟩
 ·obtain ⟨o2sc0,s⟩:=s
  obtain ⟨x8,hx8,hm⟩:=bs hm
  refine se (rg (ru 3 s λa w s=>apd (α:=Bool) (k:=1000) s (t I) I (t I) hx8 I I λc9 a w s=>ru 1 s λa w s=>nl ?_))
  obtain ⟨x10,hx10,hm⟩:=bs hm
  refine se (rg (ru 3 s λa w s=>apd (α:=Bool) (k:=1000) s (t I) I (t I) hx10 I I λc11 a w s=>ru 1 s λa w s=>nl ?_))
  obtain rfl:=si hm
  refine fzk (α:=Bool) (k:=1000) hM s I λs=>?_
  refine wpIn_ret ?_
  exact rn hD s I (rv1 (ro (ta (k:=1000) (t I) I)))
def m295 (f:Nat) (v0:Control) (v1:State) (v2:Int):Option (State×Bool):=(m232 f v1).bind λx2=>(idx v0.Signals v2).bind λx3=>(m242_1 f v0 v1).bind λx7=>(m296 f x3 x7).bind λx8=>(bif ((x3.Kind == (1:Int)) && (x8.1 != x8.2)) then (idx x2.2.2.2.1 v2).bind λx9=>(idx v1.Values v2).bind λx10=>some ((⟨x2.1,x2.2.1,x2.2.2.1,(x2.2.2.2.1.set v2.toNat x8.1),x2.2.2.2.2⟩:State),(x10 != x8.1)) else (bif ((x3.Kind == (2:Int)) && (!x8.1)) then (idx x2.2.2.2.1 v2).bind λx11=>(idx x2.2.2.2.2 v2).bind λx12=>(idx v1.Timers v2).bind λx13=>some ((⟨x2.1,x2.2.1,x2.2.2.1,(x2.2.2.2.1.set v2.toNat false),(x2.2.2.2.2.set v2.toNat (0:Int))⟩:State),(x13 != (0:Int))) else (bif (x3.Kind == (2:Int)) then (idx v1.Timers v2).bind λx14=>some (x14 == (0:Int)) else some false).bind λr15=>(bif r15 then (idx x2.2.2.2.2 v2).bind λx16=>some ((⟨x2.1,x2.2.1,x2.2.2.1,x2.2.2.2.1,(x2.2.2.2.2.set v2.toNat (1:Int))⟩:State),true) else some ((⟨x2.1,x2.2.1,x2.2.2.1,x2.2.2.2.1,x2.2.2.2.2⟩:State),false))))
theorem s295 (f:Nat) (v0:Control) (v1:State) (v2:Int) (r:State×Bool) (hm:m295 f v0 v1 v2=some r):Sp Tryz.prog 295 [Va v0,Va v1,Va v2] (T2 (Va r.1) (Va r.2)):=by
 unfold m295 at hm
 refine ens Tryz.func295 (by kernel_rfl) I Tryz.ntmps295 I I λM W a hM hD s=>?_
 refine se (rg (ru 2 s λa w s=>sqr 1000 s (alr (cs:=[nz,nz,nz,nz,nz]) (z:=.agg #[nz,nz,nz,nz,nz]) (by kernel_rfl) I I) I I λb1 a w s=>ru 1 s λa w s=>nl ?_))
 obtain ⟨x2,hx2,hm⟩:=bs hm
 obtain ⟨x3,hx3,hm⟩:=bs hm
 refine se (flow2 [(2,Va v2),(3,Pt v0)] [0,1,7,8] [12,13,8,9] [] [17,16,15,14] [18,17,16,15,14] [(9,[]),(10,[18,17,16,15,14])] s (.skip (.skip (.cons (.cons (.late (.late (.late (.late (.late (.cons (.cons .nil I I (ld (t I))) I I (cc I (oc (t I) on) (s232 f _ _ hx2))) I I (fa (f:=Control.Signals) (t I))) I I (ld (t I))) I I (mv (t I))) I I (ix (t I) (t I) hx3)) I I (ld (t I))) I I (alr (cs:=[nz,nz,nz,nz,nz]) (z:=.agg #[nz,nz,nz,nz,nz]) (by kernel_rfl) I I)) I I (alr (cs:=[(.string ByteArray.empty),(.int .i64 (0:Int)),(.int .i64 (0:Int)),(.int .i64 (0:Int)),nz,(.int .i64 (0:Int)),(.int .i64 (0:Int)),nz,(.int .i64 (0:Int)),(.bool false)]) (z:=.agg #[(.string ByteArray.empty),(.int .i64 (0:Int)),(.int .i64 (0:Int)),(.int .i64 (0:Int)),nz,(.int .i64 (0:Int)),(.int .i64 (0:Int)),nz,(.int .i64 (0:Int)),(.bool false)]) (by kernel_rfl) I I)) I) I) (by kernel_rfl) (by kernel_rfl) I I (sb1 I (sb1 I sb0)) I (by decide) I I ?_)
 refine ⟨⟨λ_=>I,I,.inr ⟨(sb1 I (sb1 I sb0)),sb0,(sn2 I (sn2 I (sn2 I (sn2 I sn0))))⟩⟩,by kernel_rfl,_,I,λΨ a w s=>opz (d:=13) [1001,1002,1003,1004,1005] s I (λ_=>I) I λy6 s=>opr (d:=8) 1006 s I I λb4 s=>sra (K:=1006) (m:=[y6.1,y6.2.1,y6.2.2.1,y6.2.2.2.1,y6.2.2.2.2]) (cs':=[y6.1,y6.2.1,y6.2.2.1,y6.2.2.2.1,y6.2.2.2.2]) s (t I) I (t I) (by kernel_rfl) I I I λw s=>nl ?_⟩
 refine nxt Ψ s ?_
 refine ⟨⟨λ_=>I,I,.inr ⟨(sb1 I (sb1 I sb0)),sb0,(sn2 I (sn2 I (sn2 I (sn2 I sn0))))⟩⟩,by kernel_rfl,_,I,λΨ a w s=>opr (d:=9) 1007 s I I λb5 s=>swd (K:=1007) s (t I) I (t I) I λw s=>nl ?_⟩
 refine nxt Ψ s ?_
 refine ⟨⟨λ_=>I,I,.inl I⟩,λa w s=>?_⟩
 replace s:St M W 87 [(0,Va v0),(1,Va v1),(2,Va v2),(3,Pt v0),(4,Pt v1),(6,Qv (pb b1 0)),(7,Va false),(8,Qv (pb b4 0)),(9,Qv (pb b5 0)),(1000,Mr b1 [nz,nz,nz,nz,nz]),(1006,Mr b4 [y6.1,y6.2.1,y6.2.2.1,y6.2.2.2.1,y6.2.2.2.2]),(1001,Ow 3 y6.1 x2.1),(1002,Ow 4 y6.2.1 x2.2.1),(1003,Ow 4 y6.2.2.1 x2.2.2.1),(1004,Ow 4 y6.2.2.2.1 x2.2.2.2.1),(1005,Ow 3 y6.2.2.2.2 x2.2.2.2.2),(1007,Mg b5 x3)] a w:=s.pick [0,1,2,3,4,6,7,8,9,1000,1006,1001,1002,1003,1004,1005,1007]
 obtain ⟨x7,hx7,hm⟩:=bs hm
 obtain ⟨x8,hx8,hm⟩:=bs hm
 refine se (flow2 [] [0,1,2,3,4,5,6] [20,21,22,23,24,19,25] [19] [] [26] [(8,[]),(9,[26])] s (.skip (.skip (.late (.cons (.cons (.cons (.cons (.cons (.cons (.cons .nil I I (lm (K:=1007) (t I) I)) I I (ld (t I))) I I (ld (t I))) I I (cc I (oc (t I) (oc (t I) on)) (s242_1 f _ _ _ hx7))) I I (cc I (oc (t I) (oc (t I) on)) (s296 f _ _ _ hx8))) I I (mve (t I))) I I (Pn.x20 (t I))) I I (Pn.x21 (t I))) I) I) (by kernel_rfl) (by kernel_rfl) I I sb0 I (by decide) I I ?_)
 refine ⟨⟨λ_=>I,I,.inr ⟨sb0,(sb1 I sb0),sn0⟩⟩,by kernel_rfl,_,I,λΨ a w s=>sq s (sa (t I)) I λa w s=>nl ?_⟩
 refine nxt Ψ s ?_
 refine ⟨⟨λ_=>I,I,.inr ⟨sb0,(sb1 I sb0),sn0⟩⟩,by kernel_rfl,_,I,λΨ a w s=>sq s (sa (t I)) I λa w s=>nl ?_⟩
 refine nxt Ψ s ?_
 refine ⟨⟨λ_=>I,I,.inl I⟩,λa w s=>?_⟩
 replace s:St M W 87 [(0,Va v0),(1,Va v1),(2,Va v2),(3,Pt v0),(4,Pt v1),(6,Qv (pb b1 0)),(7,Va false),(8,Qv (pb b4 0)),(9,Qv (pb b5 0)),(10,Va x8.1),(11,Va x8.2),(1000,Mr b1 [nz,nz,nz,nz,nz]),(1006,Mr b4 [y6.1,y6.2.1,y6.2.2.1,y6.2.2.2.1,y6.2.2.2.2]),(1001,Ow 3 y6.1 x2.1),(1002,Ow 4 y6.2.1 x2.2.1),(1003,Ow 4 y6.2.2.1 x2.2.2.1),(1004,Ow 4 y6.2.2.2.1 x2.2.2.2.1),(1005,Ow 3 y6.2.2.2.2 x2.2.2.2.2),(1007,Mg b5 x3)] a w:=s.pick [0,1,2,3,4,6,7,8,9,10,11,1000,1006,1001,1002,1003,1004,1005,1007]
 refine se (se (rg (sq s (fm_ (off:=1) (m:=0) (q:=1) (t I) (by kernel_rfl) I) I λa w s=>sq s (lf (K:=1007) (f:=Signal.Kind) (t I) I) I λa w s=>ru 6 s λa w s=>nl ?_)))
 refine cmf s hm (λhb hm=>?_) λhb hm=>?_
 ·obtain ⟨x9,hx9,hm⟩:=bs hm
  refine se (rg (sq s (fm_ (off:=3) (m:=0) (q:=3) (t I) (by kernel_rfl) I) I λa w s=>sq s (lrc (K:=1006) (List Bool) (t I) I I I I) I λa w s=>ru 2 s λa w s=>sq s (ixq (α:=Bool) (k:=1004) (t I) I (t I) hx9) I λa w s=>stq (k:=1004) s (t I) I (idxg hx9) (t I) λw s=>nl ?_))
  obtain ⟨x10,hx10,hm⟩:=bs hm
  refine se (flow2 [(2,Va v2),(4,Pt v1),(10,Va x8.1)] [0] [40] [] [46,45,44,43,42,41] [47,46,45,44,43,42,41] [(8,[]),(9,[47,46,45,44,43,42,41])] s (.skip (.skip (.late (.late (.late (.late (.late (.late (.late (.cons .nil I I (lra (K:=1006) (ds:=[y6.1,y6.2.1,y6.2.2.1,y6.2.2.2.1,y6.2.2.2.2]) State (t I) I I I I)) I I (fa (f:=State.Values) (t I))) I I (ld (t I))) I I (mv (t I))) I I (ix (t I) (t I) hx10)) I I (ld (t I))) I I (mv (t I))) I I (bne (t I) (t I) Tryz.underlying4)) I) I) (by kernel_rfl) (by kernel_rfl) I I (sb1 I (sb1 I (sb1 I sb0))) I (by decide) I I ?_)
  refine ⟨⟨λ_=>I,I,.inr ⟨(sb1 I (sb1 I (sb1 I sb0))),sb0,(sn2 I (sn2 I (sn2 I (sn2 I (sn2 I (sn2 I sn0))))))⟩⟩,by kernel_rfl,_,I,λΨ a w s=>sra (K:=1000) (m:=[y6.1,y6.2.1,y6.2.2.1,y6.2.2.2.1,y6.2.2.2.2]) (cs':=[y6.1,y6.2.1,y6.2.2.1,y6.2.2.2.1,y6.2.2.2.2]) s (t I) I (t I) (by kernel_rfl) I I I λw s=>nl ?_⟩
  refine nxt Ψ s ?_
  refine ⟨⟨λ_=>I,I,.inr ⟨(sb1 I (sb1 I (sb1 I sb0))),sb0,(sn2 I (sn2 I (sn2 I (sn2 I (sn2 I (sn2 I sn0))))))⟩⟩,by kernel_rfl,_,I,λΨ a w s=>sq s (sa (t I)) I λa w s=>nl ?_⟩
  refine nxt Ψ s ?_
  refine ⟨⟨λ_=>I,I,.inl I⟩,λa w s=>?_⟩
  replace s:St M W 87 [(0,Va v0),(1,Va v1),(2,Va v2),(3,Pt v0),(4,Pt v1),(6,Qv (pb b1 0)),(7,Va ((x10 != x8.1))),(8,Qv (pb b4 0)),(9,Qv (pb b5 0)),(10,Va x8.1),(11,Va x8.2),(1000,Mr b1 [y6.1,y6.2.1,y6.2.2.1,y6.2.2.2.1,y6.2.2.2.2]),(1001,Ow 3 y6.1 x2.1),(1002,Ow 4 y6.2.1 x2.2.1),(1003,Ow 4 y6.2.2.1 x2.2.2.1),(1004,Ow 4 y6.2.2.2.1 ((x2.2.2.2.1.set v2.toNat x8.1))),(1005,Ow 3 y6.2.2.2.2 x2.2.2.2.2),(1006,Mr b4 [y6.1,y6.2.1,y6.2.2.1,y6.2.2.2.1,y6.2.2.2.2]),(1007,Mg b5 x3)] a w:=s.pick [0,1,2,3,4,6,7,8,9,10,11,1000,1001,1002,1003,1004,1005,1006,1007]
  obtain rfl:=si hm
  refine fzk (α:=Int) (k:=1001) hM s I λs=>?_
  refine fzk (α:=Bool) (k:=1002) hM s I λs=>?_
  refine fzk (α:=Bool) (k:=1003) hM s I λs=>?_
  refine fzk (α:=Bool) (k:=1004) hM s I λs=>?_
  refine fzk (α:=Int) (k:=1005) hM s I λs=>?_
  refine shut (k:=1000) (x:=(⟨x2.1,x2.2.1,x2.2.2.1,(x2.2.2.2.1.set v2.toNat x8.1),x2.2.2.2.2⟩:State)) s I (rpS30 (l:=([y6.1],[y6.2.1],[y6.2.2.1],[y6.2.2.2.1],[y6.2.2.2.2])) (rpz (k:=1001) I) (rpz (k:=1002) I) (rpz (k:=1003) I) (rpz (k:=1004) I) (rpz (k:=1005) I)) λs=>?_
  refine wpIn_ret ?_
  exact rn hD s I (rv2 (rc (K:=1000) I I) (rt I))
 ·refine se (se (rg (sq s (fm_ (off:=1) (m:=0) (q:=1) (t I) (by kernel_rfl) I) I λa w s=>sq s (lf (K:=1007) (f:=Signal.Kind) (t I) I) I λa w s=>ru 5 s λa w s=>nl ?_)))
  refine cmf s hm (λhb hm=>?_) λhb hm=>?_
  ·obtain ⟨x11,hx11,hm⟩:=bs hm
   obtain ⟨x12,hx12,hm⟩:=bs hm
   refine se (flow2 [(2,Va v2),(8,Qv (pb b4 0)),(1006,Mr b4 [y6.1,y6.2.1,y6.2.2.1,y6.2.2.2.1,y6.2.2.2.2])] [0,1,2,6] [55,56,57,61] [] [58] [60,59,58] [(7,[]),(8,[60,59,58]),(9,[])] s (.skip (.skip (.skip (.cons (.late (.late (.late (.cons (.cons (.cons .nil I I (fm_ (off:=3) (m:=0) (q:=3) (t I) (by kernel_rfl) I)) I I (lrc (K:=1006) (List Bool) (t I) I I I I)) I I (mv (t I))) I I (fm_ (off:=4) (m:=0) (q:=4) (t I) (by kernel_rfl) I)) I I (lrc (K:=1006) (List Int) (t I) I I I I)) I I (mv (t I))) I I (ixq (α:=Bool) (k:=1004) (t I) I (t I) hx11)) I) I) I) (by kernel_rfl) (by kernel_rfl) I I (sb1 I (sb1 I (sb1 I sb0))) I (by decide) I I ?_)
   refine ⟨⟨λ_=>I,I,.inr ⟨(sb1 I (sb1 I (sb1 I sb0))),sb0,(sn2 I sn0)⟩⟩,by kernel_rfl,_,I,λΨ a w s=>stq (k:=1004) s (t I) I (idxg hx11) cb λw s=>nl ?_⟩
   refine nxt Ψ s ?_
   refine ⟨⟨λ_=>I,I,.inr ⟨(sb1 I (sb1 I (sb1 I sb0))),sb0,(sn2 I sn0)⟩⟩,by kernel_rfl,_,I,λΨ a w s=>sq s (ixq (α:=Int) (k:=1005) (t I) I (t I) hx12) I λa w s=>nl ?_⟩
   refine nxt Ψ s ?_
   refine ⟨⟨λ_=>I,I,.inl I⟩,by kernel_rfl,_,I,λΨ a w s=>stq (k:=1005) s (t I) I (idxg hx12) ci λw s=>nl ?_⟩
   refine nxt Ψ s ?_
   refine ⟨⟨λ_=>I,I,.inl I⟩,λa w s=>?_⟩
   replace s:St M W 87 [(0,Va v0),(1,Va v1),(2,Va v2),(3,Pt v0),(4,Pt v1),(6,Qv (pb b1 0)),(7,Va false),(8,Qv (pb b4 0)),(9,Qv (pb b5 0)),(10,Va x8.1),(11,Va x8.2),(1000,Mr b1 [nz,nz,nz,nz,nz]),(1006,Mr b4 [y6.1,y6.2.1,y6.2.2.1,y6.2.2.2.1,y6.2.2.2.2]),(1001,Ow 3 y6.1 x2.1),(1002,Ow 4 y6.2.1 x2.2.1),(1003,Ow 4 y6.2.2.1 x2.2.2.1),(1004,Ow 4 y6.2.2.2.1 ((x2.2.2.2.1.set v2.toNat false))),(1005,Ow 3 y6.2.2.2.2 ((x2.2.2.2.2.set v2.toNat (0:Int)))),(1007,Mg b5 x3)] a w:=s.pick [0,1,2,3,4,6,7,8,9,10,11,1000,1006,1001,1002,1003,1004,1005,1007]
   obtain ⟨x13,hx13,hm⟩:=bs hm
   refine se (flow2 [(2,Va v2),(4,Pt v1)] [0] [63] [] [68,67,66,65,64] [69,68,67,66,65,64] [(7,[]),(8,[69,68,67,66,65,64])] s (.skip (.skip (.late (.late (.late (.late (.late (.late (.cons .nil I I (lra (K:=1006) (ds:=[y6.1,y6.2.1,y6.2.2.1,y6.2.2.2.1,y6.2.2.2.2]) State (t I) I I I I)) I I (fa (f:=State.Timers) (t I))) I I (ld (t I))) I I (mv (t I))) I I (ix (t I) (t I) hx13)) I I (ld (t I))) I I (ne (t I) ci)) I) I) (by kernel_rfl) (by kernel_rfl) I I (sb1 I (sb1 I sb0)) I (by decide) I I ?_)
   refine ⟨⟨λ_=>I,I,.inr ⟨(sb1 I (sb1 I sb0)),sb0,(sn2 I (sn2 I (sn2 I (sn2 I (sn2 I sn0)))))⟩⟩,by kernel_rfl,_,I,λΨ a w s=>sra (K:=1000) (m:=[y6.1,y6.2.1,y6.2.2.1,y6.2.2.2.1,y6.2.2.2.2]) (cs':=[y6.1,y6.2.1,y6.2.2.1,y6.2.2.2.1,y6.2.2.2.2]) s (t I) I (t I) (by kernel_rfl) I I I λw s=>nl ?_⟩
   refine nxt Ψ s ?_
   refine ⟨⟨λ_=>I,I,.inr ⟨(sb1 I (sb1 I sb0)),sb0,(sn2 I (sn2 I (sn2 I (sn2 I (sn2 I sn0)))))⟩⟩,by kernel_rfl,_,I,λΨ a w s=>sq s (sa (t I)) I λa w s=>nl ?_⟩
   refine nxt Ψ s ?_
   refine ⟨⟨λ_=>I,I,.inl I⟩,λa w s=>?_⟩
   replace s:St M W 87 [(0,Va v0),(1,Va v1),(2,Va v2),(3,Pt v0),(4,Pt v1),(6,Qv (pb b1 0)),(7,Va ((x13 != (0:Int)))),(8,Qv (pb b4 0)),(9,Qv (pb b5 0)),(10,Va x8.1),(11,Va x8.2),(1000,Mr b1 [y6.1,y6.2.1,y6.2.2.1,y6.2.2.2.1,y6.2.2.2.2]),(1001,Ow 3 y6.1 x2.1),(1002,Ow 4 y6.2.1 x2.2.1),(1003,Ow 4 y6.2.2.1 x2.2.2.1),(1004,Ow 4 y6.2.2.2.1 ((x2.2.2.2.1.set v2.toNat false))),(1005,Ow 3 y6.2.2.2.2 ((x2.2.2.2.2.set v2.toNat (0:Int)))),(1006,Mr b4 [y6.1,y6.2.1,y6.2.2.1,y6.2.2.2.1,y6.2.2.2.2]),(1007,Mg b5 x3)] a w:=s.pick [0,1,2,3,4,6,7,8,9,10,11,1000,1001,1002,1003,1004,1005,1006,1007]
   obtain rfl:=si hm
   refine fzk (α:=Int) (k:=1001) hM s I λs=>?_
   refine fzk (α:=Bool) (k:=1002) hM s I λs=>?_
   refine fzk (α:=Bool) (k:=1003) hM s I λs=>?_
   refine fzk (α:=Bool) (k:=1004) hM s I λs=>?_
   refine fzk (α:=Int) (k:=1005) hM s I λs=>?_
   refine shut (k:=1000) (x:=(⟨x2.1,x2.2.1,x2.2.2.1,(x2.2.2.2.1.set v2.toNat false),(x2.2.2.2.2.set v2.toNat (0:Int))⟩:State)) s I (rpS30 (l:=([y6.1],[y6.2.1],[y6.2.2.1],[y6.2.2.2.1],[y6.2.2.2.2])) (rpz (k:=1001) I) (rpz (k:=1002) I) (rpz (k:=1003) I) (rpz (k:=1004) I) (rpz (k:=1005) I)) λs=>?_
   refine wpIn_ret ?_
   exact rn hD s I (rv2 (rc (K:=1000) I I) (rt I))
  ·refine se ?_
   obtain ⟨r15,hr15,hm⟩:=bs hm
   have gr15:=gT hr15
   have er15:=gF hr15
   obtain ⟨x14,hx14,gr15⟩:=gx gr15
   refine se (rg (sq s (fm_ (off:=1) (m:=0) (q:=1) (t I) (by kernel_rfl) I) I λa w s=>sq s (lf (K:=1007) (f:=Signal.Kind) (t I) I) I λa w s=>ru 5 s λa w s=>sg s I I (λhb=>(ix (tg I hb) (tg I hb) (hx14 hb))) I λa w s=>ru 2 s λa w s=>sq s (pa (t I) I (λh=>si (gr15 h)) (λh=>(si (er15 h)).symm)) I λa w s=>nl ?_))
   refine cmf s hm (λhb hm=>?_) λhb hm=>?_
   ·obtain ⟨x16,hx16,hm⟩:=bs hm
    refine se (rg (sq s (fm_ (off:=4) (m:=0) (q:=4) (t I) (by kernel_rfl) I) I λa w s=>sq s (lrc (K:=1006) (List Int) (t I) I I I I) I λa w s=>ru 1 s λa w s=>sq s (ixq (α:=Int) (k:=1005) (t I) I (t I) hx16) I λa w s=>stq (k:=1005) s (t I) I (idxg hx16) ci λw s=>nl ?_))
    refine se (rg (sq s (lra (K:=1006) (ds:=[y6.1,y6.2.1,y6.2.2.1,y6.2.2.2.1,y6.2.2.2.2]) State (t I) I I I I) I λa w s=>sra (K:=1000) (m:=[y6.1,y6.2.1,y6.2.2.1,y6.2.2.2.1,y6.2.2.2.2]) (cs':=[y6.1,y6.2.1,y6.2.2.1,y6.2.2.2.1,y6.2.2.2.2]) s (t I) I (t I) (by kernel_rfl) I I I λw s=>ru 1 s λa w s=>nl ?_))
    obtain rfl:=si hm
    refine fzk (α:=Int) (k:=1001) hM s I λs=>?_
    refine fzk (α:=Bool) (k:=1002) hM s I λs=>?_
    refine fzk (α:=Bool) (k:=1003) hM s I λs=>?_
    refine fzk (α:=Bool) (k:=1004) hM s I λs=>?_
    refine fzk (α:=Int) (k:=1005) hM s I λs=>?_
    refine shut (k:=1000) (x:=(⟨x2.1,x2.2.1,x2.2.2.1,x2.2.2.2.1,(x2.2.2.2.2.set v2.toNat (1:Int))⟩:State)) s I (rpS30 (l:=([y6.1],[y6.2.1],[y6.2.2.1],[y6.2.2.2.1],[y6.2.2.2.2])) (rpz (k:=1001) I) (rpz (k:=1002) I) (rpz (k:=1003) I) (rpz (k:=1004) I) (rpz (k:=1005) I)) λs=>?_
    refine wpIn_ret ?_
    exact rn hD s I (rv2 (rc (K:=1000) I I) (rt I))
   ·refine se (rg (sq s (lra (K:=1006) (ds:=[y6.1,y6.2.1,y6.2.2.1,y6.2.2.2.1,y6.2.2.2.2]) State (t I) I I I I) I λa w s=>sra (K:=1000) (m:=[y6.1,y6.2.1,y6.2.2.1,y6.2.2.2.1,y6.2.2.2.2]) (cs':=[y6.1,y6.2.1,y6.2.2.1,y6.2.2.2.1,y6.2.2.2.2]) s (t I) I (t I) (by kernel_rfl) I I I λw s=>ru 1 s λa w s=>nl ?_))
    obtain rfl:=si hm
    refine fzk (α:=Int) (k:=1001) hM s I λs=>?_
    refine fzk (α:=Bool) (k:=1002) hM s I λs=>?_
    refine fzk (α:=Bool) (k:=1003) hM s I λs=>?_
    refine fzk (α:=Bool) (k:=1004) hM s I λs=>?_
    refine fzk (α:=Int) (k:=1005) hM s I λs=>?_
    refine shut (k:=1000) (x:=(⟨x2.1,x2.2.1,x2.2.2.1,x2.2.2.2.1,x2.2.2.2.2⟩:State)) s I (rpS30 (l:=([y6.1],[y6.2.1],[y6.2.2.1],[y6.2.2.2.1],[y6.2.2.2.2])) (rpz (k:=1001) I) (rpz (k:=1002) I) (rpz (k:=1003) I) (rpz (k:=1004) I) (rpz (k:=1005) I)) λs=>?_
    refine wpIn_ret ?_
    exact rn hD s I (rv2 (rc (K:=1000) I I) (rt I))
def m297 (f:Nat) (v0:Control) (v1:Int):Option (Int):=(m177 f v0).bind λx1=>some (wr (x1 + v1))
theorem s297 (f:Nat) (v0:Control) (v1:Int) (r:Int) (hm:m297 f v0 v1=some r):Sp Tryz.prog 297 [Va v0,Va v1] (Va r):=by
 unfold m297 at hm
 refine ens Tryz.func297 (by kernel_rfl) I Tryz.ntmps297 I I λM W a hM hD s=>?_
 refine R 2 s λa w s=>?_
 refine se (rg (ru 1 s λa w s=>cB s hm (s177 f _) λx1 hm a w s=>ru 3 s λa w s=>nl ?_))
 cases hm;exact rT hD s I I
def m268_l1 (f:Nat) (v0:Control) (x3:State):Nat→(Int×(List Bool)×(List Int)×(List Int))→Option (Int×(List Bool)×(List Int)×(List Int))
 | 0,_=>none
 | n+1,z7=>(bif (decide (z7.1 < (v0.Signals.length:Int))) then (m295 f v0 x3 z7.1).bind λx10=>(idx x10.1.Values z7.1).bind λx12=>(idx x10.1.Timers z7.1).bind λx13=>(idx z7.2.1 z7.1).bind λx14=>(idx z7.2.2.1 z7.1).bind λx15=>(idx v0.Signals z7.1).bind λx16=>(m242_1 f v0 x3).bind λx17=>(m296 f x16 x17).bind λx18=>(bif (x18.1 && x18.2) then (m297 f v0 z7.1).bind λx20=>(app z7.2.2.2 ([x20]:List Int)).bind λx21=>some x21 else some z7.2.2.2).bind λz19=>m268_l1 f v0 x3 n ((wr (z7.1 + (1:Int))),(z7.2.1.set z7.1.toNat x12),(z7.2.2.1.set z7.1.toNat x13),z19) else some (z7.1,z7.2.1,z7.2.2.1,z7.2.2.2))
def m268 (f:Nat) (v0:Control) (v1:State):Option (State×(List Int)):=(m228 f v0 v1).bind λx3=>(m232 f x3).bind λx4=>(m268_l1 f v0 x3 f ((0:Int),x4.2.2.2.1,x4.2.2.2.2,([]:List Int))).bind λo8s=>some ((⟨x4.1,x4.2.1,x4.2.2.1,o8s.2.1,o8s.2.2.1⟩:State),o8s.2.2.2)
theorem s268 (f:Nat) (v0:Control) (v1:State) (r:State×(List Int)) (hm:m268 f v0 v1=some r):Sp Tryz.prog 268 [Va v0,Va v1] (T2 (Va r.1) (Va r.2)):=by
 unfold m268 at hm
 refine ens Tryz.func268 (by kernel_rfl) I Tryz.ntmps268 I I λM W a hM hD s=>?_
 refine se (rg (ru 1 s λa w s=>sqb 1000 s (bxm (t I)) I I λb1 a w s=>sqr 1001 s (alr (cs:=[nz,nz,nz,nz,nz]) (z:=.agg #[nz,nz,nz,nz,nz]) (by kernel_rfl) I I) I I λb2 a w s=>ru 1 s λa w s=>nl ?_))
 refine se (rg (ru 1 s λa w s=>sq s (lm (K:=1000) (t I) I) I λa w s=>cB s hm (s228 f _ _) λx3 hm a w s=>sw (K:=1000) s (t I) I (t I) I λw s=>nl ?_))
 obtain ⟨x4,hx4,hm⟩:=bs hm
 refine se (rg (sq s (lm (K:=1000) (t I) I) I λa w s=>sqz [1002,1003,1004,1005,1006] hM s (cc I (oc (t I) on) (s232 f _ _ hx4)) (λ_=>I) I I λy5 a w s=>sqr 1007 s (alr (cs:=[nz,nz,nz,nz,nz]) (z:=.agg #[nz,nz,nz,nz,nz]) (by kernel_rfl) I I) I I λb6 a w s=>sra (K:=1007) (m:=[y5.1,y5.2.1,y5.2.2.1,y5.2.2.2.1,y5.2.2.2.2]) (cs':=[y5.1,y5.2.1,y5.2.2.1,y5.2.2.2.1,y5.2.2.2.2]) s (t I) I (t I) (by kernel_rfl) I I I λw s=>nl ?_))
 refine R 1 s λa w s=>?_
 refine se (R 1 s λa w s=>?_)
 refine nilt (α:=Int) (d:=7) 1008 3 s I I λc9 s=>?_
 refine la hm (λz7 a w=>∃ (z7c0:Value),St M W 74 [(0,Va v0),(1,Va v1),(2,Pt v0),(3,Qv (pb b1 0)),(4,Qv (pb b2 0)),(5,Qv nz),(6,Qv (pb b6 0)),(7,Qv z7c0),(8,Va z7.1),(1000,Mg b1 x3),(1001,Mr b2 [nz,nz,nz,nz,nz]),(1007,Mr b6 [y5.1,y5.2.1,y5.2.2.1,y5.2.2.2.1,y5.2.2.2.2]),(1002,Ow 3 y5.1 x4.1),(1003,Ow 4 y5.2.1 x4.2.1),(1004,Ow 4 y5.2.2.1 x4.2.2.1),(1005,Ow 4 y5.2.2.2.1 z7.2.1),(1006,Ow 3 y5.2.2.2.2 z7.2.2.1),(1008,Ow 3 z7c0 z7.2.2.2)] a w) ⟨c9,s.fi⟩ (λ_=>I) (λo8s hko8 n z7 a w hm s=>?_) λo8s hm a w s=>?_
 ·obtain ⟨z7c0,s⟩:=s
  unfold m268_l1 at hm
  refine se (R 5 s λa w s=>?_)
  refine cmt s hm (λhb hm=>?_) λhb hm=>?_
  ·refine se (wpIn_block ?_)
   refine se (rg (ru 1 s λa w s=>sq s (lm (K:=1000) (t I) I) I λa w s=>ru 1 s λa w s=>cB s hm (s295 f _ _ _) λx10 hm a w s=>ru 3 s λa w s=>sqr 1009 s (alr (cs:=[nz,nz,nz,nz,nz]) (z:=.agg #[nz,nz,nz,nz,nz]) (by kernel_rfl) I I) I I λb11 a w s=>swd (K:=1009) s (t I) I (t I) I λw s=>ru 1 s λa w s=>nl ?_))
   obtain ⟨x12,hx12,hm⟩:=bs hm
   obtain ⟨x13,hx13,hm⟩:=bs hm
   obtain ⟨x14,hx14,hm⟩:=bs hm
   obtain ⟨x15,hx15,hm⟩:=bs hm
   refine se (flow2 [(6,Qv (pb b6 0)),(8,Va z7.1),(1007,Mr b6 [y5.1,y5.2.1,y5.2.2.1,y5.2.2.2.1,y5.2.2.2.2])] [0,1,2,6,7,8,9,10,11,12,13,14,15,16] [32,33,34,38,39,40,41,42,43,44,45,46,47,48] [] [35] [37,36,35] [(17,[]),(18,[37,36,35]),(19,[])] s (.skip (.skip (.skip (.cons (.cons (.cons (.cons (.cons (.cons (.cons (.cons (.cons (.cons (.cons (.late (.late (.late (.cons (.cons (.cons .nil I I (fm_ (off:=3) (m:=0) (q:=3) (t I) (by kernel_rfl) I)) I I (lrc (K:=1007) (List Bool) (t I) I I I I)) I I (mv (t I))) I I (fm_ (off:=4) (m:=0) (q:=4) (t I) (by kernel_rfl) I)) I I (lrc (K:=1007) (List Int) (t I) I I I I)) I I (mv (t I))) I I (fm_ (off:=3) (m:=0) (q:=3) (t I) (by kernel_rfl) I)) I I (lf (K:=1009) (f:=State.Values) (t I) I)) I I (mv (t I))) I I (ix (t I) (t I) hx12)) I I (ld (t I))) I I (fm_ (off:=4) (m:=0) (q:=4) (t I) (by kernel_rfl) I)) I I (lf (K:=1009) (f:=State.Timers) (t I) I)) I I (mv (t I))) I I (ix (t I) (t I) hx13)) I I (ld (t I))) I I (ixq (α:=Bool) (k:=1005) (t I) I (t I) hx14)) I) I) I) (by kernel_rfl) (by kernel_rfl) I I (sb1 I (sb1 I (sb1 I sb0))) I (by decide) I I ?_)
   refine ⟨⟨λ_=>I,I,.inr ⟨(sb1 I (sb1 I (sb1 I sb0))),sb0,(sn2 I sn0)⟩⟩,by kernel_rfl,_,I,λΨ a w s=>stq (k:=1005) s (t I) I (idxg hx14) (t I) λw s=>nl ?_⟩
   refine nxt Ψ s ?_
   refine ⟨⟨λ_=>I,I,.inr ⟨(sb1 I (sb1 I (sb1 I sb0))),sb0,(sn2 I sn0)⟩⟩,by kernel_rfl,_,I,λΨ a w s=>sq s (ixq (α:=Int) (k:=1006) (t I) I (t I) hx15) I λa w s=>nl ?_⟩
   refine nxt Ψ s ?_
   refine ⟨⟨λ_=>I,I,.inl I⟩,by kernel_rfl,_,I,λΨ a w s=>stq (k:=1006) s (t I) I (idxg hx15) (t I) λw s=>nl ?_⟩
   refine nxt Ψ s ?_
   refine ⟨⟨λ_=>I,I,.inl I⟩,λa w s=>?_⟩
   replace s:St M W 74 [(0,Va v0),(1,Va v1),(2,Pt v0),(3,Qv (pb b1 0)),(4,Qv (pb b2 0)),(5,Qv nz),(6,Qv (pb b6 0)),(7,Qv z7c0),(8,Va z7.1),(9,Qv (pb b11 0)),(1000,Mg b1 x3),(1001,Mr b2 [nz,nz,nz,nz,nz]),(1007,Mr b6 [y5.1,y5.2.1,y5.2.2.1,y5.2.2.2.1,y5.2.2.2.2]),(1002,Ow 3 y5.1 x4.1),(1003,Ow 4 y5.2.1 x4.2.1),(1004,Ow 4 y5.2.2.1 x4.2.2.1),(1005,Ow 4 y5.2.2.2.1 ((z7.2.1.set z7.1.toNat x12))),(1006,Ow 3 y5.2.2.2.2 ((z7.2.2.1.set z7.1.toNat x13))),(1008,Ow 3 z7c0 z7.2.2.2),(1009,Mg b11 x10.1)] a w:=s.pick [0,1,2,3,4,5,6,7,8,9,1000,1001,1007,1002,1003,1004,1005,1006,1008,1009]
   obtain ⟨x16,hx16,hm⟩:=bs hm
   obtain ⟨x17,hx17,hm⟩:=bs hm
   obtain ⟨x18,hx18,hm⟩:=bs hm
   refine se (flow2 [] [0,1,2,3,4,5,6,7,8,9,10] [51,52,53,54,55,56,57,58,59,50,60] [50] [] [61] [(12,[]),(13,[61])] s (.skip (.skip (.late (.cons (.cons (.cons (.cons (.cons (.cons (.cons (.cons (.cons (.cons (.cons .nil I I (fa (f:=Control.Signals) (t I))) I I (ld (t I))) I I (mv (t I))) I I (ix (t I) (t I) hx16)) I I (ld (t I))) I I (ld (t I))) I I (lm (K:=1000) (t I) I)) I I (cc I (oc (t I) (oc (t I) on)) (s242_1 f _ _ _ hx17))) I I (cc I (oc (t I) (oc (t I) on)) (s296 f _ _ _ hx18))) I I (mve (t I))) I I (Pn.x20 (t I))) I I (Pn.x21 (t I))) I) I) (by kernel_rfl) (by kernel_rfl) I I sb0 I (by decide) I I ?_)
   refine ⟨⟨λ_=>I,I,.inr ⟨sb0,(sb1 I sb0),sn0⟩⟩,by kernel_rfl,_,I,λΨ a w s=>sq s (sa (t I)) I λa w s=>nl ?_⟩
   refine nxt Ψ s ?_
   refine ⟨⟨λ_=>I,I,.inr ⟨sb0,(sb1 I sb0),sn0⟩⟩,by kernel_rfl,_,I,λΨ a w s=>sq s (sa (t I)) I λa w s=>nl ?_⟩
   refine nxt Ψ s ?_
   refine ⟨⟨λ_=>I,I,.inl I⟩,λa w s=>?_⟩
   replace s:St M W 74 [(0,Va v0),(1,Va v1),(2,Pt v0),(3,Qv (pb b1 0)),(4,Qv (pb b2 0)),(5,Qv nz),(6,Qv (pb b6 0)),(7,Qv z7c0),(8,Va z7.1),(9,Qv (pb b11 0)),(11,Va x18.1),(12,Va x18.2),(1000,Mg b1 x3),(1001,Mr b2 [nz,nz,nz,nz,nz]),(1007,Mr b6 [y5.1,y5.2.1,y5.2.2.1,y5.2.2.2.1,y5.2.2.2.2]),(1002,Ow 3 y5.1 x4.1),(1003,Ow 4 y5.2.1 x4.2.1),(1004,Ow 4 y5.2.2.1 x4.2.2.1),(1005,Ow 4 y5.2.2.2.1 ((z7.2.1.set z7.1.toNat x12))),(1006,Ow 3 y5.2.2.2.2 ((z7.2.2.1.set z7.1.toNat x13))),(1008,Ow 3 z7c0 z7.2.2.2),(1009,Mg b11 x10.1)] a w:=s.pick [0,1,2,3,4,5,6,7,8,9,11,12,1000,1001,1007,1002,1003,1004,1005,1006,1008,1009]
   refine R 4 s λa w s=>?_
   obtain ⟨z19,hz19,hkz19⟩:=bs hm
   refine cpI (λa w=>∃ (z19c0:Value),St M W 74 [(0,Va v0),(1,Va v1),(2,Pt v0),(3,Qv (pb b1 0)),(4,Qv (pb b2 0)),(5,Qv nz),(6,Qv (pb b6 0)),(7,Qv z19c0),(8,Va z7.1),(9,Qv (pb b11 0)),(11,Va x18.1),(12,Va x18.2),(1000,Mg b1 x3),(1001,Mr b2 [nz,nz,nz,nz,nz]),(1007,Mr b6 [y5.1,y5.2.1,y5.2.2.1,y5.2.2.2.1,y5.2.2.2.2]),(1002,Ow 3 y5.1 x4.1),(1003,Ow 4 y5.2.1 x4.2.1),(1004,Ow 4 y5.2.2.1 x4.2.2.1),(1005,Ow 4 y5.2.2.2.1 ((z7.2.1.set z7.1.toNat x12))),(1006,Ow 3 y5.2.2.2.2 ((z7.2.2.1.set z7.1.toNat x13))),(1008,Ow 3 z19c0 z19),(1009,Mg b11 x10.1)] a w) ?_ λa w s=>?_
   ·refine cm s I hz19 (λhb hm=>?_) (λhb hm=>?_)
    ·obtain ⟨x20,hx20,hm⟩:=bs hm
     obtain ⟨x21,hx21,hm⟩:=bs hm
     refine rg (ru 3 s λa w s=>sq s (cc I (oc (t I) (oc (t I) on)) (s297 f _ _ _ hx20)) I λa w s=>sq s (bsv (o1 (t I) o0) I I (by kernel_rfl)) I λa w s=>apd (α:=Int) (k:=1008) s (t I) I (t I) hx21 I I λc22 a w s=>ru 1 s λa w s=>nl ?_)
     obtain rfl:=si hm
     exact ⟨c22,s.fi⟩
    ·refine wpIn_skip ?_
     obtain rfl:=si hm
     exact ⟨z7c0,s.fi⟩
   ·obtain ⟨z19c0,s⟩:=s
    replace hm:=hkz19
    refine R0 3 s λa w s=>?_
    exact ⟨_,hm,⟨z19c0,s.fi⟩⟩
  ·refine wpIn_exit ?_
   obtain rfl:=si hm
   exact ⟨z7c0,s.fi⟩
 ·obtain ⟨o8sc0,s⟩:=s
  refine se (rg (sq s (lra (K:=1007) (ds:=[y5.1,y5.2.1,y5.2.2.1,y5.2.2.2.1,y5.2.2.2.2]) State (t I) I I I I) I λa w s=>ru 1 s λa w s=>sra (K:=1001) (m:=[y5.1,y5.2.1,y5.2.2.1,y5.2.2.2.1,y5.2.2.2.2]) (cs':=[y5.1,y5.2.1,y5.2.2.1,y5.2.2.2.1,y5.2.2.2.2]) s (t I) I (t I) (by kernel_rfl) I I I λw s=>ru 1 s λa w s=>nl ?_))
  obtain rfl:=si hm
  refine fzk (α:=Int) (k:=1002) hM s I λs=>?_
  refine fzk (α:=Bool) (k:=1003) hM s I λs=>?_
  refine fzk (α:=Bool) (k:=1004) hM s I λs=>?_
  refine fzk (α:=Bool) (k:=1005) hM s I λs=>?_
  refine fzk (α:=Int) (k:=1006) hM s I λs=>?_
  refine shut (k:=1001) (x:=(⟨x4.1,x4.2.1,x4.2.2.1,o8s.2.1,o8s.2.2.1⟩:State)) s I (rpS30 (l:=([y5.1],[y5.2.1],[y5.2.2.1],[y5.2.2.2.1],[y5.2.2.2.2])) (rpz (k:=1002) I) (rpz (k:=1003) I) (rpz (k:=1004) I) (rpz (k:=1005) I) (rpz (k:=1006) I)) λs=>?_
  refine fzk (α:=Int) (k:=1008) hM s I λs=>?_
  refine wpIn_ret ?_
  exact rn hD s I (rv2 (rc (K:=1001) I I) (ro (ta (k:=1008) (t I) I)))
def m85_l1 (v0:List Int) (v1:List Int):Nat→Int→Option (Lo (Int) (Bool))
 | 0,_=>none
 | n+1,z1=>(bif (decide (z1 < (v0.length:Int))) then (idx v0 z1).bind λx3=>(idx v1 z1).bind λx4=>(bif (x3 != x4) then some (.ret false) else m85_l1 v0 v1 n (wr (z1 + (1:Int)))) else some (.brk z1))
def m85 (f:Nat) (v0:List Int) (v1:List Int):Option (Bool):=(bif ((v0.length:Int) != (v1.length:Int)) then some false else ((m85_l1 v0 v1 f (0:Int)).bind λo2=>match o2 with | .brk o2s=>some true | .ret r=>some r))
theorem s85 (f:Nat) (v0:List Int) (v1:List Int) (r:Bool) (hm:m85 f v0 v1=some r):Sp Tryz.prog 85 [Va v0,Va v1] (Va r):=by
 unfold m85 at hm
 refine ens Tryz.func85 (by kernel_rfl) I Tryz.ntmps85 I I λM W a hM hD s=>?_
 refine R 1 s λa w s=>?_
 refine se (R 5 s λa w s=>?_)
 refine cmf s hm (λhb hm=>?_) λhb hm=>?_
 ·refine R 1 s λa w s=>?_
  cases hm;exact rT hD s I I
 ·refine se (R 1 s λa w s=>?_)
  refine lB hm [0,1,4] s (λz1=>[(5,Va z1)]) s.fi (λ_=>I) (λo2 hko2 n z1 a w hm s=>?_) λo2s hm a w s=>?_
  ·unfold m85_l1 at hm
   refine se (R 4 s λa w s=>?_)
   refine cmt s hm (λhb hm=>?_) λhb hm=>?_
   ·refine se (wpIn_block ?_)
    obtain ⟨x3,hx3,hm⟩:=bk hm
    obtain ⟨x4,hx4,hm⟩:=bk hm
    refine se (fW 9 s (by kernel_rfl) I I λa w s=>nl ?_)
    refine cmf s hm (λhb hm=>?_) λhb hm=>?_
    ·refine R 1 s λa w s=>?_
     obtain rfl:=si hm
     replace hm:=hko2
     dsimp only at hm
     cases hm;exact rT hD s I I
    ·refine R0 3 s λa w s=>?_
     exact ⟨_,hm,s.fi⟩
   ·refine wpIn_exit ?_
    exact ⟨_,(si hm).symm,s.fi⟩
  ·dsimp only at hm
   refine R 1 s λa w s=>?_
   cases hm;exact rT hD s I I
instance {f:Nat} {v0:List Int} {v1:List Int}:Cn Tryz.prog 85 (m85 f v0 v1) [Va v0,Va v1] (λr:Bool=>(Va r)):=⟨s85 f v0 v1⟩
def m86_l1 (v0:List Bool) (v1:List Bool):Nat→Int→Option (Lo (Int) (Bool))
 | 0,_=>none
 | n+1,z1=>(bif (decide (z1 < (v0.length:Int))) then (idx v0 z1).bind λx3=>(idx v1 z1).bind λx4=>(bif (x3 != x4) then some (.ret false) else m86_l1 v0 v1 n (wr (z1 + (1:Int)))) else some (.brk z1))
def m86 (f:Nat) (v0:List Bool) (v1:List Bool):Option (Bool):=(bif ((v0.length:Int) != (v1.length:Int)) then some false else ((m86_l1 v0 v1 f (0:Int)).bind λo2=>match o2 with | .brk o2s=>some true | .ret r=>some r))
theorem s86 (f:Nat) (v0:List Bool) (v1:List Bool) (r:Bool) (hm:m86 f v0 v1=some r):Sp Tryz.prog 86 [Va v0,Va v1] (Va r):=by
 unfold m86 at hm
 refine ens Tryz.func86 (by kernel_rfl) I Tryz.ntmps86 I I λM W a hM hD s=>?_
 refine R 1 s λa w s=>?_
 refine se (R 5 s λa w s=>?_)
 refine cmf s hm (λhb hm=>?_) λhb hm=>?_
 ·refine R 1 s λa w s=>?_
  cases hm;exact rT hD s I I
 ·refine se (R 1 s λa w s=>?_)
  refine lB hm [0,1,4] s (λz1=>[(5,Va z1)]) s.fi (λ_=>I) (λo2 hko2 n z1 a w hm s=>?_) λo2s hm a w s=>?_
  ·unfold m86_l1 at hm
   refine se (R 4 s λa w s=>?_)
   refine cmt s hm (λhb hm=>?_) λhb hm=>?_
   ·refine se (wpIn_block ?_)
    obtain ⟨x3,hx3,hm⟩:=bk hm
    obtain ⟨x4,hx4,hm⟩:=bk hm
    refine se (fW 9 s (by kernel_rfl) I I λa w s=>nl ?_)
    refine cmf s hm (λhb hm=>?_) λhb hm=>?_
    ·refine R 1 s λa w s=>?_
     obtain rfl:=si hm
     replace hm:=hko2
     dsimp only at hm
     cases hm;exact rT hD s I I
    ·refine R0 3 s λa w s=>?_
     exact ⟨_,hm,s.fi⟩
   ·refine wpIn_exit ?_
    exact ⟨_,(si hm).symm,s.fi⟩
  ·dsimp only at hm
   refine R 1 s λa w s=>?_
   cases hm;exact rT hD s I I
instance {f:Nat} {v0:List Bool} {v1:List Bool}:Cn Tryz.prog 86 (m86 f v0 v1) [Va v0,Va v1] (λr:Bool=>(Va r)):=⟨s86 f v0 v1⟩
def m23 (f:Nat) (v0:State) (v1:State):Option (Bool):=(m85 f v0.Ends v1.Ends).bind λx1=>(bif x1 then (m86 f v0.Valves v1.Valves).bind λx2=>some x2 else some false).bind λr3=>(bif r3 then (m86 f v0.Inputs v1.Inputs).bind λx4=>some x4 else some false).bind λr5=>(bif r5 then (m86 f v0.Values v1.Values).bind λx6=>some x6 else some false).bind λr7=>(bif r7 then (m85 f v0.Timers v1.Timers).bind λx8=>some x8 else some false).bind λr9=>some r9
theorem s23 (f:Nat) (v0:State) (v1:State) (r:Bool) (hm:m23 f v0 v1=some r):Sp Tryz.prog 23 [Va v0,Va v1] (Va r):=by
 unfold m23 at hm
 refine ens Tryz.func23 (by kernel_rfl) I Tryz.ntmps23 I I λM W a hM hD s=>?_
 refine R 3 s λa w s=>?_
 obtain ⟨x1,hx1,hm⟩:=bk hm
 obtain ⟨r3,hr3,hm⟩:=bs hm
 have gr3:=gT hr3
 have er3:=gF hr3
 obtain ⟨x2,hx2,gr3⟩:=gk gr3
 obtain ⟨r5,hr5,hm⟩:=bs hm
 have gr5:=gT hr5
 have er5:=gF hr5
 obtain ⟨x4,hx4,gr5⟩:=gk gr5
 obtain ⟨r7,hr7,hm⟩:=bs hm
 have gr7:=gT hr7
 have er7:=gF hr7
 obtain ⟨x6,hx6,gr7⟩:=gk gr7
 obtain ⟨r9,hr9,hm⟩:=bs hm
 have gr9:=gT hr9
 have er9:=gF hr9
 obtain ⟨x8,hx8,gr9⟩:=gk gr9
 have:=pka gr3 er3
 have:=pka gr5 er5
 have:=pka gr7 er7
 have:=pka gr9 er9
 refine R 34 s λa w s=>?_
 cases hm;exact rT hD s I I
instance {f:Nat} {v0:State} {v1:State}:Cn Tryz.prog 23 (m23 f v0 v1) [Va v0,Va v1] (λr:Bool=>(Va r)):=⟨s23 f v0 v1⟩
def m241_l3 (f:Nat) (v0:Control) (o9s:Int×(List (Int×Bool))):Nat→(Int×(List Int))→Option (Int×(List Int))
 | 0,_=>none
 | n+1,z12=>(m179 f v0).bind λx15=>(bif (decide (z12.1 < x15)) then (bif ((mat eqqI o9s.2 z12.1).getD false) then (app z12.2 ([z12.1]:List Int)).bind λx17=>some x17 else some z12.2).bind λz16=>m241_l3 f v0 o9s n ((wr (z12.1 + (1:Int))),z16) else some (z12.1,z12.2))
def m241_l2 (x6:State×(List Int)):Nat→(Int×(List (Int×Bool)))→Option (Int×(List (Int×Bool)))
 | 0,_=>none
 | n+1,z8=>(bif (decide (z8.1 < (x6.2.length:Int))) then (idx x6.2 z8.1).bind λx10=>m241_l2 x6 n ((wr (z8.1 + (1:Int))),(mput eqqI z8.2 x10 true)) else some (z8.1,z8.2))
def m241_l1 (f:Nat) (v0:Control):Nat→(Int×State×(List (Int×Bool)))→Option (Lo (Int×State×(List (Int×Bool))) (State×(List Int)×Int×Bool))
 | 0,_=>none
 | n+1,z4=>(bif (decide (z4.1≤(64:Int))) then (m268 f v0 z4.2.1).bind λx6=>(m241_l2 x6 f ((0:Int),z4.2.2)).bind λo9s=>(m23 f x6.1 z4.2.1).bind λx11=>(bif x11 then (m241_l3 f v0 o9s f ((0:Int),([]:List Int))).bind λo13s=>some (.ret (z4.2.1,o13s.2,z4.1,true)) else m241_l1 f v0 n ((wr (z4.1 + (1:Int))),x6.1,o9s.2)) else some (.brk (z4.1,z4.2.1,z4.2.2)))
def m241 (f:Nat) (v0:Control) (v1:State):Option (State×(List Int)×Int×Bool):=((m241_l1 f v0 f ((0:Int),v1,([]:List (Int×Bool)))).bind λo5=>match o5 with | .brk o5s=>some ((⟨([]:List Int),([]:List Bool),([]:List Bool),([]:List Bool),([]:List Int)⟩:State),([]:List Int),(0:Int),false) | .ret r=>some r)
theorem s241 (f:Nat) (v0:Control) (v1:State) (r:State×(List Int)×Int×Bool) (hm:m241 f v0 v1=some r):Sp Tryz.prog 241 [Va v0,Va v1] (T4 (Va r.1) (Va r.2.1) (Va r.2.2.1) (Va r.2.2.2)):=by
 unfold m241 at hm
 refine ens Tryz.func241 (by kernel_rfl) I Tryz.ntmps241 I I λM W a hM hD s=>?_
 refine se (rg (ru 1 s λa w s=>sqb 1000 s (bxm (t I)) I I λb1 a w s=>aR 1001 s λb2 a w s=>ru 3 s λa w s=>nl ?_))
 refine se (rg (sqm 1002 s (mkm (κ:=Int) (ν:=Bool)) I I λb3 a w s=>ru 1 s λa w s=>nl ?_))
 refine se (R 1 s λa w s=>?_)
 refine lB hm [0,1,2,3,4,5,6,7,8,1001] s (λz4=>[(9,Va z4.1),(1000,Mg b1 z4.2.1),(1002,Om b3 (z4.2.2:List (Int×Bool)))]) s.fi (λ_=>I) (λo5 hko5 n z4 a w hm s=>?_) λo5s hm a w s=>?_
 ·unfold m241_l1 at hm
  refine se (R 2 s λa w s=>?_)
  refine cmt s hm (λhb hm=>?_) λhb hm=>?_
  ·refine se (wpIn_block ?_)
   refine se (rg (ru 2 s λa w s=>cB s hm (s268 f _ _) λx6 hm a w s=>ru 3 s λa w s=>aR 1003 s λb7 a w s=>sW s I λw s=>ru 1 s λa w s=>nl ?_))
   refine se (R 1 s λa w s=>?_)
   refine lA hm [0,1,2,3,4,5,6,7,8,9,10,11,1000,1001,1003] s (λz8=>[(12,Va z8.1),(1002,Om b3 (z8.2:List (Int×Bool)))]) s.fi (λ_=>I) (λo9s hko9 n z8 a w hm s=>?_) λo9s hm a w s=>?_
   ·unfold m241_l2 at hm
    refine se (R 4 s λa w s=>?_)
    refine cmt s hm (λhb hm=>?_) λhb hm=>?_
    ·refine se (wpIn_block ?_)
     refine rg (ru 3 s λa w s=>iB s hm λx10 hm a w s=>ru 1 s λa w s=>stm (K:=3) (E:=4) (KK:=1002) s (t I) I (t I) cb (by kernel_rfl) λw s=>nl ?_)
     refine R0 3 s λa w s=>?_
     exact ⟨_,hm,s.fi⟩
    ·refine wpIn_exit ?_
     obtain rfl:=si hm
     exact s.fi
   ·refine se (se (rg (ru 2 s λa w s=>cB s hm (s23 f _ _) λx11 hm a w s=>nl ?_)))
    refine cmf s hm (λhb hm=>?_) λhb hm=>?_
    ·refine R 1 s λa w s=>?_
     refine se (R 1 s λa w s=>?_)
     refine nilt (α:=Int) (d:=13) 1005 3 s I I λc14 s=>?_
     refine lA1 hm [0,1,2,3,4,5,6,7,8,9,10,11,12,1000,1001,1002,1003] s (λz12 z12c0=>[(13,Qv z12c0),(14,Va z12.1),(1005,Ow 3 z12c0 z12.2)]) ⟨c14,s.fi⟩ (λ_=>I) (λo13s hko13 n z12 a w hm s=>?_) λo13s hm a w s=>?_
     ·obtain ⟨z12c0,s⟩:=s
      unfold m241_l3 at hm
      refine se (se (rg (ru 2 s λa w s=>cB s hm (s179 f _) λx15 hm a w s=>ru 1 s λa w s=>nl ?_)))
      refine cmt s hm (λhb hm=>?_) λhb hm=>?_
      ·refine se (wpIn_block ?_)
       refine se (rg (ru 2 s λa w s=>sq s (lkm (K:=3) (E:=4) (KK:=1002) (z:=false) (t I) I (t I) (by kernel_rfl) (by kernel_rfl)) I λa w s=>nl ?_))
       obtain ⟨z16,hz16,hkz16⟩:=bs hm
       refine cP1 [0,1,2,3,4,5,6,7,8,9,10,11,12,14,1000,1001,1002,1003] s (λz16c0=>[(13,Qv z16c0),(1005,Ow 3 z16c0 z16)]) ?_ λa w s=>?_
       ·refine cm s I hz16 (λhb hm=>?_) (λhb hm=>?_)
        ·obtain ⟨x17,hx17,hm⟩:=bk hm
         refine rg (ru 3 s λa w s=>apd (α:=Int) (k:=1005) s (t I) I (t I) hx17.e I I λc18 a w s=>ru 1 s λa w s=>nl ?_)
         obtain rfl:=si hm
         exact ⟨c18,s.fi⟩
        ·refine wpIn_skip ?_
         obtain rfl:=si hm
         exact ⟨z12c0,s.fi⟩
       ·obtain ⟨z16c0,s⟩:=s
        replace hm:=hkz16
        refine R0 3 s λa w s=>?_
        exact ⟨_,hm,⟨z16c0,s.fi⟩⟩
      ·refine wpIn_exit ?_
       obtain rfl:=si hm
       exact ⟨z12c0,s.fi⟩
     ·obtain ⟨o13sc0,s⟩:=s
      refine se (rg (ru 3 s λa w s=>sW s I λw s=>ru 3 s λa w s=>nl ?_))
      obtain rfl:=si hm
      replace hm:=hko5
      dsimp only at hm
      obtain rfl:=si hm
      refine fzk (α:=Int) (k:=1005) hM s I λs=>?_
      refine wpIn_ret ?_
      exact rn hD s I (rv4 (rc (K:=1001) I I) (ro (ta (k:=1005) (t I) I)) (rt I) (rt I))
    ·refine rg (ru 1 s λa w s=>sw (K:=1000) s (t I) I (t I) I λw s=>nl ?_)
     refine R0 3 s λa w s=>?_
     exact ⟨_,hm,s.fi⟩
  ·refine wpIn_exit ?_
   exact ⟨_,(si hm).symm,s.fi⟩
 ·dsimp only at hm
  refine se (rg (sq s (bl31_ ) I λa w s=>sW s I λw s=>ru 3 s λa w s=>nl ?_))
  obtain rfl:=si hm
  refine wpIn_ret ?_
  exact rn hD s I (rv4 (rc (K:=1001) I I) (ro (qns (α:=Int) (t I))) (rt I) (rt I))
def m182 (f:Nat) (v0:Control) (v1:State):Option (State×(List Int)×Bool):=(m241 f v0 v1).bind λx2=>some (x2.1,x2.2.1,x2.2.2.2)
theorem s182 (f:Nat) (v0:Control) (v1:State) (r:State×(List Int)×Bool) (hm:m182 f v0 v1=some r):Sp Tryz.prog 182 [Va v0,Va v1] (T3 (Va r.1) (Va r.2.1) (Va r.2.2)):=by
 unfold m182 at hm
 refine ens Tryz.func182 (by kernel_rfl) I Tryz.ntmps182 I I λM W a hM hD s=>?_
 refine se (rg (ru 2 s λa w s=>aR 1000 s λb1 a w s=>ru 2 s λa w s=>nl ?_))
 refine se (rg (ru 2 s λa w s=>cB s hm (s241 f _ _) λx2 hm a w s=>ru 1 s λa w s=>sq s (Pn.x40 (t I)) I λa w s=>sq s (Pn.x41 (t I)) I λa w s=>sq s (Pn.x42 (t I)) I λa w s=>sq s (Pn.x43 (t I)) I λa w s=>aR 1001 s λb3 a w s=>sW s I λw s=>ru 3 s λa w s=>nl ?_))
 refine se (rg (ru 3 s λa w s=>sW s I λw s=>ru 2 s λa w s=>nl ?_))
 cases hm;exact rV hD s I I
def m183_l1 (f:Nat) (v0:Control) (x5:(List Bool)):Nat→(Int×(List Bool)×(List Int))→Option (Int×(List Bool)×(List Int))
 | 0,_=>none
 | n+1,z7=>(bif (decide (z7.1 < v0.Actuators)) then (idx v0.Plus z7.1).bind λx10=>(idx x5 x10).bind λx11=>(idx v0.Minus z7.1).bind λx12=>(idx x5 x12).bind λx13=>(bif (x11 && x13) then (m179 f v0).bind λx15=>(app z7.2.2 ([(wr (x15 + z7.1))]:List Int)).bind λx16=>some x16 else some z7.2.2).bind λz14=>(bif (x11 != x13) then (idx z7.2.1 z7.1).bind λx19=>some (z7.2.1.set z7.1.toNat x11) else some z7.2.1).bind λz18=>m183_l1 f v0 x5 n ((wr (z7.1 + (1:Int))),z18,z14) else some (z7.1,z7.2.1,z7.2.2))
def m183 (f:Nat) (v0:Control) (v1:State):Option (State×(List Int)):=(m232 f v1).bind λx2=>(m242 f v0 v1).bind λx5=>(m183_l1 f v0 x5 f ((0:Int),x2.2.1,([]:List Int))).bind λo8s=>some ((⟨x2.1,o8s.2.1,x2.2.2.1,x2.2.2.2.1,x2.2.2.2.2⟩:State),o8s.2.2)
theorem s183 (f:Nat) (v0:Control) (v1:State) (r:State×(List Int)) (hm:m183 f v0 v1=some r):Sp Tryz.prog 183 [Va v0,Va v1] (T2 (Va r.1) (Va r.2)):=by
 unfold m183 at hm
 refine ens Tryz.func183 (by kernel_rfl) I Tryz.ntmps183 I I λM W a hM hD s=>?_
 refine se (rg (ru 2 s λa w s=>aR 1000 s λb1 a w s=>ru 1 s λa w s=>nl ?_))
 obtain ⟨x2,hx2,hm⟩:=bk hm
 refine se (rg (ru 1 s λa w s=>sqz [1001,1002,1003,1004,1005] hM s (cc I (oc (t I) on) (s232 f _ _ hx2.e)) (λ_=>I) I I λy3 a w s=>aR 1006 s λb4 a w s=>sra (K:=1006) (m:=[y3.1,y3.2.1,y3.2.2.1,y3.2.2.2.1,y3.2.2.2.2]) (cs':=[y3.1,y3.2.1,y3.2.2.1,y3.2.2.2.1,y3.2.2.2.2]) s (t I) I (t I) (by kernel_rfl) I I I λw s=>nl ?_))
 obtain ⟨x5,hx5,hm⟩:=bk hm
 refine se (rg (ru 2 s λa w s=>sqz [1007] hM s (cc I (oc (t I) (oc (t I) on)) (s242 f _ _ _ hx5.e)) (λ_=>I) I I λy6 a w s=>ru 1 s λa w s=>nl ?_))
 refine R 1 s λa w s=>?_
 refine se (R 1 s λa w s=>?_)
 refine nilt (α:=Int) (d:=8) 1008 3 s I I λc9 s=>?_
 refine lA1 hm [0,1,2,3,4,5,6,7,1000,1006,1001,1003,1004,1005,1007] s (λz7 z7c0=>[(8,Qv z7c0),(9,Va z7.1),(1002,Ow 4 y3.2.1 z7.2.1),(1008,Ow 3 z7c0 z7.2.2)]) ⟨c9,s.fi⟩ (λ_=>I) (λo8s hko8 n z7 a w hm s=>?_) λo8s hm a w s=>?_
 ·obtain ⟨z7c0,s⟩:=s
  unfold m183_l1 at hm
  refine se (R 4 s λa w s=>?_)
  refine cmt s hm (λhb hm=>?_) λhb hm=>?_
  ·refine se (wpIn_block ?_)
   obtain ⟨x10,hx10,hm⟩:=bk hm
   obtain ⟨x11,hx11,hm⟩:=bk hm
   obtain ⟨x12,hx12,hm⟩:=bk hm
   obtain ⟨x13,hx13,hm⟩:=bk hm
   refine se (flow2 [(2,Pt v0),(7,Qv y6),(9,Va z7.1),(1007,Ow 4 y6 x5)] [0,1,2,3,4,5,6,7] [23,24,25,26,27,28,29,30] [] [37,36,35,34,33,32,31] [38,37,36,35,34,33,32,31] [(16,[]),(17,[38,37,36,35,34,33,32,31])] s (.skip (.skip (.late (.late (.late (.late (.late (.late (.late (.late (.cons (.cons (.cons (.cons (.cons (.cons (.cons (.cons .nil I I (mvq (t I))) I I (fa (f:=Control.Plus) (t I))) I I (ld (t I))) I I (mv (t I))) I I (ix (t I) (t I) hx10.e)) I I (ld (t I))) I I (ixq (α:=Bool) (k:=1007) (t I) I (t I) hx11.e)) I I (lq (k:=1007) (t I) I (idxg hx11.e))) I I (mvq (t I))) I I (fa (f:=Control.Minus) (t I))) I I (ld (t I))) I I (mv (t I))) I I (ix (t I) (t I) hx12.e)) I I (ld (t I))) I I (ixq (α:=Bool) (k:=1007) (t I) I (t I) hx13.e)) I I (lq (k:=1007) (t I) I (idxg hx13.e))) I) I) (by kernel_rfl) (by kernel_rfl) I I (sb1 I (sb1 I (sb1 I (sb1 I sb0)))) I (by decide) I I ?_)
   refine ⟨⟨λ_=>I,I,.inr ⟨(sb1 I (sb1 I (sb1 I (sb1 I sb0)))),sb0,(sn2 I (sn2 I (sn2 I (sn2 I (sn2 I (sn2 I (sn2 I sn0)))))))⟩⟩,by kernel_rfl,_,I,λΨ a w s=>sq s (sa (t I)) I λa w s=>nl ?_⟩
   refine nxt Ψ s ?_
   refine ⟨⟨λ_=>I,I,.inr ⟨(sb1 I (sb1 I (sb1 I (sb1 I sb0)))),sb0,(sn2 I (sn2 I (sn2 I (sn2 I (sn2 I (sn2 I (sn2 I sn0)))))))⟩⟩,by kernel_rfl,_,I,λΨ a w s=>sq s (sa (t I)) I λa w s=>nl ?_⟩
   refine nxt Ψ s ?_
   refine ⟨⟨λ_=>I,I,.inl I⟩,λa w s=>?_⟩
   replace s:St M W 60 [(0,Va v0),(1,Va v1),(2,Pt v0),(3,Pt v1),(4,Qv (pb b1 0)),(5,Qv nz),(6,Qv (pb b4 0)),(7,Qv y6),(8,Qv z7c0),(9,Va z7.1),(10,Va x11),(11,Va x13),(1000,Mr b1 [nz,nz,nz,nz,nz]),(1006,Mr b4 [y3.1,y3.2.1,y3.2.2.1,y3.2.2.2.1,y3.2.2.2.2]),(1001,Ow 3 y3.1 x2.1),(1002,Ow 4 y3.2.1 z7.2.1),(1003,Ow 4 y3.2.2.1 x2.2.2.1),(1004,Ow 4 y3.2.2.2.1 x2.2.2.2.1),(1005,Ow 3 y3.2.2.2.2 x2.2.2.2.2),(1007,Ow 4 y6 x5),(1008,Ow 3 z7c0 z7.2.2)] a w:=s.pick [0,1,2,3,4,5,6,7,8,9,10,11,1000,1006,1001,1002,1003,1004,1005,1007,1008]
   refine se (R 4 s λa w s=>?_)
   obtain ⟨z14,hz14,hkz14⟩:=bs hm
   refine cP1 [0,1,2,3,4,5,6,7,9,10,11,1000,1006,1001,1002,1003,1004,1005,1007] s (λz14c0=>[(8,Qv z14c0),(1008,Ow 3 z14c0 z14)]) ?_ λa w s=>?_
   ·refine cm s I hz14 (λhb hm=>?_) (λhb hm=>?_)
    ·obtain ⟨x15,hx15,hm⟩:=bk hm
     obtain ⟨x16,hx16,hm⟩:=bk hm
     refine rg (ru 6 s λa w s=>apd (α:=Int) (k:=1008) s (t I) I (t I) hx16.e I I λc17 a w s=>ru 1 s λa w s=>nl ?_)
     obtain rfl:=si hm
     exact ⟨c17,s.fi⟩
    ·refine wpIn_skip ?_
     obtain rfl:=si hm
     exact ⟨z7c0,s.fi⟩
   ·obtain ⟨z14c0,s⟩:=s
    replace hm:=hkz14
    refine R 3 s λa w s=>?_
    obtain ⟨z18,hz18,hkz18⟩:=bs hm
    refine cP [0,1,2,3,4,5,6,7,8,9,10,11,1000,1006,1001,1003,1004,1005,1007,1008] s [(1002,Ow 4 y3.2.1 z18)] ?_ λa w s=>?_
    ·refine cm s I hz18 (λhb hm=>?_) (λhb hm=>?_)
     ·obtain ⟨x19,hx19,hm⟩:=bk hm
      refine rg (ru 5 s λa w s=>stq (k:=1002) s (t I) I (idxg hx19.e) (t I) λw s=>nl ?_)
      obtain rfl:=si hm
      exact s.fi
     ·refine wpIn_skip ?_
      obtain rfl:=si hm
      exact s.fi
    ·replace hm:=hkz18
     refine R0 3 s λa w s=>?_
     exact ⟨_,hm,⟨z14c0,s.fi⟩⟩
  ·refine wpIn_exit ?_
   obtain rfl:=si hm
   exact ⟨z7c0,s.fi⟩
 ·obtain ⟨o8sc0,s⟩:=s
  refine se (rg (sq s (lra (K:=1006) (ds:=[y3.1,y3.2.1,y3.2.2.1,y3.2.2.2.1,y3.2.2.2.2]) State (t I) I I I I) I λa w s=>ru 1 s λa w s=>sra (K:=1000) (m:=[y3.1,y3.2.1,y3.2.2.1,y3.2.2.2.1,y3.2.2.2.2]) (cs':=[y3.1,y3.2.1,y3.2.2.1,y3.2.2.2.1,y3.2.2.2.2]) s (t I) I (t I) (by kernel_rfl) I I I λw s=>ru 1 s λa w s=>nl ?_))
  obtain rfl:=si hm
  refine fzk (α:=Int) (k:=1001) hM s I λs=>?_
  refine fzk (α:=Bool) (k:=1002) hM s I λs=>?_
  refine fzk (α:=Bool) (k:=1003) hM s I λs=>?_
  refine fzk (α:=Bool) (k:=1004) hM s I λs=>?_
  refine fzk (α:=Int) (k:=1005) hM s I λs=>?_
  refine shut (k:=1000) (x:=(⟨x2.1,o8s.2.1,x2.2.2.1,x2.2.2.2.1,x2.2.2.2.2⟩:State)) s I (rpS30 (l:=([y3.1],[y3.2.1],[y3.2.2.1],[y3.2.2.2.1],[y3.2.2.2.2])) (rpz (k:=1001) I) (rpz (k:=1002) I) (rpz (k:=1003) I) (rpz (k:=1004) I) (rpz (k:=1005) I)) λs=>?_
  refine fzk (α:=Int) (k:=1008) hM s I λs=>?_
  refine wpIn_ret ?_
  exact rn hD s I (rv2 (rc (K:=1000) I I) (ro (ta (k:=1008) (t I) I)))
def m109 (f:Nat) (v0:Control) (v1:State):Option (State×(List Int)×Bool):=(m182 f v0 v1).bind λx2=>(bif (!x2.2.2) then some ((⟨([]:List Int),([]:List Bool),([]:List Bool),([]:List Bool),([]:List Int)⟩:State),([]:List Int),false) else (m183 f v0 x2.1).bind λx4=>(m184 f x4.1).bind λx5=>(m185 f x2.2.1 x4.2).bind λx6=>some (x5,x6,true))
theorem s109 (f:Nat) (v0:Control) (v1:State) (r:State×(List Int)×Bool) (hm:m109 f v0 v1=some r):Sp Tryz.prog 109 [Va v0,Va v1] (T3 (Va r.1) (Va r.2.1) (Va r.2.2)):=by
 unfold m109 at hm
 refine ens Tryz.func109 (by kernel_rfl) I Tryz.ntmps109 I I λM W a hM hD s=>?_
 refine se (rg (ru 2 s λa w s=>aR 1000 s λb1 a w s=>ru 2 s λa w s=>nl ?_))
 refine se (rg (ru 2 s λa w s=>cB s hm (s182 f _ _) λx2 hm a w s=>ru 4 s λa w s=>aR 1001 s λb3 a w s=>sW s I λw s=>ru 2 s λa w s=>nl ?_))
 refine se (R 2 s λa w s=>?_)
 refine cmf s hm (λhb hm=>?_) λhb hm=>?_
 ·refine se (rg (sq s (bl31_ ) I λa w s=>sW s I λw s=>ru 2 s λa w s=>nl ?_))
  cases hm;exact rV hD s I I
 ·refine se (rg (ru 2 s λa w s=>cB s hm (s183 f _ _) λx4 hm a w s=>ru 3 s λa w s=>sw (K:=1001) s (t I) I (t I) I λw s=>ru 1 s λa w s=>nl ?_))
  refine se (rg (ru 1 s λa w s=>cB s hm (s184 f _) λx5 hm a w s=>ru 2 s λa w s=>cB s hm (s185 f _ _) λx6 hm a w s=>sW s I λw s=>ru 2 s λa w s=>nl ?_))
  cases hm;exact rV hD s I I
def m156_l1 (f:Nat) (v0:Control):Nat→((List Int)×Int×State)→Option (Lo ((List Int)×Int×State) (State×(List Int)×Bool))
 | 0,_=>none
 | n+1,z3=>(bif (decide (z3.2.1≤(64:Int))) then (m109 f v0 z3.2.2).bind λx5=>(bif (!x5.2.2) then some (.ret ((⟨([]:List Int),([]:List Bool),([]:List Bool),([]:List Bool),([]:List Int)⟩:State),([]:List Int),false)) else (m185 f z3.1 x5.2.1).bind λx7=>(m23 f z3.2.2 x5.1).bind λx8=>(bif x8 then some (.ret (z3.2.2,x7,true)) else m156_l1 f v0 n (x7,(wr (z3.2.1 + (1:Int))),x5.1))) else some (.brk (z3.1,z3.2.1,z3.2.2)))
def m156 (f:Nat) (v0:Control) (v1:State):Option (State×(List Int)×Bool):=((m156_l1 f v0 f (([]:List Int),(0:Int),v1)).bind λo4=>match o4 with | .brk o4s=>some ((⟨([]:List Int),([]:List Bool),([]:List Bool),([]:List Bool),([]:List Int)⟩:State),([]:List Int),false) | .ret r=>some r)
theorem s156 (f:Nat) (v0:Control) (v1:State) (r:State×(List Int)×Bool) (hm:m156 f v0 v1=some r):Sp Tryz.prog 156 [Va v0,Va v1] (T3 (Va r.1) (Va r.2.1) (Va r.2.2)):=by
 unfold m156 at hm
 refine ens Tryz.func156 (by kernel_rfl) I Tryz.ntmps156 I I λM W a hM hD s=>?_
 refine se (rg (ru 1 s λa w s=>sqb 1000 s (bxm (t I)) I I λb1 a w s=>aR 1001 s λb2 a w s=>ru 2 s λa w s=>nl ?_))
 refine R 1 s λa w s=>?_
 refine se (R 1 s λa w s=>?_)
 replace s:=tv (d:=7) s (qns (α:=Int) (t I))
 refine lB hm [0,1,2,3,4,5,6,1001] s (λz3=>[(7,Va z3.1),(8,Va z3.2.1),(1000,Mg b1 z3.2.2)]) s.fi (λ_=>I) (λo4 hko4 n z3 a w hm s=>?_) λo4s hm a w s=>?_
 ·unfold m156_l1 at hm
  refine se (R 2 s λa w s=>?_)
  refine cmt s hm (λhb hm=>?_) λhb hm=>?_
  ·refine se (wpIn_block ?_)
   refine se (rg (ru 2 s λa w s=>cB s hm (s109 f _ _) λx5 hm a w s=>ru 4 s λa w s=>aR 1002 s λb6 a w s=>sW s I λw s=>ru 2 s λa w s=>nl ?_))
   refine se (R 2 s λa w s=>?_)
   refine cmf s hm (λhb hm=>?_) λhb hm=>?_
   ·refine se (rg (sq s (bl31_ ) I λa w s=>sW s I λw s=>ru 2 s λa w s=>nl ?_))
    obtain rfl:=si hm
    replace hm:=hko4
    dsimp only at hm
    cases hm;exact rV hD s I I
   ·refine se (rg (ru 2 s λa w s=>cB s hm (s185 f _ _) λx7 hm a w s=>ru 1 s λa w s=>nl ?_))
    refine se (se (rg (ru 2 s λa w s=>cB s hm (s23 f _ _) λx8 hm a w s=>nl ?_)))
    refine cmf s hm (λhb hm=>?_) λhb hm=>?_
    ·refine se (rg (ru 2 s λa w s=>sW s I λw s=>ru 2 s λa w s=>nl ?_))
     obtain rfl:=si hm
     replace hm:=hko4
     dsimp only at hm
     cases hm;exact rV hD s I I
    ·refine rg (ru 1 s λa w s=>sw (K:=1000) s (t I) I (t I) I λw s=>nl ?_)
     refine R0 3 s λa w s=>?_
     exact ⟨_,hm,s.fi⟩
  ·refine wpIn_exit ?_
   exact ⟨_,(si hm).symm,s.fi⟩
 ·dsimp only at hm
  refine se (rg (sq s (bl31_ ) I λa w s=>sW s I λw s=>ru 2 s λa w s=>nl ?_))
  cases hm;exact rV hD s I I
def m168 (f:Nat) (v0:Control) (v1:State):Option (State×(List Int)×Int):=(m156 f v0 v1).bind λx2=>(bif (!x2.2.2) then some ((⟨([]:List Int),([]:List Bool),([]:List Bool),([]:List Bool),([]:List Int)⟩:State),([]:List Int),(21:Int)) else some (x2.1,x2.2.1,(0:Int)))
theorem s168 (f:Nat) (v0:Control) (v1:State) (r:State×(List Int)×Int) (hm:m168 f v0 v1=some r):Sp Tryz.prog 168 [Va v0,Va v1] (T3 (Va r.1) (Va r.2.1) (Va r.2.2)):=by
 unfold m168 at hm
 refine ens Tryz.func168 (by kernel_rfl) I Tryz.ntmps168 I I λM W a hM hD s=>?_
 refine se (rg (ru 2 s λa w s=>aR 1000 s λb1 a w s=>ru 2 s λa w s=>nl ?_))
 refine se (rg (ru 2 s λa w s=>cB s hm (s156 f _ _) λx2 hm a w s=>ru 4 s λa w s=>aR 1001 s λb3 a w s=>sW s I λw s=>ru 2 s λa w s=>nl ?_))
 refine se (R 2 s λa w s=>?_)
 refine cmf s hm (λhb hm=>?_) λhb hm=>?_
 ·refine se (rg (sq s (bl31_ ) I λa w s=>sW s I λw s=>ru 2 s λa w s=>nl ?_))
  cases hm;exact rV hD s I I
 ·refine se (rg (ru 2 s λa w s=>sW s I λw s=>ru 2 s λa w s=>nl ?_))
  cases hm;exact rV hD s I I
instance {f:Nat} {v0:Control} {v1:State}:Cn Tryz.prog 168 (m168 f v0 v1) [Va v0,Va v1] (λr:State×(List Int)×Int=>(T3 (Va r.1) (Va r.2.1) (Va r.2.2))):=⟨s168 f v0 v1⟩
def m169 (f:Nat) (v0:State) (v1:Event):Option (State):=(m232 f v0).bind λx2=>(bif (v1.Kind == (0:Int)) then (idx x2.1 v1.Index).bind λx6=>(idx v0.Ends v1.Index).bind λx7=>(bif (x7 == (1:Int)) then (idx (x2.1.set v1.Index.toNat (0:Int)) v1.Index).bind λx9=>some ((x2.1.set v1.Index.toNat (0:Int)).set v1.Index.toNat (2:Int)) else some (x2.1.set v1.Index.toNat (0:Int))).bind λz8=>some (z8,x2.2.2.1,x2.2.2.2.1,x2.2.2.2.2) else (bif (v1.Kind == (1:Int)) then (idx x2.2.2.2.2 v1.Index).bind λx11=>(idx x2.2.2.2.1 v1.Index).bind λx12=>some (x2.2.2.1,(x2.2.2.2.1.set v1.Index.toNat true),(x2.2.2.2.2.set v1.Index.toNat (2:Int))) else (bif (v1.Kind == (2:Int)) then (idx x2.2.2.1 v1.Index).bind λx14=>some (x2.2.2.1.set v1.Index.toNat v1.Value) else some x2.2.2.1).bind λz13=>some (z13,x2.2.2.2.1,x2.2.2.2.2)).bind λz10=>some (x2.1,z10.1,z10.2.1,z10.2.2)).bind λz5=>some (⟨z5.1,x2.2.1,z5.2.1,z5.2.2.1,z5.2.2.2⟩:State)
theorem s169 (f:Nat) (v0:State) (v1:Event) (r:State) (hm:m169 f v0 v1=some r):Sp Tryz.prog 169 [Va v0,Va v1] (Va r):=by
 unfold m169 at hm
 refine ens Tryz.func169 (by kernel_rfl) I Tryz.ntmps169 I I λM W a hM hD s=>?_
 refine se (rg (ru 2 s λa w s=>aR 1000 s λb1 a w s=>nl ?_))
 obtain ⟨x2,hx2,hm⟩:=bk hm
 refine se (rg (ru 1 s λa w s=>sqz [1001,1002,1003,1004,1005] hM s (cc I (oc (t I) on) (s232 f _ _ hx2.e)) (λ_=>I) I I λy3 a w s=>aR 1006 s λb4 a w s=>sra (K:=1006) (m:=[y3.1,y3.2.1,y3.2.2.1,y3.2.2.2.1,y3.2.2.2.2]) (cs':=[y3.1,y3.2.1,y3.2.2.1,y3.2.2.2.1,y3.2.2.2.2]) s (t I) I (t I) (by kernel_rfl) I I I λw s=>nl ?_))
 refine se (R 2 s λa w s=>?_)
 refine wpIn_block (R 2 s λa w s=>?_)
 obtain ⟨z5,hz5,hkz5⟩:=bs hm
 refine cP [0,1,2,3,4,5,9,1000,1006,1002] s [(1001,Ow 3 y3.1 z5.1),(1003,Ow 4 y3.2.2.1 z5.2.1),(1004,Ow 4 y3.2.2.2.1 z5.2.2.1),(1005,Ow 3 y3.2.2.2.2 z5.2.2.2)] ?_ λa w s=>?_
 ·refine cm s I hz5 (λhb hm=>?_) (λhb hm=>?_)
  ·obtain ⟨x6,hx6,hm⟩:=bk hm
   refine se (rg (ru 5 s λa w s=>stq (k:=1001) s (t I) I (idxg hx6.e) ci λw s=>nl ?_))
   refine se (rg (ru 4 s λa w s=>iB s hm λx7 hm a w s=>ru 2 s λa w s=>nl ?_))
   obtain ⟨z8,hz8,hkz8⟩:=bs hm
   refine cP [0,1,2,3,4,5,9,1000,1006,1002,1003,1004,1005] s [(1001,Ow 3 y3.1 z8)] ?_ λa w s=>?_
   ·refine cm s I hz8 (λhb hm=>?_) (λhb hm=>?_)
    ·obtain ⟨x9,hx9,hm⟩:=bk hm
     refine rg (ru 5 s λa w s=>stq (k:=1001) s (t I) I (idxg hx9.e) ci λw s=>nl ?_)
     obtain rfl:=si hm
     exact s.fi
    ·refine wpIn_skip ?_
     obtain rfl:=si hm
     exact s.fi
   ·replace hm:=hkz8
    obtain rfl:=si hm
    exact s.fi
  ·refine R 2 s λa w s=>?_
   obtain ⟨z10,hz10,hkz10⟩:=bs hm
   refine cP [0,1,2,3,4,5,9,1000,1006,1001,1002] s [(1003,Ow 4 y3.2.2.1 z10.1),(1004,Ow 4 y3.2.2.2.1 z10.2.1),(1005,Ow 3 y3.2.2.2.2 z10.2.2)] ?_ λa w s=>?_
   ·refine cm s I hz10 (λhb hm=>?_) (λhb hm=>?_)
    ·obtain ⟨x11,hx11,hm⟩:=bk hm
     obtain ⟨x12,hx12,hm⟩:=bk hm
     refine flow2 [(3,Pt v1),(5,Qv (pb b4 0)),(1006,Mr b4 [y3.1,y3.2.1,y3.2.2.1,y3.2.2.2.1,y3.2.2.2.2])] [0,1,2,3,8] [31,32,33,34,39] [] [37,35] [38,37,36,35] [(9,[]),(10,[38,37,36,35]),(11,[])] s (.skip (.skip (.skip (.cons (.late (.late (.late (.late (.cons (.cons (.cons (.cons .nil I I (fm_ (off:=4) (m:=0) (q:=4) (t I) (by kernel_rfl) I)) I I (lrc (K:=1006) (List Int) (t I) I I I I)) I I (fa (f:=Event.Index) (t I))) I I (ld (t I))) I I (fm_ (off:=3) (m:=0) (q:=3) (t I) (by kernel_rfl) I)) I I (lrc (K:=1006) (List Bool) (t I) I I I I)) I I (fa (f:=Event.Index) (t I))) I I (ld (t I))) I I (ixq (α:=Int) (k:=1005) (t I) I (t I) hx11.e)) I) I) I) (by kernel_rfl) (by kernel_rfl) I I (sb1 I (sb1 I (sb1 I sb0))) I (by decide) I I ?_
     refine ⟨⟨λ_=>I,I,.inr ⟨(sb1 I (sb1 I (sb1 I sb0))),sb0,(sn2 I (sn2 I sn0))⟩⟩,by kernel_rfl,_,I,λΨ a w s=>stq (k:=1005) s (t I) I (idxg hx11.e) ci λw s=>nl ?_⟩
     refine nxt Ψ s ?_
     refine ⟨⟨λ_=>I,I,.inr ⟨(sb1 I (sb1 I (sb1 I sb0))),sb0,(sn2 I (sn2 I sn0))⟩⟩,by kernel_rfl,_,I,λΨ a w s=>sq s (ixq (α:=Bool) (k:=1004) (t I) I (t I) hx12.e) I λa w s=>nl ?_⟩
     refine nxt Ψ s ?_
     refine ⟨⟨λ_=>I,I,.inl I⟩,by kernel_rfl,_,I,λΨ a w s=>stq (k:=1004) s (t I) I (idxg hx12.e) cb λw s=>nl ?_⟩
     refine nxt Ψ s ?_
     refine ⟨⟨λ_=>I,I,.inl I⟩,λa w s=>?_⟩
     replace s:St M W 51 [(0,Va v0),(1,Va v1),(2,Pt v0),(3,Pt v1),(4,Qv (pb b1 0)),(5,Qv (pb b4 0)),(9,Va v1.Kind),(1000,Mr b1 [nz,nz,nz,nz,nz]),(1006,Mr b4 [y3.1,y3.2.1,y3.2.2.1,y3.2.2.2.1,y3.2.2.2.2]),(1001,Ow 3 y3.1 x2.1),(1002,Ow 4 y3.2.1 x2.2.1),(1003,Ow 4 y3.2.2.1 x2.2.2.1),(1004,Ow 4 y3.2.2.2.1 ((x2.2.2.2.1.set v1.Index.toNat true))),(1005,Ow 3 y3.2.2.2.2 ((x2.2.2.2.2.set v1.Index.toNat (2:Int))))] a w:=s.pick [0,1,2,3,4,5,9,1000,1006,1001,1002,1003,1004,1005]
     obtain rfl:=si hm
     exact s.fi
    ·refine R 2 s λa w s=>?_
     obtain ⟨z13,hz13,hkz13⟩:=bs hm
     refine cP [0,1,2,3,4,5,9,1000,1006,1001,1002,1004,1005] s [(1003,Ow 4 y3.2.2.1 z13)] ?_ λa w s=>?_
     ·refine cm s I hz13 (λhb hm=>?_) (λhb hm=>?_)
      ·obtain ⟨x14,hx14,hm⟩:=bk hm
       refine rg (ru 7 s λa w s=>stq (k:=1003) s (t I) I (idxg hx14.e) (t I) λw s=>nl ?_)
       obtain rfl:=si hm
       exact s.fi
      ·refine wpIn_skip ?_
       obtain rfl:=si hm
       exact s.fi
     ·replace hm:=hkz13
      obtain rfl:=si hm
      exact s.fi
   ·replace hm:=hkz10
    obtain rfl:=si hm
    exact s.fi
 ·replace hm:=hkz5
  refine se (rg (sq s (lra (K:=1006) (ds:=[y3.1,y3.2.1,y3.2.2.1,y3.2.2.2.1,y3.2.2.2.2]) State (t I) I I I I) I λa w s=>sra (K:=1000) (m:=[y3.1,y3.2.1,y3.2.2.1,y3.2.2.2.1,y3.2.2.2.2]) (cs':=[y3.1,y3.2.1,y3.2.2.1,y3.2.2.2.1,y3.2.2.2.2]) s (t I) I (t I) (by kernel_rfl) I I I λw s=>nl ?_))
  obtain rfl:=si hm
  refine fzk (α:=Int) (k:=1001) hM s I λs=>?_
  refine fzk (α:=Bool) (k:=1002) hM s I λs=>?_
  refine fzk (α:=Bool) (k:=1003) hM s I λs=>?_
  refine fzk (α:=Bool) (k:=1004) hM s I λs=>?_
  refine fzk (α:=Int) (k:=1005) hM s I λs=>?_
  refine shut (k:=1000) (x:=(⟨z5.1,x2.2.1,z5.2.1,z5.2.2.1,z5.2.2.2⟩:State)) s I (rpS30 (l:=([y3.1],[y3.2.1],[y3.2.2.1],[y3.2.2.2.1],[y3.2.2.2.2])) (rpz (k:=1001) I) (rpz (k:=1002) I) (rpz (k:=1003) I) (rpz (k:=1004) I) (rpz (k:=1005) I)) λs=>?_
  refine wpIn_ret ?_
  exact rn hD s I (rv1 (rc (K:=1000) I I))
instance {f:Nat} {v0:State} {v1:Event}:Cn Tryz.prog 169 (m169 f v0 v1) [Va v0,Va v1] (λr:State=>(Va r)):=⟨s169 f v0 v1⟩
def m158_l2 (v0:State):Nat→(Int×(List Event))→Option (Int×(List Event))
 | 0,_=>none
 | n+1,z10=>(bif (decide (z10.1 < (v0.Timers.length:Int))) then (idx v0.Timers z10.1).bind λx12=>(bif (x12 == (1:Int)) then (app z10.2 ([(⟨(1:Int),z10.1,false⟩:Event)]:List Event)).bind λx14=>some x14 else some z10.2).bind λz13=>m158_l2 v0 n ((wr (z10.1 + (1:Int))),z13) else some (z10.1,z10.2))
def m158_l1 (v0:State):Nat→(Int×(List Event))→Option (Int×(List Event))
 | 0,_=>none
 | n+1,z1=>(bif (decide (z1.1 < (v0.Ends.length:Int))) then (idx v0.Ends z1.1).bind λx4=>(bif (x4 == (1:Int)) then some true else (idx v0.Ends z1.1).bind λx5=>some (x5 == (3:Int))).bind λr6=>(bif r6 then (app z1.2 ([(⟨(0:Int),z1.1,false⟩:Event)]:List Event)).bind λx8=>some x8 else some z1.2).bind λz7=>m158_l1 v0 n ((wr (z1.1 + (1:Int))),z7) else some (z1.1,z1.2))
def m158 (f:Nat) (v0:State):Option ((List Event)):=(m158_l1 v0 f ((0:Int),([]:List Event))).bind λo2s=>(m158_l2 v0 f ((0:Int),o2s.2)).bind λo11s=>some o11s.2
theorem s158 (f:Nat) (v0:State) (r:(List Event)) (hm:m158 f v0=some r):Sp Tryz.prog 158 [Va v0] (Rz (λx:Value=>Qv x) (λx=>[Ow 79 x r])):=by
 unfold m158 at hm
 refine ens Tryz.func158 (by kernel_rfl) I Tryz.ntmps158 I I λM W a hM hD s=>?_
 refine R 2 s λa w s=>?_
 refine R 1 s λa w s=>?_
 refine se (R 1 s λa w s=>?_)
 refine nilt (α:=Event) (d:=3) 1000 79 s I I λc3 s=>?_
 refine lA1 hm [0,1,2] s (λz1 z1c0=>[(3,Qv z1c0),(4,Va z1.1),(1000,Ow 79 z1c0 z1.2)]) ⟨c3,s.fi⟩ (λ_=>I) (λo2s hko2 n z1 a w hm s=>?_) λo2s hm a w s=>?_
 ·obtain ⟨z1c0,s⟩:=s
  unfold m158_l1 at hm
  refine se (R 5 s λa w s=>?_)
  refine cmt s hm (λhb hm=>?_) λhb hm=>?_
  ·refine se (wpIn_block ?_)
   obtain ⟨x4,hx4,hm⟩:=bk hm
   obtain ⟨r6,hr6,hm⟩:=bs hm
   have gr6:=gF hr6
   have er6:=gT hr6
   obtain ⟨x5,hx5,gr6⟩:=gk gr6
   have:=pko gr6 er6
   refine R 14 s λa w s=>?_
   obtain ⟨z7,hz7,hkz7⟩:=bs hm
   refine cP1 [0,1,2,4] s (λz7c0=>[(3,Qv z7c0),(1000,Ow 79 z7c0 z7)]) ?_ λa w s=>?_
   ·refine cm s I hz7 (λhb hm=>?_) (λhb hm=>?_)
    ·obtain ⟨x8,hx8,hm⟩:=bk hm
     refine rg (ru 2 s λa w s=>sq s (bl79_0_1 ci (t I)) I λa w s=>ru 1 s λa w s=>apd (α:=Event) (k:=1000) s (t I) I (t I) hx8.e I I λc9 a w s=>ru 1 s λa w s=>nl ?_)
     obtain rfl:=si hm
     exact ⟨c9,s.fi⟩
    ·refine wpIn_skip ?_
     obtain rfl:=si hm
     exact ⟨z1c0,s.fi⟩
   ·obtain ⟨z7c0,s⟩:=s
    replace hm:=hkz7
    refine R0 3 s λa w s=>?_
    exact ⟨_,hm,⟨z7c0,s.fi⟩⟩
  ·refine wpIn_exit ?_
   obtain rfl:=si hm
   exact ⟨z1c0,s.fi⟩
 ·obtain ⟨o2sc0,s⟩:=s
  refine se (R 1 s λa w s=>?_)
  refine lA1 hm [0,1,2,4] s (λz10 z10c0=>[(3,Qv z10c0),(5,Va z10.1),(1000,Ow 79 z10c0 z10.2)]) ⟨o2sc0,s.fi⟩ (λ_=>I) (λo11s hko11 n z10 a w hm s=>?_) λo11s hm a w s=>?_
  ·obtain ⟨z10c0,s⟩:=s
   unfold m158_l2 at hm
   refine se (R 5 s λa w s=>?_)
   refine cmt s hm (λhb hm=>?_) λhb hm=>?_
   ·refine se (wpIn_block ?_)
    refine se (rg (ru 3 s λa w s=>iB s hm λx12 hm a w s=>ru 2 s λa w s=>nl ?_))
    obtain ⟨z13,hz13,hkz13⟩:=bs hm
    refine cP1 [0,1,2,4,5] s (λz13c0=>[(3,Qv z13c0),(1000,Ow 79 z13c0 z13)]) ?_ λa w s=>?_
    ·refine cm s I hz13 (λhb hm=>?_) (λhb hm=>?_)
     ·obtain ⟨x14,hx14,hm⟩:=bk hm
      refine rg (ru 2 s λa w s=>sq s (bl79_0_1 ci (t I)) I λa w s=>ru 1 s λa w s=>apd (α:=Event) (k:=1000) s (t I) I (t I) hx14.e I I λc15 a w s=>ru 1 s λa w s=>nl ?_)
      obtain rfl:=si hm
      exact ⟨c15,s.fi⟩
     ·refine wpIn_skip ?_
      obtain rfl:=si hm
      exact ⟨z10c0,s.fi⟩
    ·obtain ⟨z13c0,s⟩:=s
     replace hm:=hkz13
     refine R0 3 s λa w s=>?_
     exact ⟨_,hm,⟨z13c0,s.fi⟩⟩
   ·refine wpIn_exit ?_
    obtain rfl:=si hm
    exact ⟨z10c0,s.fi⟩
  ·obtain ⟨o11sc0,s⟩:=s
   refine R 2 s λa w s=>?_
   obtain rfl:=si hm
   refine wpIn_ret ?_
   exact rz [1000] o11sc0 hM hD s I (rv1 (rt I)) (kc I kn) I
def m167_l1 (v1:Event) (x3:(List Event)):Nat→Int→Option (Lo (Int) (Bool))
 | 0,_=>none
 | n+1,z5=>(bif (decide (z5 < (x3.length:Int))) then (idx x3 z5).bind λx7=>(bif (x7.Kind == v1.Kind) then (idx x3 z5).bind λx8=>some (x8.Index == v1.Index) else some false).bind λr9=>(bif r9 then some (.ret true) else m167_l1 v1 x3 n (wr (z5 + (1:Int)))) else some (.brk z5))
def m167 (f:Nat) (v0:State) (v1:Event):Option (Bool):=(bif (v1.Kind == (2:Int)) then (bif ((decide (v1.Index≥(0:Int))) && (decide (v1.Index < (v0.Inputs.length:Int)))) then (idx v0.Inputs v1.Index).bind λx1=>some (x1 != v1.Value) else some false).bind λr2=>some r2 else (m158 f v0).bind λx3=>((m167_l1 v1 x3 f (0:Int)).bind λo6=>match o6 with | .brk o6s=>some false | .ret r=>some r))
theorem s167 (f:Nat) (v0:State) (v1:Event) (r:Bool) (hm:m167 f v0 v1=some r):Sp Tryz.prog 167 [Va v0,Va v1] (Va r):=by
 unfold m167 at hm
 refine ens Tryz.func167 (by kernel_rfl) I Tryz.ntmps167 I I λM W a hM hD s=>?_
 refine R 3 s λa w s=>?_
 refine se (R 3 s λa w s=>?_)
 refine cmf s hm (λhb hm=>?_) λhb hm=>?_
 ·obtain ⟨r2,hr2,hm⟩:=bs hm
  have gr2:=gT hr2
  have er2:=gF hr2
  obtain ⟨x1,hx1,gr2⟩:=gk gr2
  have:=pka gr2 er2
  refine se (fW 22 s (by kernel_rfl) I I λa w s=>ru 1 s λa w s=>nl ?_)
  cases hm;exact rT hD s I I
 ·obtain ⟨x3,hx3,hm⟩:=bk hm
  refine se (rg (ru 1 s λa w s=>sqz [1000] hM s (cc I (oc (t I) on) (s158 f _ _ hx3.e)) (λ_=>I) I I λy4 a w s=>ru 1 s λa w s=>nl ?_))
  refine se (R 1 s λa w s=>?_)
  refine lB hm [0,1,2,3,4,5,1000] s (λz5=>[(6,Va z5)]) s.fi (λ_=>I) (λo6 hko6 n z5 a w hm s=>?_) λo6s hm a w s=>?_
  ·unfold m167_l1 at hm
   refine se (R 4 s λa w s=>?_)
   refine cmt s hm (λhb hm=>?_) λhb hm=>?_
   ·refine se (wpIn_block ?_)
    obtain ⟨x7,hx7,hm⟩:=bk hm
    obtain ⟨r9,hr9,hm⟩:=bs hm
    have gr9:=gT hr9
    have er9:=gF hr9
    obtain ⟨x8,hx8,gr9⟩:=gk gr9
    have:=pka gr9 er9
    refine se (flow s (m:=18) (.cons (.cong (.cong (.cong (.cong (.cong (.cong (.cong (.cong (.cons (.cons (.cons (.cons (.cons (.cons (.cons (.cons (.cons .nil I (mvq (t I))) I (mv (t I))) I (ixq (α:=Event) (k:=1000) (t I) I (t I) hx7.e)) I (fmq (fo:=0) (m:=0) (t I) (by kernel_rfl))) I (lqf (k:=1000) (f:=Event.Kind) (t I) I (idxg hx7.e))) I (fa (f:=Event.Kind) (t I))) I (ld (t I))) I (eq (t I) (t I))) I (mv (t I))) I I I (λhb=>(mvq (t I)))) I I I (λhb=>(mv (t I)))) I I I (λhb=>(ixq (α:=Event) (k:=1000) (tg I hb) I (tg I hb) (hx8.h hb)))) I I I (λhb=>(fmq (fo:=1) (m:=0) (tg I hb) (by kernel_rfl)))) I I I (λhb=>(lqf (k:=1000) (f:=Event.Index) (tg I hb) I (idxg (hx8.h hb))))) I I I (λhb=>(fa (f:=Event.Index) (t I)))) I I I (λhb=>(ld (tg I hb)))) I I I (λhb=>(eq (tg I hb) (tg I hb)))) I (pa (t I) I (λh=>si (gr9 h)) (λh=>(si (er9 h)).symm))) (by kernel_rfl) I I λa w s=>nl ?_)
    refine cmf s hm (λhb hm=>?_) λhb hm=>?_
    ·refine R 1 s λa w s=>?_
     obtain rfl:=si hm
     replace hm:=hko6
     dsimp only at hm
     cases hm;exact rT hD s I I
    ·refine R0 3 s λa w s=>?_
     exact ⟨_,hm,s.fi⟩
   ·refine wpIn_exit ?_
    exact ⟨_,(si hm).symm,s.fi⟩
  ·dsimp only at hm
   refine R 1 s λa w s=>?_
   cases hm;exact rT hD s I I
def m97 (f:Nat) (v0:Control) (v1:State) (v2:Event):Option (State×(List Int)×Int):=(bif ((decide (v2.Kind < (0:Int))) || (decide (v2.Kind > (2:Int)))) then some ((⟨([]:List Int),([]:List Bool),([]:List Bool),([]:List Bool),([]:List Int)⟩:State),([]:List Int),(1:Int)) else (m167 f v1 v2).bind λx2=>(bif (!x2) then some ((⟨([]:List Int),([]:List Bool),([]:List Bool),([]:List Bool),([]:List Int)⟩:State),([]:List Int),(14:Int)) else (m169 f v1 v2).bind λx3=>(m168 f v0 x3).bind λx4=>some (x4.1,x4.2.1,x4.2.2)))
theorem s97 (f:Nat) (v0:Control) (v1:State) (v2:Event) (r:State×(List Int)×Int) (hm:m97 f v0 v1 v2=some r):Sp Tryz.prog 97 [Va v0,Va v1,Va v2] (T3 (Va r.1) (Va r.2.1) (Va r.2.2)):=by
 unfold m97 at hm
 refine ens Tryz.func97 (by kernel_rfl) I Tryz.ntmps97 I I λM W a hM hD s=>?_
 refine se (rg (ru 3 s λa w s=>aR 1000 s λb1 a w s=>ru 2 s λa w s=>nl ?_))
 refine se (R 8 s λa w s=>?_)
 refine cmf s hm (λhb hm=>?_) λhb hm=>?_
 ·refine se (rg (sq s (bl31_ ) I λa w s=>sW s I λw s=>ru 2 s λa w s=>nl ?_))
  cases hm;exact rV hD s I I
 ·refine se (se (rg (ru 2 s λa w s=>cB s hm (s167 f _ _) λx2 hm a w s=>ru 1 s λa w s=>nl ?_)))
  refine cmf s hm (λhb hm=>?_) λhb hm=>?_
  ·refine se (rg (sq s (bl31_ ) I λa w s=>sW s I λw s=>ru 2 s λa w s=>nl ?_))
   cases hm;exact rV hD s I I
  ·obtain ⟨x3,hx3,hm⟩:=bk hm
   obtain ⟨x4,hx4,hm⟩:=bk hm
   refine se (fW 8 s (by kernel_rfl) I I λa w s=>sW s I λw s=>ru 2 s λa w s=>nl ?_)
   cases hm;exact rV hD s I I
def m157_l1 (v0:Control):Nat→(Int×(List Bool))→Option (Int×(List Bool))
 | 0,_=>none
 | n+1,z13=>(bif (decide (z13.1 < (v0.Signals.length:Int))) then (idx v0.Signals z13.1).bind λx15=>(idx z13.2 z13.1).bind λx16=>m157_l1 v0 n ((wr (z13.1 + (1:Int))),(z13.2.set z13.1.toNat x15.Init)) else some (z13.1,z13.2))
def m157 (f:Nat) (v0:Control):Option (State):=(mks (0:Int) v0.Actuators).bind λx2=>(mks false v0.Actuators).bind λx4=>(mks false (v0.Inputs.length:Int)).bind λx6=>(mks false (v0.Signals.length:Int)).bind λx8=>(mks (0:Int) (v0.Signals.length:Int)).bind λx10=>(m157_l1 v0 f ((0:Int),x8)).bind λo14s=>(m228 f v0 (⟨x2,x4,x6,o14s.2,x10⟩:State)).bind λx17=>some x17
theorem s157 (f:Nat) (v0:Control) (r:State) (hm:m157 f v0=some r):Sp Tryz.prog 157 [Va v0] (Va r):=by
 unfold m157 at hm
 refine ens Tryz.func157 (by kernel_rfl) I Tryz.ntmps157 I I λM W a hM hD s=>?_
 refine se (rg (ru 1 s λa w s=>aR 1000 s λb1 a w s=>nl ?_))
 obtain ⟨x2,hx2,hm⟩:=bk hm
 obtain ⟨x4,hx4,hm⟩:=bk hm
 obtain ⟨x6,hx6,hm⟩:=bk hm
 obtain ⟨x8,hx8,hm⟩:=bk hm
 obtain ⟨x10,hx10,hm⟩:=bk hm
 refine se (flow2 [] [0,1,2,3,4,5,6,7,8,9,10,11,12,13,14,15,16,17] [5,6,7,8,9,10,11,12,13,14,15,16,17,18,19,20,21,22] [] [] [3] [(18,[]),(20,[3])] s (.skip (.late (.skip (.cons (.cons (.cons (.cons (.cons (.cons (.cons (.cons (.cons (.cons (.cons (.cons (.cons (.cons (.cons (.cons (.cons (.cons .nil I I (fa (f:=Control.Actuators) (t I))) I I (ld (t I))) I I (mkS (t I) (t I) hx2.e)) I I (fa (f:=Control.Actuators) (t I))) I I (ld (t I))) I I (mkS (t I) (t I) hx4.e)) I I (fa (f:=Control.Inputs) (t I))) I I (ld (t I))) I I (ln (t I))) I I (mkS (t I) (t I) hx6.e)) I I (fa (f:=Control.Signals) (t I))) I I (ld (t I))) I I (ln (t I))) I I (mkS (t I) (t I) hx8.e)) I I (fa (f:=Control.Signals) (t I))) I I (ld (t I))) I I (ln (t I))) I I (mkS (t I) (t I) hx10.e)) I) I I (alr (cs:=[nz,nz,nz,nz,nz]) (z:=.agg #[nz,nz,nz,nz,nz]) (by kernel_rfl) I I)) I) (by kernel_rfl) (by kernel_rfl) I I sb0 I (by decide) I I ?_)
 refine ⟨⟨λ_=>I,I,.inr ⟨sb0,sb0,sn0⟩⟩,by kernel_rfl,_,I,λΨ a w s=>opo (d:=7) 1006 s I I λc3 s=>opo (d:=10) 1007 s I I λc5 s=>opo (d:=14) 1008 s I I λc7 s=>opo (d:=18) 1009 s I I λc9 s=>opo (d:=22) 1010 s I I λc11 s=>sq s (bla (L:=[(0,1),(1,1),(2,1),(3,1),(4,1)]) (z:=[nz,nz,nz,nz,nz]) (res:=[c3,c5,c7,c9,c11]) I (by kernel_rfl) (by kernel_rfl) (pdq (t I) (oco (k:=1006) I) (pdq (t I) (oco (k:=1007) I) (pdq (t I) (oco (k:=1008) I) (pdq (t I) (oco (k:=1009) I) (pdq (t I) (oco (k:=1010) I) pdn))))) I I) I λa w s=>nl ?_⟩
 refine nxt Ψ s ?_
 refine ⟨⟨λ_=>I,I,.inr ⟨sb0,sb0,sn0⟩⟩,by kernel_rfl,_,I,λΨ a w s=>opr (d:=3) 1011 s I I λb12 s=>sra (K:=1011) (m:=[c3,c5,c7,c9,c11]) (cs':=[c3,c5,c7,c9,c11]) s (t I) I (t I) (by kernel_rfl) I I I λw s=>nl ?_⟩
 refine nxt Ψ s ?_
 refine ⟨⟨λ_=>I,I,.inl I⟩,λa w s=>?_⟩
 replace s:St M W 44 [(0,Va v0),(1,Pt v0),(2,Qv (pb b1 0)),(3,Qv (pb b12 0)),(1000,Mr b1 [nz,nz,nz,nz,nz]),(1011,Mr b12 [c3,c5,c7,c9,c11]),(1006,Ow 3 c3 x2),(1007,Ow 4 c5 x4),(1008,Ow 4 c7 x6),(1009,Ow 4 c9 x8),(1010,Ow 3 c11 x10)] a w:=s.pick [0,1,2,3,1000,1011,1006,1007,1008,1009,1010]
 refine se (R 1 s λa w s=>?_)
 refine lA hm [0,1,2,3,1000,1011,1006,1007,1008,1010] s (λz13=>[(4,Va z13.1),(1009,Ow 4 c9 z13.2)]) s.fi (λ_=>I) (λo14s hko14 n z13 a w hm s=>?_) λo14s hm a w s=>?_
 ·unfold m157_l1 at hm
  refine se (R 5 s λa w s=>?_)
  refine cmt s hm (λhb hm=>?_) λhb hm=>?_
  ·refine se (wpIn_block ?_)
   obtain ⟨x15,hx15,hm⟩:=bk hm
   obtain ⟨x16,hx16,hm⟩:=bk hm
   refine fW 10 s (by kernel_rfl) I I λa w s=>stq (k:=1009) s (t I) I (idxg hx16.e) (t I) λw s=>nl ?_
   refine R0 3 s λa w s=>?_
   exact ⟨_,hm,s.fi⟩
  ·refine wpIn_exit ?_
   obtain rfl:=si hm
   exact s.fi
 ·obtain ⟨x17,hx17,hm⟩:=bk hm
  refine se (rg (ru 1 s λa w s=>sq s (lra (K:=1011) (ds:=[c3,c5,c7,c9,c11]) State (t I) I I I I) I λa w s=>fzk (α:=Int) (k:=1006) hM s I λs=>fzk (α:=Bool) (k:=1007) hM s I λs=>fzk (α:=Bool) (k:=1008) hM s I λs=>fzk (α:=Bool) (k:=1009) hM s I λs=>fzk (α:=Int) (k:=1010) hM s I λs=>sq s (cc I (oc (t I) (oc (qad (y:=(⟨x2,x4,x6,o14s.2,x10⟩:State)) (t I) (rpS30 (l:=([c3],[c5],[c7],[c9],[c11])) (rpz (k:=1006) I) (rpz (k:=1007) I) (rpz (k:=1008) I) (rpz (k:=1009) I) (rpz (k:=1010) I)) I) on)) (s228 f _ _ _ hx17.e)) I λa w s=>sW s I λw s=>nl ?_))
  cases hm;exact rT hD s I I
def m84_l1 (f:Nat) (v0:Control) (v1:List Bool):Nat→(Bool×Int×State)→Option (Bool×Int×State)
 | 0,_=>none
 | n+1,z5=>(bif ((decide (z5.2.1 < (v1.length:Int))) && z5.1) then (idx v1 z5.2.1).bind λx7=>(bif x7 then (m97 f v0 z5.2.2 (⟨(2:Int),z5.2.1,true⟩:Event)).bind λx9=>some ((x9.2.2 == (0:Int)),x9.1) else some (z5.1,z5.2.2)).bind λz8=>m84_l1 f v0 v1 n (z8.1,(wr (z5.2.1 + (1:Int))),z8.2) else some (z5.1,z5.2.1,z5.2.2))
def m84 (f:Nat) (v0:Control) (v1:List Bool):Option (State×Bool):=(m157 f v0).bind λx2=>(m156 f v0 x2).bind λx3=>(m84_l1 f v0 v1 f (x3.2.2,(0:Int),x3.1)).bind λo6s=>some (o6s.2.2,o6s.1)
theorem s84 (f:Nat) (v0:Control) (v1:List Bool) (r:State×Bool) (hm:m84 f v0 v1=some r):Sp Tryz.prog 84 [Va v0,Va v1] (T2 (Va r.1) (Va r.2)):=by
 unfold m84 at hm
 refine ens Tryz.func84 (by kernel_rfl) I Tryz.ntmps84 I I λM W a hM hD s=>?_
 refine se (rg (ru 1 s λa w s=>aR 1000 s λb1 a w s=>ru 1 s λa w s=>nl ?_))
 obtain ⟨x2,hx2,hm⟩:=bk hm
 obtain ⟨x3,hx3,hm⟩:=bk hm
 refine se (flow2 [] [0,1,2,3,4,5,8] [14,15,16,17,13,18,6] [13] [] [20,19] [(9,[]),(10,[19]),(11,[20])] s (.skip (.skip (.skip (.cons (.late (.late (.cons (.cons (.cons (.cons (.cons (.cons .nil I I (ld (t I))) I I (ld (t I))) I I (cc I (oc (t I) on) (s157 f _ _ hx2.e))) I I (cc I (oc (t I) (oc (t I) on)) (s156 f _ _ _ hx3.e))) I I (mve (t I))) I I (Pn.x30 (t I))) I I (Pn.x31 (t I))) I I (Pn.x32 (t I))) I I (alr (cs:=[nz,nz,nz,nz,nz]) (z:=.agg #[nz,nz,nz,nz,nz]) (by kernel_rfl) I I)) I) I) I) (by kernel_rfl) (by kernel_rfl) I I sb0 I (by decide) I I ?_)
 refine ⟨⟨λ_=>I,I,.inr ⟨sb0,(sb1 I sb0),sn0⟩⟩,by kernel_rfl,_,I,λΨ a w s=>opr (d:=6) 1001 s I I λb4 s=>swd (K:=1001) s (t I) I (t I) I λw s=>nl ?_⟩
 refine nxt Ψ s ?_
 refine ⟨⟨λ_=>I,I,.inr ⟨sb0,(sb1 I sb0),sn0⟩⟩,by kernel_rfl,_,I,λΨ a w s=>sq s (sa (t I)) I λa w s=>nl ?_⟩
 refine nxt Ψ s ?_
 refine ⟨⟨λ_=>I,I,.inr ⟨sb0,(sb1 I sb0),sn0⟩⟩,by kernel_rfl,_,I,λΨ a w s=>sq s (sa (t I)) I λa w s=>nl ?_⟩
 refine nxt Ψ s ?_
 refine ⟨⟨λ_=>I,I,.inl I⟩,λa w s=>?_⟩
 replace s:St M W 48 [(0,Va v0),(1,Va v1),(2,Pt v0),(4,Qv (pb b1 0)),(5,Va false),(6,Qv (pb b4 0)),(8,Va x3.2.2),(1000,Mr b1 [nz,nz,nz,nz,nz]),(1001,Mg b4 x3.1)] a w:=s.pick [0,1,2,4,5,6,8,1000,1001]
 refine se (R 1 s λa w s=>?_)
 refine lA hm [0,1,2,4,5,6,1000] s (λz5=>[(8,Va z5.1),(9,Va z5.2.1),(1001,Mg b4 z5.2.2)]) s.fi (λ_=>I) (λo6s hko6 n z5 a w hm s=>?_) λo6s hm a w s=>?_
 ·unfold m84_l1 at hm
  refine se (R 7 s λa w s=>?_)
  refine cmt s hm (λhb hm=>?_) λhb hm=>?_
  ·refine se (wpIn_block ?_)
   refine se (rg (ru 2 s λa w s=>iB s hm λx7 hm a w s=>ru 1 s λa w s=>nl ?_))
   obtain ⟨z8,hz8,hkz8⟩:=bs hm
   refine cP [0,1,2,4,5,6,9,1000] s [(8,Va z8.1),(1001,Mg b4 z8.2)] ?_ λa w s=>?_
   ·refine cm s I hz8 (λhb hm=>?_) (λhb hm=>?_)
    ·refine se (rg (ru 3 s λa w s=>sq s (bl79_0_1_2 ci (t I) cb) I λa w s=>cB s hm (s97 f _ _ _) λx9 hm a w s=>ru 4 s λa w s=>aR 1002 s λb10 a w s=>sW s I λw s=>ru 2 s λa w s=>nl ?_))
     refine rg (ru 3 s λa w s=>sw (K:=1001) s (t I) I (t I) I λw s=>ru 1 s λa w s=>nl ?_)
     obtain rfl:=si hm
     exact s.fi
    ·refine wpIn_skip ?_
     obtain rfl:=si hm
     exact s.fi
   ·replace hm:=hkz8
    refine R0 3 s λa w s=>?_
    exact ⟨_,hm,s.fi⟩
  ·refine wpIn_exit ?_
   obtain rfl:=si hm
   exact s.fi
 ·refine se (rg (ru 2 s λa w s=>sW s I λw s=>ru 1 s λa w s=>nl ?_))
  cases hm;exact rU hD s I I
def m22 (f:Nat) (v0:Control) (v1:List Bool):Option (State×Int):=(m83 f v0 v1).bind λx2=>(bif (x2 != (0:Int)) then some ((⟨([]:List Int),([]:List Bool),([]:List Bool),([]:List Bool),([]:List Int)⟩:State),x2) else (m84 f v0 v1).bind λx3=>(bif (!x3.2) then some ((⟨([]:List Int),([]:List Bool),([]:List Bool),([]:List Bool),([]:List Int)⟩:State),(21:Int)) else some (x3.1,(0:Int))))
theorem s22 (f:Nat) (v0:Control) (v1:List Bool) (r:State×Int) (hm:m22 f v0 v1=some r):Sp Tryz.prog 22 [Va v0,Va v1] (T2 (Va r.1) (Va r.2)):=by
 unfold m22 at hm
 refine ens Tryz.func22 (by kernel_rfl) I Tryz.ntmps22 I I λM W a hM hD s=>?_
 refine se (rg (ru 1 s λa w s=>aR 1000 s λb1 a w s=>ru 1 s λa w s=>nl ?_))
 refine se (se (rg (ru 2 s λa w s=>cB s hm (s83 f _ _) λx2 hm a w s=>ru 1 s λa w s=>nl ?_)))
 refine R 2 s λa w s=>?_
 refine cmf s hm (λhb hm=>?_) λhb hm=>?_
 ·refine se (rg (sq s (bl31_ ) I λa w s=>ru 1 s λa w s=>sW s I λw s=>ru 1 s λa w s=>nl ?_))
  cases hm;exact rU hD s I I
 ·refine se (rg (ru 2 s λa w s=>cB s hm (s84 f _ _) λx3 hm a w s=>ru 3 s λa w s=>aR 1001 s λb4 a w s=>sW s I λw s=>ru 1 s λa w s=>nl ?_))
  refine se (R 2 s λa w s=>?_)
  refine cmf s hm (λhb hm=>?_) λhb hm=>?_
  ·refine se (rg (sq s (bl31_ ) I λa w s=>sW s I λw s=>ru 1 s λa w s=>nl ?_))
   cases hm;exact rU hD s I I
  ·refine se (rg (ru 1 s λa w s=>sW s I λw s=>ru 1 s λa w s=>nl ?_))
   cases hm;exact rU hD s I I
def m3 (f:Nat) (v0:Control) (v1:List Bool):Option (Bool):=(m19 f v0).bind λx1=>(bif ((!x1) || (decide ((v1.length:Int) > (200:Int)))) then (m20 f).bind λx2=>some x2 else (m21 f v0 v1).bind λx3=>(m22 f v0 v1).bind λx5=>(m23 f x3.1 x5.1).bind λx7=>(bif (x7 && (x3.2 == x5.2)) then (m20 f).bind λx8=>some x8 else some false).bind λr9=>some r9)
theorem s3 (f:Nat) (v0:Control) (v1:List Bool) (r:Bool) (hm:m3 f v0 v1=some r):Sp Tryz.prog 3 [Va v0,Va v1] (Va r):=by
 unfold m3 at hm
 refine ens Tryz.func3 (by kernel_rfl) I Tryz.ntmps3 I I λM W a hM hD s=>?_
 refine R 2 s λa w s=>?_
 refine se (se (rg (ru 1 s λa w s=>cB s hm (s19 f _) λx1 hm a w s=>ru 6 s λa w s=>nl ?_)))
 refine cmf s hm (λhb hm=>?_) λhb hm=>?_
 ·refine se (rg (cB s hm (s20 f) λx2 hm a w s=>ru 1 s λa w s=>nl ?_))
  cases hm;exact rT hD s I I
 ·refine se (rg (ru 2 s λa w s=>cB s hm (s21 f _ _) λx3 hm a w s=>ru 3 s λa w s=>aR 1000 s λb4 a w s=>sW s I λw s=>ru 1 s λa w s=>nl ?_))
  refine se (rg (ru 2 s λa w s=>cB s hm (s22 f _ _) λx5 hm a w s=>ru 3 s λa w s=>aR 1001 s λb6 a w s=>sW s I λw s=>ru 1 s λa w s=>nl ?_))
  obtain ⟨x7,hx7,hm⟩:=bk hm
  obtain ⟨r9,hr9,hm⟩:=bs hm
  have gr9:=gT hr9
  have er9:=gF hr9
  obtain ⟨x8,hx8,gr9⟩:=gk gr9
  have:=pka gr9 er9
  refine R 12 s λa w s=>?_
  cases hm;exact rT hD s I I
def m121_l1 (f:Nat) (v0:List State) (v1:State):Nat→Int→Option (Lo (Int) (Int))
 | 0,_=>none
 | n+1,z1=>(bif (decide (z1 < (v0.length:Int))) then (idx v0 z1).bind λx3=>(m23 f x3 v1).bind λx4=>(bif x4 then some (.ret z1) else m121_l1 f v0 v1 n (wr (z1 + (1:Int)))) else some (.brk z1))
def m121 (f:Nat) (v0:List State) (v1:State):Option (Int):=((m121_l1 f v0 v1 f (0:Int)).bind λo2=>match o2 with | .brk o2s=>some (-1:Int) | .ret r=>some r)
theorem s121 (f:Nat) (v0:List State) (v1:State) (r:Int) (hm:m121 f v0 v1=some r):Sp Tryz.prog 121 [Va v0,Va v1] (Va r):=by
 unfold m121 at hm
 refine ens Tryz.func121 (by kernel_rfl) I Tryz.ntmps121 I I λM W a hM hD s=>?_
 refine R 2 s λa w s=>?_
 refine se (R 1 s λa w s=>?_)
 refine lB hm [0,1,3,4] s (λz1=>[(5,Va z1)]) s.fi (λ_=>I) (λo2 hko2 n z1 a w hm s=>?_) λo2s hm a w s=>?_
 ·unfold m121_l1 at hm
  refine se (R 4 s λa w s=>?_)
  refine cmt s hm (λhb hm=>?_) λhb hm=>?_
  ·refine se (wpIn_block ?_)
   obtain ⟨x3,hx3,hm⟩:=bk hm
   obtain ⟨x4,hx4,hm⟩:=bk hm
   refine se (fW 6 s (by kernel_rfl) I I λa w s=>nl ?_)
   refine cmf s hm (λhb hm=>?_) λhb hm=>?_
   ·refine R 2 s λa w s=>?_
    obtain rfl:=si hm
    replace hm:=hko2
    dsimp only at hm
    cases hm;exact rT hD s I I
   ·refine R0 3 s λa w s=>?_
    exact ⟨_,hm,s.fi⟩
  ·refine wpIn_exit ?_
   exact ⟨_,(si hm).symm,s.fi⟩
 ·dsimp only at hm
  refine R 1 s λa w s=>?_
  cases hm;exact rT hD s I I
def m87_l2 (f:Nat) (v0:Control) (v2:Int) (z6:Int×(List State)×(List (List Int))) (x9:State) (x10:(List Event)):Nat→(Int×(List State)×(List Int))→Option (Lo (Int×(List State)×(List Int)) (Space×Int))
 | 0,_=>none
 | n+1,z12=>(bif (decide (z12.1 < (x10.length:Int))) then (idx z12.2.1 z6.1).bind λx15=>(idx x10 z12.1).bind λx16=>(m97 f v0 x15 x16).bind λx17=>(bif (x17.2.2 != (0:Int)) then some (.ret ((⟨([]:List State),([]:List (List Int))⟩:Space),x17.2.2)) else (m121 f z12.2.1 x17.1).bind λx19=>(bif (decide (x19 < (0:Int))) then (bif ((z12.2.1.length:Int) == v2) then some (.ret ((⟨([]:List State),([]:List (List Int))⟩:Space),(12:Int))) else (app z12.2.1 ([x17.1]:List State)).bind λx20=>(app z12.2.2 ([(z12.2.1.length:Int)]:List Int)).bind λx22=>m87_l2 f v0 v2 z6 x9 x10 n ((wr (z12.1 + (1:Int))),x20,x22)) else (app z12.2.2 ([x19]:List Int)).bind λx24=>m87_l2 f v0 v2 z6 x9 x10 n ((wr (z12.1 + (1:Int))),z12.2.1,x24))) else some (.brk (z12.1,z12.2.1,z12.2.2)))
def m87_l1 (f:Nat) (v0:Control) (v2:Int):Nat→(Int×(List State)×(List (List Int)))→Option (Lo (Int×(List State)×(List (List Int))) (Space×Int))
 | 0,_=>none
 | n+1,z6=>(bif (decide (z6.1 < (z6.2.1.length:Int))) then (idx z6.2.1 z6.1).bind λx9=>(m158 f x9).bind λx10=>((m87_l2 f v0 v2 z6 x9 x10 f ((0:Int),z6.2.1,([]:List Int))).bind λo13=>match o13 with | .brk o13s=>(app z6.2.2 ([o13s.2.2]:List (List Int))).bind λx26=>m87_l1 f v0 v2 n ((wr (z6.1 + (1:Int))),o13s.2.1,x26) | .ret r=>some (.ret r)) else some (.brk (z6.1,z6.2.1,z6.2.2)))
def m87 (f:Nat) (v0:Control) (v1:List Bool) (v2:Int):Option (Space×Int):=(m22 f v0 v1).bind λx2=>(bif (x2.2 != (0:Int)) then some ((⟨([]:List State),([]:List (List Int))⟩:Space),x2.2) else ((m87_l1 f v0 v2 f ((0:Int),([x2.1]:List State),([]:List (List Int)))).bind λo7=>match o7 with | .brk o7s=>some ((⟨o7s.2.1,o7s.2.2⟩:Space),(0:Int)) | .ret r=>some r))
end Go.Pn

import Derived.Test.YtonodoleidhjcaaGreatDoorAp3
set_option synthInstance.checkSynthOrder false
set_option synthInstance.maxSize 10000
set_option synthInstance.maxHeartbeats 400000
set_option maxRecDepth 100000
set_option maxHeartbeats 4000000
set_option linter.unusedVariables false
set_option linter.unusedSimpArgs false
set_option linter.defProp false
namespace Go.Pn
open Go Go.RowKit Go.Proofs Go.Proofs.Tryz
def Ju (f:Nat) (v0:Aa) (v2:Bool) (v3:Int):Int->(Int×(List Node)×(List (LL×Int))×(List LG)×(List (Ab×Bool)))×Nat->Option (Bool×((Int×(List Node)×(List (LL×Int))×(List LG)×(List (Ab×Bool)))×Nat)):=λu18 z16=>match z16 with
 | (z16,0)=>(Yn f u18 v0.Actuators v2 v3 z16.1 v0.Inputs v0.Signals v0.Plus v0.Minus z16.2.1 z16.2.2.1 z16.2.2.2.1 z16.2.2.2.2).bind λx19=>some (true,((x19.1,x19.2.1,x19.2.2.1,x19.2.2.2.1,x19.2.2.2.2),0))
 | (_,_ + 1)=>none
def m30 (f:Nat) (v0:Aa) (v1:Ad) (v2:Bool) (v3:Int):Option (Int ⊕ (Int×Int×Bool×Int×Int×(List LL)×(List Ae)×LG×LG×(List Node)×(List (LL×Int))×(List LG)×(List (Ab×Bool)))):=(m39 f v0 v1).bind λx1=>(bif (x1.1 != 0) then some (.inl x1.1) else (bif ((decide (v3 < 1)) || (decide (v3 > 16384))) then some (.inl (2:Int)) else (m65 f v1).bind λx5=>(m66 f v0.Actuators v2 v3 (0:Int) v0.Inputs v0.Signals v0.Plus v0.Minus ([(⟨v1,(-1:Int),(⟨(0:Int),(0:Int),false⟩:Af)⟩:Node)]:List Node) (Jp Hz ([]:List (LL×Int)) x5 (0:Int)) ([]:List (Ab×Bool))).bind λx13=>(LP (Ju f v0 v2 v3) (λs=>(s.1.2.1.length:Int)) (λs=>s.1.1) f (((0:Int),([(⟨v1,(-1:Int),(⟨(0:Int),(0:Int),false⟩:Af)⟩:Node)]:List Node),(Jp Hz ([]:List (LL×Int)) x5 (0:Int)),([]:List LG),([]:List (Ab×Bool))),0)).bind λo21=>(bif o21.2 == 0 then some (.inr (o21.1.1,v0.Actuators,v2,v3,o21.1.1,v0.Inputs,v0.Signals,v0.Plus,v0.Minus,o21.1.2.1,o21.1.2.2.1,o21.1.2.2.2.1,o21.1.2.2.2.2)) else none)))
theorem s30 (f:Nat) (v0:Aa) (v1:Ad) (v2:Bool) (v3:Int) (r:Int ⊕ (Int×Int×Bool×Int×Int×(List LL)×(List Ae)×LG×LG×(List Node)×(List (LL×Int))×(List LG)×(List (Ab×Bool)))) (hm:m30 f v0 v1 v2 v3=some r):Sp Tryz.prog 30 [Va v0,Va v1,Va v2,Va v3] (Sm r (λq:Int=>(T2 (Qv (.pointer none)) (Va q))) (λq:Int×Int×Bool×Int×Int×(List LL)×(List Ae)×LG×LG×(List Node)×(List (LL×Int))×(List LG)×(List (Ab×Bool))=>(Rz (λx:Nat×Value×Value×Value×Value×Value×Nat×Value×Nat=>T2 (Qv (pb x.1 0)) (Va q.1)) (λx=>[Mr x.1 [(.int .i64 q.2.1),x.2.1,x.2.2.1,x.2.2.2.1,x.2.2.2.2.1,(.bool q.2.2.1),(.int .i64 q.2.2.2.1),x.2.2.2.2.2.1,(.map (some x.2.2.2.2.2.2.1)),x.2.2.2.2.2.2.2.1,(.map (some x.2.2.2.2.2.2.2.2)),(.int .i64 q.2.2.2.2.1)],At x.2.1 (Va q.2.2.2.2.2.1),At x.2.2.1 (Va q.2.2.2.2.2.2.1),At x.2.2.2.1 (Va q.2.2.2.2.2.2.2.1),At x.2.2.2.2.1 (Va q.2.2.2.2.2.2.2.2.1),Ow 85 x.2.2.2.2.2.1 q.2.2.2.2.2.2.2.2.2.1,Om x.2.2.2.2.2.2.1 (q.2.2.2.2.2.2.2.2.2.2.1:List (LL×Int)),Ow 30 x.2.2.2.2.2.2.2.1 q.2.2.2.2.2.2.2.2.2.2.2.1,Om x.2.2.2.2.2.2.2.2 (q.2.2.2.2.2.2.2.2.2.2.2.2:List (Ab×Bool))])))):=by
 unfold m30 at hm;refine ens func30 kr_ I ntmps30 I I λM W a hM hD s=>?_;refine R 4 s λa w s=>?_;refine se ?_;obtain ⟨x1,hx1,hm⟩:=bk hm;refine se (rg (ru 2 s λa w s=>sqz [1000] hM s (cc I (oc (t I) (oc (t I) on)) (s39 f _ _ _ hx1.e)) (λ_=>I) I I λy2 a w s=>ru 5 s λa w s=>nl ?_));refine R 2 s λa w s=>?_;refine cmf s hm (λhb hm=>?_) λhb hm=>?_
 ·refine R 3 s λa w s=>?_;cases hm;exact rU hD s I I
 ·refine se (R 6 s λa w s=>?_);refine cmf s hm (λhb hm=>?_) λhb hm=>?_
  ·refine R 2 s λa w s=>?_;cases hm;exact rU hD s I I
  ·obtain ⟨x5,hx5,hm⟩:=bk hm;refine se (By [(2,Va v2),(3,Va v3),(4,Pt v0),(5,Pt v1)] [7,8,9] [36,37,38] [] [34,33,32] [12,40,35,34,33,32,31,30,29] [(10,[]),(11,[]),(13,[40,35,34,33,32,31,30,29]),(14,[]),(16,[12])] s (.skip (.late (.skip (.skip (.late (.skip (.skip (.cons (.cons (.cons (.late (.late (.late (.late (.late (.late (.late .nil I I (ld (t I))) I I (mv (t I))) I I (mv (t I))) I I (ld (t I))) I I (bl46_ )) I I (Pw (t I) ci (t I))) I I (bso (o1 (t I) o0) I I kr_)) I I (mkm (κ:=LL) (ν:=Int))) I I (ld (t I))) I I (cc I (oc (t I) on) (s65 f _ _ hx5.e))) I) I) I I (mkm (κ:=Ab) (ν:=Bool))) I) I) I I (alr (cs:=[(.pointer none)]) (z:=(.pointer none)) kr_ I I)) I) kr_ kr_ I I (sb1 I (sb1 I (sb1 I (sb1 I sb0)))) I (by decide) I I ?_);refine ⟨⟨λ_=>I,I,.inr ⟨(sb1 I (sb1 I (sb1 I (sb1 I sb0)))),sb0,(sn2 I (sn2 I (sn2 I sn0)))⟩⟩,by kernel_rfl,_,I,λΨ a w s=>opm (d:=36) 1002 s I I λb4 s=>stmi (K:=9) (E:=3) (KK:=1002) s (t I) I (t I) ci kr_ λw s=>nl ?_⟩;refine nxt Ψ s ?_;refine ⟨⟨λ_=>I,I,.inr ⟨(sb1 I (sb1 I (sb1 I (sb1 I sb0)))),sb0,(sn2 I (sn2 I (sn2 I sn0)))⟩⟩,by kernel_rfl,_,I,λΨ a w s=>sq s (mvq (t I)) I λa w s=>nl ?_⟩;refine nxt Ψ s ?_;refine ⟨⟨λ_=>I,I,.inr ⟨(sb1 I (sb1 I (sb1 I (sb1 I sb0)))),sb0,(sn2 I (sn2 I (sn2 I sn0)))⟩⟩,by kernel_rfl,_,I,λΨ a w s=>opo (d:=35) 1001 s I I λc3 s=>opm (d:=40) 1003 s I I λb6 s=>opv31 (d:=29) 1005 1006 1007 1008 s I I λc8 c9 c10 c11 s=>sq s (bla (L:=[(0,5),(5,1),(6,1),(7,1),(8,1),(9,1),(10,1),(11,1)]) (z:=[(.int .i64 0),nz,nz,nz,nz,(.bool false),(.int .i64 0),nz,(.map none),nz,(.map none),(.int .i64 0)]) (res:=[(.int .i64 v0.Actuators),c8,c9,c10,c11,(.bool v2),(.int .i64 v3),c3,(.map (some b4)),nz,(.map (some b6)),(.int .i64 0)]) I kr_ kr_ (pda (t I) (pdq (bq (t I)) (ocr I) (pdq (iq (t I)) (ocr I) (pdq (t I) (oco (k:=1001) I) (pdq (t I) (ocr I) (pdq (t I) (ocr I) pdn)))))) I I) I λa w s=>nl ?_⟩;refine nxt Ψ s ?_;refine ⟨⟨λ_=>I,I,.inr ⟨(sb1 I (sb1 I (sb1 I (sb1 I sb0)))),sb0,(sn1 I (sn1 I (sn1 I sn0)))⟩⟩,by kernel_rfl,_,I,λΨ a w s=>sqr 1009 s (bxa (t I)) I I λb12 a w s=>nl ?_⟩;refine nxt Ψ s ?_;refine ⟨⟨λ_=>I,I,.inr ⟨(sb1 I (sb1 I (sb1 I (sb1 I sb0)))),sb0,(sn1 I (sn1 I (sn1 I sn0)))⟩⟩,by kernel_rfl,_,I,λΨ a w s=>opr (d:=12) 1004 s I I λb7 s=>srq (K:=1004) (cs':=[(pb b12 0)]) s (t I) I (t I) kr_ (ocr I) I I λw s=>nl ?_⟩;refine nxt Ψ s ?_;refine ⟨⟨λ_=>I,I,.inl I⟩,λa w s=>?_⟩;replace s:St M W 57 [(0,Va v0),(1,Va v1),(2,Va v2),(3,Va v3),(4,Pt v0),(5,Pt v1),(8,Qv (.pointer none)),(9,Va ((0:Int))),(11,Va x1.1),(12,Qv (pb b7 0)),(1004,Mr b7 [(pb b12 0)]),(1009,Mr b12 [(.int .i64 v0.Actuators),c8,c9,c10,c11,(.bool v2),(.int .i64 v3),c3,(.map (some b4)),nz,(.map (some b6)),(.int .i64 0)]),(1005,At c8 (Va v0.Inputs)),(1006,At c9 (Va v0.Signals)),(1007,At c10 (Va v0.Plus)),(1008,At c11 (Va v0.Minus)),(1001,Ow 85 c3 (([(⟨v1,(-1:Int),(⟨(0:Int),(0:Int),false⟩:Af)⟩:Node)]:List Node))),(1002,Om b4 ((Jp Hz ([]:List (LL×Int)) x5 (0:Int)):List (LL×Int))),(1003,Om b6 (([]:List (Ab×Bool)):List (Ab×Bool)))] a w:=s.pick [0,1,2,3,4,5,8,9,11,12,1004,1009,1005,1006,1007,1008,1001,1002,1003]
   refine se ?_;obtain ⟨x13,hx13,hm⟩:=bk hm;refine se (rg (sq s (lrp (K:=1004) (t I) I I kr_) I λa w s=>cgv [1009,1005,1006,1007,1008,1001,1002,1003] [1009,1005,1006,1007,1008,1001,1002,1003,1010] hM s qf I (oc (t I) on) vn vn (s66 f b12 c8 c9 c10 c11 c3 b4 b6 _ _ _ _ _ _ _ _ _ _ _ _ hx13.e) (k4 I I I I (k4 I I I I kn)) I (λ_=>I) I I I λy14 a w s=>nl ?_));refine wpIn_block (nilc (α:=LG) (k:=1009) (cs':=λc15=>[(.int .i64 v0.Actuators),c8,c9,c10,c11,(.bool v2),(.int .i64 v3),c3,(.map (some b4)),c15,(.map (some b6)),(.int .i64 0)]) 1011 30 s I (λ_=>I) I λc15 s=>?_);obtain ⟨o21,ho21,hko21⟩:=bs hm;refine rfo (α:=Int) (X:=Value×Value) (σ:=Int×(List Node)×(List (LL×Int))×(List LG)×(List (Ab×Bool))) (pe:=λx=>[Va x]) (gb:=(Ju f v0 v2 v3)) (r:=o21) [(12,Qv (pb b7 0))] [] (λz16 n17=>[Mr b7 [(pb b12 0)],Mr b12 [(.int .i64 v0.Actuators),c8,c9,c10,c11,(.bool v2),(.int .i64 v3),n17.1,(.map (some b4)),n17.2,(.map (some b6)),(.int .i64 z16.1)],At c8 (Va v0.Inputs),At c9 (Va v0.Signals),At c10 (Va v0.Plus),At c11 (Va v0.Minus),Ow 85 n17.1 z16.2.1,Om b4 (z16.2.2.1:List (LL×Int)),Ow 30 n17.2 z16.2.2.2.1,Om b6 (z16.2.2.2.2:List (Ab×Bool)),Mr y14 [(pb b12 0)]]) ((0:Int),([(⟨v1,(-1:Int),(⟨(0:Int),(0:Int),false⟩:Af)⟩:Node)]:List Node),(Jp Hz ([]:List (LL×Int)) x5 (0:Int)),([]:List LG),([]:List (Ab×Bool))) (c3,c15) 1014 1012 1013 [1004,1009,1005,1006,1007,1008,1001,1002,1011,1003,1010] hM s (t I) vn (vq vn) (k4 I I I I (k4 I I I I (k2 I I (kc I kn)))) I (λ_ _=>I) (λ_ _ h=>Bq (l:=[12]) h) (zs1 zs0) I I I (λE _ hop l ihy=>s101 (λz16 (n17:Value×Value)=>[Mr b7 [(pb b12 0)],Mr b12 [(.int .i64 v0.Actuators),c8,c9,c10,c11,(.bool v2),(.int .i64 v3),n17.1,(.map (some b4)),n17.2,(.map (some b6)),(.int .i64 z16.1)],At c8 (Va v0.Inputs),At c9 (Va v0.Signals),At c10 (Va v0.Plus),At c11 (Va v0.Minus),Ow 85 n17.1 z16.2.1,Om b4 (z16.2.2.1:List (LL×Int)),Ow 30 n17.2 z16.2.2.2.1,Om b6 (z16.2.2.2.2:List (Ab×Bool)),Mr y14 [(pb b12 0)]]) y14 b12 (λs=>(s.1.2.1.length:Int)) (λs=>s.1.1) (λs x=>⟨_,_,_,me (i:=10) I,me (i:=1) I,I,I,me (i:=6) I,I⟩) E hop l (Ju f v0 v2 v3) ihy f _ _ ho21) (λl fn D tm htm u18 z16 r hm=>?_) (λd22 a w n23 s=>?_)
   ·rcases z16 with ⟨z16,_ | j⟩
    ·unfold Ju at hm;dsimp only at hm;refine Cy.mk (KL:=1012) (KT:=1013) [1004,1009,1005,1006,1007,1008,1001,1002,1011,1003,1010] [45] z16 htm I I I I I I (λ_=>I) λM W a n17 TB hM hD hTB s=>?_;refine R0 1 s λa w s=>?_;refine bgn (K:=1012) s I I λRB w hRB s=>?_;refine wpIn_block ?_;obtain ⟨x19,hx19,hm⟩:=bk hm;refine By [(12,Qv (pb b7 0)),(1004,Mr b7 [(pb b12 0)])] [1,2] [47,48] [] [] [46] [(3,[]),(4,[46]),(5,[]),(6,[])] s (.skip (.skip (.skip (.skip (.cons (.cons (.late .nil I I (lrp (K:=1004) (t I) I I kr_)) I I (lrp (K:=1004) (t I) I I kr_)) I I (mv (t I))) I) I) I) I) kr_ kr_ I I (sb1 I (sb1 I sb0)) I (by decide) I I ?_;refine ⟨⟨λ_=>I,I,.inr ⟨(sb1 I (sb1 I sb0)),sb0,sn0⟩⟩,by kernel_rfl,_,I,λΨ a w s=>cgv [1009,1005,1006,1007,1008,1001,1002,1011,1003] [1009,1005,1006,1007,1008,1001,1002,1011,1003] hM s qf I (oc (t I) (oc (t I) on)) vn vn (s67_1 f b12 c8 c9 c10 c11 n17.1 b4 n17.2 b6 _ _ _ _ _ _ _ _ _ _ _ _ _ _ hx19.e) (k4 I I I I (k4 I I I I (kc I kn))) I (λ_=>I) I I I λy20 a w s=>nl ?_⟩;refine nxt Ψ s ?_;refine ⟨⟨λ_=>I,I,.inr ⟨(sb1 I (sb1 I sb0)),sb0,sn0⟩⟩,by kernel_rfl,_,I,λΨ a w s=>sq s (nkq (t I)) I λa w s=>nl ?_⟩;refine nxt Ψ s ?_;refine ⟨⟨λ_=>I,I,.inl I⟩,by kernel_rfl,_,I,λΨ a w s=>sq s (fm_ (off:=11) (m:=0) (q:=11) (t I) kr_ I) I λa w s=>nl ?_⟩;refine nxt Ψ s ?_;refine ⟨⟨λ_=>I,I,.inl I⟩,by kernel_rfl,_,I,λΨ a w s=>srq (K:=1009) (cs':=[(.int .i64 v0.Actuators),c8,c9,c10,c11,(.bool v2),(.int .i64 v3),y20.1,(.map (some b4)),y20.2,(.map (some b6)),(.int .i64 x19.1)]) s (t I) I (iq (t I)) kr_ (ocr I) I I λw s=>nl ?_⟩;refine nxt Ψ s ?_;refine ⟨⟨λ_=>I,I,.inl I⟩,λa w s=>?_⟩;replace s:St M W 57 [(12,Qv (pb b7 0)),(13,Va u18),(45,Va u18),(1004,Mr b7 [(pb b12 0)]),(1009,Mr b12 [(.int .i64 v0.Actuators),c8,c9,c10,c11,(.bool v2),(.int .i64 v3),y20.1,(.map (some b4)),y20.2,(.map (some b6)),(.int .i64 x19.1)]),(1005,At c8 (Va v0.Inputs)),(1006,At c9 (Va v0.Signals)),(1007,At c10 (Va v0.Plus)),(1008,At c11 (Va v0.Minus)),(1001,Ow 85 y20.1 x19.2.1),(1002,Om b4 (x19.2.2.1:List (LL×Int))),(1011,Ow 30 y20.2 x19.2.2.2.1),(1003,Om b6 (x19.2.2.2.2:List (Ab×Bool))),(1012,RB),(1013,TB),(1010,Mr y14 [(pb b12 0)])] a w:=s.pick [12,13,45,1004,1009,1005,1006,1007,1008,1001,1002,1011,1003,1012,1013,1010];obtain rfl:=si hm;exact rde (KL:=1012) (KT:=1013) [1004,1009,1005,1006,1007,1008,1001,1002,1011,1003,1010] none 0 true (x19.1,x19.2.1,x19.2.2.1,x19.2.2.2.1,x19.2.2.2.2) (y20.1,y20.2) hM s I I hRB hTB (k4 I I I I (k4 I I I I (k2 I I (kc I kn)))) I I I I
    ·unfold Ju at hm;cases hm
   ·replace hm:=hko21;rcases bfc hm with ⟨hj,hm⟩ | ⟨hj,hm⟩
    ·refine af0 hj ?_;refine se (By [(12,Qv (pb b7 0)),(1004,Mr b7 [(pb b12 0)]),(1009,Mr b12 [(.int .i64 v0.Actuators),c8,c9,c10,c11,(.bool v2),(.int .i64 v3),n23.1,(.map (some b4)),n23.2,(.map (some b6)),(.int .i64 o21.1.1)])] [0] [52] [] [55,54,53] [56,55,54,53] [(5,[]),(6,[56,55,54,53])] s (.skip (.skip (.late (.late (.late (.late (.cons .nil I I (lrp (K:=1004) (t I) I I kr_)) I I (lrp (K:=1004) (t I) I I kr_)) I I (nkq (t I))) I I (fm_ (off:=11) (m:=0) (q:=11) (t I) kr_ I)) I I (lrc (K:=1009) Int (t I) I I I I)) I) I) kr_ kr_ I I (sb1 I (sb1 I (sb1 I sb0))) I (by decide) I I ?_);refine ⟨⟨λ_=>I,I,.inr ⟨(sb1 I (sb1 I (sb1 I sb0))),sb0,(sn2 I (sn2 I (sn2 I sn0)))⟩⟩,by kernel_rfl,_,I,λΨ a w s=>sq s (saq (t I)) I λa w s=>nl ?_⟩;refine nxt Ψ s ?_;refine ⟨⟨λ_=>I,I,.inr ⟨(sb1 I (sb1 I (sb1 I sb0))),sb0,(sn2 I (sn2 I (sn2 I sn0)))⟩⟩,by kernel_rfl,_,I,λΨ a w s=>sq s (saq (t I)) I λa w s=>nl ?_⟩;refine nxt Ψ s ?_;refine ⟨⟨λ_=>I,I,.inl I⟩,λa w s=>?_⟩;replace s:St (mf d22 M) W 57 [(0,Va v0),(1,Va v1),(2,Va v2),(3,Va v3),(4,Pt v0),(5,Pt v1),(8,Qv (pb b12 0)),(9,Qv (.int .i64 o21.1.1)),(11,Va x1.1),(12,Qv (pb b7 0)),(44,Qv (fv 101 [] [(pb y14 0)])),(1009,Mr b12 [(.int .i64 v0.Actuators),c8,c9,c10,c11,(.bool v2),(.int .i64 v3),n23.1,(.map (some b4)),n23.2,(.map (some b6)),(.int .i64 o21.1.1)]),(1005,At c8 (Va v0.Inputs)),(1006,At c9 (Va v0.Signals)),(1007,At c10 (Va v0.Plus)),(1008,At c11 (Va v0.Minus)),(1001,Ow 85 n23.1 o21.1.2.1),(1002,Om b4 (o21.1.2.2.1:List (LL×Int))),(1011,Ow 30 n23.2 o21.1.2.2.2.1),(1003,Om b6 (o21.1.2.2.2.2:List (Ab×Bool))),(1004,Mr b7 [(pb b12 0)]),(1010,Mr y14 [(pb b12 0)]),(1014,Dk d22)] a w:=s.pick [0,1,2,3,4,5,8,9,11,12,44,1009,1005,1006,1007,1008,1001,1002,1011,1003,1004,1010,1014];obtain rfl:=si hm;refine wpIn_ret (lvm (KD:=1014) s I I I λa w ha s=>?_);rw [← ha];exact rz [1009,1005,1006,1007,1008,1001,1002,1011,1003] (b12,c8,c9,c10,c11,n23.1,b4,n23.2,b6) hM hD s I (rv2 (rt I) (ro (qi (t I)))) (k4 I I I I (k4 I I I I (kc I kn))) I
    ·cases hm
def Oo (g34:Int->LG->Int->Bool->Int->Int->(List LL)->(List Ae)->LG->LG->(List Node)->(List (LL×Int))->(List LG)->(List (Ab×Bool))->Option (Bool×LG)) (v2:Int) (v3:Bool) (v4:Int) (v5:Int) (v6:List LL) (v7:List Ae) (v8:LG) (v9:LG) (v10:List Node) (v11:List (LL×Int)) (v12:List LG) (v13:List (Ab×Bool)) (x4:LG):Nat->(Int×Int×LG)->Option (Lo (Int×Int×LG) (Bool×LG))
 | 0,_=>none
 | n+1,z5=>(bif (decide (z5.2.1 < (x4.length:Int))) then (idx x4 z5.2.1).bind λx7=>(g34 x7 z5.2.2 v2 v3 v4 v5 v6 v7 v8 v9 v10 v11 v12 v13).bind λx8=>(bif (!x8.1) then some (.ret (false,x8.2)) else (idx x8.2 x7).bind λx10=>Oo g34 v2 v3 v4 v5 v6 v7 v8 v9 v10 v11 v12 v13 x4 n ((if (wr (x10 + 1)) > z5.1 then (wr (x10 + 1)) else z5.1),(wr (z5.2.1 + 1)),x8.2)) else some (.brk (z5.1,z5.2.1,z5.2.2)))
def m34:Nat->Int->LG->Int->Bool->Int->Int->(List LL)->(List Ae)->LG->LG->(List Node)->(List (LL×Int))->(List LG)->(List (Ab×Bool))->Option (Bool×LG)
 | 0,_,_,_,_,_,_,_,_,_,_,_,_,_,_=>none
 | f+1,v0,v1,v2,v3,v4,v5,v6,v7,v8,v9,v10,v11,v12,v13=>(idx v1 v0).bind λx1=>(bif (x1 != (-1:Int)) then (idx v1 v0).bind λx2=>some ((decide (x2>=(0:Int))),v1) else (idx v1 v0).bind λx3=>(idx v12 v0).bind λx4=>((Oo (m34 f) v2 v3 v4 v5 v6 v7 v8 v9 v10 v11 v12 v13 x4 f ((0:Int),(0:Int),(v1.set v0.toNat (-2:Int)))).bind λo6=>match o6 with | .brk o6s=>(idx o6s.2.2 v0).bind λx11=>some (true,(o6s.2.2.set v0.toNat o6s.1)) | .ret r=>some r))
theorem s34:∀ (f:Nat) (n0:Nat) (n1:Nat) (n2:Nat) (n3:Value) (n4:Nat) (n5:Value) (n6:Value) (n7:Value) (n8:Value) (n9:Value) (n10:Nat) (n11:Value) (n12:Nat) (v0:Int) (v1:LG) (v2:Int) (v3:Bool) (v4:Int) (v5:Int) (v6:List LL) (v7:List Ae) (v8:LG) (v9:LG) (v10:List Node) (v11:List (LL×Int)) (v12:List LG) (v13:List (Ab×Bool)) (r:Bool×LG),m34 f v0 v1 v2 v3 v4 v5 v6 v7 v8 v9 v10 v11 v12 v13=some r->Cg Tryz.prog 34 [Va v0,Qv (pb n0 0),Qv (pb n1 0),Qv (pb n2 0)] [Mr n0 [n3],Ow 3 n3 v1,Mr n1 [(pb n4 0)],Mr n4 [(.int .i64 v2),n5,n6,n7,n8,(.bool v3),(.int .i64 v4),n9,(.map (some n10)),n11,(.map (some n12)),(.int .i64 v5)],At n5 (Va v6),At n6 (Va v7),At n7 (Va v8),At n8 (Va v9),Ow 85 n9 v10,Om n10 (v11:List (LL×Int)),Ow 30 n11 v12,Om n12 (v13:List (Ab×Bool)),Mr n2 [(fv 34 [] [(pb n0 0),(pb n1 0),(pb n2 0)])]] (Rz (λx:Unit=>Va r.1) (λx=>[Mr n0 [n3],Ow 3 n3 r.2,Mr n1 [(pb n4 0)],Mr n4 [(.int .i64 v2),n5,n6,n7,n8,(.bool v3),(.int .i64 v4),n9,(.map (some n10)),n11,(.map (some n12)),(.int .i64 v5)],At n5 (Va v6),At n6 (Va v7),At n7 (Va v8),At n8 (Va v9),Ow 85 n9 v10,Om n10 (v11:List (LL×Int)),Ow 30 n11 v12,Om n12 (v13:List (Ab×Bool)),Mr n2 [(fv 34 [] [(pb n0 0),(pb n1 0),(pb n2 0)])]])):=by
 intro f
 induction f with
 | zero=>intro n0 n1 n2 n3 n4 n5 n6 n7 n8 n9 n10 n11 n12 v0 v1 v2 v3 v4 v5 v6 v7 v8 v9 v10 v11 v12 v13 r hm;cases hm
 | succ f ih=>
 intro n0 n1 n2 n3 n4 n5 n6 n7 n8 n9 n10 n11 n12 v0 v1 v2 v3 v4 v5 v6 v7 v8 v9 v10 v11 v12 v13 r hm;unfold m34 at hm;refine eng func34 kr_ I ntmps34 I I λM W a hM hD s=>?_;refine R 1 s λa w s=>?_;refine se ?_;obtain ⟨x1,hx1,hm⟩:=bk hm;refine R 5 s λa w s=>?_;refine cmf s hm (λhb hm=>?_) λhb hm=>?_
 ·obtain ⟨x2,hx2,hm⟩:=bk hm;refine R 6 s λa w s=>?_;obtain rfl:=si hm;refine wpIn_ret ?_;exact rz [1000,1001,1002,1003,1004,1005,1006,1007,1008,1009,1010,1011,1012] () hM hD s I (rv1 (rt I)) (k4 I I I I (k4 I I I I (k4 I I I I (kc I kn)))) I
 ·obtain ⟨x3,hx3,hm⟩:=bk hm;refine se (rg (ru 3 s λa w s=>stq (k:=1001) s (t I) I (Gu hx3.e) ci λw s=>nl ?_));refine R 1 s λa w s=>?_;refine se ?_;obtain ⟨x4,hx4,hm⟩:=bk hm;refine se (rg (sq s (lrp (K:=1002) (t I) I I kr_) I λa w s=>ru 8 s λa w s=>nl ?_));refine lB hm [0,1,2,3,5,28,29,1000,1002,1003,1004,1005,1006,1007,1008,1009,1010,1011,1012] s (λz5=>[(6,Va z5.1),(30,Va z5.2.1),(1001,Ow 3 n3 z5.2.2)]) s.fi (λ_=>I) (λo6 hko6 n z5 a w hm s=>?_) λo6s hm a w s=>?_
  ·unfold Oo at hm;refine R 1 s λa w s=>?_;refine se (cmt s hm (λhb hm=>?_) λhb hm=>?_)
   ·refine se (wpIn_block ?_);refine se (rg (iB s hm λx7 hm a w s=>ru 2 s λa w s=>nl ?_));refine se ?_;obtain ⟨x8,hx8,hm⟩:=bk hm;refine se (rg (sq s (lrp (K:=1012) (t I) I I kr_) I λa w s=>ru 1 s λa w s=>cgv [1000,1001,1002,1003,1004,1005,1006,1007,1008,1009,1010,1011,1012] [1000,1001,1002,1003,1004,1005,1006,1007,1008,1009,1010,1011,1012] hM s (t I) I (oc (t I) on) vn (vq (vq (vq vn))) (ih n0 n1 n2 n3 n4 n5 n6 n7 n8 n9 n10 n11 n12 _ _ _ _ _ _ _ _ _ _ _ _ _ _ _ hx8.e) (k4 I I I I (k4 I I I I (k4 I I I I (kc I kn)))) I (λ_=>I) I I I λy9 a w s=>ru 1 s λa w s=>nl ?_));refine cmf s hm (λhb hm=>?_) λhb hm=>?_
    ·refine R 1 s λa w s=>?_;obtain rfl:=si hm;replace hm:=hko6;dsimp only at hm;obtain rfl:=si hm;refine wpIn_ret ?_;exact rz [1000,1001,1002,1003,1004,1005,1006,1007,1008,1009,1010,1011,1012] () hM hD s I (rv1 (rt I)) (k4 I I I I (k4 I I I I (k4 I I I I (kc I kn)))) I
    ·obtain ⟨x10,hx10,hm⟩:=bk hm;refine R0 8 s λa w s=>?_;refine R0 2 s λa w s=>?_;exact ⟨_,hm,s.fi⟩
   ·refine wpIn_exit ?_;exact ⟨_,(si hm).symm,s.fi⟩
  ·dsimp only at hm;obtain ⟨x11,hx11,hm⟩:=bk hm;refine se (rg (ru 4 s λa w s=>stq (k:=1001) s (t I) I (Gu hx11.e) (t I) λw s=>nl ?_));refine R 1 s λa w s=>?_;obtain rfl:=si hm;refine wpIn_ret ?_;exact rz [1000,1001,1002,1003,1004,1005,1006,1007,1008,1009,1010,1011,1012] () hM hD s I (rv1 (rt I)) (k4 I I I I (k4 I I I I (k4 I I I I (kc I kn)))) I
def m13 (f:Nat) (v0:Aa) (v1:Ad) (v2:Int):Option (Int×Int):=(m30 f v0 v1 false v2).bind λx1=>match x1 with | .inl x1=>(bif (x1 != 0) then some ((0:Int),x1) else none) | .inr x1=>(bif (x1.1 != 0) then some ((0:Int),x1.1) else (m33 f ([(-1:Int)]:LG) (x1.2.2.2.2.2.2.2.2.2.1.length:Int)).bind λx4=>(m34 f (0:Int) x4 x1.2.1 x1.2.2.1 x1.2.2.2.1 x1.2.2.2.2.1 x1.2.2.2.2.2.1 x1.2.2.2.2.2.2.1 x1.2.2.2.2.2.2.2.1 x1.2.2.2.2.2.2.2.2.1 x1.2.2.2.2.2.2.2.2.2.1 x1.2.2.2.2.2.2.2.2.2.2.1 x1.2.2.2.2.2.2.2.2.2.2.2.1 x1.2.2.2.2.2.2.2.2.2.2.2.2).bind λx8=>(bif (!x8.1) then some ((0:Int),(20:Int)) else (idx x8.2 (0:Int)).bind λx10=>some (x10,(0:Int))))
theorem s13 (f:Nat) (v0:Aa) (v1:Ad) (v2:Int) (r:Int×Int) (hm:m13 f v0 v1 v2=some r):Sp Tryz.prog 13 [Va v0,Va v1,Va v2] (T2 (Va r.1) (Va r.2)):=by
 unfold m13 at hm;refine ens func13 kr_ I ntmps13 I I λM W a hM hD s=>?_;refine R 4 s λa w s=>?_;obtain ⟨x1,hx1,hm⟩:=bk hm;rcases x1 with x1 | x1
 ·dsimp only at hm;refine se (rg (ru 3 s λa w s=>sq s (cc I (oc (t I) (oc (t I) (oc cb (oc (t I) on)))) (smR (R:=(T2 (Qv (.pointer none)) (Va x1))) (s30 f _ _ _ _ _ hx1.e))) I λa w s=>ru 3 s λa w s=>aR 1000 s λb2 a w s=>srq (K:=1000) (cs':=[(.pointer none)]) s (t I) I (t I) kr_ (ocr I) I I λw s=>ru 1 s λa w s=>nl ?_));refine se (R 2 s λa w s=>?_);refine cmf s hm (λhb hm=>?_) λhb hm=>?_
  ·refine R 3 s λa w s=>?_;cases hm;exact rU hD s I I
  ·cases hm
 ·dsimp only at hm;refine se (rg (ru 3 s λa w s=>sqz [1000,1001,1002,1003,1004,1005,1006,1007,1008] hM s (cc I (oc (t I) (oc (t I) (oc cb (oc (t I) on)))) (smR (R:=(Rz (λx:Nat×Value×Value×Value×Value×Value×Nat×Value×Nat=>T2 (Qv (pb x.1 0)) (Va x1.1)) (λx=>[Mr x.1 [(.int .i64 x1.2.1),x.2.1,x.2.2.1,x.2.2.2.1,x.2.2.2.2.1,(.bool x1.2.2.1),(.int .i64 x1.2.2.2.1),x.2.2.2.2.2.1,(.map (some x.2.2.2.2.2.2.1)),x.2.2.2.2.2.2.2.1,(.map (some x.2.2.2.2.2.2.2.2)),(.int .i64 x1.2.2.2.2.1)],At x.2.1 (Va x1.2.2.2.2.2.1),At x.2.2.1 (Va x1.2.2.2.2.2.2.1),At x.2.2.2.1 (Va x1.2.2.2.2.2.2.2.1),At x.2.2.2.2.1 (Va x1.2.2.2.2.2.2.2.2.1),Ow 85 x.2.2.2.2.2.1 x1.2.2.2.2.2.2.2.2.2.1,Om x.2.2.2.2.2.2.1 (x1.2.2.2.2.2.2.2.2.2.2.1:List (LL×Int)),Ow 30 x.2.2.2.2.2.2.2.1 x1.2.2.2.2.2.2.2.2.2.2.2.1,Om x.2.2.2.2.2.2.2.2 (x1.2.2.2.2.2.2.2.2.2.2.2.2:List (Ab×Bool))]))) (s30 f _ _ _ _ _ hx1.e))) (λ_=>I) I I λy2 a w s=>ru 3 s λa w s=>aR 1009 s λb3 a w s=>srq (K:=1009) (cs':=[(pb y2.1 0)]) s (t I) I (t I) kr_ (ocr I) I I λw s=>ru 1 s λa w s=>nl ?_));refine se (R 2 s λa w s=>?_);refine cmf s hm (λhb hm=>?_) λhb hm=>?_
  ·refine R 3 s λa w s=>?_;cases hm;exact rU hD s I I
  ·obtain ⟨x4,hx4,hm⟩:=bk hm;refine se (rg (ru 1 s λa w s=>sq s (lrp (K:=1009) (t I) I I kr_) I λa w s=>ru 4 s λa w s=>sqz [1010] hM s (cc I (oc (t I) (oc (t I) on)) (s33 f _ _ _ hx4.e)) (λ_=>I) I I λy5 a w s=>aR 1011 s λb6 a w s=>srq (K:=1011) (cs':=[y5]) s (t I) I (t I) kr_ (oco (k:=1010) I) I I λw s=>nl ?_));refine se (rg (sqr 1012 s (alr (cs:=[.nilFunc]) (z:=.nilFunc) kr_ I I) I I λb7 a w s=>nl ?_));refine se (rg (sq s (mkf I I qn (qc (t I) (qc (t I) (qc (t I) qn)))) I λa w s=>srq (K:=1012) (cs':=[(fv 34 [] [(pb b6 0),(pb b3 0),(pb b7 0)])]) s (t I) I (t I) kr_ (ocr I) I I λw s=>nl ?_));refine se ?_;obtain ⟨x8,hx8,hm⟩:=bk hm;refine se (rg (sq s (lrp (K:=1012) (t I) I I kr_) I λa w s=>cgv [1011,1010,1009,1000,1001,1002,1003,1004,1005,1006,1007,1008,1012] [1011,1010,1009,1000,1001,1002,1003,1004,1005,1006,1007,1008,1012] hM s (t I) I (oc ci on) vn (vq (vq (vq vn))) (s34 f b6 b3 b7 y5 y2.1 y2.2.1 y2.2.2.1 y2.2.2.2.1 y2.2.2.2.2.1 y2.2.2.2.2.2.1 y2.2.2.2.2.2.2.1 y2.2.2.2.2.2.2.2.1 y2.2.2.2.2.2.2.2.2 _ _ _ _ _ _ _ _ _ _ _ _ _ _ _ hx8.e) (k4 I I I I (k4 I I I I (k4 I I I I (kc I kn)))) I (λ_=>I) I I I λy9 a w s=>ru 1 s λa w s=>nl ?_));refine cmf s hm (λhb hm=>?_) λhb hm=>?_
   ·refine R 2 s λa w s=>?_;cases hm;exact rU hD s I I
   ·obtain ⟨x10,hx10,hm⟩:=bk hm;refine R 5 s λa w s=>?_;cases hm;exact rU hD s I I
def Eq (x1:Int×Int×Bool×Int×Int×(List LL)×(List Ae)×LG×LG×(List Node)×(List (LL×Int))×(List LG)×(List (Ab×Bool))) (z3:Int×(List Ab)):Nat->(Int×(List Ab))->Option (Int×(List Ab))
 | 0,_=>none
 | n+1,z6=>(bif (decide (z6.1 < (([false,true]:LH).length:Int))) then (idx ([false,true]:LH) z6.1).bind λx8=>(bif (!((mat Jx x1.2.2.2.2.2.2.2.2.2.2.2.2 (⟨z3.1,x8⟩:Ab)).getD false)) then (app z6.2 ([(⟨z3.1,x8⟩:Ab)]:List Ab)).bind λx11=>some x11 else some z6.2).bind λz10=>Eq x1 z3 n ((wr (z6.1 + 1)),z10) else some (z6.1,z6.2))
def Pb (f:Nat) (v0:Aa) (x1:Int×Int×Bool×Int×Int×(List LL)×(List Ae)×LG×LG×(List Node)×(List (LL×Int))×(List LG)×(List (Ab×Bool))):Nat->(Int×(List Ab))->Option (Int×(List Ab))
 | 0,_=>none
 | n+1,z3=>(bif (decide (z3.1 < v0.Actuators)) then (Eq x1 z3 f ((0:Int),z3.2)).bind λo7s=>Pb f v0 x1 n ((wr (z3.1 + 1)),o7s.2) else some (z3.1,z3.2))
def E4 :Nat->Unit->Option (Unit)
 | 0,_=>none
 | n+1,z4=>(bif (decide ((0:Int) < (([false,true]:LH).length:Int))) then none else some ())
def A8 (f:Nat) (v0:Aa):Nat->Int->Option (Int)
 | 0,_=>none
 | n+1,z2=>(bif (decide (z2 < v0.Actuators)) then (E4 f ()).bind λo5s=>A8 f v0 n (wr (z2 + 1)) else some z2)
def m14 (f:Nat) (v0:Aa) (v1:Ad) (v2:Int):Option ((List Ab)×Int):=(m30 f v0 v1 true v2).bind λx1=>match x1 with | .inl x1=>(bif (x1 != 0) then some (([]:List Ab),x1) else (A8 f v0 f (0:Int)).bind λo3s=>some (([]:List Ab),(0:Int))) | .inr x1=>(bif (x1.1 != 0) then some (([]:List Ab),x1.1) else (Pb f v0 x1 f ((0:Int),([]:List Ab))).bind λo4s=>some (o4s.2,(0:Int)))
theorem s14 (f:Nat) (v0:Aa) (v1:Ad) (v2:Int) (r:(List Ab)×Int) (hm:m14 f v0 v1 v2=some r):Sp Tryz.prog 14 [Va v0,Va v1,Va v2] (T2 (Va r.1) (Va r.2)):=by
 unfold m14 at hm;refine ens func14 kr_ I ntmps14 I I λM W a hM hD s=>?_;refine R 4 s λa w s=>?_;obtain ⟨x1,hx1,hm⟩:=bk hm;rcases x1 with x1 | x1
 ·dsimp only at hm;refine se (rg (ru 3 s λa w s=>sq s (cc I (oc (t I) (oc (t I) (oc cb (oc (t I) on)))) (smR (R:=(T2 (Qv (.pointer none)) (Va x1))) (s30 f _ _ _ _ _ hx1.e))) I λa w s=>ru 5 s λa w s=>nl ?_));refine se (R 2 s λa w s=>?_);refine cmf s hm (λhb hm=>?_) λhb hm=>?_
  ·refine R 3 s λa w s=>?_;cases hm;exact rU hD s I I
  ·refine R 1 s λa w s=>?_;refine se (R 3 s λa w s=>?_);refine lA hm [0,1,2,3,4,6,7,8,9,10,26] s (λz2=>[(27,Va z2)]) s.fi (λ_=>I) (λo3s hko3 n z2 a w hm s=>?_) λo3s hm a w s=>?_
   ·unfold A8 at hm;refine R 1 s λa w s=>?_;refine se (cmt s hm (λhb hm=>?_) λhb hm=>?_)
    ·refine se (wpIn_block ?_);refine R 2 s λa w s=>?_;refine R 3 s λa w s=>?_;refine lA hm [0,1,2,3,4,6,7,8,9,10,11,26,27,30,31,32] s (λz4=>[]) s.fi (λ_=>I) (λo5s hko5 n z4 a w hm s=>?_) λo5s hm a w s=>?_
     ·unfold E4 at hm;refine R 1 s λa w s=>?_;refine se (cmt s hm (λhb hm=>?_) λhb hm=>?_)
      ·refine se (wpIn_block ?_);cases hm
      ·refine wpIn_exit ?_;obtain rfl:=si hm;exact s.fi
     ·refine R0 2 s λa w s=>?_;exact ⟨_,hm,s.fi⟩
    ·refine wpIn_exit ?_;obtain rfl:=si hm;exact s.fi
   ·refine R 3 s λa w s=>?_;cases hm;exact rU hD s I I
 ·dsimp only at hm;refine se (rg (ru 3 s λa w s=>sqz [1000,1001,1002,1003,1004,1005,1006,1007,1008] hM s (cc I (oc (t I) (oc (t I) (oc cb (oc (t I) on)))) (smR (R:=(Rz (λx:Nat×Value×Value×Value×Value×Value×Nat×Value×Nat=>T2 (Qv (pb x.1 0)) (Va x1.1)) (λx=>[Mr x.1 [(.int .i64 x1.2.1),x.2.1,x.2.2.1,x.2.2.2.1,x.2.2.2.2.1,(.bool x1.2.2.1),(.int .i64 x1.2.2.2.1),x.2.2.2.2.2.1,(.map (some x.2.2.2.2.2.2.1)),x.2.2.2.2.2.2.2.1,(.map (some x.2.2.2.2.2.2.2.2)),(.int .i64 x1.2.2.2.2.1)],At x.2.1 (Va x1.2.2.2.2.2.1),At x.2.2.1 (Va x1.2.2.2.2.2.2.1),At x.2.2.2.1 (Va x1.2.2.2.2.2.2.2.1),At x.2.2.2.2.1 (Va x1.2.2.2.2.2.2.2.2.1),Ow 85 x.2.2.2.2.2.1 x1.2.2.2.2.2.2.2.2.2.1,Om x.2.2.2.2.2.2.1 (x1.2.2.2.2.2.2.2.2.2.2.1:List (LL×Int)),Ow 30 x.2.2.2.2.2.2.2.1 x1.2.2.2.2.2.2.2.2.2.2.2.1,Om x.2.2.2.2.2.2.2.2 (x1.2.2.2.2.2.2.2.2.2.2.2.2:List (Ab×Bool))]))) (s30 f _ _ _ _ _ hx1.e))) (λ_=>I) I I λy2 a w s=>ru 5 s λa w s=>nl ?_));refine se (R 2 s λa w s=>?_);refine cmf s hm (λhb hm=>?_) λhb hm=>?_
  ·refine R 3 s λa w s=>?_;cases hm;exact rU hD s I I
  ·refine R 1 s λa w s=>?_;refine se (R 3 s λa w s=>?_);refine Fi (α:=Ab) (d:=10) 1009 68 s I I λc5 s=>?_;refine lA1 hm [0,1,2,3,4,6,7,8,9,26,1000,1001,1002,1003,1004,1005,1006,1007,1008] s (λz3 z3c0=>[(10,Qv z3c0),(27,Va z3.1),(1009,Ow 68 z3c0 z3.2)]) ⟨c5,s.fi⟩ (λ_=>I) (λo4s hko4 n z3 a w hm s=>?_) λo4s hm a w s=>?_
   ·obtain ⟨z3c0,s⟩:=s;unfold Pb at hm;refine R 1 s λa w s=>?_;refine se (cmt s hm (λhb hm=>?_) λhb hm=>?_)
    ·refine se (wpIn_block ?_);refine R 2 s λa w s=>?_;refine R 3 s λa w s=>?_;refine lA1 hm [0,1,2,3,4,6,7,8,9,11,26,27,30,31,1000,1001,1002,1003,1004,1005,1006,1007,1008] s (λz6 z6c0=>[(10,Qv z6c0),(32,Va z6.1),(1009,Ow 68 z6c0 z6.2)]) ⟨z3c0,s.fi⟩ (λ_=>I) (λo7s hko7 n z6 a w hm s=>?_) λo7s hm a w s=>?_
     ·obtain ⟨z6c0,s⟩:=s;unfold Eq at hm;refine R 1 s λa w s=>?_;refine se (cmt s hm (λhb hm=>?_) λhb hm=>?_)
      ·refine se (wpIn_block ?_);refine se (rg (iB s hm λx8 hm a w s=>ru 2 s λa w s=>nl ?_));refine se (rg (ru 2 s λa w s=>sq s (Sc (t I) (t I)) I λa w s=>sqb 1010 s (al (z:=(⟨(0:Int),false⟩:Ab))) I I λb9 a w s=>sw (K:=1010) s (t I) I (t I) I λw s=>nl ?_));refine se (Ht s (m:=7) (.cons (.cons (.cons (.cons (.cons (.cons (.cons .nil I (mvq (t I))) I (nkq (t I))) I (fm_ (off:=10) (m:=0) (q:=10) (t I) kr_ I)) I (lrp (K:=1000) (t I) I I kr_)) I (lm (K:=1010) (t I) I)) I (lkm (K:=68) (E:=4) (KK:=1008) (z:=false) (t I) I (t I) kr_ kr_)) I (nt (t I))) kr_ I I λa w s=>nl ?_);obtain ⟨z10,hz10,hkz10⟩:=bs hm;refine cP1 [0,1,2,3,4,6,7,8,9,11,13,14,26,27,30,31,32,1000,1001,1002,1003,1004,1005,1006,1007,1008,1010] s (λz10c0=>[(10,Qv z10c0),(1009,Ow 68 z10c0 z10)]) ?_ λa w s=>?_
       ·refine cm s I hz10 (λhb hm=>?_) (λhb hm=>?_)
        ·obtain ⟨x11,hx11,hm⟩:=bk hm;refine rg (ru 3 s λa w s=>apd (α:=Ab) (k:=1009) s (t I) I (t I) hx11.e I I λc12 a w s=>ru 1 s λa w s=>nl ?_);obtain rfl:=si hm;exact ⟨c12,s.fi⟩
        ·refine wpIn_skip ?_;obtain rfl:=si hm;exact ⟨z6c0,s.fi⟩
       ·obtain ⟨z10c0,s⟩:=s;replace hm:=hkz10;refine R0 2 s λa w s=>?_;exact ⟨_,hm,⟨z10c0,s.fi⟩⟩
      ·refine wpIn_exit ?_;obtain rfl:=si hm;exact ⟨z6c0,s.fi⟩
     ·obtain ⟨o7sc0,s⟩:=s;refine R0 2 s λa w s=>?_;exact ⟨_,hm,⟨o7sc0,s.fi⟩⟩
    ·refine wpIn_exit ?_;obtain rfl:=si hm;exact ⟨z3c0,s.fi⟩
   ·obtain ⟨o4sc0,s⟩:=s;refine R 3 s λa w s=>?_;obtain rfl:=si hm;refine fzk (α:=Ab) (k:=1009) hM s I λs=>?_;refine wpIn_ret ?_;exact rn hD s I (rv2 (ro (ta (k:=1009) (t I) I)) (rt I))
def m17 (f:Nat) (v0:Bool):Option (Aa):=(bif v0 then (idx ([(⟨(⟨#[111,117,116]⟩:LL),(0:Int),(⟨(1:Int),(2:Int),([]:List Expr)⟩:Expr),(⟨(0:Int),(0:Int),([]:List Expr)⟩:Expr),(0:Int),false⟩:Ae),(⟨(⟨#[105,110]⟩:LL),(0:Int),(⟨(0:Int),(0:Int),([]:List Expr)⟩:Expr),(⟨(0:Int),(0:Int),([]:List Expr)⟩:Expr),(0:Int),false⟩:Ae)]:List Ae) (1:Int)).bind λx9=>some (([(⟨(⟨#[111,117,116]⟩:LL),(0:Int),(⟨(1:Int),(2:Int),([]:List Expr)⟩:Expr),(⟨(0:Int),(0:Int),([]:List Expr)⟩:Expr),(0:Int),false⟩:Ae),(⟨(⟨#[105,110]⟩:LL),(0:Int),(⟨(0:Int),(0:Int),([]:List Expr)⟩:Expr),(⟨(0:Int),(0:Int),([]:List Expr)⟩:Expr),(0:Int),false⟩:Ae)]:List Ae).set (1:Int).toNat { x9 with On:=(⟨(2:Int),(0:Int),([(⟨(1:Int),(2:Int),([]:List Expr)⟩:Expr)]:List Expr)⟩:Expr) }) else some ([(⟨(⟨#[111,117,116]⟩:LL),(0:Int),(⟨(1:Int),(2:Int),([]:List Expr)⟩:Expr),(⟨(0:Int),(0:Int),([]:List Expr)⟩:Expr),(0:Int),false⟩:Ae),(⟨(⟨#[105,110]⟩:LL),(0:Int),(⟨(0:Int),(0:Int),([]:List Expr)⟩:Expr),(⟨(0:Int),(0:Int),([]:List Expr)⟩:Expr),(0:Int),false⟩:Ae)]:List Ae)).bind λz8=>some (⟨(1:Int),([(⟨#[103,111]⟩:LL)]:List LL),z8,([(3:Int)]:LG),([(4:Int)]:LG)⟩:Aa)
theorem s17 (f:Nat) (v0:Bool) (r:Aa) (hm:m17 f v0=some r):Sp Tryz.prog 17 [Va v0] (Va r):=by
 unfold m17 at hm;refine ens func17 kr_ I ntmps17 I I λM W a hM hD s=>?_;refine se (rg (sqr 1000 s (alr (cs:=[(.int .i64 0),nz,nz,nz,nz]) (z:=.agg #[(.int .i64 0),nz,nz,nz,nz]) kr_ I I) I I λb1 a w s=>nl ?_));refine se (rg (sq s (Yb ci ci) I λa w s=>aR 1001 s λb2 a w s=>sW s I λw s=>nl ?_));refine se (rg (sqo 1002 s (bso (o1 cs o0) I I kr_) I I λc3 a w s=>ru 1 s λa w s=>sq s (EF cs (t I)) I λa w s=>sq s (bl98_0 cs) I λa w s=>sqo 1003 s (bso (o1 (t I) (o1 (t I) o0)) I I kr_) I I λc4 a w s=>sqo 1004 s (bso (o1 ci o0) I I kr_) I I λc5 a w s=>sqo 1005 s (bso (o1 ci o0) I I kr_) I I λc6 a w s=>sq s (bla (L:=[(0,1),(1,1),(2,1),(3,1),(4,1)]) (z:=[(.int .i64 0),nz,nz,nz,nz]) (res:=[(.int .i64 (1:Int)),c3,c4,c5,c6]) I kr_ kr_ (pdq (iq ci) (ocr I) (pdq (t I) (oco (k:=1002) I) (pdq (t I) (oco (k:=1003) I) (pdq (t I) (oco (k:=1004) I) (pdq (t I) (oco (k:=1005) I) pdn))))) I I) I λa w s=>aR 1006 s λb7 a w s=>sra (K:=1006) (m:=[(.int .i64 (1:Int)),c3,c4,c5,c6]) (cs':=[(.int .i64 (1:Int)),c3,c4,c5,c6]) s (t I) I (t I) kr_ I I I λw s=>nl ?_));refine se (R 1 s λa w s=>?_);obtain ⟨z8,hz8,hkz8⟩:=bs hm;refine cP [0,2,3,4,1000,1001,1006,1002,1004,1005] s [(1003,Ow 98 c4 z8)] ?_ λa w s=>?_
 ·refine cm s I hz8 (λhb hm=>?_) (λhb hm=>?_)
  ·obtain ⟨x9,hx9,hm⟩:=bk hm;refine rg (ru 4 s λa w s=>sq s (Ry ci (t I)) I λa w s=>ru 1 s λa w s=>sq s (fmq (fo:=2) (m:=2) (t I) kr_) I λa w s=>stqf (k:=1003) (off:=2) s (t I) I (Gu hx9.e) (t I) λw s=>nl ?_);obtain rfl:=si hm;exact s.fi
  ·refine wpIn_skip ?_;obtain rfl:=si hm;exact s.fi
 ·replace hm:=hkz8;refine se (rg (sq s (lra (K:=1006) (ds:=[(.int .i64 (1:Int)),c3,c4,c5,c6]) Aa (t I) I I I I) I λa w s=>sra (K:=1000) (m:=[(.int .i64 (1:Int)),c3,c4,c5,c6]) (cs':=[(.int .i64 (1:Int)),c3,c4,c5,c6]) s (t I) I (t I) kr_ I I I λw s=>nl ?_));obtain rfl:=si hm;refine fzk (α:=LL) (k:=1002) hM s I λs=>?_;refine fzk (α:=Ae) (k:=1003) hM s I λs=>?_;refine fzk (α:=Int) (k:=1004) hM s I λs=>?_;refine fzk (α:=Int) (k:=1005) hM s I λs=>?_;refine Sf (k:=1000) (x:=(⟨(1:Int),([(⟨#[103,111]⟩:LL)]:List LL),z8,([(3:Int)]:LG),([(4:Int)]:LG)⟩:Aa)) s I (Ss (l:=([(.int .i64 (1:Int))],[c3],[c4],[c5],[c6])) rpi (rpz (k:=1002) I) (rpz (k:=1003) I) (rpz (k:=1004) I) (rpz (k:=1005) I)) λs=>?_;refine wpIn_ret ?_;exact rn hD s I (rv1 (rc (K:=1000) I I))
def m41 (f:Nat) (v0:LG):Option (Bool):=some ((v0.length:Int) == 0)
theorem s41 (f:Nat) (v0:LG) (r:Bool) (hm:m41 f v0=some r):Sp Tryz.prog 41 [Va v0] (Va r):=by
 unfold m41 at hm;refine ens func41 kr_ I ntmps41 I I λM W a hM hD s=>?_;refine R 1 s λa w s=>?_;refine R 4 s λa w s=>?_;cases hm;exact rT hD s I I
def AU (f:Nat) (v0:List LG):Nat->Int->Option (Lo (Int) (Int))
 | 0,_=>none
 | n+1,z1=>(bif (decide (z1 < (v0.length:Int))) then (idx v0 z1).bind λx3=>(m41 f x3).bind λx4=>(bif x4 then some (.ret z1) else AU f v0 n (wr (z1 + 1))) else some (.brk z1))
def m40 (f:Nat) (v0:List LG):Option (Int):=((AU f v0 f (0:Int)).bind λo2=>match o2 with | .brk o2s=>some (-1:Int) | .ret r=>some r)
theorem s40 (f:Nat) (v0:List LG) (r:Int) (hm:m40 f v0=some r):Sp Tryz.prog 40 [Va v0,Qv (fv 41 [] [])] (Va r):=by
 unfold m40 at hm;refine ens func40 kr_ I ntmps40 I I λM W a hM hD s=>?_;refine R 1 s λa w s=>?_;refine se (R 3 s λa w s=>?_);refine lB hm [0,1,4,7] s (λz1=>[(8,Va z1)]) s.fi (λ_=>I) (λo2 hko2 n z1 a w hm s=>?_) λo2s hm a w s=>?_
 ·unfold AU at hm;refine R 1 s λa w s=>?_;refine se (cmt s hm (λhb hm=>?_) λhb hm=>?_)
  ·refine se (wpIn_block ?_);refine R 2 s λa w s=>?_;obtain ⟨x3,hx3,hm⟩:=bk hm;obtain ⟨x4,hx4,hm⟩:=bk hm;refine se (rg (ru 5 s λa w s=>sq s (ccv (t I) I (oc (t I) on) vn vn (s41 f _ _ hx4.e)) I λa w s=>nl ?_));refine cmf s hm (λhb hm=>?_) λhb hm=>?_
   ·refine R 2 s λa w s=>?_;obtain rfl:=si hm;replace hm:=hko2;dsimp only at hm;cases hm;exact rT hD s I I
   ·refine R0 2 s λa w s=>?_;exact ⟨_,hm,s.fi⟩
  ·refine wpIn_exit ?_;exact ⟨_,(si hm).symm,s.fi⟩
 ·dsimp only at hm;refine R 1 s λa w s=>?_;cases hm;exact rT hD s I I
def Qr :Nat->(Int×Int×(List Af))->Option (Int×Int×(List Af))
 | 0,_=>none
 | n+1,z1=>(bif (decide (z1.1 < z1.2.1)) then (idx z1.2.2 z1.2.1).bind λx3=>(idx z1.2.2 z1.1).bind λx4=>(idx z1.2.2 z1.1).bind λx5=>(idx (z1.2.2.set z1.1.toNat x3) z1.2.1).bind λx6=>Qr n ((wr (z1.1 + 1)),(wr (z1.2.1 - 1)),((z1.2.2.set z1.1.toNat x3).set z1.2.1.toNat x4)) else some (z1.1,z1.2.1,z1.2.2))
def m73_1 (f:Nat) (v0:List Af):Option ((List Af)):=(Qr f ((0:Int),(wr ((v0.length:Int) - 1)),v0)).bind λo2s=>some o2s.2.2
theorem s73_1 (f:Nat) (n0:Value) (v0:List Af) (r:(List Af)) (hm:m73_1 f v0=some r):Cg Tryz.prog 73 [Qv n0] [Ow 46 n0 v0] (Rz (λx:Unit=>Dd) (λx=>[Ow 46 n0 r])):=by
 unfold m73_1 at hm;refine eng func73 kr_ I ntmps73 I I λM W a hM hD s=>?_;refine R 5 s λa w s=>?_;refine lA hm [0] s (λz1=>[(2,Va z1.1),(3,Va z1.2.1),(1000,Ow 46 n0 z1.2.2)]) s.fi (λ_=>I) (λo2s hko2 n z1 a w hm s=>?_) λo2s hm a w s=>?_
 ·unfold Qr at hm;refine se (R 3 s λa w s=>?_);refine cmt s hm (λhb hm=>?_) λhb hm=>?_
  ·refine se (wpIn_block ?_);obtain ⟨x3,hx3,hm⟩:=bk hm;obtain ⟨x4,hx4,hm⟩:=bk hm;obtain ⟨x5,hx5,hm⟩:=bk hm;obtain ⟨x6,hx6,hm⟩:=bk hm;refine By [(0,Qv n0),(3,Va z1.2.1)] [0,1,4,5,6,7,8,9,10,11,12] [14,15,18,19,20,21,22,23,24,25,26] [] [] [17,16] [(13,[]),(14,[17,16]),(15,[])] s (.skip (.skip (.skip (.cons (.cons (.cons (.cons (.cons (.cons (.cons (.cons (.cons (.late (.late (.cons (.cons .nil I I (mvq (t I))) I I (mv (t I))) I I (mvq (t I))) I I (mv (t I))) I I (mvq (t I))) I I (mv (t I))) I I (ixq (α:=Af) (k:=1000) (t I) I (t I) hx3.e)) I I (lq (k:=1000) (t I) I (Gu hx3.e))) I I (mvq (t I))) I I (mv (t I))) I I (ixq (α:=Af) (k:=1000) (t I) I (t I) hx4.e)) I I (lq (k:=1000) (t I) I (Gu hx4.e))) I I (ixq (α:=Af) (k:=1000) (t I) I (t I) hx5.e)) I) I) I) kr_ kr_ I I (sb1 I (sb1 I sb0)) I (by decide) I I ?_;refine ⟨⟨λ_=>I,I,.inr ⟨(sb1 I (sb1 I sb0)),sb0,sn0⟩⟩,by kernel_rfl,_,I,λΨ a w s=>stq (k:=1000) s (t I) I (Gu hx5.e) (t I) λw s=>nl ?_⟩;refine nxt Ψ s ?_;refine ⟨⟨λ_=>I,I,.inr ⟨(sb1 I (sb1 I sb0)),sb0,sn0⟩⟩,by kernel_rfl,_,I,λΨ a w s=>sq s (ixq (α:=Af) (k:=1000) (t I) I (t I) hx6.e) I λa w s=>nl ?_⟩;refine nxt Ψ s ?_;refine ⟨⟨λ_=>I,I,.inl I⟩,by kernel_rfl,_,I,λΨ a w s=>stq (k:=1000) s (t I) I (Gu hx6.e) (t I) λw s=>nl ?_⟩;refine nxt Ψ s ?_;refine ⟨⟨λ_=>I,I,.inl I⟩,λa w s=>?_⟩;replace s:St M W 28 [(0,Qv n0),(2,Va z1.1),(3,Va z1.2.1),(1000,Ow 46 n0 (((z1.2.2.set z1.1.toNat x3).set z1.2.1.toNat x4)))] a w:=s.pick [0,2,3,1000];refine R0 6 s λa w s=>?_;exact ⟨_,hm,s.fi⟩
  ·refine wpIn_exit ?_;obtain rfl:=si hm;exact s.fi
 ·obtain rfl:=si hm;exact rze [1000] () hM hD s I rv0 (kc I kn) I
def AT (v9:List Node):Nat->(Int×(List Af))->Option (Int×(List Af))
 | 0,_=>none
 | n+1,z1=>(idx v9 z1.1).bind λx4=>(bif (decide (x4.by_>=(0:Int))) then (idx v9 z1.1).bind λx5=>(app z1.2 ([x5.event]:List Af)).bind λx6=>(idx v9 z1.1).bind λx8=>AT v9 n (x8.by_,x6) else some (z1.1,z1.2))
def m42 (f:Nat) (v0:Int) (v1:Int) (v2:Bool) (v3:Int) (v4:Int) (v5:List LL) (v6:List Ae) (v7:LG) (v8:LG) (v9:List Node) (v10:List (LL×Int)) (v11:List LG) (v12:List (Ab×Bool)):Option ((List Af)):=(AT v9 f (v0,([]:List Af))).bind λo2s=>(m73_1 f o2s.2).bind λx9=>some x9
theorem s42 (f:Nat) (n0:Nat) (n1:Value) (n2:Value) (n3:Value) (n4:Value) (n5:Value) (n6:Nat) (n7:Value) (n8:Nat) (v0:Int) (v1:Int) (v2:Bool) (v3:Int) (v4:Int) (v5:List LL) (v6:List Ae) (v7:LG) (v8:LG) (v9:List Node) (v10:List (LL×Int)) (v11:List LG) (v12:List (Ab×Bool)) (r:(List Af)) (hm:m42 f v0 v1 v2 v3 v4 v5 v6 v7 v8 v9 v10 v11 v12=some r):Cg Tryz.prog 42 [Qv (pb n0 0),Va v0] [Mr n0 [(.int .i64 v1),n1,n2,n3,n4,(.bool v2),(.int .i64 v3),n5,(.map (some n6)),n7,(.map (some n8)),(.int .i64 v4)],At n1 (Va v5),At n2 (Va v6),At n3 (Va v7),At n4 (Va v8),Ow 85 n5 v9,Om n6 (v10:List (LL×Int)),Ow 30 n7 v11,Om n8 (v12:List (Ab×Bool))] (Rz (λx:Unit=>Va r) (λx=>[Mr n0 [(.int .i64 v1),n1,n2,n3,n4,(.bool v2),(.int .i64 v3),n5,(.map (some n6)),n7,(.map (some n8)),(.int .i64 v4)],At n1 (Va v5),At n2 (Va v6),At n3 (Va v7),At n4 (Va v8),Ow 85 n5 v9,Om n6 (v10:List (LL×Int)),Ow 30 n7 v11,Om n8 (v12:List (Ab×Bool))])):=by
 unfold m42 at hm;refine eng func42 kr_ I ntmps42 I I λM W a hM hD s=>?_;refine R 1 s λa w s=>?_;refine R 1 s λa w s=>?_;refine se (Fi (α:=Af) (d:=5) 1009 46 s I I λc3 s=>?_);refine lA1 hm [0,4,1000,1001,1002,1003,1004,1005,1006,1007,1008] s (λz1 z1c0=>[(1,Va z1.1),(5,Qv z1c0),(1009,Ow 46 z1c0 z1.2)]) ⟨c3,s.fi⟩ (λ_=>I) (λo2s hko2 n z1 a w hm s=>?_) λo2s hm a w s=>?_
 ·obtain ⟨z1c0,s⟩:=s;unfold AT at hm;refine se ?_;obtain ⟨x4,hx4,hm⟩:=bk hm;refine se (rg (ru 6 s λa w s=>sq s (fmq (fo:=5) (m:=0) (t I) kr_) I λa w s=>sq s (lqf (k:=1005) (f:=Node.by_) (t I) I (Gu hx4.e)) I λa w s=>ru 1 s λa w s=>nl ?_));refine cmt s hm (λhb hm=>?_) λhb hm=>?_
  ·refine se (wpIn_block ?_);obtain ⟨x5,hx5,hm⟩:=bk hm;obtain ⟨x6,hx6,hm⟩:=bk hm;refine rg (ru 7 s λa w s=>sq s (fmq (fo:=6) (m:=2) (t I) kr_) I λa w s=>sq s (lqf (k:=1005) (f:=Node.event) (t I) I (Gu hx5.e)) I λa w s=>ru 1 s λa w s=>apd (α:=Af) (k:=1009) s (t I) I (t I) hx6.e I I λc7 a w s=>ru 1 s λa w s=>nl ?_);obtain ⟨x8,hx8,hm⟩:=bk hm;refine rg (ru 6 s λa w s=>sq s (fmq (fo:=5) (m:=0) (t I) kr_) I λa w s=>sq s (lqf (k:=1005) (f:=Node.by_) (t I) I (Gu hx8.e)) I λa w s=>ru 1 s λa w s=>nl ?_);exact ⟨_,hm,⟨c7,s.fi⟩⟩
  ·refine wpIn_exit ?_;obtain rfl:=si hm;exact ⟨z1c0,s.fi⟩
 ·obtain ⟨o2sc0,s⟩:=s;obtain ⟨x9,hx9,hm⟩:=bk hm;refine se (rg (ru 1 s λa w s=>cgv [1009] [1009] hM s qf I (oc (t I) on) vn vn (s73_1 f o2sc0 _ _ hx9.e) (kc I kn) I (λ_=>I) I I I λy10 a w s=>nl ?_));refine R 2 s λa w s=>?_;obtain rfl:=si hm;refine fzk (α:=Af) (k:=1009) hM s I λs=>?_;refine wpIn_ret ?_;exact rz [1000,1001,1002,1003,1004,1005,1006,1007,1008] () hM hD s I (rv1 (ro (ta (k:=1009) (t I) I))) (k4 I I I I (k4 I I I I (kc I kn))) I
def m19 (f:Nat) (v0:Aa) (v1:Ad) (v2:Int):Option ((List Af)×Bool×Int):=(m30 f v0 v1 false v2).bind λx1=>match x1 with | .inl x1=>(bif (x1 != 0) then some (([]:List Af),false,x1) else none) | .inr x1=>(bif (x1.1 != 0) then some (([]:List Af),false,x1.1) else (m40 f x1.2.2.2.2.2.2.2.2.2.2.2.1).bind λx3=>(bif (decide (x3 < 0)) then some (([]:List Af),false,(0:Int)) else (m42 f x3 x1.2.1 x1.2.2.1 x1.2.2.2.1 x1.2.2.2.2.1 x1.2.2.2.2.2.1 x1.2.2.2.2.2.2.1 x1.2.2.2.2.2.2.2.1 x1.2.2.2.2.2.2.2.2.1 x1.2.2.2.2.2.2.2.2.2.1 x1.2.2.2.2.2.2.2.2.2.2.1 x1.2.2.2.2.2.2.2.2.2.2.2.1 x1.2.2.2.2.2.2.2.2.2.2.2.2).bind λx4=>some (x4,true,(0:Int))))
theorem s19 (f:Nat) (v0:Aa) (v1:Ad) (v2:Int) (r:(List Af)×Bool×Int) (hm:m19 f v0 v1 v2=some r):Sp Tryz.prog 19 [Va v0,Va v1,Va v2] (T3 (Va r.1) (Va r.2.1) (Va r.2.2)):=by
 unfold m19 at hm;refine ens func19 kr_ I ntmps19 I I λM W a hM hD s=>?_;refine R 5 s λa w s=>?_;obtain ⟨x1,hx1,hm⟩:=bk hm;rcases x1 with x1 | x1
 ·dsimp only at hm;refine se (rg (ru 3 s λa w s=>sq s (cc I (oc (t I) (oc (t I) (oc cb (oc (t I) on)))) (smR (R:=(T2 (Qv (.pointer none)) (Va x1))) (s30 f _ _ _ _ _ hx1.e))) I λa w s=>ru 5 s λa w s=>nl ?_));refine se (R 2 s λa w s=>?_);refine cmf s hm (λhb hm=>?_) λhb hm=>?_
  ·refine R 4 s λa w s=>?_;cases hm;exact rV hD s I I
  ·cases hm
 ·dsimp only at hm;refine se (rg (ru 3 s λa w s=>sqz [1000,1001,1002,1003,1004,1005,1006,1007,1008] hM s (cc I (oc (t I) (oc (t I) (oc cb (oc (t I) on)))) (smR (R:=(Rz (λx:Nat×Value×Value×Value×Value×Value×Nat×Value×Nat=>T2 (Qv (pb x.1 0)) (Va x1.1)) (λx=>[Mr x.1 [(.int .i64 x1.2.1),x.2.1,x.2.2.1,x.2.2.2.1,x.2.2.2.2.1,(.bool x1.2.2.1),(.int .i64 x1.2.2.2.1),x.2.2.2.2.2.1,(.map (some x.2.2.2.2.2.2.1)),x.2.2.2.2.2.2.2.1,(.map (some x.2.2.2.2.2.2.2.2)),(.int .i64 x1.2.2.2.2.1)],At x.2.1 (Va x1.2.2.2.2.2.1),At x.2.2.1 (Va x1.2.2.2.2.2.2.1),At x.2.2.2.1 (Va x1.2.2.2.2.2.2.2.1),At x.2.2.2.2.1 (Va x1.2.2.2.2.2.2.2.2.1),Ow 85 x.2.2.2.2.2.1 x1.2.2.2.2.2.2.2.2.2.1,Om x.2.2.2.2.2.2.1 (x1.2.2.2.2.2.2.2.2.2.2.1:List (LL×Int)),Ow 30 x.2.2.2.2.2.2.2.1 x1.2.2.2.2.2.2.2.2.2.2.2.1,Om x.2.2.2.2.2.2.2.2 (x1.2.2.2.2.2.2.2.2.2.2.2.2:List (Ab×Bool))]))) (s30 f _ _ _ _ _ hx1.e))) (λ_=>I) I I λy2 a w s=>ru 5 s λa w s=>nl ?_));refine se (R 2 s λa w s=>?_);refine cmf s hm (λhb hm=>?_) λhb hm=>?_
  ·refine R 4 s λa w s=>?_;cases hm;exact rV hD s I I
  ·obtain ⟨x3,hx3,hm⟩:=bk hm;refine se (rg (ru 4 s λa w s=>sq s (tfg (k:=1007) fl1 I (cc I (oc (ta (k:=1007) (t I) I) (oc qf on)) (s40 f _ _ hx3.e))) I λa w s=>ru 1 s λa w s=>nl ?_));refine se (R 2 s λa w s=>?_);refine cmf s hm (λhb hm=>?_) λhb hm=>?_
   ·refine R 3 s λa w s=>?_;cases hm;exact rV hD s I I
   ·obtain ⟨x4,hx4,hm⟩:=bk hm;refine se (rg (ru 2 s λa w s=>cgv [1000,1001,1002,1003,1004,1005,1006,1007,1008] [1000,1001,1002,1003,1004,1005,1006,1007,1008] hM s qf I (oc (t I) (oc (t I) on)) vn vn (s42 f y2.1 y2.2.1 y2.2.2.1 y2.2.2.2.1 y2.2.2.2.2.1 y2.2.2.2.2.2.1 y2.2.2.2.2.2.2.1 y2.2.2.2.2.2.2.2.1 y2.2.2.2.2.2.2.2.2 _ _ _ _ _ _ _ _ _ _ _ _ _ _ hx4.e) (k4 I I I I (k4 I I I I (kc I kn))) I (λ_=>I) I I I λy5 a w s=>ru 3 s λa w s=>nl ?_));cases hm;exact rV hD s I I
def A0 (v0:List Af) (v1:List Af):Nat->Int->Option (Lo (Int) (Bool))
 | 0,_=>none
 | n+1,z1=>(bif (decide (z1 < (v0.length:Int))) then (idx v0 z1).bind λx3=>(idx v1 z1).bind λx4=>(bif (!eqq46 x3 x4) then some (.ret false) else A0 v0 v1 n (wr (z1 + 1))) else some (.brk z1))
def m21 (f:Nat) (v0:List Af) (v1:List Af):Option (Bool):=(bif ((v0.length:Int) != (v1.length:Int)) then some false else ((A0 v0 v1 f (0:Int)).bind λo2=>match o2 with | .brk o2s=>some true | .ret r=>some r))
theorem s21 (f:Nat) (v0:List Af) (v1:List Af) (r:Bool) (hm:m21 f v0 v1=some r):Sp Tryz.prog 21 [Va v0,Va v1] (Va r):=by
 unfold m21 at hm;refine ens func21 kr_ I ntmps21 I I λM W a hM hD s=>?_;refine R 1 s λa w s=>?_;refine se (R 5 s λa w s=>?_);refine cmf s hm (λhb hm=>?_) λhb hm=>?_
 ·refine R 1 s λa w s=>?_;cases hm;exact rT hD s I I
 ·refine se (R 3 s λa w s=>?_);refine lB hm [0,1,4,12] s (λz1=>[(13,Va z1)]) s.fi (λ_=>I) (λo2 hko2 n z1 a w hm s=>?_) λo2s hm a w s=>?_
  ·unfold A0 at hm;refine R 1 s λa w s=>?_;refine se (cmt s hm (λhb hm=>?_) λhb hm=>?_)
   ·refine se (wpIn_block ?_);refine R 2 s λa w s=>?_;obtain ⟨x3,hx3,hm⟩:=bk hm;obtain ⟨x4,hx4,hm⟩:=bk hm;refine se (Ht s (m:=9) (.cons (.cons (.cons (.cons (.cons (.cons (.cons (.cons (.cons .nil I (mv (t I))) I (mv (t I))) I (ix (t I) (t I) hx3.e)) I (ld (t I))) I (mv (t I))) I (mv (t I))) I (ix (t I) (t I) hx4.e)) I (ld (t I))) I (sneq (t I) (t I))) kr_ I I λa w s=>nl ?_);refine cmf s hm (λhb hm=>?_) λhb hm=>?_
    ·refine R 1 s λa w s=>?_;obtain rfl:=si hm;replace hm:=hko2;dsimp only at hm;cases hm;exact rT hD s I I
    ·refine R0 2 s λa w s=>?_;exact ⟨_,hm,s.fi⟩
   ·refine wpIn_exit ?_;exact ⟨_,(si hm).symm,s.fi⟩
  ·dsimp only at hm;refine R 1 s λa w s=>?_;cases hm;exact rT hD s I I
instance {f:Nat} {v0:List Af} {v1:List Af}:Cn Tryz.prog 21 (m21 f v0 v1) [Va v0,Va v1] (λr:Bool=>(Va r)):=⟨s21 f v0 v1⟩
def AZ (v0:List Ab) (v1:List Ab):Nat->Int->Option (Lo (Int) (Bool))
 | 0,_=>none
 | n+1,z1=>(bif (decide (z1 < (v0.length:Int))) then (idx v0 z1).bind λx3=>(idx v1 z1).bind λx4=>(bif (!Jx x3 x4) then some (.ret false) else AZ v0 v1 n (wr (z1 + 1))) else some (.brk z1))
def m22 (f:Nat) (v0:List Ab) (v1:List Ab):Option (Bool):=(bif ((v0.length:Int) != (v1.length:Int)) then some false else ((AZ v0 v1 f (0:Int)).bind λo2=>match o2 with | .brk o2s=>some true | .ret r=>some r))
theorem s22 (f:Nat) (v0:List Ab) (v1:List Ab) (r:Bool) (hm:m22 f v0 v1=some r):Sp Tryz.prog 22 [Va v0,Va v1] (Va r):=by
 unfold m22 at hm;refine ens func22 kr_ I ntmps22 I I λM W a hM hD s=>?_;refine R 1 s λa w s=>?_;refine se (R 5 s λa w s=>?_);refine cmf s hm (λhb hm=>?_) λhb hm=>?_
 ·refine R 1 s λa w s=>?_;cases hm;exact rT hD s I I
 ·refine se (R 3 s λa w s=>?_);refine lB hm [0,1,4,12] s (λz1=>[(13,Va z1)]) s.fi (λ_=>I) (λo2 hko2 n z1 a w hm s=>?_) λo2s hm a w s=>?_
  ·unfold AZ at hm;refine R 1 s λa w s=>?_;refine se (cmt s hm (λhb hm=>?_) λhb hm=>?_)
   ·refine se (wpIn_block ?_);refine R 2 s λa w s=>?_;obtain ⟨x3,hx3,hm⟩:=bk hm;obtain ⟨x4,hx4,hm⟩:=bk hm;refine se (Ht s (m:=9) (.cons (.cons (.cons (.cons (.cons (.cons (.cons (.cons (.cons .nil I (mv (t I))) I (mv (t I))) I (ix (t I) (t I) hx3.e)) I (ld (t I))) I (mv (t I))) I (mv (t I))) I (ix (t I) (t I) hx4.e)) I (ld (t I))) I (sneq (t I) (t I))) kr_ I I λa w s=>nl ?_);refine cmf s hm (λhb hm=>?_) λhb hm=>?_
    ·refine R 1 s λa w s=>?_;obtain rfl:=si hm;replace hm:=hko2;dsimp only at hm;cases hm;exact rT hD s I I
    ·refine R0 2 s λa w s=>?_;exact ⟨_,hm,s.fi⟩
   ·refine wpIn_exit ?_;exact ⟨_,(si hm).symm,s.fi⟩
  ·dsimp only at hm;refine R 1 s λa w s=>?_;cases hm;exact rT hD s I I
instance {f:Nat} {v0:List Ab} {v1:List Ab}:Cn Tryz.prog 22 (m22 f v0 v1) [Va v0,Va v1] (λr:Bool=>(Va r)):=⟨s22 f v0 v1⟩
def m6 (f:Nat) :Option (Bool):=(m17 f true).bind λx1=>(m17 f false).bind λx2=>(m8 f x1).bind λx5=>(m18 f x1 x5.1).bind λx8=>(m9 f x1 x5.1).bind λx9=>(m11 f x1 x5.1 (⟨(2:Int),(0:Int),true⟩:Af)).bind λx10=>(m19 f x1 x10.1 (9:Int)).bind λx12=>(m13 f x1 x10.1 (9:Int)).bind λx13=>(m14 f x1 x5.1 (20:Int)).bind λx14=>(m8 f x2).bind λx15=>(m14 f x2 x15.1 (20:Int)).bind λx18=>(bif (((wr ((wr ((wr ((wr ((wr ((wr ((wr ((wr (x5.2.1 + x8.2)) + x9.2)) + x10.2.2)) + x12.2.2)) + x13.2)) + x14.2)) + x18.2)) + x15.2.1)) == 0) && x8.1) then (m20 f x9.1 ([(0:Int)]:LG)).bind λx19=>some x19 else some false).bind λr20=>(bif (r20 && x12.2.1) then (m21 f x12.1 ([(⟨(0:Int),(0:Int),false⟩:Af)]:List Af)).bind λx21=>some x21 else some false).bind λr22=>(bif ((r22 && (x13.1 == 1)) && ((x14.1.length:Int) == 0)) then (m22 f x18.1 ([(⟨(0:Int),false⟩:Ab)]:List Ab)).bind λx23=>some x23 else some false).bind λr24=>some r24
theorem s6 (f:Nat) (r:Bool) (hm:m6 f =some r):Sp Tryz.prog 6 [] (Va r):=by
 unfold m6 at hm;refine ens func6 kr_ I ntmps6 I I λM W a hM hD s=>?_;refine R 1 s λa w s=>?_;refine se (rg (cB s hm (s17 f _) λx1 hm a w s=>cB s hm (s17 f _) λx2 hm a w s=>sqr 1000 s (alr (cs:=[(.int .i64 0),nz,nz,nz,nz]) (z:=.agg #[(.int .i64 0),nz,nz,nz,nz]) kr_ I I) I I λb3 a w s=>sqr 1001 s (alr (cs:=[(.int .i64 0),nz,nz,nz,nz]) (z:=.agg #[(.int .i64 0),nz,nz,nz,nz]) kr_ I I) I I λb4 a w s=>swd (K:=1000) s (t I) I (t I) I λw s=>swd (K:=1001) s (t I) I (t I) I λw s=>nl ?_));obtain ⟨x5,hx5,hm⟩:=bk hm;refine se (rg (ru 1 s λa w s=>sqz [1002] hM s (cc I (oc (t I) on) (s8 f _ _ hx5.e)) (λ_=>I) I I λy6 a w s=>ru 4 s λa w s=>aR 1003 s λb7 a w s=>sW s I λw s=>ru 2 s λa w s=>nl ?_));refine se (rg (ru 2 s λa w s=>cB s hm (s18 f _ _) λx8 hm a w s=>ru 5 s λa w s=>nl ?_));refine se (rg (ru 2 s λa w s=>cB s hm (s9 f _ _) λx9 hm a w s=>ru 5 s λa w s=>nl ?_));refine se (rg (ru 2 s λa w s=>sq s (Yc ci cb) I λa w s=>cB s hm (s11 f _ _ _) λx10 hm a w s=>ru 4 s λa w s=>aR 1004 s λb11 a w s=>sW s I λw s=>ru 2 s λa w s=>nl ?_));refine se (rg (ru 2 s λa w s=>cB s hm (s19 f _ _ _) λx12 hm a w s=>ru 7 s λa w s=>nl ?_));refine se (rg (ru 2 s λa w s=>cB s hm (s13 f _ _ _) λx13 hm a w s=>ru 5 s λa w s=>nl ?_));refine se (rg (ru 2 s λa w s=>cB s hm (s14 f _ _ _) λx14 hm a w s=>ru 5 s λa w s=>nl ?_));obtain ⟨x15,hx15,hm⟩:=bk hm;refine se (rg (ru 1 s λa w s=>sqz [1005] hM s (cc I (oc (t I) on) (s8 f _ _ hx15.e)) (λ_=>I) I I λy16 a w s=>ru 4 s λa w s=>aR 1006 s λb17 a w s=>sW s I λw s=>ru 2 s λa w s=>nl ?_));refine se (rg (ru 2 s λa w s=>cB s hm (s14 f _ _ _) λx18 hm a w s=>ru 5 s λa w s=>nl ?_));obtain ⟨r20,hr20,hm⟩:=bs hm;have gr20:=gT hr20;have er20:=gF hr20;obtain ⟨x19,hx19,gr20⟩:=gk gr20;obtain ⟨r22,hr22,hm⟩:=bs hm;have gr22:=gT hr22;have er22:=gF hr22;obtain ⟨x21,hx21,gr22⟩:=gk gr22;obtain ⟨r24,hr24,hm⟩:=bs hm;have gr24:=gT hr24;have er24:=gF hr24;obtain ⟨x23,hx23,gr24⟩:=gk gr24;have:=pka gr20 er20;have:=pka gr22 er22;have:=pka gr24 er24;refine se (rg (ru 31 s λa w s=>sg s I I (λhb=>(bl46_ )) I λa w s=>ru 14 s λa w s=>sg s I I (λhb=>(bl68_ )) I λa w s=>ru 4 s λa w s=>nl ?_));cases hm;exact rT hD s I I
instance {f:Nat}:Cn Tryz.prog 6 (m6 f ) [] (λr:Bool=>(Va r)):=⟨s6 f⟩
def Kz (v0:Ai):Nat->(Int×Int×LG)->Option (Int×Int×LG)
 | 0,_=>none
 | n+1,z4=>(bif (decide (z4.2.1 < (v0.Steps.length:Int))) then (idx v0.Steps z4.2.1).bind λx7=>(bif (x7.Wait == 0) then (app z4.2.2 ([(-1:Int)]:LG)).bind λx8=>Kz v0 n (z4.1,(wr (z4.2.1 + 1)),x8) else (app z4.2.2 ([z4.1]:LG)).bind λx10=>Kz v0 n ((wr (z4.1 + 1)),(wr (z4.2.1 + 1)),x10)) else some (z4.1,z4.2.1,z4.2.2))
def m75 (f:Nat) (v0:Ai) (v1:Int):Option (Plan):=(Kz v0 f (v1,(0:Int),([]:LG))).bind λo5s=>some (⟨(⟨v0.Actuators,v0.Steps⟩:Ai),o5s.2.2⟩:Plan)
theorem s75 (f:Nat) (v0:Ai) (v1:Int) (r:Plan) (hm:m75 f v0 v1=some r):Sp Tryz.prog 75 [Va v0,Va v1] (Va r):=by
 unfold m75 at hm;refine ens func75 kr_ I ntmps75 I I λM W a hM hD s=>?_;refine se (rg (ru 1 s λa w s=>aR 1000 s λb1 a w s=>nl ?_));refine se (rg (ru 1 s λa w s=>opv23 (d:=7) 1001 s I I λc2 s=>sq s (bla (L:=[(0,2),(2,1)]) (z:=[(.int .i64 0),nz,nz]) (res:=[(.int .i64 v0.Actuators),c2,nz]) I kr_ kr_ (pda (t I) pdn) I I) I λa w s=>aR 1002 s λb3 a w s=>sra (K:=1002) (m:=[(.int .i64 v0.Actuators),c2,nz]) (cs':=[(.int .i64 v0.Actuators),c2,nz]) s (t I) I (t I) kr_ I I I λw s=>nl ?_));refine se (R 1 s λa w s=>?_);refine nilc (α:=Int) (k:=1002) (cs':=λc6=>[(.int .i64 v0.Actuators),c2,c6]) 1003 3 s I (λ_=>I) I λc6 s=>?_;refine lA1 hm [0,2,4,5,1000,1001] s (λz4 z4c0=>[(1,Va z4.1),(6,Va z4.2.1),(1002,Mr b3 [(.int .i64 v0.Actuators),c2,z4c0]),(1003,Ow 3 z4c0 z4.2.2)]) ⟨c6,s.fi⟩ (λ_=>I) (λo5s hko5 n z4 a w hm s=>?_) λo5s hm a w s=>?_
 ·obtain ⟨z4c0,s⟩:=s;unfold Kz at hm;refine se (R 5 s λa w s=>?_);refine cmt s hm (λhb hm=>?_) λhb hm=>?_
  ·refine se (wpIn_block ?_);refine se (se (rg (ru 3 s λa w s=>iB s hm λx7 hm a w s=>ru 3 s λa w s=>nl ?_)));refine cmf s hm (λhb hm=>?_) λhb hm=>?_
   ·obtain ⟨x8,hx8,hm⟩:=bk hm;refine se (rg (ru 3 s λa w s=>apd (α:=Int) (k:=1003) s (t I) I (t I) hx8.e I I λc9 a w s=>ru 1 s λa w s=>srq (K:=1002) (cs':=[(.int .i64 v0.Actuators),c2,c9]) s (t I) I (t I) kr_ (oco (k:=1003) I) I I λw s=>nl ?_));refine wpIn_exit ?_;refine R0 3 s λa w s=>?_;exact ⟨_,hm,⟨c9,s.fi⟩⟩
   ·obtain ⟨x10,hx10,hm⟩:=bk hm;refine se (rg (ru 4 s λa w s=>apd (α:=Int) (k:=1003) s (t I) I (t I) hx10.e I I λc11 a w s=>ru 1 s λa w s=>srq (K:=1002) (cs':=[(.int .i64 v0.Actuators),c2,c11]) s (t I) I (t I) kr_ (oco (k:=1003) I) I I λw s=>nl ?_));refine R0 3 s λa w s=>?_;refine R0 3 s λa w s=>?_;exact ⟨_,hm,⟨c11,s.fi⟩⟩
  ·refine wpIn_exit ?_;obtain rfl:=si hm;exact ⟨z4c0,s.fi⟩
 ·obtain ⟨o5sc0,s⟩:=s;refine se (rg (sq s (lra (K:=1002) (ds:=[(.int .i64 v0.Actuators),c2,o5sc0]) Plan (t I) I I I I) I λa w s=>sra (K:=1000) (m:=[(.int .i64 v0.Actuators),c2,o5sc0]) (cs':=[(.int .i64 v0.Actuators),c2,o5sc0]) s (t I) I (t I) kr_ I I I λw s=>nl ?_));obtain rfl:=si hm;refine fzk (α:=Int) (k:=1003) hM s I λs=>?_;refine Sf (k:=1000) (x:=(⟨(⟨v0.Actuators,v0.Steps⟩:Ai),o5s.2.2⟩:Plan)) s I (rpS105 (l:=([(.int .i64 v0.Actuators),c2],[o5sc0])) (rpS23 (l:=([(.int .i64 v0.Actuators)],[c2])) rpi (rpz (k:=1001) I)) (rpz (k:=1003) I)) λs=>?_;refine wpIn_ret ?_;exact rn hD s I (rv1 (rc (K:=1000) I I))
instance {f:Nat} {v0:Ai} {v1:Int}:Cn Tryz.prog 75 (m75 f v0 v1) [Va v0,Va v1] (λr:Plan=>(Va r)):=⟨s75 f v0 v1⟩
def Nz (f:Nat) (v0:Ai) (v1:Int) (v2:Int):Nat->Int->Option (Lo (Int) (Bool))
 | 0,_=>none
 | n+1,z1=>(bif (decide (z1 < v0.Actuators)) then (idx v0.Steps v1).bind λx3=>(m38 f x3 z1).bind λx4=>(bif (x4 != 0) then (idx v0.Steps v2).bind λx5=>(m38 f x5 z1).bind λx6=>some (x6 != 0) else some false).bind λr7=>(bif r7 then some (.ret true) else Nz f v0 v1 v2 n (wr (z1 + 1))) else some (.brk z1))
def m74 (f:Nat) (v0:Ai) (v1:Int) (v2:Int):Option (Bool):=((Nz f v0 v1 v2 f (0:Int)).bind λo2=>match o2 with | .brk o2s=>some false | .ret r=>some r)
theorem s74 (f:Nat) (v0:Ai) (v1:Int) (v2:Int) (r:Bool) (hm:m74 f v0 v1 v2=some r):Sp Tryz.prog 74 [Va v0,Va v1,Va v2] (Va r):=by
 unfold m74 at hm;refine ens func74 kr_ I ntmps74 I I λM W a hM hD s=>?_;refine R 2 s λa w s=>?_;refine se (R 1 s λa w s=>?_);refine lB hm [0,1,2,3,6] s (λz1=>[(7,Va z1)]) s.fi (λ_=>I) (λo2 hko2 n z1 a w hm s=>?_) λo2s hm a w s=>?_
 ·unfold Nz at hm;refine se (R 4 s λa w s=>?_);refine cmt s hm (λhb hm=>?_) λhb hm=>?_
  ·refine se (wpIn_block ?_);obtain ⟨x3,hx3,hm⟩:=bk hm;obtain ⟨x4,hx4,hm⟩:=bk hm;obtain ⟨r7,hr7,hm⟩:=bs hm;have gr7:=gT hr7;have er7:=gF hr7;obtain ⟨x5,hx5,gr7⟩:=gk gr7;obtain ⟨x6,hx6,gr7⟩:=gk gr7;have:=pka gr7 er7;refine R 18 s λa w s=>?_;refine cmf s hm (λhb hm=>?_) λhb hm=>?_
   ·refine R 1 s λa w s=>?_;obtain rfl:=si hm;replace hm:=hko2;dsimp only at hm;cases hm;exact rT hD s I I
   ·refine R0 3 s λa w s=>?_;exact ⟨_,hm,s.fi⟩
  ·refine wpIn_exit ?_;exact ⟨_,(si hm).symm,s.fi⟩
 ·dsimp only at hm;refine R 1 s λa w s=>?_;cases hm;exact rT hD s I I
def Tf (f:Nat) (v0:Ai) (z2:Int×LG):Nat->(Int×LG)->Option (Int×LG)
 | 0,_=>none
 | n+1,z5=>(bif (decide (z5.1 < z2.1)) then (m74 f v0 z5.1 z2.1).bind λx7=>(bif x7 then (app z5.2 ([z2.1]:LG)).bind λx8=>some (z5.1,x8) else Tf f v0 z2 n ((wr (z5.1 + 1)),z5.2)) else some (z5.1,z5.2))
def Tg (f:Nat) (v0:Ai):Nat->(Int×LG)->Option (Int×LG)
 | 0,_=>none
 | n+1,z2=>(bif (decide (z2.1 < (v0.Steps.length:Int))) then (idx z2.2 (wr ((z2.2.length:Int) - 1))).bind λx4=>(Tf f v0 z2 f (x4,z2.2)).bind λo6s=>Tg f v0 n ((wr (z2.1 + 1)),o6s.2) else some (z2.1,z2.2))
def m43 (f:Nat) (v0:Ai):Option (LG):=(Tg f v0 f ((1:Int),([(0:Int)]:LG))).bind λo3s=>some o3s.2
theorem s43 (f:Nat) (v0:Ai) (r:LG) (hm:m43 f v0=some r):Sp Tryz.prog 43 [Va v0] (Va r):=by
 unfold m43 at hm;refine ens func43 kr_ I ntmps43 I I λM W a hM hD s=>?_;refine R 2 s λa w s=>?_;refine se (rg (sqo 1000 s (bso (o1 ci o0) I I kr_) I I λc1 a w s=>ru 1 s λa w s=>nl ?_));refine se (R 1 s λa w s=>?_);refine lA1 hm [0,1,2] s (λz2 z2c0=>[(3,Qv z2c0),(4,Va z2.1),(1000,Ow 3 z2c0 z2.2)]) ⟨c1,s.fi⟩ (λ_=>I) (λo3s hko3 n z2 a w hm s=>?_) λo3s hm a w s=>?_
 ·obtain ⟨z2c0,s⟩:=s;unfold Tg at hm;refine se (R 5 s λa w s=>?_);refine cmt s hm (λhb hm=>?_) λhb hm=>?_
  ·refine se (wpIn_block ?_);obtain ⟨x4,hx4,hm⟩:=bk hm;refine R 7 s λa w s=>?_;refine lA1 hm [0,1,2,4] s (λz5 z5c0=>[(3,Qv z5c0),(5,Va z5.1),(1000,Ow 3 z5c0 z5.2)]) ⟨z2c0,s.fi⟩ (λ_=>I) (λo6s hko6 n z5 a w hm s=>?_) λo6s hm a w s=>?_
   ·obtain ⟨z5c0,s⟩:=s;unfold Tf at hm;refine se (R 3 s λa w s=>?_);refine cmt s hm (λhb hm=>?_) λhb hm=>?_
    ·refine se (wpIn_block ?_);refine se (rg (ru 3 s λa w s=>cB s hm (s74 f _ _ _) λx7 hm a w s=>nl ?_));refine cmf s hm (λhb hm=>?_) λhb hm=>?_
     ·obtain ⟨x8,hx8,hm⟩:=bk hm;refine se (rg (ru 3 s λa w s=>apd (α:=Int) (k:=1000) s (t I) I (t I) hx8.e I I λc9 a w s=>ru 1 s λa w s=>nl ?_));refine wpIn_exit ?_;obtain rfl:=si hm;exact ⟨c9,s.fi⟩
     ·refine R0 3 s λa w s=>?_;exact ⟨_,hm,⟨z5c0,s.fi⟩⟩
    ·refine wpIn_exit ?_;obtain rfl:=si hm;exact ⟨z5c0,s.fi⟩
   ·obtain ⟨o6sc0,s⟩:=s;refine R0 3 s λa w s=>?_;exact ⟨_,hm,⟨o6sc0,s.fi⟩⟩
  ·refine wpIn_exit ?_;obtain rfl:=si hm;exact ⟨z2c0,s.fi⟩
 ·obtain ⟨o3sc0,s⟩:=s;refine R 2 s λa w s=>?_;obtain rfl:=si hm;refine fzk (α:=Int) (k:=1000) hM s I λs=>?_;refine wpIn_ret ?_;exact rn hD s I (rv1 (ro (ta (k:=1000) (t I) I)))
instance {f:Nat} {v0:Ai}:Cn Tryz.prog 43 (m43 f v0) [Va v0] (λr:LG=>(Va r)):=⟨s43 f v0⟩
def m76 (f:Nat) (v0:Ai):Option (Int):=some (wr ((wr ((2:Int) * v0.Actuators)) + 1))
theorem s76 (f:Nat) (v0:Ai) (r:Int) (hm:m76 f v0=some r):Sp Tryz.prog 76 [Va v0] (Va r):=by
 unfold m76 at hm;refine ens func76 kr_ I ntmps76 I I λM W a hM hD s=>?_;refine R 2 s λa w s=>?_;refine R 5 s λa w s=>?_;cases hm;exact rT hD s I I
instance {f:Nat} {v0:Ai}:Cn Tryz.prog 76 (m76 f v0) [Va v0] (λr:Int=>(Va r)):=⟨s76 f v0⟩
def m44 (f:Nat) (v0:Ai):Option (Plan):=(m76 f v0).bind λx2=>(m43 f v0).bind λx3=>(m75 f v0 (wr (x2 + (x3.length:Int)))).bind λx4=>some x4
theorem s44 (f:Nat) (v0:Ai) (r:Plan) (hm:m44 f v0=some r):Sp Tryz.prog 44 [Va v0] (Va r):=by
 unfold m44 at hm;refine ens func44 kr_ I ntmps44 I I λM W a hM hD s=>?_;refine se (rg (ru 1 s λa w s=>aR 1000 s λb1 a w s=>nl ?_));obtain ⟨x2,hx2,hm⟩:=bk hm;obtain ⟨x3,hx3,hm⟩:=bk hm;obtain ⟨x4,hx4,hm⟩:=bk hm;refine se (fW 8 s kr_ I I λa w s=>sW s I λw s=>nl ?_);cases hm;exact rT hD s I I
instance {f:Nat} {v0:Ai}:Cn Tryz.prog 44 (m44 f v0) [Va v0] (λr:Plan=>(Va r)):=⟨s44 f v0⟩
def Js (f:Nat) (v0:Ai) (x1:LG):Nat->(Int×LG)->Option (Int×LG)
 | 0,_=>none
 | n+1,z4=>(bif (decide (z4.1 < (x1.length:Int))) then (m76 f v0).bind λx7=>(app z4.2 ([(wr (x7 + z4.1))]:LG)).bind λx8=>Js f v0 x1 n ((wr (z4.1 + 1)),x8) else some (z4.1,z4.2))
def m77 (f:Nat) (v0:Ai):Option (LG):=(m43 f v0).bind λx1=>(bif ((x1.length:Int) == 2) then (m76 f v0).bind λx2=>(m76 f v0).bind λx3=>some ([(wr (x2 + 1)),x3]:LG) else (Js f v0 x1 f ((0:Int),([]:LG))).bind λo5s=>some o5s.2)
theorem s77 (f:Nat) (v0:Ai) (r:LG) (hm:m77 f v0=some r):Sp Tryz.prog 77 [Va v0] (Va r):=by
 unfold m77 at hm;refine ens func77 kr_ I ntmps77 I I λM W a hM hD s=>?_;refine se (rg (sq s (bx (t I)) I λa w s=>sq s (saq cq) I λa w s=>nl ?_));obtain ⟨x1,hx1,hm⟩:=bs hm;refine se (rg (sq s (ld (t I)) I λa w s=>sq s (cc I (oc (t I) on) (s43 f _ _ hx1)) I λa w s=>sq s (ln (t I)) I λa w s=>sq s (sa (t I)) I λa w s=>nl ?_));refine se (se (rg (sq s (mv (t I)) I λa w s=>sq s (eq (t I) ci) I λa w s=>nl ?_)));refine cm s I hm (λhb hm=>?_) (λhb hm=>?_)
 ·obtain ⟨x2,hx2,hm⟩:=bs hm;obtain ⟨x3,hx3,hm⟩:=bs hm;refine se (Ht s (m:=6) (.cons (.cons (.cons (.cons (.cons (.cons .nil I (ld (t I))) I (cc I (oc (t I) on) (s76 f _ _ hx2))) I (ad (t I) ci)) I (ld (t I))) I (cc I (oc (t I) on) (s76 f _ _ hx3))) I (bsv (o1 (t I) (o1 (t I) o0)) I I kr_)) kr_ I I λa w s=>sq s (sa (t I)) I λa w s=>nl ?_);obtain rfl:=si hm;refine wpIn_ret ?_;exact rn hD s I (rv1 (rt I))
 ·refine wpIn_skip (se (rg (sq s (saq cq) I λa w s=>nl ?_)));refine se (se (rg (sq s (sa ci) I λa w s=>nl ?_)));refine Fi (α:=Int) (d:=4) 1000 3 s I I λc6 s=>?_;obtain ⟨o5s,hoo5,hko5⟩:=bs hm;refine cpI (λa w=>∃ (o5sc0:Value),St M W 30 [(0,Va v0),(1,Pt v0),(2,Qv nz),(3,Va ((x1.length:Int))),(4,Qv o5sc0),(5,Va o5s.1),(1000,Ow 3 o5sc0 o5s.2)] a w) ?_ λa w s=>?_
  ·refine wpIn_block (loI (λn z4=>Js f v0 x1 n z4) o5s (λz4 a w=>∃ (z4c0:Value),St M W 30 [(0,Va v0),(1,Pt v0),(2,Qv nz),(3,Va ((x1.length:Int))),(4,Qv z4c0),(5,Va z4.1),(1000,Ow 3 z4c0 z4.2)] a w) f ((0:Int),([]:LG)) ⟨c6,s.pick [0,1,2,3,4,5,1000]⟩ hoo5 (λ_=>I) λn z4 a w hm s=>?_);obtain ⟨z4c0,s⟩:=s;replace hm:Js f v0 x1 (n + 1) z4=some o5s:=hm;unfold Js at hm;refine se (se (rg (sq s (mv (t I)) I λa w s=>sq s (mv (t I)) I λa w s=>sq s (lt (t I) (t I)) I λa w s=>nl ?_)));refine cm s I hm (λhb hm=>?_) (λhb hm=>?_)
   ·refine wpIn_skip (se ?_);refine wpIn_block ?_;obtain ⟨x7,hx7,hm⟩:=bs hm;obtain ⟨x8,hx8,hm⟩:=bs hm;refine rg (sq s (mvq (t I)) I λa w s=>sq s (ld (t I)) I λa w s=>sq s (cc I (oc (t I) on) (s76 f _ _ hx7)) I λa w s=>sq s (mv (t I)) I λa w s=>sq s (ad (t I) (t I)) I λa w s=>sq s (bsv (o1 (t I) o0) I I kr_) I λa w s=>apd (α:=Int) (k:=1000) s (t I) I (t I) hx8 I I λc9 a w s=>sq s (saq (t I)) I λa w s=>nl ?_);refine rg (sq s (mv (t I)) I λa w s=>sq s (ad (t I) ci) I λa w s=>sq s (sa (t I)) I λa w s=>nl ?_);exact ⟨_,hm,⟨c9,s.pick [0,1,2,3,4,5,1000]⟩⟩
   ·refine wpIn_exit ?_;obtain rfl:=si hm;exact ⟨z4c0,s.pick [0,1,2,3,4,5,1000]⟩
  ·obtain ⟨o5sc0,s⟩:=s;replace hm:=hko5;refine se (rg (sq s (mvq (t I)) I λa w s=>sq s (saq (t I)) I λa w s=>nl ?_));obtain rfl:=si hm;refine fzk (α:=Int) (k:=1000) hM s I λs=>?_;refine wpIn_ret ?_;exact rn hD s I (rv1 (ro (ta (k:=1000) (t I) I)))
instance {f:Nat} {v0:Ai}:Cn Tryz.prog 77 (m77 f v0) [Va v0] (λr:LG=>(Va r)):=⟨s77 f v0⟩
def m81 (f:Nat) (v0:Int):Option (Expr):=some (⟨(1:Int),v0,([]:List Expr)⟩:Expr)
theorem s81 (f:Nat) (v0:Int) (r:Expr) (hm:m81 f v0=some r):Sp Tryz.prog 81 [Va v0] (Va r):=by
 unfold m81 at hm;refine ens func81 kr_ I ntmps81 I I λM W a hM hD s=>?_;refine se (rg (sqr 1000 s (alr (cs:=[(.int .i64 0),(.int .i64 0),nz]) (z:=.agg #[(.int .i64 0),(.int .i64 0),nz]) kr_ I I) I I λb1 a w s=>nl ?_));refine se (rg (ru 1 s λa w s=>sq s (Yb ci (t I)) I λa w s=>sW s I λw s=>nl ?_));cases hm;exact rT hD s I I
instance {f:Nat} {v0:Int}:Cn Tryz.prog 81 (m81 f v0) [Va v0] (λr:Expr=>(Va r)):=⟨s81 f v0⟩
def Ny (f:Nat) (v0:Step):Nat->(Int×(List Expr))->Option (Int×(List Expr))
 | 0,_=>none
 | n+1,z1=>(bif (decide (z1.1 < (v0.Strokes.length:Int))) then (idx v0.Strokes z1.1).bind λx4=>(idx v0.Strokes z1.1).bind λx5=>(bif x5.Out then some (wr ((wr ((2:Int) * x4.Actuator)) + 1)) else some (wr ((2:Int) * x4.Actuator))).bind λz6=>(m81 f z6).bind λx7=>(app z1.2 ([x7]:List Expr)).bind λx8=>Ny f v0 n ((wr (z1.1 + 1)),x8) else some (z1.1,z1.2))
def m82 (f:Nat) (v0:Step):Option ((List Expr)):=(Ny f v0 f ((0:Int),([]:List Expr))).bind λo2s=>some o2s.2
theorem s82 (f:Nat) (v0:Step) (r:(List Expr)) (hm:m82 f v0=some r):Sp Tryz.prog 82 [Va v0] (Va r):=by
 unfold m82 at hm;refine ens func82 kr_ I ntmps82 I I λM W a hM hD s=>?_;refine R 2 s λa w s=>?_;refine R 1 s λa w s=>?_;refine se (R 1 s λa w s=>?_);refine Fi (α:=Expr) (d:=3) 1000 96 s I I λc3 s=>?_;refine lA1 hm [0,1,2] s (λz1 z1c0=>[(3,Qv z1c0),(4,Va z1.1),(1000,Ow 96 z1c0 z1.2)]) ⟨c3,s.fi⟩ (λ_=>I) (λo2s hko2 n z1 a w hm s=>?_) λo2s hm a w s=>?_
 ·obtain ⟨z1c0,s⟩:=s;unfold Ny at hm;refine se (R 5 s λa w s=>?_);refine cmt s hm (λhb hm=>?_) λhb hm=>?_
  ·refine se (wpIn_block ?_);refine se (rg (ru 3 s λa w s=>iB s hm λx4 hm a w s=>ru 4 s λa w s=>nl ?_));refine se (se (rg (ru 3 s λa w s=>iB s hm λx5 hm a w s=>ru 2 s λa w s=>nl ?_)));obtain ⟨z6,hz6,hkz6⟩:=bs hm;refine cP [0,1,2,3,4,1000] s [(5,Va z6)] ?_ λa w s=>?_
   ·refine cm s I hz6 (λhb hm=>?_) (λhb hm=>?_)
    ·refine R0 3 s λa w s=>?_;obtain rfl:=si hm;exact s.fi
    ·refine wpIn_skip ?_;obtain rfl:=si hm;exact s.fi
   ·replace hm:=hkz6;obtain ⟨x7,hx7,hm⟩:=bk hm;obtain ⟨x8,hx8,hm⟩:=bk hm;refine rg (ru 4 s λa w s=>apd (α:=Expr) (k:=1000) s (t I) I (t I) hx8.e I I λc9 a w s=>ru 1 s λa w s=>nl ?_);refine R0 3 s λa w s=>?_;exact ⟨_,hm,⟨c9,s.fi⟩⟩
  ·refine wpIn_exit ?_;obtain rfl:=si hm;exact ⟨z1c0,s.fi⟩
 ·obtain ⟨o2sc0,s⟩:=s;refine R 2 s λa w s=>?_;obtain rfl:=si hm;refine fzk (α:=Expr) (k:=1000) hM s I λs=>?_;refine wpIn_ret ?_;exact rn hD s I (rv1 (ro (ta (k:=1000) (t I) I)))
def m78 (f:Nat) (v0:Plan) (v1:Int):Option ((List Expr)):=(idx v0.Timers v1).bind λx1=>(bif (decide (x1>=(0:Int))) then (idx v0.Timers v1).bind λx2=>(m81 f x2).bind λx3=>some ([x3]:List Expr) else (idx v0.S.Steps v1).bind λx4=>(m82 f x4).bind λx5=>some x5)
theorem s78 (f:Nat) (v0:Plan) (v1:Int) (r:(List Expr)) (hm:m78 f v0 v1=some r):Sp Tryz.prog 78 [Va v0,Va v1] (Va r):=by
 unfold m78 at hm;refine ens func78 kr_ I ntmps78 I I λM W a hM hD s=>?_;refine R 2 s λa w s=>?_;refine se (se (rg (ru 3 s λa w s=>iB s hm λx1 hm a w s=>ru 2 s λa w s=>nl ?_)));refine cmf s hm (λhb hm=>?_) λhb hm=>?_
 ·obtain ⟨x2,hx2,hm⟩:=bk hm;obtain ⟨x3,hx3,hm⟩:=bk hm;refine R 8 s λa w s=>?_;cases hm;exact rT hD s I I
 ·refine se (rg (ru 4 s λa w s=>iB s hm λx4 hm a w s=>ru 1 s λa w s=>cB s hm (s82 f _) λx5 hm a w s=>ru 1 s λa w s=>nl ?_));cases hm;exact rT hD s I I
instance {f:Nat} {v0:Plan} {v1:Int}:Cn Tryz.prog 78 (m78 f v0 v1) [Va v0,Va v1] (λr:(List Expr)=>(Va r)):=⟨s78 f v0 v1⟩
def m79 (f:Nat) (v0:Ai) (v1:LG) (v2:Int):Option (Int):=(bif (decide ((wr (v2 + 1)) < (v1.length:Int))) then (idx v1 (wr (v2 + 1))).bind λx1=>some (wr (x1 - 1)) else some (wr ((v0.Steps.length:Int) - 1)))
theorem s79 (f:Nat) (v0:Ai) (v1:LG) (v2:Int) (r:Int) (hm:m79 f v0 v1 v2=some r):Sp Tryz.prog 79 [Va v0,Va v1,Va v2] (Va r):=by
 unfold m79 at hm;refine ens func79 kr_ I ntmps79 I I λM W a hM hD s=>?_;refine R 2 s λa w s=>?_;refine se (R 5 s λa w s=>?_);refine cmf s hm (λhb hm=>?_) λhb hm=>?_
 ·refine se (rg (ru 3 s λa w s=>iB s hm λx1 hm a w s=>ru 3 s λa w s=>nl ?_));cases hm;exact rT hD s I I
 ·refine R 5 s λa w s=>?_;cases hm;exact rT hD s I I
instance {f:Nat} {v0:Ai} {v1:LG} {v2:Int}:Cn Tryz.prog 79 (m79 f v0 v1 v2) [Va v0,Va v1,Va v2] (λr:Int=>(Va r)):=⟨s79 f v0 v1 v2⟩
def m80 (f:Nat) (v0:Int) (v1:List Expr):Option (Expr):=(bif ((v1.length:Int) == 1) then (idx v1 (0:Int)).bind λx2=>some x2 else some (⟨v0,(0:Int),v1⟩:Expr))
theorem s80 (f:Nat) (v0:Int) (v1:List Expr) (r:Expr) (hm:m80 f v0 v1=some r):Sp Tryz.prog 80 [Va v0,Va v1] (Va r):=by
 unfold m80 at hm;refine ens func80 kr_ I ntmps80 I I λM W a hM hD s=>?_;refine se (rg (sqr 1000 s (alr (cs:=[(.int .i64 0),(.int .i64 0),nz]) (z:=.agg #[(.int .i64 0),(.int .i64 0),nz]) kr_ I I) I I λb1 a w s=>nl ?_));refine se (R 3 s λa w s=>?_);refine cmf s hm (λhb hm=>?_) λhb hm=>?_
 ·refine se (rg (ru 1 s λa w s=>iB s hm λx2 hm a w s=>ru 1 s λa w s=>sW s I λw s=>nl ?_));cases hm;exact rT hD s I I
 ·refine se (rg (ru 2 s λa w s=>sq s (Ry (t I) (t I)) I λa w s=>sW s I λw s=>nl ?_));cases hm;exact rT hD s I I
instance {f:Nat} {v0:Int} {v1:List Expr}:Cn Tryz.prog 80 (m80 f v0 v1) [Va v0,Va v1] (λr:Expr=>(Va r)):=⟨s80 f v0 v1⟩
def AS :Nat->(LL×Int)->Option (LL×Int)
 | 0,_=>none
 | n+1,z1=>(bif ((decide (z1.2 > 0)) || (z1.1.toList == (⟨#[]⟩:LL).toList)) then (ssl (⟨#[48,49,50,51,52,53,54,55,56,57]⟩:LL) (z1.2.tmod (10:Int)) (wr ((z1.2.tmod (10:Int)) + 1))).bind λx3=>(cat x3 z1.1).bind λx4=>AS n (x4,(wr (z1.2.tdiv (10:Int)))) else some (z1.1,z1.2))
def m49 (f:Nat) (v0:LL) (v1:Int):Option LL:=(AS f ((⟨#[]⟩:LL),v1)).bind λo2s=>(cat v0 o2s.1).bind λx5=>some x5
theorem s49 (f:Nat) (v0:LL) (v1:Int) (r:LL) (hm:m49 f v0 v1=some r):Sp Tryz.prog 49 [Va v0,Va v1] (Va r):=by
 unfold m49 at hm;refine ens func49 kr_ I ntmps49 I I λM W a hM hD s=>?_;refine R 1 s λa w s=>?_;refine R 1 s λa w s=>?_;refine se (R 2 s λa w s=>?_);refine lA hm [0,1,4] s (λz1=>[(5,Va z1.1),(6,Va z1.2)]) s.fi (λ_=>I) (λo2s hko2 n z1 a w hm s=>?_) λo2s hm a w s=>?_
 ·unfold AS at hm;refine se (R 6 s λa w s=>?_);refine cmt s hm (λhb hm=>?_) λhb hm=>?_
  ·refine se (wpIn_block ?_);obtain ⟨x3,hx3,hm⟩:=bk hm;obtain ⟨x4,hx4,hm⟩:=bk hm;refine rg (ru 1 s λa w s=>sq s (rm (t I) ci (by decide)) I λa w s=>ru 1 s λa w s=>sq s (rm (t I) ci (by decide)) I λa w s=>ru 1 s λa w s=>sq s (sl2 cs (t I) (t I) Tryz.underlying9 hx3.e) I λa w s=>ru 1 s λa w s=>sq s (ct (t I) (t I) hx4.e) I λa w s=>ru 1 s λa w s=>nl ?_);refine rg (ru 1 s λa w s=>sq s (qu (t I) ci (by decide)) I λa w s=>ru 1 s λa w s=>nl ?_);exact ⟨_,hm,s.fi⟩
  ·refine wpIn_exit ?_;obtain rfl:=si hm;exact s.fi
 ·obtain ⟨x5,hx5,hm⟩:=bk hm;refine se (rg (ru 2 s λa w s=>sq s (ct (t I) (t I) hx5.e) I λa w s=>ru 1 s λa w s=>nl ?_));cases hm;exact rT hD s I I
def Og (f:Nat) (v0:Plan) (x1:LG) (x2:LG):Nat->(Int×(List Ae))->Option (Int×(List Ae))
 | 0,_=>none
 | n+1,z12=>(bif (decide (z12.1 < (x1.length:Int))) then (rem (wr ((wr (z12.1 + (x1.length:Int))) - 1)) (x1.length:Int)).bind λx15=>(idx x2 x15).bind λx16=>(m81 f x16).bind λx17=>(m79 f v0.S x1 x15).bind λx19=>(m78 f v0 x19).bind λx20=>(app ([x17]:List Expr) x20).bind λx21=>(m49 f (⟨#[103]⟩:LL) z12.1).bind λx23=>(m80 f (3:Int) x21).bind λx24=>(rem (wr (z12.1 + 1)) (x1.length:Int)).bind λx25=>(idx x2 x25).bind λx26=>(m81 f x26).bind λx27=>(app z12.2 ([(⟨x23,(1:Int),x24,x27,(0:Int),(z12.1 == 0)⟩:Ae)]:List Ae)).bind λx28=>Og f v0 x1 x2 n ((wr (z12.1 + 1)),x28) else some (z12.1,z12.2))
def m46 (f:Nat) (v0:Plan):Option ((List Ae)):=(m43 f v0.S).bind λx1=>(m77 f v0.S).bind λx2=>(bif ((x1.length:Int) == 2) then (m79 f v0.S x1 (0:Int)).bind λx3=>(m78 f v0 x3).bind λx4=>(m79 f v0.S x1 (1:Int)).bind λx5=>(m78 f v0 x5).bind λx6=>(m80 f (3:Int) x4).bind λx7=>(m80 f (3:Int) x6).bind λx8=>(idx x2 (1:Int)).bind λx9=>(m81 f x9).bind λx10=>some ([(⟨(⟨#[103,49]⟩:LL),(1:Int),x7,x8,(0:Int),false⟩:Ae),(⟨(⟨#[103,48]⟩:LL),(0:Int),(⟨(2:Int),(0:Int),([x10]:List Expr)⟩:Expr),(⟨(0:Int),(0:Int),([]:List Expr)⟩:Expr),(0:Int),false⟩:Ae)]:List Ae) else (Og f v0 x1 x2 f ((0:Int),([]:List Ae))).bind λo13s=>some o13s.2)
theorem s46 (f:Nat) (v0:Plan) (r:(List Ae)) (hm:m46 f v0=some r):Sp Tryz.prog 46 [Va v0] (Rz (λx:Value=>Qv x) (λx=>[Ow 98 x r])):=by
 unfold m46 at hm;refine ens func46 kr_ I ntmps46 I I λM W a hM hD s=>?_;refine R 2 s λa w s=>?_;obtain ⟨x1,hx1,hm⟩:=bk hm;obtain ⟨x2,hx2,hm⟩:=bk hm;refine se (fW 6 s kr_ I I λa w s=>ru 2 s λa w s=>nl ?_);refine R 3 s λa w s=>?_;refine se (R 2 s λa w s=>?_);refine cmf s hm (λhb hm=>?_) λhb hm=>?_
 ·obtain ⟨x3,hx3,hm⟩:=bk hm;obtain ⟨x4,hx4,hm⟩:=bk hm;obtain ⟨x5,hx5,hm⟩:=bk hm;obtain ⟨x6,hx6,hm⟩:=bk hm;refine se (fW 12 s kr_ I I λa w s=>ru 2 s λa w s=>nl ?_);obtain ⟨x7,hx7,hm⟩:=bk hm;obtain ⟨x8,hx8,hm⟩:=bk hm;obtain ⟨x9,hx9,hm⟩:=bk hm;obtain ⟨x10,hx10,hm⟩:=bk hm;refine se (Ht s (m:=13) (.cons (.cons (.cons (.cons (.cons (.cons (.cons (.cons (.cons (.cons (.cons (.cons (.cons .nil I (mv (t I))) I (cc I (oc ci (oc (t I) on)) (s80 f _ _ _ hx7.e))) I (mv (t I))) I (cc I (oc ci (oc (t I) on)) (s80 f _ _ _ hx8.e))) I (Ui cs ci (t I) (t I))) I (mv (t I))) I (ix (t I) ci hx9.e)) I (ld (t I))) I (cc I (oc (t I) on) (s81 f _ _ hx10.e))) I (bsv (o1 (t I) o0) I I kr_)) I (Ry ci (t I))) I (Jk cs ci (t I))) I (bso (o1 (t I) (o1 (t I) o0)) I I kr_)) kr_ I I λa w s=>opo (d:=46) 1000 s I I λc11 s=>sq s (saq (t I)) I λa w s=>nl ?_);obtain rfl:=si hm;refine wpIn_ret ?_;exact rz [1000] c11 hM hD s I (rv1 (rt I)) (kc I kn) I
 ·refine R 1 s λa w s=>?_;refine se (R 1 s λa w s=>?_);refine Fi (α:=Ae) (d:=8) 1001 98 s I I λc14 s=>?_;refine lA1 hm [0,1,2,3,4,5] s (λz12 z12c0=>[(8,Qv z12c0),(9,Va z12.1),(1001,Ow 98 z12c0 z12.2)]) ⟨c14,s.fi⟩ (λ_=>I) (λo13s hko13 n z12 a w hm s=>?_) λo13s hm a w s=>?_
  ·obtain ⟨z12c0,s⟩:=s;unfold Og at hm;refine se (R 3 s λa w s=>?_);refine cmt s hm (λhb hm=>?_) λhb hm=>?_
   ·refine se (wpIn_block ?_);obtain ⟨x15,hx15,hm⟩:=bk hm;refine se (rg (ru 5 s λa w s=>sq s (rmd (t I) (t I) hx15.e) I λa w s=>ru 1 s λa w s=>nl ?_));obtain ⟨x16,hx16,hm⟩:=bk hm;obtain ⟨x17,hx17,hm⟩:=bk hm;obtain ⟨x19,hx19,hm⟩:=bk hm;obtain ⟨x20,hx20,hm⟩:=bk hm;obtain ⟨x21,hx21,hm⟩:=bk hm;refine se (Ht s (m:=13) (.cons (.cons (.cons (.cons (.cons (.cons (.cons (.cons (.cons (.cons (.cons (.cons (.cons .nil I (mv (t I))) I (mv (t I))) I (ix (t I) (t I) hx16.e)) I (ld (t I))) I (cc I (oc (t I) on) (s81 f _ _ hx17.e))) I (bso (o1 (t I) o0) I I kr_)) I (ld (t I))) I (fa (f:=Plan.S) (t I))) I (ld (t I))) I (mv (t I))) I (mv (t I))) I (cc I (oc (t I) (oc (t I) (oc (t I) on))) (s79 f _ _ _ _ hx19.e))) I (cc I (oc (t I) (oc (t I) on)) (s78 f _ _ _ hx20.e))) kr_ I I λa w s=>opo (d:=63) 1002 s I I λc18 s=>apd (α:=Expr) (k:=1002) s (t I) I (t I) hx21.e I I λc22 a w s=>sq s (saq (t I)) I λa w s=>nl ?_);refine fzk (α:=Expr) (k:=1002) hM s I λs=>?_;obtain ⟨x23,hx23,hm⟩:=bk hm;obtain ⟨x24,hx24,hm⟩:=bk hm;obtain ⟨x25,hx25,hm⟩:=bk hm;obtain ⟨x26,hx26,hm⟩:=bk hm;obtain ⟨x27,hx27,hm⟩:=bk hm;obtain ⟨x28,hx28,hm⟩:=bk hm;refine Ht s (m:=17) (.cons (.cons (.cons (.cons (.cons (.cons (.cons (.cons (.cons (.cons (.cons (.cons (.cons (.cons (.cons (.cons (.cons .nil I (mvq (t I))) I (mv (t I))) I (cc I (oc cs (oc (t I) on)) (s49 f _ _ _ hx23.e))) I (mvq (t I))) I (cc I (oc ci (oc (ta (k:=1002) (t I) I) on)) (s80 f _ _ _ hx24.e))) I (mv (t I))) I (mv (t I))) I (ad (t I) ci)) I (mv (t I))) I (rmd (t I) (t I) hx25.e)) I (ix (t I) (t I) hx26.e)) I (ld (t I))) I (cc I (oc (t I) on) (s81 f _ _ hx27.e))) I (mv (t I))) I (eq (t I) ci)) I (Ni (t I) ci (t I) (t I) (t I))) I (bsv (o1 (t I) o0) I I kr_)) kr_ I I λa w s=>apd (α:=Ae) (k:=1001) s (t I) I (t I) hx28.e I I λc29 a w s=>sq s (saq (t I)) I λa w s=>nl ?_;refine R0 3 s λa w s=>?_;exact ⟨_,hm,⟨c29,s.fi⟩⟩
   ·refine wpIn_exit ?_;obtain rfl:=si hm;exact ⟨z12c0,s.fi⟩
  ·obtain ⟨o13sc0,s⟩:=s;refine R 2 s λa w s=>?_;obtain rfl:=si hm;refine wpIn_ret ?_;exact rz [1001] o13sc0 hM hD s I (rv1 (rt I)) (kc I kn) I
def Of (f:Nat) (v0:Plan) (v1:LG):Nat->(Int×(List Ae))->Option (Int×(List Ae))
 | 0,_=>none
 | n+1,z1=>(bif (decide (z1.1 < (v0.Timers.length:Int))) then (idx v0.Timers z1.1).bind λx4=>(bif (decide (x4>=(0:Int))) then (idx v1 z1.1).bind λx6=>(m81 f x6).bind λx7=>(idx v0.S.Steps z1.1).bind λx9=>(m82 f x9).bind λx10=>(app ([x7]:List Expr) x10).bind λx11=>(m49 f (⟨#[119]⟩:LL) z1.1).bind λx13=>(m80 f (3:Int) x11).bind λx14=>(idx v0.S.Steps z1.1).bind λx15=>(app z1.2 ([(⟨x13,(2:Int),x14,(⟨(0:Int),(0:Int),([]:List Expr)⟩:Expr),x15.Wait,false⟩:Ae)]:List Ae)).bind λx16=>some x16 else some z1.2).bind λz5=>Of f v0 v1 n ((wr (z1.1 + 1)),z5) else some (z1.1,z1.2))
def m47 (f:Nat) (v0:Plan) (v1:LG):Option ((List Ae)):=(Of f v0 v1 f ((0:Int),([]:List Ae))).bind λo2s=>some o2s.2
theorem s47 (f:Nat) (v0:Plan) (v1:LG) (r:(List Ae)) (hm:m47 f v0 v1=some r):Sp Tryz.prog 47 [Va v0,Va v1] (Va r):=by
 unfold m47 at hm;refine ens func47 kr_ I ntmps47 I I λM W a hM hD s=>?_;refine R 2 s λa w s=>?_;refine R 1 s λa w s=>?_;refine se (R 1 s λa w s=>?_);refine Fi (α:=Ae) (d:=5) 1000 98 s I I λc3 s=>?_;refine lA1 hm [0,1,2,4] s (λz1 z1c0=>[(5,Qv z1c0),(6,Va z1.1),(1000,Ow 98 z1c0 z1.2)]) ⟨c3,s.fi⟩ (λ_=>I) (λo2s hko2 n z1 a w hm s=>?_) λo2s hm a w s=>?_
 ·obtain ⟨z1c0,s⟩:=s;unfold Of at hm;refine se (R 5 s λa w s=>?_);refine cmt s hm (λhb hm=>?_) λhb hm=>?_
  ·refine se (wpIn_block ?_);refine se (rg (ru 3 s λa w s=>iB s hm λx4 hm a w s=>ru 2 s λa w s=>nl ?_));obtain ⟨z5,hz5,hkz5⟩:=bs hm;refine cP1 [0,1,2,4,6] s (λz5c0=>[(5,Qv z5c0),(1000,Ow 98 z5c0 z5)]) ?_ λa w s=>?_
   ·refine cm s I hz5 (λhb hm=>?_) (λhb hm=>?_)
    ·obtain ⟨x6,hx6,hm⟩:=bk hm;obtain ⟨x7,hx7,hm⟩:=bk hm;obtain ⟨x9,hx9,hm⟩:=bk hm;obtain ⟨x10,hx10,hm⟩:=bk hm;obtain ⟨x11,hx11,hm⟩:=bk hm;refine se (Ht s (m:=13) (.cons (.cons (.cons (.cons (.cons (.cons (.cons (.cons (.cons (.cons (.cons (.cons (.cons .nil I (mv (t I))) I (mv (t I))) I (ix (t I) (t I) hx6.e)) I (ld (t I))) I (cc I (oc (t I) on) (s81 f _ _ hx7.e))) I (bso (o1 (t I) o0) I I kr_)) I (fa (f:=Plan.S) (t I))) I (fa (f:=Ai.Steps) (t I))) I (ld (t I))) I (mv (t I))) I (ix (t I) (t I) hx9.e)) I (ld (t I))) I (cc I (oc (t I) on) (s82 f _ _ hx10.e))) kr_ I I λa w s=>opo (d:=26) 1001 s I I λc8 s=>apd (α:=Expr) (k:=1001) s (t I) I (t I) hx11.e I I λc12 a w s=>sq s (saq (t I)) I λa w s=>nl ?_);refine fzk (α:=Expr) (k:=1001) hM s I λs=>?_;obtain ⟨x13,hx13,hm⟩:=bk hm;obtain ⟨x14,hx14,hm⟩:=bk hm;obtain ⟨x15,hx15,hm⟩:=bk hm;obtain ⟨x16,hx16,hm⟩:=bk hm;refine Ht s (m:=14) (.cons (.cons (.cons (.cons (.cons (.cons (.cons (.cons (.cons (.cons (.cons (.cons (.cons (.cons .nil I (mvq (t I))) I (mv (t I))) I (cc I (oc cs (oc (t I) on)) (s49 f _ _ _ hx13.e))) I (mvq (t I))) I (cc I (oc ci (oc (ta (k:=1001) (t I) I) on)) (s80 f _ _ _ hx14.e))) I (fa (f:=Plan.S) (t I))) I (fa (f:=Ai.Steps) (t I))) I (ld (t I))) I (mv (t I))) I (ix (t I) (t I) hx15.e)) I (fa (f:=Step.Wait) (t I))) I (ld (t I))) I (Uh (t I) ci (t I) (t I))) I (bsv (o1 (t I) o0) I I kr_)) kr_ I I λa w s=>apd (α:=Ae) (k:=1000) s (t I) I (t I) hx16.e I I λc17 a w s=>sq s (saq (t I)) I λa w s=>nl ?_;obtain rfl:=si hm;exact ⟨c17,s.fi⟩
    ·refine wpIn_skip ?_;obtain rfl:=si hm;exact ⟨z1c0,s.fi⟩
   ·obtain ⟨z5c0,s⟩:=s;replace hm:=hkz5;refine R0 3 s λa w s=>?_;exact ⟨_,hm,⟨z5c0,s.fi⟩⟩
  ·refine wpIn_exit ?_;obtain rfl:=si hm;exact ⟨z1c0,s.fi⟩
 ·obtain ⟨o2sc0,s⟩:=s;refine R 2 s λa w s=>?_;obtain rfl:=si hm;refine fzk (α:=Ae) (k:=1000) hM s I λs=>?_;refine wpIn_ret ?_;exact rn hD s I (rv1 (ro (ta (k:=1000) (t I) I)))
instance {f:Nat} {v0:Plan} {v1:LG}:Cn Tryz.prog 47 (m47 f v0 v1) [Va v0,Va v1] (λr:(List Ae)=>(Va r)):=⟨s47 f v0 v1⟩
def Nw (v0:LG) (v1:Int):Nat->(Int×Int)->Option (Int×Int)
 | 0,_=>none
 | n+1,z1=>(bif (decide (z1.2 < (v0.length:Int))) then (idx v0 z1.2).bind λx3=>(bif (decide (x3<=v1)) then some z1.2 else some z1.1).bind λz4=>Nw v0 v1 n (z4,(wr (z1.2 + 1))) else some (z1.1,z1.2))
def m83 (f:Nat) (v0:LG) (v1:Int):Option (Int):=(Nw v0 v1 f ((0:Int),(0:Int))).bind λo2s=>some o2s.1
theorem s83 (f:Nat) (v0:LG) (v1:Int) (r:Int) (hm:m83 f v0 v1=some r):Sp Tryz.prog 83 [Va v0,Va v1] (Va r):=by
 unfold m83 at hm;refine ens func83 kr_ I ntmps83 I I λM W a hM hD s=>?_;refine R 1 s λa w s=>?_;refine R 1 s λa w s=>?_;refine se (R 1 s λa w s=>?_);refine lA hm [0,1,4] s (λz1=>[(5,Va z1.1),(6,Va z1.2)]) s.fi (λ_=>I) (λo2s hko2 n z1 a w hm s=>?_) λo2s hm a w s=>?_
 ·unfold Nw at hm;refine se (R 4 s λa w s=>?_);refine cmt s hm (λhb hm=>?_) λhb hm=>?_
  ·refine se (wpIn_block ?_);refine se (rg (ru 2 s λa w s=>iB s hm λx3 hm a w s=>ru 3 s λa w s=>nl ?_));obtain ⟨z4,hz4,hkz4⟩:=bs hm;refine cP [0,1,4,6] s [(5,Va z4)] ?_ λa w s=>?_
   ·refine cm s I hz4 (λhb hm=>?_) (λhb hm=>?_)
    ·refine R0 2 s λa w s=>?_;obtain rfl:=si hm;exact s.fi
    ·refine wpIn_skip ?_;obtain rfl:=si hm;exact s.fi
   ·replace hm:=hkz4;refine R0 3 s λa w s=>?_;exact ⟨_,hm,s.fi⟩
  ·refine wpIn_exit ?_;obtain rfl:=si hm;exact s.fi
 ·refine R 2 s λa w s=>?_;cases hm;exact rT hD s I I
instance {f:Nat} {v0:LG} {v1:Int}:Cn Tryz.prog 83 (m83 f v0 v1) [Va v0,Va v1] (λr:Int=>(Va r)):=⟨s83 f v0 v1⟩
def Oe (f:Nat) (v0:Ai):Nat->(Int×LG)->Option (Int×LG)
 | 0,_=>none
 | n+1,z1=>(bif (decide (z1.1 < (v0.Steps.length:Int))) then (m77 f v0).bind λx4=>(m43 f v0).bind λx5=>(m83 f x5 z1.1).bind λx6=>(idx x4 x6).bind λx7=>(app z1.2 ([x7]:LG)).bind λx8=>Oe f v0 n ((wr (z1.1 + 1)),x8) else some (z1.1,z1.2))
def m48 (f:Nat) (v0:Ai):Option (LG):=(Oe f v0 f ((0:Int),([]:LG))).bind λo2s=>some o2s.2
theorem s48 (f:Nat) (v0:Ai) (r:LG) (hm:m48 f v0=some r):Sp Tryz.prog 48 [Va v0] (Va r):=by
 unfold m48 at hm;refine ens func48 kr_ I ntmps48 I I λM W a hM hD s=>?_;refine R 2 s λa w s=>?_;refine R 1 s λa w s=>?_;refine se (R 1 s λa w s=>?_);refine Fi (α:=Int) (d:=3) 1000 3 s I I λc3 s=>?_;refine lA1 hm [0,1,2] s (λz1 z1c0=>[(3,Qv z1c0),(4,Va z1.1),(1000,Ow 3 z1c0 z1.2)]) ⟨c3,s.fi⟩ (λ_=>I) (λo2s hko2 n z1 a w hm s=>?_) λo2s hm a w s=>?_
 ·obtain ⟨z1c0,s⟩:=s;unfold Oe at hm;refine se (R 5 s λa w s=>?_);refine cmt s hm (λhb hm=>?_) λhb hm=>?_
  ·refine se (wpIn_block ?_);obtain ⟨x4,hx4,hm⟩:=bk hm;obtain ⟨x5,hx5,hm⟩:=bk hm;obtain ⟨x6,hx6,hm⟩:=bk hm;obtain ⟨x7,hx7,hm⟩:=bk hm;obtain ⟨x8,hx8,hm⟩:=bk hm;refine fW 10 s kr_ I I λa w s=>apd (α:=Int) (k:=1000) s (t I) I (t I) hx8.e I I λc9 a w s=>ru 1 s λa w s=>nl ?_;refine R0 3 s λa w s=>?_;exact ⟨_,hm,⟨c9,s.fi⟩⟩
  ·refine wpIn_exit ?_;obtain rfl:=si hm;exact ⟨z1c0,s.fi⟩
 ·obtain ⟨o2sc0,s⟩:=s;refine R 2 s λa w s=>?_;obtain rfl:=si hm;refine fzk (α:=Int) (k:=1000) hM s I λs=>?_;refine wpIn_ret ?_;exact rn hD s I (rv1 (ro (ta (k:=1000) (t I) I)))
instance {f:Nat} {v0:Ai}:Cn Tryz.prog 48 (m48 f v0) [Va v0] (λr:LG=>(Va r)):=⟨s48 f v0⟩
def m50 (f:Nat) (v0:Plan) (v1:Int):Option (Expr):=(m43 f v0.S).bind λx2=>(m77 f v0.S).bind λx3=>(m83 f x2 v1).bind λx4=>(idx x3 x4).bind λx5=>(m81 f x5).bind λx6=>(bif (v1 == 0) then (m81 f (wr ((2:Int) * v0.S.Actuators))).bind λx8=>(m80 f (3:Int) ([x6,x8]:List Expr)).bind λx9=>some x9 else (m83 f x2 v1).bind λx10=>(idx x2 x10).bind λx11=>(bif (x11 == v1) then some x6 else (m78 f v0 (wr (v1 - 1))).bind λx13=>(app ([x6]:List Expr) x13).bind λx14=>(m80 f (3:Int) x14).bind λx16=>some x16))
theorem s50 (f:Nat) (v0:Plan) (v1:Int) (r:Expr) (hm:m50 f v0 v1=some r):Sp Tryz.prog 50 [Va v0,Va v1] (Va r):=by
 unfold m50 at hm;refine ens func50 kr_ I ntmps50 I I λM W a hM hD s=>?_;refine se (rg (ru 1 s λa w s=>aR 1000 s λb1 a w s=>nl ?_));obtain ⟨x2,hx2,hm⟩:=bk hm;obtain ⟨x3,hx3,hm⟩:=bk hm;refine se (fW 6 s kr_ I I λa w s=>ru 2 s λa w s=>nl ?_);refine se (rg (ru 3 s λa w s=>cB s hm (s83 f _ _) λx4 hm a w s=>iB s hm λx5 hm a w s=>ru 1 s λa w s=>cB s hm (s81 f _) λx6 hm a w s=>aR 1001 s λb7 a w s=>sW s I λw s=>nl ?_));refine se (R 2 s λa w s=>?_);refine cmf s hm (λhb hm=>?_) λhb hm=>?_
 ·obtain ⟨x8,hx8,hm⟩:=bk hm;obtain ⟨x9,hx9,hm⟩:=bk hm;refine se (fW 8 s kr_ I I λa w s=>sW s I λw s=>nl ?_);cases hm;exact rT hD s I I
 ·refine se (se (rg (ru 3 s λa w s=>cB s hm (s83 f _ _) λx10 hm a w s=>iB s hm λx11 hm a w s=>ru 3 s λa w s=>nl ?_)));refine cmf s hm (λhb hm=>?_) λhb hm=>?_
  ·refine se (rg (ru 1 s λa w s=>sW s I λw s=>nl ?_));cases hm;exact rT hD s I I
  ·obtain ⟨x13,hx13,hm⟩:=bk hm;obtain ⟨x14,hx14,hm⟩:=bk hm;obtain ⟨x16,hx16,hm⟩:=bk hm;refine se (Ht s (m:=6) (.cons (.cons (.cons (.cons (.cons (.cons .nil I (lm (K:=1001) (t I) I)) I (bso (o1 (t I) o0) I I kr_)) I (ld (t I))) I (mv (t I))) I (sb (t I) ci)) I (cc I (oc (t I) (oc (t I) on)) (s78 f _ _ _ hx13.e))) kr_ I I λa w s=>opo (d:=41) 1002 s I I λc12 s=>apd (α:=Expr) (k:=1002) s (t I) I (t I) hx14.e I I λc15 a w s=>fzk (α:=Expr) (k:=1002) hM s I λs=>sq s (cc I (oc ci (oc (ta (k:=1002) (t I) I) on)) (s80 f _ _ _ hx16.e)) I λa w s=>sW s I λw s=>nl ?_);cases hm;exact rT hD s I I
def Le (f:Nat) (v0:Plan) (v1:LG) (z1:Int×(List Ae)) (x6:Bool) (z7:Int×(List Expr)):Nat->(Int×(List Expr))->Option (Int×(List Expr))
 | 0,_=>none
 | n+1,z10=>(idx v0.S.Steps z7.1).bind λx12=>(bif (decide (z10.1 < (x12.Strokes.length:Int))) then (idx v0.S.Steps z7.1).bind λx13=>(idx x13.Strokes z10.1).bind λx14=>(bif (Jx x14 (⟨z1.1,x6⟩:Ab)) then (idx v1 z7.1).bind λx16=>(m81 f x16).bind λx17=>(app z10.2 ([x17]:List Expr)).bind λx18=>some x18 else some z10.2).bind λz15=>Le f v0 v1 z1 x6 z7 n ((wr (z10.1 + 1)),z15) else some (z10.1,z10.2))
def Lf (f:Nat) (v0:Plan) (v1:LG) (z1:Int×(List Ae)) (x6:Bool):Nat->(Int×(List Expr))->Option (Int×(List Expr))
 | 0,_=>none
 | n+1,z7=>(bif (decide (z7.1 < (v0.S.Steps.length:Int))) then (Le f v0 v1 z1 x6 z7 f ((0:Int),z7.2)).bind λo11s=>Lf f v0 v1 z1 x6 n ((wr (z7.1 + 1)),o11s.2) else some (z7.1,z7.2))
def Ef (f:Nat) (v0:Plan) (v1:LG) (z1:Int×(List Ae)):Nat->(Int×(List Ae))->Option (Int×(List Ae))
 | 0,_=>none
 | n+1,z4=>(bif (decide (z4.1 < (([true,false]:LH).length:Int))) then (idx ([true,false]:LH) z4.1).bind λx6=>(Lf f v0 v1 z1 x6 f ((0:Int),([]:List Expr))).bind λo8s=>(ssl (⟨#[97,98,99,100,101,102]⟩:LL) z1.1 (wr (z1.1 + 1))).bind λx20=>(bif x6 then (cat x20 (⟨#[112]⟩:LL)).bind λx22=>some x22 else (cat x20 (⟨#[109]⟩:LL)).bind λx23=>some x23).bind λz21=>(m80 f (4:Int) o8s.2).bind λx24=>(app z4.2 ([(⟨z21,(0:Int),x24,(⟨(0:Int),(0:Int),([]:List Expr)⟩:Expr),(0:Int),false⟩:Ae)]:List Ae)).bind λx25=>Ef f v0 v1 z1 n ((wr (z4.1 + 1)),x25) else some (z4.1,z4.2))
def Ob (f:Nat) (v0:Plan) (v1:LG):Nat->(Int×(List Ae))->Option (Int×(List Ae))
 | 0,_=>none
 | n+1,z1=>(bif (decide (z1.1 < v0.S.Actuators)) then (Ef f v0 v1 z1 f ((0:Int),z1.2)).bind λo5s=>Ob f v0 v1 n ((wr (z1.1 + 1)),o5s.2) else some (z1.1,z1.2))
def m51 (f:Nat) (v0:Plan) (v1:LG):Option ((List Ae)):=(Ob f v0 v1 f ((0:Int),([]:List Ae))).bind λo2s=>some o2s.2
theorem s51 (f:Nat) (v0:Plan) (v1:LG) (r:(List Ae)) (hm:m51 f v0 v1=some r):Sp Tryz.prog 51 [Va v0,Va v1] (Va r):=by
 unfold m51 at hm;refine ens func51 kr_ I ntmps51 I I λM W a hM hD s=>?_;refine R 2 s λa w s=>?_;refine R 1 s λa w s=>?_;refine se (R 1 s λa w s=>?_);refine Fi (α:=Ae) (d:=5) 1000 98 s I I λc3 s=>?_;refine lA1 hm [0,1,2,4] s (λz1 z1c0=>[(5,Qv z1c0),(6,Va z1.1),(1000,Ow 98 z1c0 z1.2)]) ⟨c3,s.fi⟩ (λ_=>I) (λo2s hko2 n z1 a w hm s=>?_) λo2s hm a w s=>?_
 ·obtain ⟨z1c0,s⟩:=s;unfold Ob at hm;refine se (R 5 s λa w s=>?_);refine cmt s hm (λhb hm=>?_) λhb hm=>?_
  ·refine se (wpIn_block ?_);refine R 3 s λa w s=>?_;refine lA1 hm [0,1,2,4,6,20,21] s (λz4 z4c0=>[(5,Qv z4c0),(22,Va z4.1),(1000,Ow 98 z4c0 z4.2)]) ⟨z1c0,s.fi⟩ (λ_=>I) (λo5s hko5 n z4 a w hm s=>?_) λo5s hm a w s=>?_
   ·obtain ⟨z4c0,s⟩:=s;unfold Ef at hm;refine R 1 s λa w s=>?_;refine se (cmt s hm (λhb hm=>?_) λhb hm=>?_)
    ·refine se (wpIn_block ?_);refine se (rg (iB s hm λx6 hm a w s=>ru 2 s λa w s=>nl ?_));refine R 1 s λa w s=>?_;refine se (R 1 s λa w s=>?_);refine Fi (α:=Expr) (d:=9) 1001 96 s I I λc9 s=>?_;refine lA1 hm [0,1,2,4,5,6,8,20,21,22,1000] s (λz7 z7c0=>[(9,Qv z7c0),(10,Va z7.1),(1001,Ow 96 z7c0 z7.2)]) ⟨c9,s.fi⟩ (λ_=>I) (λo8s hko8 n z7 a w hm s=>?_) λo8s hm a w s=>?_
     ·obtain ⟨z7c0,s⟩:=s;unfold Lf at hm;refine se (R 6 s λa w s=>?_);refine cmt s hm (λhb hm=>?_) λhb hm=>?_
      ·refine se (wpIn_block ?_);refine R 1 s λa w s=>?_;refine lA1 hm [0,1,2,4,5,6,8,10,20,21,22,1000] s (λz10 z10c0=>[(9,Qv z10c0),(11,Va z10.1),(1001,Ow 96 z10c0 z10.2)]) ⟨z7c0,s.fi⟩ (λ_=>I) (λo11s hko11 n z10 a w hm s=>?_) λo11s hm a w s=>?_
       ·obtain ⟨z10c0,s⟩:=s;unfold Le at hm;refine se (se (rg (ru 5 s λa w s=>iB s hm λx12 hm a w s=>ru 4 s λa w s=>nl ?_)));refine cmt s hm (λhb hm=>?_) λhb hm=>?_
        ·refine se (wpIn_block ?_);refine se (rg (ru 4 s λa w s=>iB s hm λx13 hm a w s=>ru 3 s λa w s=>iB s hm λx14 hm a w s=>ru 3 s λa w s=>sq s (Sc (t I) (t I)) I λa w s=>sq s (seql (t I) (t I)) I λa w s=>nl ?_));obtain ⟨z15,hz15,hkz15⟩:=bs hm;refine cP1 [0,1,2,4,5,6,8,10,11,20,21,22,1000] s (λz15c0=>[(9,Qv z15c0),(1001,Ow 96 z15c0 z15)]) ?_ λa w s=>?_
         ·refine cm s I hz15 (λhb hm=>?_) (λhb hm=>?_)
          ·obtain ⟨x16,hx16,hm⟩:=bk hm;obtain ⟨x17,hx17,hm⟩:=bk hm;obtain ⟨x18,hx18,hm⟩:=bk hm;refine rg (ru 7 s λa w s=>apd (α:=Expr) (k:=1001) s (t I) I (t I) hx18.e I I λc19 a w s=>ru 1 s λa w s=>nl ?_);obtain rfl:=si hm;exact ⟨c19,s.fi⟩
          ·refine wpIn_skip ?_;obtain rfl:=si hm;exact ⟨z10c0,s.fi⟩
         ·obtain ⟨z15c0,s⟩:=s;replace hm:=hkz15;refine R0 3 s λa w s=>?_;exact ⟨_,hm,⟨z15c0,s.fi⟩⟩
        ·refine wpIn_exit ?_;obtain rfl:=si hm;exact ⟨z10c0,s.fi⟩
       ·obtain ⟨o11sc0,s⟩:=s;refine R0 3 s λa w s=>?_;exact ⟨_,hm,⟨o11sc0,s.fi⟩⟩
      ·refine wpIn_exit ?_;obtain rfl:=si hm;exact ⟨z7c0,s.fi⟩
     ·obtain ⟨o8sc0,s⟩:=s;obtain ⟨x20,hx20,hm⟩:=bk hm;refine se (rg (ru 3 s λa w s=>sq s (sl2 cs (t I) (t I) Tryz.underlying9 hx20.e) I λa w s=>ru 1 s λa w s=>nl ?_));refine se (R 1 s λa w s=>?_);obtain ⟨z21,hz21,hkz21⟩:=bs hm;refine cP [0,1,2,4,5,6,8,9,10,20,21,22,1000,1001] s [(12,Va z21)] ?_ λa w s=>?_
      ·refine cm s I hz21 (λhb hm=>?_) (λhb hm=>?_)
       ·obtain ⟨x22,hx22,hm⟩:=bk hm;refine rg (ru 1 s λa w s=>sq s (ct (t I) cs hx22.e) I λa w s=>ru 1 s λa w s=>nl ?_);obtain rfl:=si hm;exact s.fi
       ·obtain ⟨x23,hx23,hm⟩:=bk hm;refine rg (ru 1 s λa w s=>sq s (ct (t I) cs hx23.e) I λa w s=>ru 1 s λa w s=>nl ?_);obtain rfl:=si hm;exact s.fi
      ·replace hm:=hkz21;obtain ⟨x24,hx24,hm⟩:=bk hm;obtain ⟨x25,hx25,hm⟩:=bk hm;refine rg (ru 3 s λa w s=>fzk (α:=Expr) (k:=1001) hM s I λs=>ru 1 s λa w s=>sq s (Jk (t I) ci (t I)) I λa w s=>ru 1 s λa w s=>apd (α:=Ae) (k:=1000) s (t I) I (t I) hx25.e I I λc26 a w s=>ru 1 s λa w s=>nl ?_);refine R0 2 s λa w s=>?_;exact ⟨_,hm,⟨c26,s.fi⟩⟩
    ·refine wpIn_exit ?_;obtain rfl:=si hm;exact ⟨z4c0,s.fi⟩
   ·obtain ⟨o5sc0,s⟩:=s;refine R0 3 s λa w s=>?_;exact ⟨_,hm,⟨o5sc0,s.fi⟩⟩
  ·refine wpIn_exit ?_;obtain rfl:=si hm;exact ⟨z1c0,s.fi⟩
 ·obtain ⟨o2sc0,s⟩:=s;refine R 2 s λa w s=>?_;obtain rfl:=si hm;refine fzk (α:=Ae) (k:=1000) hM s I λs=>?_;refine wpIn_ret ?_;exact rn hD s I (rv1 (ro (ta (k:=1000) (t I) I)))
instance {f:Nat} {v0:Plan} {v1:LG}:Cn Tryz.prog 51 (m51 f v0 v1) [Va v0,Va v1] (λr:(List Ae)=>(Va r)):=⟨s51 f v0 v1⟩
def Oh (v0:Plan):Nat->(Int×Int)->Option (Int×Int)
 | 0,_=>none
 | n+1,z1=>(bif (decide (z1.2 < (v0.Timers.length:Int))) then (idx v0.Timers z1.2).bind λx3=>(bif (decide (x3>=(0:Int))) then some (wr (z1.1 + 1)) else some z1.1).bind λz4=>Oh v0 n (z4,(wr (z1.2 + 1))) else some (z1.1,z1.2))
def m45 (f:Nat) (v0:Plan):Option (Int):=(Oh v0 f ((0:Int),(0:Int))).bind λo2s=>some o2s.1
theorem s45 (f:Nat) (v0:Plan) (r:Int) (hm:m45 f v0=some r):Sp Tryz.prog 45 [Va v0] (Va r):=by
 unfold m45 at hm;refine ens func45 kr_ I ntmps45 I I λM W a hM hD s=>?_;refine R 2 s λa w s=>?_;refine R 1 s λa w s=>?_;refine se (R 1 s λa w s=>?_);refine lA hm [0,1,2] s (λz1=>[(3,Va z1.1),(4,Va z1.2)]) s.fi (λ_=>I) (λo2s hko2 n z1 a w hm s=>?_) λo2s hm a w s=>?_
 ·unfold Oh at hm;refine se (R 5 s λa w s=>?_);refine cmt s hm (λhb hm=>?_) λhb hm=>?_
  ·refine se (wpIn_block ?_);refine se (rg (ru 3 s λa w s=>iB s hm λx3 hm a w s=>ru 2 s λa w s=>nl ?_));obtain ⟨z4,hz4,hkz4⟩:=bs hm;refine cP [0,1,2,4] s [(3,Va z4)] ?_ λa w s=>?_
   ·refine cm s I hz4 (λhb hm=>?_) (λhb hm=>?_)
    ·refine R0 3 s λa w s=>?_;obtain rfl:=si hm;exact s.fi
    ·refine wpIn_skip ?_;obtain rfl:=si hm;exact s.fi
   ·replace hm:=hkz4;refine R0 3 s λa w s=>?_;exact ⟨_,hm,s.fi⟩
  ·refine wpIn_exit ?_;obtain rfl:=si hm;exact s.fi
 ·refine R 2 s λa w s=>?_;cases hm;exact rT hD s I I
instance {f:Nat} {v0:Plan}:Cn Tryz.prog 45 (m45 f v0) [Va v0] (λr:Int=>(Va r)):=⟨s45 f v0⟩
def Oa (f:Nat) (v0:Ai) (x1:Plan):Nat->(Int×LG)->Option (Int×LG)
 | 0,_=>none
 | n+1,z3=>(bif (decide (z3.1 < (v0.Steps.length:Int))) then (m76 f v0).bind λx6=>(m43 f v0).bind λx7=>(m45 f x1).bind λx8=>(app z3.2 ([(wr ((wr ((wr (x6 + (x7.length:Int))) + x8)) + z3.1))]:LG)).bind λx9=>Oa f v0 x1 n ((wr (z3.1 + 1)),x9) else some (z3.1,z3.2))
def m52 (f:Nat) (v0:Ai):Option (LG):=(m44 f v0).bind λx1=>(Oa f v0 x1 f ((0:Int),([]:LG))).bind λo4s=>some o4s.2
theorem s52 (f:Nat) (v0:Ai) (r:LG) (hm:m52 f v0=some r):Sp Tryz.prog 52 [Va v0] (Va r):=by
 unfold m52 at hm;refine ens func52 kr_ I ntmps52 I I λM W a hM hD s=>?_;refine R 2 s λa w s=>?_;refine se (rg (ru 1 s λa w s=>cB s hm (s44 f _) λx1 hm a w s=>aR 1000 s λb2 a w s=>sW s I λw s=>nl ?_));refine R 1 s λa w s=>?_;refine se (R 1 s λa w s=>?_);refine Fi (α:=Int) (d:=4) 1001 3 s I I λc5 s=>?_;refine lA1 hm [0,1,2,3,1000] s (λz3 z3c0=>[(4,Qv z3c0),(5,Va z3.1),(1001,Ow 3 z3c0 z3.2)]) ⟨c5,s.fi⟩ (λ_=>I) (λo4s hko4 n z3 a w hm s=>?_) λo4s hm a w s=>?_
 ·obtain ⟨z3c0,s⟩:=s;unfold Oa at hm;refine se (R 5 s λa w s=>?_);refine cmt s hm (λhb hm=>?_) λhb hm=>?_
  ·refine se (wpIn_block ?_);obtain ⟨x6,hx6,hm⟩:=bk hm;obtain ⟨x7,hx7,hm⟩:=bk hm;obtain ⟨x8,hx8,hm⟩:=bk hm;obtain ⟨x9,hx9,hm⟩:=bk hm;refine fW 13 s kr_ I I λa w s=>apd (α:=Int) (k:=1001) s (t I) I (t I) hx9.e I I λc10 a w s=>ru 1 s λa w s=>nl ?_;refine R0 3 s λa w s=>?_;exact ⟨_,hm,⟨c10,s.fi⟩⟩
  ·refine wpIn_exit ?_;obtain rfl:=si hm;exact ⟨z3c0,s.fi⟩
 ·obtain ⟨o4sc0,s⟩:=s;refine R 2 s λa w s=>?_;obtain rfl:=si hm;refine fzk (α:=Int) (k:=1001) hM s I λs=>?_;refine wpIn_ret ?_;exact rn hD s I (rv1 (ro (ta (k:=1001) (t I) I)))
instance {f:Nat} {v0:Ai}:Cn Tryz.prog 52 (m52 f v0) [Va v0] (λr:LG=>(Va r)):=⟨s52 f v0⟩
def m84 (f:Nat) (v0:Aa):Option (Int):=some (wr ((wr ((wr ((2:Int) * v0.Actuators)) + (v0.Inputs.length:Int))) + (v0.Signals.length:Int)))
theorem s84 (f:Nat) (v0:Aa) (r:Int) (hm:m84 f v0=some r):Sp Tryz.prog 84 [Va v0] (Va r):=by
 unfold m84 at hm;refine ens func84 kr_ I ntmps84 I I λM W a hM hD s=>?_;refine R 2 s λa w s=>?_;refine R 12 s λa w s=>?_;cases hm;exact rT hD s I I
def Ew (v0:Int) (x3:Int):Nat->(Int×LG×LG)->Option (Int×LG×LG)
 | 0,_=>none
 | n+1,z4=>(bif (decide (z4.1 < v0)) then (app z4.2.1 ([(wr ((wr (x3 - (wr ((2:Int) * v0)))) + (wr ((2:Int) * z4.1))))]:LG)).bind λx8=>(app z4.2.2 ([(wr ((wr ((wr (x3 - (wr ((2:Int) * v0)))) + (wr ((2:Int) * z4.1)))) + 1))]:LG)).bind λx10=>Ew v0 x3 n ((wr (z4.1 + 1)),x8,x10) else some (z4.1,z4.2.1,z4.2.2))
def Yp (f:Nat) (v0:Int) (v1:List LL) (v2:List Ae):Option (Aa×(List LL)×(List Ae)):=(m84 f (⟨v0,v1,v2,([]:LG),([]:LG)⟩:Aa)).bind λx3=>(Ew v0 x3 f ((0:Int),([]:LG),([]:LG))).bind λo5s=>some ((⟨v0,v1,v2,o5s.2.1,o5s.2.2⟩:Aa),v1,v2)
theorem s53_1 (f:Nat) (n0:Value) (n1:Value) (v0:Int) (v1:List LL) (v2:List Ae) (r:Aa×(List LL)×(List Ae)) (hm:Yp f v0 v1 v2=some r):Cg Tryz.prog 53 [Qa [(.int .i64 v0),n0,n1,nz,nz]] [Ow 9 n0 v1,Ow 98 n1 v2] (Rz (λx:Unit=>Va r.1) (λx=>[At n0 (Va r.2.1),At n1 (Va r.2.2)])):=by
 unfold Yp at hm;refine eng func53 kr_ I ntmps53 I I λM W a hM hD s=>?_;refine se (rg (sqr 1002 s (bxa (t I)) I I λb1 a w s=>sqr 1003 s (alr (cs:=[(.int .i64 0),nz,nz,nz,nz]) (z:=.agg #[(.int .i64 0),nz,nz,nz,nz]) kr_ I I) I I λb2 a w s=>nl ?_));obtain ⟨x3,hx3,hm⟩:=bk hm;refine se (Ht s (m:=6) (.cons (.cons (.cons (.cons (.cons (.cons .nil I (lra (K:=1002) (ds:=[(.int .i64 v0),n0,n1,nz,nz]) Aa (t I) I I I I)) I (tfg (k:=1001) fl1 I (tfg (k:=1000) fl1 I (cc I (oc (qad (y:=(⟨v0,v1,v2,([]:LG),([]:LG)⟩:Aa)) (t I) (Ss (l:=([(.int .i64 v0)],[n0],[n1],[nz],[nz])) rpi (rpz (k:=1000) I) (rpz (k:=1001) I) (rpn (α:=Int)) (rpn (α:=Int))) I) on) (s84 f _ _ hx3.e))))) I (fm_ (off:=0) (m:=0) (q:=0) (t I) kr_ I)) I (lrc (K:=1002) Int (t I) I I I I)) I (ml ci (qi (t I)))) I (sb (t I) (t I))) kr_ I I λa w s=>sq s (sa (t I)) I λa w s=>nl ?_);refine se (R 1 s λa w s=>?_);refine nilc (α:=Int) (k:=1002) (cs':=λc6=>[(.int .i64 v0),n0,n1,c6,nz]) 1004 3 s I (λ_=>I) I λc6 s=>?_;refine nilc (α:=Int) (k:=1002) (cs':=λc7=>[(.int .i64 v0),n0,n1,c6,c7]) 1005 3 s I (λ_=>I) I λc7 s=>?_;refine la hm (λz4 a w=>∃ (z4c0:Value) (z4c1:Value),St M W 37 [(0,Qa [(.int .i64 v0),n0,n1,nz,nz]),(1,Qv (pb b1 0)),(2,Qv (pb b2 0)),(3,Va ((wr (x3 - (wr ((2:Int) * v0)))))),(4,Va z4.1),(1000,Ow 9 n0 v1),(1001,Ow 98 n1 v2),(1002,Mr b1 [(.int .i64 v0),n0,n1,z4c0,z4c1]),(1004,Ow 3 z4c0 z4.2.1),(1005,Ow 3 z4c1 z4.2.2),(1003,Mr b2 [(.int .i64 0),nz,nz,nz,nz])] a w) ⟨c6,c7,s.fi⟩ (λ_=>I) (λo5s hko5 n z4 a w hm s=>?_) λo5s hm a w s=>?_
 ·obtain ⟨z4c0,z4c1,s⟩:=s;unfold Ew at hm;refine se (se (rg (ru 3 s λa w s=>sq s (lt (t I) (qi (t I))) I λa w s=>nl ?_)));refine cmt s hm (λhb hm=>?_) λhb hm=>?_
  ·refine se (wpIn_block ?_);obtain ⟨x8,hx8,hm⟩:=bk hm;obtain ⟨x10,hx10,hm⟩:=bk hm;refine By [(1,Qv (pb b1 0)),(3,Va ((wr (x3 - (wr ((2:Int) * v0)))))),(4,Va z4.1),(1002,Mr b1 [(.int .i64 v0),n0,n1,z4c0,z4c1])] [0,1,2,3,4,5,6] [17,18,19,20,21,22,23] [] [31,30,29,28,27,25] [34,32,31,30,29,28,27,26,25] [(7,[]),(16,[32,31,30,29,28,27,26,25]),(18,[34]),(19,[]),(20,[])] s (.skip (.skip (.skip (.late (.skip (.late (.late (.late (.late (.late (.late (.late (.late (.skip (.cons (.cons (.cons (.cons (.cons (.cons (.cons .nil I I (fm_ (off:=3) (m:=0) (q:=3) (t I) kr_ I)) I I (lrc (K:=1002) LG (t I) I I I I)) I I (mv (t I))) I I (mv (t I))) I I (ml ci (t I))) I I (ad (t I) (t I))) I I (bsv (o1 (t I) o0) I I kr_)) I) I I (fm_ (off:=4) (m:=0) (q:=4) (t I) kr_ I)) I I (lrc (K:=1002) LG (t I) I I I I)) I I (mv (t I))) I I (mv (t I))) I I (ml ci (t I))) I I (ad (t I) (t I))) I I (ad (t I) ci)) I I (bsv (o1 (t I) o0) I I kr_)) I) I I (fm_ (off:=3) (m:=0) (q:=3) (t I) kr_ I)) I) I) I) kr_ kr_ I I (sb1 I (sb1 I (sb1 I (sb1 I sb0)))) I (by decide) I I ?_;refine ⟨⟨λ_=>I,I,.inr ⟨(sb1 I (sb1 I (sb1 I (sb1 I sb0)))),sb0,(sn2 I (sn2 I (sn2 I (sn2 I (sn2 I (sn2 I sn0))))))⟩⟩,by kernel_rfl,_,I,λΨ a w s=>apd (α:=Int) (k:=1004) s (t I) I (t I) hx8.e I I λc9 a w s=>nl ?_⟩;refine nxt Ψ s ?_;refine ⟨⟨λ_=>I,I,.inr ⟨(sb1 I (sb1 I (sb1 I (sb1 I sb0)))),sb0,(sn2 I (sn2 I (sn2 I (sn2 I (sn2 I (sn2 I sn0))))))⟩⟩,by kernel_rfl,_,I,λΨ a w s=>apd (α:=Int) (k:=1005) s (t I) I (t I) hx10.e I I λc11 a w s=>nl ?_⟩;refine nxt Ψ s ?_;refine ⟨⟨λ_=>I,I,.inr ⟨(sb1 I (sb1 I (sb1 I (sb1 I sb0)))),sb0,(sn1 I (sn1 I (sn1 I (sn1 I (sn1 I (sn1 I sn0))))))⟩⟩,by kernel_rfl,_,I,λΨ a w s=>srq (K:=1002) (cs':=[(.int .i64 v0),n0,n1,c9,z4c1]) s (t I) I (t I) kr_ (oco (k:=1004) I) I I λw s=>nl ?_⟩;refine nxt Ψ s ?_;refine ⟨⟨λ_=>I,I,.inl I⟩,by kernel_rfl,_,I,λΨ a w s=>sq s (fm_ (off:=4) (m:=0) (q:=4) (t I) kr_ I) I λa w s=>nl ?_⟩;refine nxt Ψ s ?_;refine ⟨⟨λ_=>I,I,.inl I⟩,by kernel_rfl,_,I,λΨ a w s=>srq (K:=1002) (cs':=[(.int .i64 v0),n0,n1,c9,c11]) s (t I) I (t I) kr_ (oco (k:=1005) I) I I λw s=>nl ?_⟩;refine nxt Ψ s ?_;refine ⟨⟨λ_=>I,I,.inl I⟩,λa w s=>?_⟩;replace s:St M W 37 [(0,Qa [(.int .i64 v0),n0,n1,nz,nz]),(1,Qv (pb b1 0)),(2,Qv (pb b2 0)),(3,Va ((wr (x3 - (wr ((2:Int) * v0)))))),(4,Va z4.1),(1000,Ow 9 n0 v1),(1001,Ow 98 n1 v2),(1002,Mr b1 [(.int .i64 v0),n0,n1,c9,c11]),(1004,Ow 3 c9 x8),(1005,Ow 3 c11 x10),(1003,Mr b2 [(.int .i64 0),nz,nz,nz,nz])] a w:=s.pick [0,1,2,3,4,1000,1001,1002,1004,1005,1003];refine R0 3 s λa w s=>?_;exact ⟨_,hm,⟨c9,c11,s.fi⟩⟩
  ·refine wpIn_exit ?_;obtain rfl:=si hm;exact ⟨z4c0,z4c1,s.fi⟩
 ·obtain ⟨o5sc0,o5sc1,s⟩:=s;refine se (rg (sq s (lra (K:=1002) (ds:=[(.int .i64 v0),n0,n1,o5sc0,o5sc1]) Aa (t I) I I I I) I λa w s=>sra (K:=1003) (m:=[(.int .i64 v0),n0,n1,o5sc0,o5sc1]) (cs':=[(.int .i64 v0),n0,n1,o5sc0,o5sc1]) s (t I) I (t I) kr_ I I I λw s=>nl ?_));obtain rfl:=si hm;refine fzk (α:=LL) (k:=1000) hM s I λs=>?_;refine fzk (α:=Ae) (k:=1001) hM s I λs=>?_;refine fzk (α:=Int) (k:=1004) hM s I λs=>?_;refine fzk (α:=Int) (k:=1005) hM s I λs=>?_;refine Sf (k:=1003) (x:=(⟨v0,v1,v2,o5s.2.1,o5s.2.2⟩:Aa)) s I (Ss (l:=([(.int .i64 v0)],[n0],[n1],[o5sc0],[o5sc1])) rpi (rpz (k:=1000) I) (rpz (k:=1001) I) (rpz (k:=1004) I) (rpz (k:=1005) I)) λs=>?_;refine wpIn_ret ?_;exact rz [1000,1001] () hM hD s I (rv1 (rc (K:=1003) I I)) (k2 I I kn) I
def Lm (f:Nat) (v0:Ai) (x2:Plan):Nat->(Int×(List Ae))->Option (Int×(List Ae))
 | 0,_=>none
 | n+1,z12=>(bif (decide (z12.1 < (v0.Steps.length:Int))) then (m49 f (⟨#[115]⟩:LL) z12.1).bind λx14=>(m50 f x2 z12.1).bind λx15=>(app z12.2 ([(⟨x14,(0:Int),x15,(⟨(0:Int),(0:Int),([]:List Expr)⟩:Expr),(0:Int),false⟩:Ae)]:List Ae)).bind λx16=>Lm f v0 x2 n ((wr (z12.1 + 1)),x16) else some (z12.1,z12.2))
def m24 (f:Nat) (v0:Ai):Option (Aa):=(m44 f v0).bind λx2=>(m46 f x2).bind λx5=>(m48 f v0).bind λx8=>(m47 f x2 x8).bind λx9=>(app x5 x9).bind λx10=>(Lm f v0 x2 f ((0:Int),x10)).bind λo13s=>(m52 f v0).bind λx18=>(m51 f x2 x18).bind λx19=>(app o13s.2 x19).bind λx20=>(Yp f v0.Actuators ([(⟨#[115,116,97,114,116]⟩:LL)]:List LL) x20).bind λx22=>some x22.1
theorem s24 (f:Nat) (v0:Ai) (r:Aa) (hm:m24 f v0=some r):Sp Tryz.prog 24 [Va v0] (Va r):=by
 unfold m24 at hm;refine ens func24 kr_ I ntmps24 I I λM W a hM hD s=>?_;refine se (rg (ru 1 s λa w s=>aR 1000 s λb1 a w s=>nl ?_));refine se (rg (ru 1 s λa w s=>cB s hm (s44 f _) λx2 hm a w s=>aR 1001 s λb3 a w s=>sW s I λw s=>nl ?_));obtain ⟨x5,hx5,hm⟩:=bk hm;refine se (By [] [0,1,2,3,4] [8,9,10,11,12] [] [] [4] [(5,[]),(7,[4])] s (.skip (.late (.skip (.cons (.cons (.cons (.cons (.cons .nil I I (fa (f:=Ai.Actuators) (t I))) I I (ld (t I))) I I (bso (o1 cs o0) I I kr_)) I I (lm (K:=1001) (t I) I)) I I (cc I (oc (t I) on) (s46 f _ _ hx5.e))) I) I I (alr (cs:=[(.int .i64 0),nz,nz,nz,nz]) (z:=.agg #[(.int .i64 0),nz,nz,nz,nz]) kr_ I I)) I) kr_ kr_ I I sb0 I (by decide) I I ?_);refine ⟨⟨λ_=>I,I,.inr ⟨sb0,sb0,sn0⟩⟩,by kernel_rfl,_,I,λΨ a w s=>opo (d:=10) 1004 s I I λc4 s=>opz (d:=12) [1005] s I (λ_=>I) I λy7 s=>sq s (bla (L:=[(0,1),(1,1),(2,1),(3,1),(4,1)]) (z:=[(.int .i64 0),nz,nz,nz,nz]) (res:=[(.int .i64 v0.Actuators),c4,y7,nz,nz]) I kr_ kr_ (pdq (iq (t I)) (ocr I) (pdq (t I) (oco (k:=1004) I) (pdq (t I) (oco (k:=1005) I) pdn))) I I) I λa w s=>nl ?_⟩;refine nxt Ψ s ?_;refine ⟨⟨λ_=>I,I,.inr ⟨sb0,sb0,sn0⟩⟩,by kernel_rfl,_,I,λΨ a w s=>opr (d:=4) 1006 s I I λb6 s=>sra (K:=1006) (m:=[(.int .i64 v0.Actuators),c4,y7,nz,nz]) (cs':=[(.int .i64 v0.Actuators),c4,y7,nz,nz]) s (t I) I (t I) kr_ I I I λw s=>nl ?_⟩;refine nxt Ψ s ?_;refine ⟨⟨λ_=>I,I,.inl I⟩,λa w s=>?_⟩;replace s:St M W 50 [(0,Va v0),(1,Pt v0),(2,Qv (pb b1 0)),(3,Qv (pb b3 0)),(4,Qv (pb b6 0)),(1000,Mr b1 [(.int .i64 0),nz,nz,nz,nz]),(1001,Mg b3 x2),(1006,Mr b6 [(.int .i64 v0.Actuators),c4,y7,nz,nz]),(1004,Ow 9 c4 (([(⟨#[115,116,97,114,116]⟩:LL)]:List LL))),(1005,Ow 98 y7 x5)] a w:=s.pick [0,1,2,3,4,1000,1001,1006,1004,1005];obtain ⟨x8,hx8,hm⟩:=bk hm;obtain ⟨x9,hx9,hm⟩:=bk hm;obtain ⟨x10,hx10,hm⟩:=bk hm;refine se (fW 6 s kr_ I I λa w s=>apd (α:=Ae) (k:=1005) s (t I) I (t I) hx10.e I I λc11 a w s=>ru 1 s λa w s=>srq (K:=1006) (cs':=[(.int .i64 v0.Actuators),c4,c11,nz,nz]) s (t I) I (t I) kr_ (oco (k:=1005) I) I I λw s=>nl ?_);refine se (R 1 s λa w s=>?_);refine lA1 hm [0,1,2,3,4,1000,1001,1004] s (λz12 z12c0=>[(5,Va z12.1),(1006,Mr b6 [(.int .i64 v0.Actuators),c4,z12c0,nz,nz]),(1005,Ow 98 z12c0 z12.2)]) ⟨c11,s.fi⟩ (λ_=>I) (λo13s hko13 n z12 a w hm s=>?_) λo13s hm a w s=>?_
 ·obtain ⟨z12c0,s⟩:=s;unfold Lm at hm;refine se (R 5 s λa w s=>?_);refine cmt s hm (λhb hm=>?_) λhb hm=>?_
  ·refine se (wpIn_block ?_);obtain ⟨x14,hx14,hm⟩:=bk hm;obtain ⟨x15,hx15,hm⟩:=bk hm;obtain ⟨x16,hx16,hm⟩:=bk hm;refine Ht s (m:=9) (.cons (.cons (.cons (.cons (.cons (.cons (.cons (.cons (.cons .nil I (fm_ (off:=2) (m:=0) (q:=2) (t I) kr_ I)) I (lrc (K:=1006) (List Ae) (t I) I I I I)) I (mv (t I))) I (cc I (oc cs (oc (t I) on)) (s49 f _ _ _ hx14.e))) I (lm (K:=1001) (t I) I)) I (mv (t I))) I (cc I (oc (t I) (oc (t I) on)) (s50 f _ _ _ hx15.e))) I (Jk (t I) ci (t I))) I (bsv (o1 (t I) o0) I I kr_)) kr_ I I λa w s=>apd (α:=Ae) (k:=1005) s (t I) I (t I) hx16.e I I λc17 a w s=>sq s (fm_ (off:=2) (m:=0) (q:=2) (t I) kr_ I) I λa w s=>srq (K:=1006) (cs':=[(.int .i64 v0.Actuators),c4,c17,nz,nz]) s (t I) I (t I) kr_ (oco (k:=1005) I) I I λw s=>nl ?_;refine R0 3 s λa w s=>?_;exact ⟨_,hm,⟨c17,s.fi⟩⟩
  ·refine wpIn_exit ?_;obtain rfl:=si hm;exact ⟨z12c0,s.fi⟩
 ·obtain ⟨o13sc0,s⟩:=s;obtain ⟨x18,hx18,hm⟩:=bk hm;obtain ⟨x19,hx19,hm⟩:=bk hm;obtain ⟨x20,hx20,hm⟩:=bk hm;refine se (fW 6 s kr_ I I λa w s=>apd (α:=Ae) (k:=1005) s (t I) I (t I) hx20.e I I λc21 a w s=>ru 1 s λa w s=>srq (K:=1006) (cs':=[(.int .i64 v0.Actuators),c4,c21,nz,nz]) s (t I) I (t I) kr_ (oco (k:=1005) I) I I λw s=>nl ?_);obtain ⟨x22,hx22,hm⟩:=bk hm;refine se (rg (sq s (lra (K:=1006) (ds:=[(.int .i64 v0.Actuators),c4,c21,nz,nz]) Aa (t I) I I I I) I λa w s=>cgv [1004,1005] [1004,1005] hM s qf I (oc (t I) on) vn vn (s53_1 f c4 c21 _ _ _ _ hx22.e) (k2 I I kn) I (λ_=>I) I I I λy23 a w s=>sW s I λw s=>nl ?_));cases hm;exact rT hD s I I
def m23 (f:Nat) (v0:Ai):Option (Int):=(m5 f v0).bind λx1=>(bif (x1 != 0) then some x1 else (m43 f v0).bind λx2=>(m44 f v0).bind λx3=>(m45 f x3).bind λx4=>(bif (decide ((wr ((wr ((wr ((x2.length:Int) + x4)) + (v0.Steps.length:Int))) + (wr ((2:Int) * v0.Actuators)))) > 64)) then some (5:Int) else some (0:Int)))
theorem s23 (f:Nat) (v0:Ai) (r:Int) (hm:m23 f v0=some r):Sp Tryz.prog 23 [Va v0] (Va r):=by
 unfold m23 at hm;refine ens func23 kr_ I ntmps23 I I λM W a hM hD s=>?_;refine R 2 s λa w s=>?_;refine se (se (rg (ru 1 s λa w s=>cB s hm (s5 f _) λx1 hm a w s=>ru 1 s λa w s=>nl ?_)));refine R 2 s λa w s=>?_;refine cmf s hm (λhb hm=>?_) λhb hm=>?_
 ·refine R 2 s λa w s=>?_;cases hm;exact rT hD s I I
 ·refine se ?_;obtain ⟨x2,hx2,hm⟩:=bk hm;obtain ⟨x3,hx3,hm⟩:=bk hm;obtain ⟨x4,hx4,hm⟩:=bk hm;refine se (fW 16 s kr_ I I λa w s=>nl ?_);refine cmf s hm (λhb hm=>?_) λhb hm=>?_
  ·refine R 1 s λa w s=>?_;cases hm;exact rT hD s I I
  ·refine R 1 s λa w s=>?_;cases hm;exact rT hD s I I
def m7 (f:Nat) (v0:Ai):Option (Aa×Int):=(m23 f v0).bind λx2=>(bif (x2 != 0) then some ((⟨(0:Int),([]:List LL),([]:List Ae),([]:LG),([]:LG)⟩:Aa),x2) else (m24 f v0).bind λx3=>some (x3,(0:Int)))
theorem s7 (f:Nat) (v0:Ai) (r:Aa×Int) (hm:m7 f v0=some r):Sp Tryz.prog 7 [Va v0] (T2 (Va r.1) (Va r.2)):=by
 unfold m7 at hm;refine ens func7 kr_ I ntmps7 I I λM W a hM hD s=>?_;refine se (rg (ru 1 s λa w s=>aR 1000 s λb1 a w s=>ru 1 s λa w s=>nl ?_));refine se (se (rg (ru 1 s λa w s=>cB s hm (s23 f _) λx2 hm a w s=>ru 1 s λa w s=>nl ?_)));refine R 2 s λa w s=>?_;refine cmf s hm (λhb hm=>?_) λhb hm=>?_
 ·refine se (rg (sq s (bl32_ ) I λa w s=>ru 1 s λa w s=>sW s I λw s=>ru 1 s λa w s=>nl ?_));cases hm;exact rU hD s I I
 ·refine se (rg (ru 1 s λa w s=>cB s hm (s24 f _) λx3 hm a w s=>sW s I λw s=>ru 1 s λa w s=>nl ?_));cases hm;exact rU hD s I I
def AY (v0:LG) (v1:Int):Nat->Int->Option (Lo (Int) (Int))
 | 0,_=>none
 | n+1,z1=>(bif (decide (z1 < (v0.length:Int))) then (idx v0 z1).bind λx3=>(bif (v1 == x3) then some (.ret z1) else AY v0 v1 n (wr (z1 + 1))) else some (.brk z1))
def m27 (f:Nat) (v0:LG) (v1:Int):Option (Int):=((AY v0 v1 f (0:Int)).bind λo2=>match o2 with | .brk o2s=>some (-1:Int) | .ret r=>some r)
theorem s27 (f:Nat) (v0:LG) (v1:Int) (r:Int) (hm:m27 f v0 v1=some r):Sp Tryz.prog 27 [Va v0,Va v1] (Va r):=by
 unfold m27 at hm;refine ens func27 kr_ I ntmps27 I I λM W a hM hD s=>?_;refine R 1 s λa w s=>?_;refine se (R 3 s λa w s=>?_);refine lB hm [0,1,4,7] s (λz1=>[(8,Va z1)]) s.fi (λ_=>I) (λo2 hko2 n z1 a w hm s=>?_) λo2s hm a w s=>?_
 ·unfold AY at hm;refine R 1 s λa w s=>?_;refine se (cmt s hm (λhb hm=>?_) λhb hm=>?_)
  ·refine se (wpIn_block ?_);refine R 2 s λa w s=>?_;refine se (rg (ru 3 s λa w s=>iB s hm λx3 hm a w s=>ru 2 s λa w s=>nl ?_));refine cmf s hm (λhb hm=>?_) λhb hm=>?_
   ·refine R 2 s λa w s=>?_;obtain rfl:=si hm;replace hm:=hko2;dsimp only at hm;cases hm;exact rT hD s I I
   ·refine R0 2 s λa w s=>?_;exact ⟨_,hm,s.fi⟩
  ·refine wpIn_exit ?_;exact ⟨_,(si hm).symm,s.fi⟩
 ·dsimp only at hm;refine R 1 s λa w s=>?_;cases hm;exact rT hD s I I
def m10 (f:Nat) (v0:LG) (v1:Int):Option (Bool):=(m27 f v0 v1).bind λx1=>some (decide (x1>=(0:Int)))
theorem s10 (f:Nat) (v0:LG) (v1:Int) (r:Bool) (hm:m10 f v0 v1=some r):Sp Tryz.prog 10 [Va v0,Va v1] (Va r):=by
 unfold m10 at hm;refine ens func10 kr_ I ntmps10 I I λM W a hM hD s=>?_;refine R 1 s λa w s=>?_;refine se (rg (ru 2 s λa w s=>cB s hm (s27 f _ _) λx1 hm a w s=>ru 2 s λa w s=>nl ?_));cases hm;exact rT hD s I I
instance {f:Nat} {v0:LG} {v1:Int}:Cn Tryz.prog 10 (m10 f v0 v1) [Va v0,Va v1] (λr:Bool=>(Va r)):=⟨s10 f v0 v1⟩
def Pc (f:Nat) (x1:Int×Int×Bool×Int×Int×(List LL)×(List Ae)×LG×LG×(List Node)×(List (LL×Int))×(List LG)×(List (Ab×Bool))):Nat->(Int×(List Ad))->Option (Int×(List Ad))
 | 0,_=>none
 | n+1,z3=>(bif (decide (z3.1 < (x1.2.2.2.2.2.2.2.2.2.2.2.1.length:Int))) then (idx x1.2.2.2.2.2.2.2.2.2.2.2.1 z3.1).bind λx6=>(bif ((x6.length:Int) == 0) then (idx x1.2.2.2.2.2.2.2.2.2.1 z3.1).bind λx8=>(m31 f x8.state.Ends).bind λx10=>(m32 f x8.state.Valves).bind λx11=>(m32 f x8.state.Inputs).bind λx12=>(m32 f x8.state.Values).bind λx13=>(m31 f x8.state.Timers).bind λx14=>(app z3.2 ([(⟨x10,x11,x12,x13,x14⟩:Ad)]:List Ad)).bind λx20=>some x20 else some z3.2).bind λz7=>Pc f x1 n ((wr (z3.1 + 1)),z7) else some (z3.1,z3.2))
def m12 (f:Nat) (v0:Aa) (v1:Ad) (v2:Int):Option ((List Ad)×Int):=(m30 f v0 v1 false v2).bind λx1=>match x1 with | .inl x1=>(bif (x1 != 0) then some (([]:List Ad),x1) else none) | .inr x1=>(bif (x1.1 != 0) then some (([]:List Ad),x1.1) else (Pc f x1 f ((0:Int),([]:List Ad))).bind λo4s=>some (o4s.2,(0:Int)))
theorem s12 (f:Nat) (v0:Aa) (v1:Ad) (v2:Int) (r:(List Ad)×Int) (hm:m12 f v0 v1 v2=some r):Sp Tryz.prog 12 [Va v0,Va v1,Va v2] (T2 (Va r.1) (Va r.2)):=by
 unfold m12 at hm;refine ens func12 kr_ I ntmps12 I I λM W a hM hD s=>?_;refine R 4 s λa w s=>?_;obtain ⟨x1,hx1,hm⟩:=bk hm;rcases x1 with x1 | x1
 ·dsimp only at hm;refine se (rg (ru 3 s λa w s=>sq s (cc I (oc (t I) (oc (t I) (oc cb (oc (t I) on)))) (smR (R:=(T2 (Qv (.pointer none)) (Va x1))) (s30 f _ _ _ _ _ hx1.e))) I λa w s=>ru 5 s λa w s=>nl ?_));refine se (R 2 s λa w s=>?_);refine cmf s hm (λhb hm=>?_) λhb hm=>?_
  ·refine R 3 s λa w s=>?_;cases hm;exact rU hD s I I
  ·cases hm
 ·dsimp only at hm;refine se (rg (ru 3 s λa w s=>sqz [1000,1001,1002,1003,1004,1005,1006,1007,1008] hM s (cc I (oc (t I) (oc (t I) (oc cb (oc (t I) on)))) (smR (R:=(Rz (λx:Nat×Value×Value×Value×Value×Value×Nat×Value×Nat=>T2 (Qv (pb x.1 0)) (Va x1.1)) (λx=>[Mr x.1 [(.int .i64 x1.2.1),x.2.1,x.2.2.1,x.2.2.2.1,x.2.2.2.2.1,(.bool x1.2.2.1),(.int .i64 x1.2.2.2.1),x.2.2.2.2.2.1,(.map (some x.2.2.2.2.2.2.1)),x.2.2.2.2.2.2.2.1,(.map (some x.2.2.2.2.2.2.2.2)),(.int .i64 x1.2.2.2.2.1)],At x.2.1 (Va x1.2.2.2.2.2.1),At x.2.2.1 (Va x1.2.2.2.2.2.2.1),At x.2.2.2.1 (Va x1.2.2.2.2.2.2.2.1),At x.2.2.2.2.1 (Va x1.2.2.2.2.2.2.2.2.1),Ow 85 x.2.2.2.2.2.1 x1.2.2.2.2.2.2.2.2.2.1,Om x.2.2.2.2.2.2.1 (x1.2.2.2.2.2.2.2.2.2.2.1:List (LL×Int)),Ow 30 x.2.2.2.2.2.2.2.1 x1.2.2.2.2.2.2.2.2.2.2.2.1,Om x.2.2.2.2.2.2.2.2 (x1.2.2.2.2.2.2.2.2.2.2.2.2:List (Ab×Bool))]))) (s30 f _ _ _ _ _ hx1.e))) (λ_=>I) I I λy2 a w s=>ru 5 s λa w s=>nl ?_));refine se (R 2 s λa w s=>?_);refine cmf s hm (λhb hm=>?_) λhb hm=>?_
  ·refine R 3 s λa w s=>?_;cases hm;exact rU hD s I I
  ·refine R 1 s λa w s=>?_;refine se (R 6 s λa w s=>?_);refine Fi (α:=Ad) (d:=10) 1009 37 s I I λc5 s=>?_;refine lA1 hm [0,1,2,3,4,6,7,8,9,27,28,1000,1001,1002,1003,1004,1005,1006,1007,1008] s (λz3 z3c0=>[(10,Qv z3c0),(29,Va z3.1),(1009,Ow 37 z3c0 z3.2)]) ⟨c5,s.fi⟩ (λ_=>I) (λo4s hko4 n z3 a w hm s=>?_) λo4s hm a w s=>?_
   ·obtain ⟨z3c0,s⟩:=s;unfold Pc at hm;refine R 1 s λa w s=>?_;refine se (cmt s hm (λhb hm=>?_) λhb hm=>?_)
    ·refine se (wpIn_block ?_);obtain ⟨x6,hx6,hm⟩:=bk hm;refine R 5 s λa w s=>?_;refine R 3 s λa w s=>?_;obtain ⟨z7,hz7,hkz7⟩:=bs hm;refine cP1 [0,1,2,3,4,6,7,8,9,11,12,27,28,29,1000,1001,1002,1003,1004,1005,1006,1007,1008] s (λz7c0=>[(10,Qv z7c0),(1009,Ow 37 z7c0 z7)]) ?_ λa w s=>?_
     ·refine cm s I hz7 (λhb hm=>?_) (λhb hm=>?_)
      ·obtain ⟨x8,hx8,hm⟩:=bk hm;refine se (rg (ru 6 s λa w s=>sq s (fmq (fo:=0) (m:=4) (t I) kr_) I λa w s=>sq s (lqf (k:=1005) (f:=Node.state) (t I) I (Gu hx8.e)) I λa w s=>aR 1010 s λb9 a w s=>sW s I λw s=>nl ?_));obtain ⟨x10,hx10,hm⟩:=bk hm;obtain ⟨x11,hx11,hm⟩:=bk hm;obtain ⟨x12,hx12,hm⟩:=bk hm;obtain ⟨x13,hx13,hm⟩:=bk hm;obtain ⟨x14,hx14,hm⟩:=bk hm;obtain ⟨x20,hx20,hm⟩:=bk hm;refine By [(10,Qv z3c0)] [1,2,3,4,5,6,7,8,9,10,11,12,13,14,15] [46,47,48,49,50,51,52,53,54,55,56,57,58,59,60] [] [] [45] [(16,[]),(17,[]),(18,[45]),(19,[])] s (.skip (.skip (.skip (.skip (.cons (.cons (.cons (.cons (.cons (.cons (.cons (.cons (.cons (.cons (.cons (.cons (.cons (.cons (.cons (.late .nil I I (mvq (t I))) I I (fm_ (off:=0) (m:=0) (q:=0) (t I) kr_ I)) I I (lf (K:=1010) (f:=Ad.Ends) (t I) I)) I I (cc I (oc (t I) on) (s31 f _ _ hx10.e))) I I (fm_ (off:=1) (m:=0) (q:=1) (t I) kr_ I)) I I (lf (K:=1010) (f:=Ad.Valves) (t I) I)) I I (cc I (oc (t I) on) (s32 f _ _ hx11.e))) I I (fm_ (off:=2) (m:=0) (q:=2) (t I) kr_ I)) I I (lf (K:=1010) (f:=Ad.Inputs) (t I) I)) I I (cc I (oc (t I) on) (s32 f _ _ hx12.e))) I I (fm_ (off:=3) (m:=0) (q:=3) (t I) kr_ I)) I I (lf (K:=1010) (f:=Ad.Values) (t I) I)) I I (cc I (oc (t I) on) (s32 f _ _ hx13.e))) I I (fm_ (off:=4) (m:=0) (q:=4) (t I) kr_ I)) I I (lf (K:=1010) (f:=Ad.Timers) (t I) I)) I I (cc I (oc (t I) on) (s31 f _ _ hx14.e))) I) I) I) I) kr_ kr_ I I (sb1 I sb0) I (by decide) I I ?_;refine ⟨⟨λ_=>I,I,.inr ⟨(sb1 I sb0),sb0,sn0⟩⟩,by kernel_rfl,_,I,λΨ a w s=>opz (d:=48) [1016] s I (λ_=>I) I λy15 s=>opz (d:=51) [1017] s I (λ_=>I) I λy16 s=>opz (d:=54) [1018] s I (λ_=>I) I λy17 s=>opz (d:=57) [1019] s I (λ_=>I) I λy18 s=>opz (d:=60) [1020] s I (λ_=>I) I λy19 s=>sq s (bla (L:=[(0,1),(1,1),(2,1),(3,1),(4,1)]) (z:=[nz,nz,nz,nz,nz]) (res:=[y15,y16,y17,y18,y19]) I kr_ kr_ (pdq (t I) (oco (k:=1016) I) (pdq (t I) (oco (k:=1017) I) (pdq (t I) (oco (k:=1018) I) (pdq (t I) (oco (k:=1019) I) (pdq (t I) (oco (k:=1020) I) pdn))))) I I) I λa w s=>nl ?_⟩;refine nxt Ψ s ?_;refine ⟨⟨λ_=>I,I,.inr ⟨(sb1 I sb0),sb0,sn0⟩⟩,by kernel_rfl,_,I,λΨ a w s=>fzk (α:=Int) (k:=1016) hM s I λs=>fzk (α:=Bool) (k:=1017) hM s I λs=>fzk (α:=Bool) (k:=1018) hM s I λs=>fzk (α:=Bool) (k:=1019) hM s I λs=>fzk (α:=Int) (k:=1020) hM s I λs=>sq s (bsv (o1 (qad (y:=(⟨x10,x11,x12,x13,x14⟩:Ad)) (t I) (Cd (l:=([y15],[y16],[y17],[y18],[y19])) (rpz (k:=1016) I) (rpz (k:=1017) I) (rpz (k:=1018) I) (rpz (k:=1019) I) (rpz (k:=1020) I)) I) o0) I I kr_) I λa w s=>nl ?_⟩;refine nxt Ψ s ?_;refine ⟨⟨λ_=>I,I,.inr ⟨(sb1 I sb0),sb0,sn0⟩⟩,by kernel_rfl,_,I,λΨ a w s=>apd (α:=Ad) (k:=1009) s (t I) I (t I) hx20.e I I λc21 a w s=>nl ?_⟩;refine nxt Ψ s ?_;refine ⟨⟨λ_=>I,I,.inl I⟩,by kernel_rfl,_,I,λΨ a w s=>sq s (saq (t I)) I λa w s=>nl ?_⟩;refine nxt Ψ s ?_;refine ⟨⟨λ_=>I,I,.inl I⟩,λa w s=>?_⟩;replace s:St M W 66 [(0,Va v0),(1,Va v1),(2,Va v2),(3,Pt v0),(4,Pt v1),(6,Qv nz),(7,Va ((0:Int))),(8,Qv (pb y2.1 0)),(9,Va x1.1),(10,Qv c21),(11,Va z3.1),(12,Va x6),(13,Qv (pb b9 0)),(27,Qv y2.2.2.2.2.2.2.2.1),(28,Va ((x1.2.2.2.2.2.2.2.2.2.2.2.1.length:Int))),(29,Va z3.1),(1000,Mr y2.1 [(.int .i64 x1.2.1),y2.2.1,y2.2.2.1,y2.2.2.2.1,y2.2.2.2.2.1,(.bool x1.2.2.1),(.int .i64 x1.2.2.2.1),y2.2.2.2.2.2.1,(.map (some y2.2.2.2.2.2.2.1)),y2.2.2.2.2.2.2.2.1,(.map (some y2.2.2.2.2.2.2.2.2)),(.int .i64 x1.2.2.2.2.1)]),(1001,At y2.2.1 (Va x1.2.2.2.2.2.1)),(1002,At y2.2.2.1 (Va x1.2.2.2.2.2.2.1)),(1003,At y2.2.2.2.1 (Va x1.2.2.2.2.2.2.2.1)),(1004,At y2.2.2.2.2.1 (Va x1.2.2.2.2.2.2.2.2.1)),(1005,Ow 85 y2.2.2.2.2.2.1 x1.2.2.2.2.2.2.2.2.2.1),(1006,Om y2.2.2.2.2.2.2.1 (x1.2.2.2.2.2.2.2.2.2.2.1:List (LL×Int))),(1007,Ow 30 y2.2.2.2.2.2.2.2.1 x1.2.2.2.2.2.2.2.2.2.2.2.1),(1008,Om y2.2.2.2.2.2.2.2.2 (x1.2.2.2.2.2.2.2.2.2.2.2.2:List (Ab×Bool))),(1009,Ow 37 c21 x20),(1010,Mg b9 x8.state)] a w:=s.pick [0,1,2,3,4,6,7,8,9,10,11,12,13,27,28,29,1000,1001,1002,1003,1004,1005,1006,1007,1008,1009,1010]
       obtain rfl:=si hm;exact ⟨c21,s.fi⟩
      ·refine wpIn_skip ?_;obtain rfl:=si hm;exact ⟨z3c0,s.fi⟩
     ·obtain ⟨z7c0,s⟩:=s;replace hm:=hkz7;refine R0 2 s λa w s=>?_;exact ⟨_,hm,⟨z7c0,s.fi⟩⟩
    ·refine wpIn_exit ?_;obtain rfl:=si hm;exact ⟨z3c0,s.fi⟩
   ·obtain ⟨o4sc0,s⟩:=s;refine R 3 s λa w s=>?_;obtain rfl:=si hm;refine fzk (α:=Ad) (k:=1009) hM s I λs=>?_;refine wpIn_ret ?_;exact rn hD s I (rv2 (ro (ta (k:=1009) (t I) I)) (rt I))
def Vd (f:Nat) (x5:Aa×Int) (x18:(List Ad)×Int):Nat->Int->Option (Lo (Int) (Bool))
 | 0,_=>none
 | n+1,z20=>(bif (decide (z20 < (x18.1.length:Int))) then (idx x18.1 z20).bind λx22=>(m9 f x5.1 x22).bind λx24=>(bif (x24.2 != 0) then some true else (m10 f x24.1 (0:Int)).bind λx25=>some (!x25)).bind λr26=>(bif r26 then some (.ret false) else Vd f x5 x18 n (wr (z20 + 1))) else some (.brk z20))
def Nf (f:Nat) (x5:Aa×Int):Nat->(Int×Int×Ad)->Option (Lo (Int×Int×Ad) (Bool))
 | 0,_=>none
 | n+1,z14=>(bif (decide (z14.2.1 < (([true,false]:LH).length:Int))) then (idx ([true,false]:LH) z14.2.1).bind λx16=>(m11 f x5.1 z14.2.2 (⟨(2:Int),(0:Int),x16⟩:Af)).bind λx17=>(bif (x17.2.2 != 0) then some (.ret false) else Nf f x5 n (x17.2.2,(wr (z14.2.1 + 1)),x17.1)) else some (.brk (z14.1,z14.2.1,z14.2.2)))
def m3 (f:Nat) (v0:Ai):Option (Bool):=(m4 f v0).bind λx1=>(bif (((!x1) || (decide ((v0.Steps.length:Int) > 4))) || (decide (v0.Actuators > 2))) then some true else (m5 f v0).bind λx2=>some (x2 != 0)).bind λr3=>(bif r3 then (m6 f).bind λx4=>some x4 else (m7 f v0).bind λx5=>(bif (x5.2 != 0) then (m6 f).bind λx7=>some x7 else (m8 f x5.1).bind λx8=>(m9 f x5.1 x8.1).bind λx11=>(bif ((x8.2.1 != 0) || (x11.2 != 0)) then some true else (m10 f x11.1 (0:Int)).bind λx12=>some (!x12)).bind λr13=>(bif r13 then some false else ((Nf f x5 f (x8.2.1,(0:Int),x8.1)).bind λo15=>match o15 with | .brk o15s=>(m12 f x5.1 o15s.2.2 (300:Int)).bind λx18=>(m13 f x5.1 o15s.2.2 (300:Int)).bind λx19=>(bif ((((x18.2 != 0) || (x19.2 != 0)) || ((x18.1.length:Int) == 0)) || (decide (x19.1 < 1))) then some false else ((Vd f x5 x18 f (0:Int)).bind λo21=>match o21 with | .brk o21s=>(m14 f x5.1 o15s.2.2 (300:Int)).bind λx27=>(bif (((x27.2 == 0) && ((x27.1.length:Int) == 0)) || (x27.2 == 12)) then (m6 f).bind λx28=>some x28 else some false).bind λr29=>some r29 | .ret r=>some r)) | .ret r=>some r))))
theorem s3 (f:Nat) (v0:Ai) (r:Bool) (hm:m3 f v0=some r):Sp Tryz.prog 3 [Va v0] (Va r):=by
 unfold m3 at hm;refine ens func3 kr_ I ntmps3 I I λM W a hM hD s=>?_;refine R 2 s λa w s=>?_;refine se ?_;obtain ⟨x1,hx1,hm⟩:=bk hm;obtain ⟨r3,hr3,hm⟩:=bs hm;have gr3:=gF hr3;have er3:=gT hr3;obtain ⟨x2,hx2,gr3⟩:=gk gr3;have:=pko gr3 er3;refine R 19 s λa w s=>?_;refine cmf s hm (λhb hm=>?_) λhb hm=>?_
 ·refine se (rg (cB s hm (s6 f) λx4 hm a w s=>ru 1 s λa w s=>nl ?_));cases hm;exact rT hD s I I
 ·refine se (rg (ru 1 s λa w s=>cB s hm (s7 f _) λx5 hm a w s=>ru 3 s λa w s=>aR 1000 s λb6 a w s=>sW s I λw s=>ru 1 s λa w s=>nl ?_));refine se (R 2 s λa w s=>?_);refine cmf s hm (λhb hm=>?_) λhb hm=>?_
  ·refine se (rg (cB s hm (s6 f) λx7 hm a w s=>ru 1 s λa w s=>nl ?_));cases hm;exact rT hD s I I
  ·obtain ⟨x8,hx8,hm⟩:=bk hm;refine se (rg (ru 1 s λa w s=>sqz [1001] hM s (cc I (oc (t I) on) (s8 f _ _ hx8.e)) (λ_=>I) I I λy9 a w s=>ru 4 s λa w s=>aR 1002 s λb10 a w s=>sW s I λw s=>ru 2 s λa w s=>nl ?_));refine se (rg (ru 2 s λa w s=>cB s hm (s9 f _ _) λx11 hm a w s=>ru 5 s λa w s=>nl ?_));refine se ?_;obtain ⟨r13,hr13,hm⟩:=bs hm;have gr13:=gF hr13;have er13:=gT hr13;obtain ⟨x12,hx12,gr13⟩:=gk gr13;have:=pko gr13 er13;refine R 11 s λa w s=>?_;refine cmf s hm (λhb hm=>?_) λhb hm=>?_
   ·refine R 1 s λa w s=>?_;cases hm;exact rT hD s I I
   ·refine se (R 3 s λa w s=>?_);refine lB hm [0,1,2,3,4,5,8,9,70,71,1000] s (λz14=>[(7,Va z14.1),(72,Va z14.2.1),(1002,Mg b10 z14.2.2)]) s.fi (λ_=>I) (λo15 hko15 n z14 a w hm s=>?_) λo15s hm a w s=>?_
    ·unfold Nf at hm;refine R 1 s λa w s=>?_;refine se (cmt s hm (λhb hm=>?_) λhb hm=>?_)
     ·refine se (wpIn_block ?_);refine se (rg (iB s hm λx16 hm a w s=>ru 2 s λa w s=>nl ?_));refine se (rg (ru 3 s λa w s=>sq s (Yc ci (t I)) I λa w s=>cB s hm (s11 f _ _ _) λx17 hm a w s=>ru 4 s λa w s=>sw (K:=1002) s (t I) I (t I) I λw s=>ru 1 s λa w s=>nl ?_));refine R 2 s λa w s=>?_;refine cmf s hm (λhb hm=>?_) λhb hm=>?_
      ·refine R 1 s λa w s=>?_;obtain rfl:=si hm;replace hm:=hko15;dsimp only at hm;cases hm;exact rT hD s I I
      ·refine R0 2 s λa w s=>?_;exact ⟨_,hm,s.fi⟩
     ·refine wpIn_exit ?_;exact ⟨_,(si hm).symm,s.fi⟩
    ·dsimp only at hm;refine se (rg (ru 2 s λa w s=>cB s hm (s12 f _ _ _) λx18 hm a w s=>ru 5 s λa w s=>nl ?_));refine se (rg (ru 2 s λa w s=>cB s hm (s13 f _ _ _) λx19 hm a w s=>ru 5 s λa w s=>nl ?_));refine se (R 15 s λa w s=>?_);refine cmf s hm (λhb hm=>?_) λhb hm=>?_
     ·refine R 1 s λa w s=>?_;cases hm;exact rT hD s I I
     ·refine se (R 3 s λa w s=>?_);refine lB hm [0,1,2,3,4,5,7,8,9,12,13,70,71,72,115,116,1000,1002] s (λz20=>[(117,Va z20)]) s.fi (λ_=>I) (λo21 hko21 n z20 a w hm s=>?_) λo21s hm a w s=>?_
      ·unfold Vd at hm;refine R 1 s λa w s=>?_;refine se (cmt s hm (λhb hm=>?_) λhb hm=>?_)
       ·refine se (wpIn_block ?_);refine se (rg (iB s hm λx22 hm a w s=>ru 1 s λa w s=>aR 1004 s λb23 a w s=>sW s I λw s=>nl ?_));refine se (rg (ru 2 s λa w s=>cB s hm (s9 f _ _) λx24 hm a w s=>ru 5 s λa w s=>nl ?_));obtain ⟨r26,hr26,hm⟩:=bs hm;have gr26:=gF hr26;have er26:=gT hr26;obtain ⟨x25,hx25,gr26⟩:=gk gr26;have:=pko gr26 er26;refine R 7 s λa w s=>?_;refine cmf s hm (λhb hm=>?_) λhb hm=>?_
        ·refine R 1 s λa w s=>?_;obtain rfl:=si hm;replace hm:=hko21;dsimp only at hm;cases hm;exact rT hD s I I
        ·refine R0 2 s λa w s=>?_;exact ⟨_,hm,s.fi⟩
       ·refine wpIn_exit ?_;exact ⟨_,(si hm).symm,s.fi⟩
      ·dsimp only at hm;refine se (rg (ru 2 s λa w s=>cB s hm (s14 f _ _ _) λx27 hm a w s=>ru 5 s λa w s=>nl ?_));obtain ⟨r29,hr29,hm⟩:=bs hm;have gr29:=gT hr29;have er29:=gF hr29;obtain ⟨x28,hx28,gr29⟩:=gk gr29;have:=pka gr29 er29;refine R 15 s λa w s=>?_;cases hm;exact rT hD s I I
end Go.Pn
namespace Go.Pn
open Go Go.RowKit Go.Proofs
structure Ah where
 States:List Ad
 Moves:List LG
 deriving Inhabited
structure Aj where
 State:Ad
 Run:List Af
 deriving Inhabited
def Bi (g141:Expr->Int->Option (Int)) (v0:Expr) (v1:Int):Nat->(Int×Int)->Option (Int×Int)
 | 0,_=>none
 | n+1,z1=>(bif ((decide (z1.2 < (((v0).Args).length:Int))) && (decide (z1.1<=v1))) then (idx ((v0).Args) z1.2).bind λx3=>(g141 x3 (wr (v1 - z1.1))).bind λx4=>Bi g141 v0 v1 n ((wr (z1.1 + x4)),(wr (z1.2 + (1:Int)))) else some (z1.1,z1.2))
def m20141:Nat->Expr->Int->Option (Int)
 | 0,_,_=>none
 | f+1,v0,v1=>(Bi (m20141 f) v0 v1 f ((1:Int),(0:Int))).bind λo2s=>some o2s.1
def Bb (g142:Expr->Int->Option (Bool)) (v0:Expr) (v1:Int):Nat->Int->Option (Lo (Int) (Bool))
 | 0,_=>none
 | n+1,z1=>(bif (decide (z1 < (((v0).Args).length:Int))) then (idx ((v0).Args) z1).bind λx3=>(g142 x3 (wr (v1 - (1:Int)))).bind λx4=>(bif (!x4) then some (.ret false) else Bb g142 v0 v1 n (wr (z1 + (1:Int)))) else some (.brk z1))
def m20142:Nat->Expr->Int->Option (Bool)
 | 0,_,_=>none
 | f+1,v0,v1=>(bif (decide (v1 < (1:Int))) then some false else (bif (v1 == (1:Int)) then some ((((v0).Args).length:Int) == (0:Int)) else ((Bb (m20142 f) v0 v1 f (0:Int)).bind λo2=>match o2 with | .brk o2s=>some true | .ret r=>some r)))
def m20078 (f:Nat) (v0:Expr):Option (Bool):=(m20141 f v0 (256:Int)).bind λx1=>(bif (decide (x1<=(256:Int))) then (m20142 f v0 (16:Int)).bind λx2=>some x2 else some false).bind λr3=>some r3
def Ei (v0:LL):Nat->Int->Option (Lo (Int) (Bool))
 | 0,_=>none
 | n+1,z1=>(bif (decide (z1 < (v0.size:Int))) then (Ul v0 z1).bind λx3=>(bif (decide ((x3.toNat:Int)>=(UInt8.ofNat 97).toNat)) then (Ul v0 z1).bind λx4=>some (decide ((x4.toNat:Int)<=(UInt8.ofNat 122).toNat)) else some false).bind λr5=>(Ul v0 z1).bind λx6=>(bif (decide ((x6.toNat:Int)>=(UInt8.ofNat 65).toNat)) then (Ul v0 z1).bind λx7=>some (decide ((x7.toNat:Int)<=(UInt8.ofNat 90).toNat)) else some false).bind λr8=>(bif ((z1 == (0:Int)) && (!r5)) then some true else (bif ((!r5) && (!r8)) then (Ul v0 z1).bind λx9=>some ((x9.toNat:Int) != (UInt8.ofNat 95).toNat) else some false).bind λr10=>(bif r10 then (Ul v0 z1).bind λx11=>(bif (decide ((x11.toNat:Int) < (UInt8.ofNat 48).toNat)) then some true else (Ul v0 z1).bind λx12=>some (decide ((x12.toNat:Int) > (UInt8.ofNat 57).toNat))).bind λr13=>some r13 else some false).bind λr14=>some r14).bind λr15=>(bif r15 then some (.ret false) else Ei v0 n (wr (z1 + (1:Int)))) else some (.brk z1))
def m20176 (f:Nat) (v0:LL):Option (Bool):=((Ei v0 f (0:Int)).bind λo2=>match o2 with | .brk o2s=>some (!(v0.toList == (⟨#[]⟩:LL).toList)) | .ret r=>some r)
def m20177 (f:Nat) (v0:Aa):Option (Int):=some (wr ((wr ((2:Int) * (v0).Actuators)) + (((v0).Inputs).length:Int)))
def m20175 (f:Nat) (v0:Aa) (v1:Int):Option LL:=(bif (decide (v1 < (wr ((2:Int) * (v0).Actuators)))) then (ssl (⟨#[97,98,99,100,101,102]⟩:LL) (wr (v1.tdiv (2:Int))) (wr ((wr (v1.tdiv (2:Int))) + (1:Int)))).bind λx1=>(ssl (⟨#[48,49]⟩:LL) (v1.tmod (2:Int)) (wr ((v1.tmod (2:Int)) + (1:Int)))).bind λx2=>(cat x1 x2).bind λx3=>some x3 else (m20177 f v0).bind λx4=>(bif (decide (v1 < x4)) then (idx ((v0).Inputs) (wr (v1 - (wr ((2:Int) * (v0).Actuators))))).bind λx5=>some x5 else (m20177 f v0).bind λx6=>(idx ((v0).Signals) (wr (v1 - x6))).bind λx7=>some ((x7).Name)))
def El (f:Nat) (v0:Aa) (v1:Int) (x1:LL):Nat->Int->Option (Lo (Int) (Int))
 | 0,_=>none
 | n+1,z3=>(bif (decide (z3 < v1)) then (m20175 f v0 z3).bind λx5=>(bif (x5.toList == x1.toList) then some (.ret (7:Int)) else El f v0 v1 x1 n (wr (z3 + (1:Int)))) else some (.brk z3))
def m20105 (f:Nat) (v0:Aa) (v1:Int):Option (Int):=(m20175 f v0 v1).bind λx1=>(m20176 f x1).bind λx2=>(bif (!x2) then some (3:Int) else (bif (decide ((x1.size:Int) > (24:Int))) then some (17:Int) else ((El f v0 v1 x1 f (0:Int)).bind λo4=>match o4 with | .brk o4s=>some (0:Int) | .ret r=>some r)))
def m20267 (f:Nat) (v0:Expr) (v1:Int):Option (Int):=(bif ((decide ((v0).Op < (0:Int))) || (decide ((v0).Op>=(5:Int)))) then some (1:Int) else (bif ((((decide ((v0).Op<=(1:Int))) && ((((v0).Args).length:Int) != (0:Int))) || (((v0).Op == (2:Int)) && ((((v0).Args).length:Int) != (1:Int)))) || ((decide ((v0).Op>=(3:Int))) && (decide ((((v0).Args).length:Int) < (2:Int))))) then some (3:Int) else (bif ((v0).Op == (0:Int)) then some (2:Int) else some (1:Int)).bind λz1=>(bif ((v0).Op == (1:Int)) then some v1 else some z1).bind λz2=>(bif ((decide ((v0).Index < (0:Int))) || (decide ((v0).Index>=z2))) then some (2:Int) else some (0:Int))))
def Lt (g239:Expr->Int->Option (Int)) (v0:Expr) (v1:Int):Nat->Int->Option (Lo (Int) (Int))
 | 0,_=>none
 | n+1,z2=>(bif (decide (z2 < (((v0).Args).length:Int))) then (idx ((v0).Args) z2).bind λx4=>(g239 x4 v1).bind λx5=>(bif (x5 != (0:Int)) then some (.ret x5) else Lt g239 v0 v1 n (wr (z2 + (1:Int)))) else some (.brk z2))
def m20239:Nat->Expr->Int->Option (Int)
 | 0,_,_=>none
 | f+1,v0,v1=>(m20267 f v0 v1).bind λx1=>(bif (x1 != (0:Int)) then some x1 else ((Lt (m20239 f) v0 v1 f (0:Int)).bind λo3=>match o3 with | .brk o3s=>some (0:Int) | .ret r=>some r))
def m20178 (f:Nat) (v0:Expr) (v1:Int):Option (Int):=(bif ((decide (v1 < (0:Int))) || (decide (v1 > (256:Int)))) then some (2:Int) else (m20078 f v0).bind λx1=>(bif (!x1) then some (5:Int) else (m20239 f v0 v1).bind λx2=>some x2))
def Lp (g240:Expr->Int->Option (Bool)) (v0:Expr) (v1:Int):Nat->Int->Option (Lo (Int) (Bool))
 | 0,_=>none
 | n+1,z1=>(bif (decide (z1 < (((v0).Args).length:Int))) then (idx ((v0).Args) z1).bind λx3=>(g240 x3 v1).bind λx4=>(bif x4 then some (.ret true) else Lp g240 v0 v1 n (wr (z1 + (1:Int)))) else some (.brk z1))
def m20240:Nat->Expr->Int->Option (Bool)
 | 0,_,_=>none
 | f+1,v0,v1=>(bif ((v0).Op == (1:Int)) then some ((v0).Index == v1) else ((Lp (m20240 f) v0 v1 f (0:Int)).bind λo2=>match o2 with | .brk o2s=>some false | .ret r=>some r))
def Eh (f:Nat) (v0:Aa) (v1:Int):Nat->Int->Option (Lo (Int) (Bool))
 | 0,_=>none
 | n+1,z1=>(bif (decide (z1 < (((v0).Signals).length:Int))) then (idx ((v0).Signals) z1).bind λx3=>(bif ((x3).Kind == (0:Int)) then (idx ((v0).Signals) v1).bind λx4=>(m20177 f v0).bind λx5=>(m20240 f ((x4).On) (wr (x5 + z1))).bind λx6=>some x6 else some false).bind λr7=>(bif r7 then some (.ret true) else Eh f v0 v1 n (wr (z1 + (1:Int)))) else some (.brk z1))
def m20180 (f:Nat) (v0:Aa) (v1:Int):Option (Bool):=((Eh f v0 v1 f v1).bind λo2=>match o2 with | .brk o2s=>some false | .ret r=>some r)
def m20181 (f:Nat) (v0:Expr):Option (Bool):=some ((((v0).Op == (0:Int)) && ((v0).Index == (0:Int))) && ((((v0).Args).length:Int) == (0:Int)))
def m20106 (f:Nat) (v0:Aa) (v1:Int):Option (Int):=(idx ((v0).Signals) v1).bind λx1=>(m20177 f v0).bind λx3=>(m20105 f v0 (wr (x3 + v1))).bind λx4=>(bif (x4 != (0:Int)) then some x4 else (bif ((decide ((x1).Kind < (0:Int))) || (decide ((x1).Kind>=(3:Int)))) then some (1:Int) else (m84 f v0).bind λx5=>(m20178 f ((x1).On) x5).bind λx6=>(bif (x6 != (0:Int)) then some x6 else (bif ((x1).Kind == (1:Int)) then (m84 f v0).bind λx7=>(m20178 f ((x1).Off) x7).bind λx8=>(bif (x8 != (0:Int)) then some x8 else (bif ((x1).Kind == (0:Int)) then (m20180 f v0 v1).bind λx9=>some x9 else some false).bind λr10=>(bif r10 then some (9:Int) else (bif (((x1).Kind == (2:Int)) && ((decide ((x1).Delay < (1:Int))) || (decide ((x1).Delay > (1000000:Int))))) then some (2:Int) else (bif (!((x1).Kind == (1:Int))) then (m20181 f ((x1).Off)).bind λx11=>some ((!x11) || (x1).Init) else some false).bind λr12=>(bif (r12 || ((!((x1).Kind == (2:Int))) && ((x1).Delay != (0:Int)))) then some (3:Int) else some (0:Int))))) else (bif ((x1).Kind == (0:Int)) then (m20180 f v0 v1).bind λx13=>some x13 else some false).bind λr14=>(bif r14 then some (9:Int) else (bif (((x1).Kind == (2:Int)) && ((decide ((x1).Delay < (1:Int))) || (decide ((x1).Delay > (1000000:Int))))) then some (2:Int) else (bif (!((x1).Kind == (1:Int))) then (m20181 f ((x1).Off)).bind λx15=>some ((!x15) || (x1).Init) else some false).bind λr16=>(bif (r16 || ((!((x1).Kind == (2:Int))) && ((x1).Delay != (0:Int)))) then some (3:Int) else some (0:Int))))))))
def Ej (f:Nat) (v0:Aa) (x3:LG):Nat->Int->Option (Lo (Int) (Int))
 | 0,_=>none
 | n+1,z4=>(bif (decide (z4 < (x3.length:Int))) then (idx x3 z4).bind λx6=>(bif (decide (x6 < (0:Int))) then some true else (idx x3 z4).bind λx7=>(m84 f v0).bind λx8=>some (decide (x7>=x8))).bind λr9=>(bif r9 then some (.ret (6:Int)) else Ej f v0 x3 n (wr (z4 + (1:Int)))) else some (.brk z4))
def Ca (f:Nat) (v0:Aa):Nat->Int->Option (Lo (Int) (Int))
 | 0,_=>none
 | n+1,z1=>(bif (decide (z1 < (([(v0).Plus,(v0).Minus]:List LG).length:Int))) then (idx ([(v0).Plus,(v0).Minus]:List LG) z1).bind λx3=>((Ej f v0 x3 f (0:Int)).bind λo5=>match o5 with | .brk o5s=>Ca f v0 n (wr (z1 + (1:Int))) | .ret r=>some (.ret r)) else some (.brk z1))
def m20107 (f:Nat) (v0:Aa):Option (Int):=(bif (((((v0).Plus).length:Int) != (v0).Actuators) || ((((v0).Minus).length:Int) != (v0).Actuators)) then some (8:Int) else ((Ca f v0 f (0:Int)).bind λo2=>match o2 with | .brk o2s=>some (0:Int) | .ret r=>some r))
def Em (f:Nat) (v0:Aa):Nat->Int->Option (Lo (Int) (Int))
 | 0,_=>none
 | n+1,z4=>(bif (decide (z4 < (((v0).Signals).length:Int))) then (m20106 f v0 z4).bind λx6=>(bif (x6 != (0:Int)) then some (.ret x6) else Em f v0 n (wr (z4 + (1:Int)))) else some (.brk z4))
def En (f:Nat) (v0:Aa):Nat->Int->Option (Lo (Int) (Int))
 | 0,_=>none
 | n+1,z1=>(bif (decide (z1 < (((v0).Inputs).length:Int))) then (m20105 f v0 (wr ((wr ((2:Int) * (v0).Actuators)) + z1))).bind λx3=>(bif (x3 != (0:Int)) then some (.ret x3) else En f v0 n (wr (z1 + (1:Int)))) else some (.brk z1))
def m20042 (f:Nat) (v0:Aa):Option (Int):=(bif ((decide ((v0).Actuators < (1:Int))) || (decide ((v0).Actuators > (6:Int)))) then some (2:Int) else (bif ((decide ((((v0).Inputs).length:Int) > (16:Int))) || (decide ((((v0).Signals).length:Int) > (64:Int)))) then some (5:Int) else ((En f v0 f (0:Int)).bind λo2=>match o2 with | .brk o2s=>((Em f v0 f (0:Int)).bind λo5=>match o5 with | .brk o5s=>(m20107 f v0).bind λx7=>some x7 | .ret r=>some r) | .ret r=>some r)))
end Go.Pn
namespace Go.Pn
theorem Ar {x:Int} (h1:-9223372036854775808<=x) (h2:x<=9223372036854775807):wr x=x:=by
 simp only [wr,IntKind.wrap,IntKind.bits,IntKind.signed];simp;omega
theorem Am {α:Type} {xs:List α} {n:Nat}:idx xs (n:Int)=xs[n]?:=by simp [idx]
theorem Ph {α:Type} {xs:List α} {i:Int} (h0:0<=i) (h:i < xs.length):∃ x,idx xs i=some x/\x∈xs:=by
 have h1:i.toNat < xs.length:=by omega
 exact ⟨xs[i.toNat],by simp [idx,h0,h1],GA h1⟩
end Go.Pn
namespace Go.Pn
open Go
theorem Aq {i:Nat} (h:i < 4611686018427387904):wr ((i:Int) + 1)=((i + 1:Nat):Int):=by
 rw [Ar om_ om_];rfl
theorem Ao {i n:Nat}:decide ((i:Int) < (n:Int))=decide (i < n):=by
 simp
def FF:Nat:=100000
theorem rep_tab:((List.range 121).all λn=>n == 0 || (m33 100000 [(-1:Int)] (n:Int) == some (List.replicate n (-1))))=true:=by kernel_rfl
theorem C2 {n:Nat} (h0:0 < n) (h:n<=120):m33 FF [(-1:Int)] (n:Int)=some (List.replicate n (-1)):=by
 have:=F4.1 rep_tab n (F6.2 om_);have h1:(n == 0)=false:=by simp;omega
 rw [h1] at this;show m33 100000 _ _=_;simpa using this
def bad (n:Nat) (k:Int):Bool:=decide (k < 0) || decide (k>=(n:Int))
theorem Ye {a b:Nat}:(((a:Nat):Int) == ((b:Nat):Int))=(a == b):=by
 rw [GU];simp;omega
end Go.Pn
namespace Go.Pn
theorem lT {i n : Nat} {α : Type} {a b : α} (h : i < n) : (bif decide ((i : Int) < (n : Int)) then a else b) = a := by rw [Ao, decide_eq_true h]; rfl
theorem lF {i n : Nat} {α : Type} {a b : α} (h : ¬ i < n) : (bif decide ((i : Int) < (n : Int)) then a else b) = b := by rw [Ao, decide_eq_false h]; rfl
theorem iX {α β : Type} {xs : List α} {i : Nat} {f : α → Option β} (h : i < xs.length) : (idx xs (i : Int)).bind f = f xs[i] := by rw [Am, HF h]; rfl
theorem uF {p : Prop} (h : p := by unfold FF; omega) : p := h
end Go.Pn
namespace Go.Pn
open Go
theorem Jc {κ β:Type} {eqb:κ->κ->Bool} {k:κ}:∀ {m:List (κ×β)} {i:Nat},Ce eqb k m (i + 1)=(Ce eqb k m i).map λq=>(q.1 + 1,q.2)
 | [],_=>rfl
 | (k',y) :: m,i=>by
  unfold Ce;split
  ·rfl
  ·exact Jc
theorem Ch {κ ν:Type} {eqb:κ->κ->Bool} {m:List (κ×ν)} {k k':κ} {y:ν}:mat eqb ((k',y) :: m) k=if eqb k k' then some y else mat eqb m k:=by
 unfold mat
 rw [Ce];split
 ·rfl
 ·rw [Jc,Option.map_map];rfl
theorem Tb {κ ν:Type} {eqb:κ->κ->Bool} {m:List (κ×ν)} {k k':κ} {y z:ν}:Jp eqb ((k',z) :: m) k y=if eqb k k' then (k',y) :: m else (k',z) :: Jp eqb m k y:=by
 unfold Jp;rw [Ce];by_cases h:eqb k k'=true
 ·rw [if_pos h,if_pos h];rfl
 ·rw [if_neg h,if_neg h,Jc];cases Ce eqb k m 0 with
  | none=>rfl
  | some q=>rfl
end Go.Pn
namespace Go.Pn
open Go
theorem Ub {α:Type} {p:α->Bool} {x:α} {l:List α}:(x :: l).findIdx? p=if p x then some 0 else (l.findIdx? p).map (· + 1):=by
 rw [List.findIdx?_cons]
end Go.Pn
namespace Go.Pn
open Go
theorem ER {α β:Type} {L:Nat->Int->Option (Lo Int β)} {xs:List α} {p:Int->α->Option Bool} {q:α->Bool} {r:Int->β}
  (h:∀ n z,L (n + 1) z=(bif decide (z < (xs.length:Int)) then (idx xs z).bind λx=>(p z x).bind λb=>bif b then some (.ret (r z)) else L n (wr (z + 1)) else some (.brk z)))
  (hl:xs.length < 4611686018427387904) (hq:∀ (i:Nat) x,xs[i]?=some x->p i x=some (q x)) :
  ∀ (n i:Nat),i<=xs.length->xs.length - i < n->L n i=match (xs.drop i).findIdx? q with
   | some j=>some (.ret (r ((i + j:Nat):Int)))
   | none=>some (.brk (xs.length:Int))
 | 0,i,_,h=>by omega
 | n + 1,i,h1,h2=>by
  rw [h];by_cases hi:i < xs.length
  ·have hx:xs[i]?=some xs[i]:=gE_ hi;rw [Ao,dt_ hi,ct_,Am,hx,ob_,hq i _ hx,ob_,G0 hi,Ub];cases q xs[i] with
   | true=>rfl
   | false=>
    rw [cf_,Aq om_,ER h hl hq n (i + 1) om_ om_,if_neg smp_];cases (xs.drop (i + 1)).findIdx? q with
    | none=>rfl
    | some j=>
     show some (Lo.ret (r ((i + 1 + j:Nat):Int)))=some (Lo.ret (r ((i + (j + 1):Nat):Int)));rw [show i + 1 + j=i + (j + 1) by omega]
  ·rw [Ao,df_ hi,cf_,GT om_];have:i=xs.length:=by omega
   subst this;rfl
theorem eqls {α:Type} [BEq α] [LawfulBEq α] {L:Nat->Int->Option (Lo Int Bool)} {xs ys:List α}
  (h:∀ n z,L (n + 1) z=(bif decide (z < (xs.length:Int)) then (idx xs z).bind λx=>(idx ys z).bind λy=>bif x != y then some (.ret false) else L n (wr (z + 1)) else some (.brk z)))
  (hl:xs.length < 4611686018427387904) (he:xs.length=ys.length) :
  ∀ (n i:Nat),i<=xs.length->xs.length - i < n->L n i=if xs.drop i == ys.drop i then some (.brk (xs.length:Int)) else some (.ret false)
 | 0,i,_,h=>by omega
 | n + 1,i,h1,h2=>by
  rw [h];by_cases hi:i < xs.length
  ·have hi2:i < ys.length:=by omega
   rw [Ao,dt_ hi,ct_,Am,gE_ hi,ob_,Am,gE_ hi2,ob_,G0 hi,G0 hi2];by_cases hx:xs[i]=ys[i]
   ·rw [show (xs[i] != ys[i])=false by simp [hx],cf_,Aq om_,eqls h hl he n (i + 1) om_ om_];rw [List.cons_beq_cons,show (xs[i] == ys[i])=true by simpa using hx,HT]
   ·rw [show (xs[i] != ys[i])=true by simp [hx],ct_];simp [hx]
  ·rw [Ao,df_ hi,cf_,GT om_,GT om_];have:i=xs.length:=by omega
   subst this;simp
theorem eqls0 {α:Type} [BEq α] [LawfulBEq α] {L:Nat->Int->Option (Lo Int Bool)} {xs ys:List α} {f:Nat}
  (h:∀ n z,L (n + 1) z=(bif decide (z < (xs.length:Int)) then (idx xs z).bind λx=>(idx ys z).bind λy=>bif x != y then some (.ret false) else L n (wr (z + 1)) else some (.brk z)))
  (hl:xs.length < 4611686018427387904) (hf:xs.length < f) :
  (bif ((xs.length:Int) != (ys.length:Int)) then some false else ((L f (0:Int)).bind λo2=>match o2 with | .brk o2s=>some true | .ret r=>some r))=some (xs == ys):=by
 by_cases he:xs.length=ys.length
 ·rw [show ((xs.length:Int) != (ys.length:Int))=false by simp [he],cf_];have:=eqls h hl he f 0 om_ om_;have h0:((0:Nat):Int)=0:=rfl;rw [h0,HG,HG] at this;rw [this];cases xs == ys <;> rfl
 ·rw [show ((xs.length:Int) != (ys.length:Int))=true by simp;omega,ct_];have:xs≠ys:=λe=>he (by rw [e]);rw [show (xs == ys)=false by simpa using this]
theorem Xe {f:Nat} {xs ys:LG} (hl:xs.length < 4611686018427387904) (hf:xs.length < f):m20 f xs ys=some (xs == ys):=by
 unfold m20;exact eqls0 (L:=Xf xs ys) (λ_ _=>rfl) hl hf
theorem Qn {f:Nat} {xs ys:LH} (hl:xs.length < 4611686018427387904) (hf:xs.length < f):m95 f xs ys=some (xs == ys):=by
 unfold m95;exact eqls0 (L:=Wu xs ys) (λ_ _=>rfl) hl hf
def sst (a b:Ad):Bool:=(a.Ends == b.Ends) && (a.Valves == b.Valves) && (a.Inputs == b.Inputs) && (a.Values == b.Values) && (a.Timers == b.Timers)
theorem Eb {a b:Ad}:sst a b=true↔a=b:=by
 cases a;cases b
 simp [sst,and_assoc]
theorem Da (a:Ad):sst a a=true:=Eb.2 rfl
structure Smst (s:Ad) (n:Nat):Prop where
 e:s.Ends.length<=n
 v:s.Valves.length<=n
 i:s.Inputs.length<=n
 x:s.Values.length<=n
 t:s.Timers.length<=n
theorem Qs {f n:Nat} {a b:Ad} (h:Smst a n) (hn:n < f) (hn2:n < 4611686018427387904):m59 f a b=some (sst a b):=by
 obtain ⟨h1,h2,h3,h4,h5⟩:=h;unfold m59 sst;rw [Xe om_ om_,Qn om_ om_,Qn om_ om_,Qn om_ om_,Xe om_ om_];cases a.Ends == b.Ends <;> cases a.Valves == b.Valves <;> cases a.Inputs == b.Inputs <;> cases a.Values == b.Values <;> cases a.Timers == b.Timers <;> rfl
def plc (l:List Ad) (s:Ad):Int:=match l.findIdx? (λx=>sst s x) with | some j=>(j:Int) | none=>-1
end Go.Pn
namespace Go.Pn
open Go
theorem cs_ {α:Type} {c:Bool} {a b:α}:(bif c then some a else some b)=some (bif c then a else b):=by cases c <;> rfl
theorem n0:((0:Nat):Int)=0:=rfl
def szd:Nat->Expr->Nat
 | 0,_=>0
 | d + 1,x=>1 + (x.Args.map (szd d)).sum
def Szb (x:Expr) (n:Nat):Prop:=∀ d,szd d x<=n
def dp:Nat->Expr->Prop
 | 0,_=>False
 | d + 1,x=>x.Args.length<=256/\∀ y∈x.Args,dp d y
theorem E6:∀ {l:LJ} {n:Nat},n∈l->n<=l.sum
 | a :: l,n,h=>by
  rw [List.sum_cons];rcases GH.1 h with rfl | h
  ·omega
  ·have:=E6 h;omega
theorem Szb.arg {x y:Expr} {n:Nat} (h:Szb x n) (hy:y∈x.Args):Szb y n:=λd=>by
 have h1:=h (d + 1);have h2:=E6 (GE.2 ⟨y,hy,rfl⟩:szd d y∈x.Args.map (szd d));unfold szd at h1;omega
theorem Wf:∀ {l:List Expr},l.length<=(l.map (szd 1)).sum
 | []=>by simp
 | x :: l=>by
  have:=Wf (l:=l);have h1:1<=szd 1 x:=by unfold szd;omega
  simp only [GD,List.sum_cons,JD];omega
theorem CV {d:Nat} {x:Expr}:szd (d + 1) x=1 + (x.Args.map (szd d)).sum:=rfl
theorem Szb.len {x:Expr} {n:Nat} (h:Szb x n):x.Args.length < n:=by
 have h1:=h 2;rw [CV] at h1;have:=Wf (l:=x.Args);omega
theorem We {l:LJ} {i:Nat} (h:i < l.length):(l.take (i + 1)).sum=(l.take i).sum + l[i]:=by
 rw [JE,gE_ h,List.sum_append];simp
theorem Vl:∀ (k f:Nat) (x:Expr),k<=256->k + 300<=f->∃ r:Nat,m20141 f x k=some (r:Int)/\1<=r/\r<=k + 1/\(r<=k->Szb x r):=by
 intro k
 induction k using Nat.strongRecOn with
 | ind k ih=>
  intro f x hk hf;obtain ⟨f,rfl⟩:∃ f',f=f' + 1:=⟨f - 1,by omega⟩;have loop:∀ (n i z:Nat),i<=x.Args.length->i + 1<=z->z<=k + 1->k + 1 - z < n->(z<=k->∀ d,1 + ((x.Args.map (szd d)).take i).sum<=z) ->
    ∃ r e:Nat,Bi (m20141 f) x k n ((z:Int),(i:Int))=some ((r:Int),(e:Int))/\1<=r/\r<=k + 1/\(r<=k->Szb x r):=by
   intro n
   induction n with
   | zero=>intro i z _ _ _ h;omega
   | succ n ihn=>
    intro i z hi hz1 hz2 hn hs;unfold Bi;dsimp only;rw [Ao];have hle:decide ((z:Int)<=(k:Int))=decide (z<=k):=by simp
    rw [hle];by_cases h1:i < x.Args.length
    ·by_cases h2:z<=k
     ·rw [dt_ h1,dt_ h2,JH,ct_,Am,gE_ h1,ob_,Ar om_ om_];obtain ⟨r,hr,hr1,hr2,hr3⟩:=ih (k - z) om_ f x.Args[i] om_ om_;rw [show (k:Int) - (z:Int)=((k - z:Nat):Int) by omega,hr,ob_,Ar om_ om_,show wr ((i:Int) + 1)=((i + 1:Nat):Int) from Aq om_];rw [show (z:Int) + (r:Int)=((z + r:Nat):Int) by omega];refine ihn (i + 1) (z + r) om_ om_ om_ om_ λhle d=>?_;rw [We (by simpa using h1)];have h5:=hs h2 d;have h6:=hr3 om_ d;simp only [KZ];omega
     ·rw [df_ h2,JP,cf_];exact ⟨z,i,rfl,by omega,hz2,λh=>absurd h h2⟩
    ·rw [df_ h1,J7,cf_];refine ⟨z,i,rfl,by omega,hz2,λh d=>?_⟩;cases d with
     | zero=>unfold szd;omega
     | succ d=>
      have:=hs h d;rw [HZ so_] at this;unfold szd;omega
  unfold m20141;obtain ⟨r,e,h1,h2⟩:=loop f 0 1 om_ om_ om_ om_ (λ_ d=>by simp);have e1:((1:Nat):Int)=1:=rfl;rw [n0,e1] at h1;rw [h1];exact ⟨r,rfl,h2⟩
theorem Lx:∀ (k f:Nat) (x:Expr),Szb x 256->k<=256->k + 300<=f->∃ b,m20142 f x k=some b/\(b=true->dp k x)
 | 0,f,x,_,_,hf=>by
  obtain ⟨f,rfl⟩:∃ f',f=f' + 1:=⟨f - 1,by omega⟩;exact ⟨false,rfl,by simp⟩
 | k + 1,f,x,hs,hk,hf=>by
  obtain ⟨f,rfl⟩:∃ f',f=f' + 1:=⟨f - 1,by omega⟩;have hl:=hs.len;unfold m20142;rw [show decide (((k + 1:Nat):Int) < 1)=false by simp;omega,cf_];by_cases h1:k=0
  ·subst h1;rw [show ((((0 + 1:Nat):Int)) == 1)=true by simp,ct_];refine ⟨_,rfl,λh=>⟨by omega,λy hy=>?_⟩⟩;have:x.Args.length=0:=by simpa using h
   rw [HB this] at hy;simp at hy
  ·rw [show ((((k + 1:Nat):Int)) == 1)=false by simp;omega,cf_];have loop:∀ (n i:Nat),i<=x.Args.length->x.Args.length - i < n ->
     Bb (m20142 f) x ((k + 1:Nat):Int) n (i:Int)=some (.ret false)\/((∃ e,Bb (m20142 f) x ((k + 1:Nat):Int) n (i:Int)=some (.brk e))/\∀ y∈x.Args.drop i,dp k y):=by
    intro n
    induction n with
    | zero=>intro i _ h;omega
    | succ n ihn=>
     intro i hi hn;unfold Bb;by_cases h2:i < x.Args.length
     ·rw [Ao,dt_ h2,ct_,Am,gE_ h2,ob_,Ar om_ om_,show ((k + 1:Nat):Int) - 1=(k:Int) by omega];obtain ⟨b,hb,hb2⟩:=Lx k f x.Args[i] (hs.arg (GA h2)) om_ om_;rw [hb,ob_];cases b with
      | false=>exact .inl rfl
      | true=>
       rw [nt_,cf_,Aq om_];rcases ihn (i + 1) om_ om_ with h | ⟨h,h3⟩
       ·exact .inl h
       ·refine .inr ⟨h,?_⟩;rw [G0 h2];exact λy hy=>(GH.1 hy).elim (λe=>e ▸ hb2 rfl) (h3 y)
     ·rw [Ao,df_ h2,cf_];refine .inr ⟨⟨_,rfl⟩,?_⟩;rw [GT om_];simp
   have h0:((0:Nat):Int)=0:=rfl;rcases loop f 0 om_ om_ with h | ⟨⟨e,h⟩,h3⟩
   ·rw [h0] at h;rw [h];exact ⟨false,rfl,by simp⟩
   ·rw [h0] at h;rw [h];exact ⟨true,rfl,λ_=>⟨by omega,by simpa using h3⟩⟩
structure Lt_ (x:Expr):Prop where
 sz:Szb x 256
 dp:dp 16 x
theorem Vp {f:Nat} (hf:600<=f) (x:Expr):∃ b,m20078 f x=some b/\(b=true->Lt_ x):=by
 unfold m20078;obtain ⟨r,hr,hr1,hr2,hr3⟩:=Vl 256 f x om_ om_;rw [show (256:Int)=((256:Nat):Int) from rfl,hr,ob_];by_cases h:r<=256
 ·rw [show decide ((r:Int)<=((256:Nat):Int))=true by simpa using (by omega:(r:Int)<=256),ct_];have hs:Szb x 256:=λd=>GX (hr3 h d) h;obtain ⟨b,hb,hb2⟩:=Lx 16 f x hs om_ om_;rw [show (16:Int)=((16:Nat):Int) from rfl,hb];exact ⟨b,rfl,λh=>⟨hs,hb2 h⟩⟩
 ·rw [show decide ((r:Int)<=((256:Nat):Int))=false by simpa using (by omega:¬ (r:Int)<=256),cf_];exact ⟨false,rfl,by simp⟩
def nod (n:Int) (v0:Expr):Int:=bif ((decide ((v0).Op < 0)) || (decide ((v0).Op>=(5:Int)))) then (1:Int) else (bif ((((decide ((v0).Op<=(1:Int))) && ((((v0).Args).length:Int) != 0)) || (((v0).Op == 2) && ((((v0).Args).length:Int) != 1))) || ((decide ((v0).Op>=(3:Int))) && (decide ((((v0).Args).length:Int) < 2)))) then (3:Int) else (bif ((decide ((v0).Index < 0)) || (decide ((v0).Index>=(bif ((v0).Op == 1) then n else bif ((v0).Op == 0) then (2:Int) else (1:Int))))) then (2:Int) else (0:Int)))
theorem Vh (f:Nat) (x:Expr) (n:Int):m20267 f x n=some (nod n x):=by
 unfold m20267 nod;simp only [cs_,ob_]
theorem Jy {n:Int} {x:Expr} (h:nod n x=0):0<=x.Op/\x.Op < 5/\(x.Op<=1->x.Args=[])/\(x.Op=2->x.Args.length=1)/\(3<=x.Op->2<=x.Args.length)/\0<=x.Index/\(x.Op=1->x.Index < n):=by
 unfold nod at h;cases h1:((decide ((x).Op < 0)) || (decide ((x).Op>=(5:Int)))) with
 | true=>rw [h1] at h;cases h
 | false=>
  rw [h1,cf_] at h;cases h2:((((decide ((x).Op<=(1:Int))) && ((((x).Args).length:Int) != 0)) || (((x).Op == 2) && ((((x).Args).length:Int) != 1))) || ((decide ((x).Op>=(3:Int))) && (decide ((((x).Args).length:Int) < 2)))) with
  | true=>rw [h2] at h;cases h
  | false=>
   rw [h2,cf_] at h;cases h3:((decide ((x).Index < 0)) || (decide ((x).Index>=(bif ((x).Op == 1) then n else bif ((x).Op == 0) then (2:Int) else (1:Int))))) with
   | true=>rw [h3] at h;cases h
   | false=>
    simp only [H6,JC,decide_eq_false_iff_not,bne_eq_false_iff_eq,beq_eq_false_iff_ne,ne_eq] at h1 h2 h3;obtain ⟨h1a,h1b⟩:=h1;obtain ⟨⟨h2a,h2b⟩,h2c⟩:=h2;obtain ⟨h3a,h3b⟩:=h3;refine ⟨by omega,by omega,λh=>?_,λh=>?_,λh=>?_,by omega,λh=>?_⟩
    ·refine HB ?_;rcases h2a with h4 | h4 <;> omega
    ·rcases h2b with h4 | h4 <;> omega
    ·rcases h2c with h4 | h4 <;> omega
    ·rw [h] at h3b;simp at h3b;omega
def fnz:LG->Int
 | []=>0
 | a :: l=>if a=0 then fnz l else a
theorem Xq:∀ {l:LG},fnz l=0->∀ a∈l,a=0
 | a :: l,h,b,hb=>by
  unfold fnz at h;split at h
  ·rename_i h0;rcases GH.1 hb with rfl | hb
   ·exact h0
   ·exact Xq h b hb
  ·contradiction
def chE:Nat->Int->Expr->Int
 | 0,_,_=>0
 | d + 1,n,x=>if nod n x=0 then fnz (x.Args.map (chE d n)) else nod n x
def okE:Nat->Int->Expr->Prop
 | 0,_,_=>False
 | d + 1,n,x=>nod n x=0/\x.Args.length<=256/\∀ y∈x.Args,okE d n y
theorem okE.of:∀ {d:Nat} {n:Int} {x:Expr},dp d x->chE d n x=0->okE d n x
 | 0,_,_,h,_=>h
 | d + 1,n,x,h,hc=>by
  unfold chE at hc;split at hc
  ·rename_i h0;refine ⟨h0,h.1,λy hy=>okE.of (h.2 y hy) (Xq hc _ (GE.2 ⟨y,hy,rfl⟩))⟩
  ·contradiction
theorem fnzl {α:Type} {L:Nat->Int->Option (Lo Int Int)} {xs:List α} {p:Int->α->Option Int} {q:α->Int}
  (h:∀ n z,L (n + 1) z=(bif decide (z < (xs.length:Int)) then (idx xs z).bind λx=>(p z x).bind λb=>bif b != 0 then some (.ret b) else L n (wr (z + 1)) else some (.brk z)))
  (hl:xs.length < 4611686018427387904) (hq:∀ (i:Nat) x,xs[i]?=some x->p i x=some (q x)) :
  ∀ (n i:Nat),i<=xs.length->xs.length - i < n->L n i=if fnz ((xs.drop i).map q)=0 then some (.brk (xs.length:Int)) else some (.ret (fnz ((xs.drop i).map q)))
 | 0,i,_,h=>by omega
 | n + 1,i,h1,h2=>by
  rw [h];by_cases hi:i < xs.length
  ·have hx:xs[i]?=some xs[i]:=gE_ hi;rw [Ao,dt_ hi,ct_,Am,hx,ob_,hq i _ hx,ob_,G0 hi,GD];unfold fnz;by_cases h0:q xs[i]=0
   ·rw [h0,if_pos rfl,zf_,cf_,Aq om_,fnzl h hl hq n (i + 1) om_ om_]
   ·rw [if_neg h0,show (q xs[i] != 0)=true by simpa using h0,ct_,if_neg h0]
  ·rw [Ao,df_ hi,cf_,GT om_];have:i=xs.length:=by omega
   subst this;rfl
theorem fnzl0 {α:Type} {L:Nat->Int->Option (Lo Int Int)} {xs:List α} {p:Int->α->Option Int} {q:α->Int} {f:Nat}
  (h:∀ n z,L (n + 1) z=(bif decide (z < (xs.length:Int)) then (idx xs z).bind λx=>(p z x).bind λb=>bif b != 0 then some (.ret b) else L n (wr (z + 1)) else some (.brk z)))
  (hl:xs.length < 4611686018427387904) (hf:xs.length < f) (hq:∀ (i:Nat) x,xs[i]?=some x->p i x=some (q x)) :
  L f (0:Int)=if fnz (xs.map q)=0 then some (.brk (xs.length:Int)) else some (.ret (fnz (xs.map q))):=by
 have:=fnzl h hl hq f 0 om_ om_;rw [n0,HG] at this;exact this
theorem Lq:∀ (d f:Nat) (n:Int) (x:Expr),dp d x->d + 300<=f->m20239 f x n=some (chE d n x)
 | 0,_,_,_,h,_=>h.elim
 | d + 1,f,n,x,h,hf=>by
  obtain ⟨f,rfl⟩:∃ f',f=f' + 1:=⟨f - 1,by omega⟩;unfold m20239 chE;rw [Vh,ob_];by_cases h0:nod n x=0
  ·rw [h0,if_pos rfl,zf_,cf_];have hl:=h.1;rw [fnzl0 (L:=Lt (m20239 f) x n) (xs:=x.Args) (p:=λ_ y=>m20239 f y n) (q:=chE d n) (λ_ _=>rfl) om_ om_ (λi y hy=>Lq d f n y (h.2 y (GF hy)) om_)];split
   ·rename_i h1;rw [h1];rfl
   ·rfl
  ·rw [if_neg h0,show (nod n x != 0)=true by simpa using h0,ct_]
theorem Lv {f:Nat} {n:Int} {x:Expr} (hx:Lt_ x) (hm:m20078 f x=some true) (hn:0<=n) (hn2:n<=256) (hf:600<=f):m20178 f x n=some (chE 16 n x):=by
 unfold m20178;rw [df_ om_,df_ om_,JO,cf_,hm,ob_,nt_,cf_,Lq 16 f n x hx.dp om_,ob_]
theorem BA {f:Nat} {n:Int} {x:Expr} (hn:0<=n) (hn2:n<=256) (hl:x.Args.length<=256):L4 f x n=some (nod n x):=by
 unfold L4 nod;by_cases h1:x.Op < 0\/5<=x.Op
 ·have:((decide ((x).Op < 0)) || (decide ((x).Op>=(5:Int))))=true:=by simpa using h1
  rw [this];rfl
 ·have:((decide ((x).Op < 0)) || (decide ((x).Op>=(5:Int))))=false:=by simp;omega
  rw [this,cf_,cf_];unfold L2 L0;simp only [ob_,cs_];rw [Ar om_ om_];have hl1:∀ b:Bool,(bif decide (0 < x.Args.length) then (3:Int) else bif b then 2 else 0)=(bif (x.Args.length:Int) != 0 then 3 else bif b then 2 else 0):=λb=>by
   have:decide (0 < x.Args.length)=((x.Args.length:Int) != 0):=by
    rcases JV x.Args.length with h | h
    ·rw [h];rfl
    ·rw [dt_ h];symm;rw [bne_iff_ne];omega
   rw [this]
  have key:(x.Index > n - 1)↔(x.Index>=n):=by omega
  have k1:(x.Index > 1)↔(x.Index>=2):=by omega
  have k0:(x.Index > 0)↔(x.Index>=1):=by omega
  have hop:x.Op=0\/x.Op=1\/x.Op=2\/x.Op=3\/x.Op=4:=by omega
  have e0:decide ((x.Args.length:Int) < 0)=false:=by simp
  have e1:decide ((x.Args.length:Int) > 256)=false:=by simp;omega
  have e3:(decide ((x.Args.length:Int) < 1) || decide ((x.Args.length:Int) > 1))=((x.Args.length:Int) != 1):=by
   rw [GU];simp;omega
  rcases hop with h | h | h | h | h <;> rw [h]
  ·simp only [show idx (List.range 5) 0=some 0 by rfl,ob_];simp [e0,k1];exact hl1 _
  ·simp only [show idx (List.range 5) 1=some 1 by rfl,ob_];simp [e0,key];exact hl1 _
  ·simp only [show idx (List.range 5) 2=some 2 by rfl,ob_];simp [e3,k0]
  ·simp only [show idx (List.range 5) 3=some 3 by rfl,ob_];simp [e1,k0]
  ·simp only [show idx (List.range 5) 4=some 4 by rfl,ob_];simp [e1,k0]
theorem Ou:∀ (d f:Nat) (x:Expr) (k:Int) (cnt:Nat) (mx:Int),dp d x->1<=k->k + d<=17->cnt + szd d x<=256->d + 300<=f ->
  ∃ mx',LW Do f x k (((cnt:Int),mx),0)=some (true,((((cnt + szd d x:Nat):Int),mx'),0))
 | 0,_,_,_,_,_,h,_,_,_,_=>h.elim
 | d + 1,f,x,k,cnt,mx,h,hk,hkd,hc,hf=>by
  obtain ⟨f,rfl⟩:∃ f',f=f' + 1:=⟨f - 1,by omega⟩;have hl:=h.1;have hsz:szd (d + 1) x=1 + (x.Args.map (szd d)).sum:=by rw [szd]
  have hr1:Do (k,x) (((cnt:Int),mx),0)=some (true,((((cnt + 1:Nat):Int),(if k > mx then k else mx)),0)):=by
   unfold Do;dsimp only;rw [Aq om_,show (decide (((cnt + 1:Nat):Int) > 256) || decide (k > 16))=false by simp;omega,cf_]
  unfold LW;rw [hr1,ob_];dsimp only;rw [nt_,cf_];have loop:∀ (n i:Nat) (mx:Int),i<=x.Args.length->x.Args.length - i < n ->
    ∃ e mx',Eo (LW Do f) x k n ((i:Int),(((cnt + 1 + ((x.Args.map (szd d)).take i).sum:Nat):Int),mx),0)=some (.brk (e,((((cnt + szd (d + 1) x:Nat):Int),mx'),0))):=by
   intro n
   induction n with
   | zero=>intro i _ _ h;omega
   | succ n ihn=>
    intro i mx hi hn;unfold Eo;dsimp only;by_cases h2:i < x.Args.length
    ·rw [Ao,dt_ h2,ct_,Am,gE_ h2,ob_,show decide (k<=16)=true by simp;omega,ct_,Ar om_ om_];have hst:=We (l:=x.Args.map (szd d)) (i:=i) (by simpa using h2);have hle:((x.Args.map (szd d)).take (i + 1)).sum<=(x.Args.map (szd d)).sum:=by
      conv=>rhs;rw [← K4 (i + 1) (x.Args.map (szd d))]
      rw [List.sum_append];omega
     simp only [KZ] at hst;obtain ⟨mx',h3⟩:=Ou d f x.Args[i] (k + 1) (cnt + 1 + ((x.Args.map (szd d)).take i).sum) mx (h.2 _ (GA h2)) om_ om_ om_ om_;rw [h3,ob_,ct_];dsimp only;rw [nt_,cf_,Aq om_,show cnt + 1 + ((x.Args.map (szd d)).take i).sum + szd d x.Args[i]=cnt + 1 + ((x.Args.map (szd d)).take (i + 1)).sum by omega];exact ihn (i + 1) mx' om_ om_
    ·rw [Ao,df_ h2,cf_];rw [HZ so_];exact ⟨_,mx,by rw [show cnt + 1 + (x.Args.map (szd d)).sum=cnt + szd (d + 1) x by omega]⟩
  obtain ⟨e,mx',h3⟩:=loop f 0 (if k > mx then k else mx) om_ om_
  rw [n0,J6,List.sum_nil,JZ] at h3;rw [h3];exact ⟨mx',rfl⟩
theorem BB {f:Nat} {x:Expr} (hx:Lt_ x) (hf:600<=f):∃ a b,LZ f x=some (a,b,true):=by
 unfold LZ LU LX;have h1:=hx.sz 16;obtain ⟨mx,h⟩:=Ou 16 f x 1 0 0 hx.dp om_ om_ om_ om_;rw [n0] at h;rw [ob_,h];exact ⟨_,_,rfl⟩
theorem Oq {F:Nat} {m:Int} (hm:0<=m) (hm2:m<=256):∀ (d f:Nat) (x:Expr) (k z:Int),dp d x->1<=k->k + d<=17->d + 300<=f ->
  LW (Dp F m) f x k (z,0)=some (if chE d m x=0 then (true,(z,0)) else (false,(chE d m x,1)))
 | 0,_,_,_,_,h,_,_,_=>h.elim
 | d + 1,f,x,k,z,h,hk,hkd,hf=>by
  obtain ⟨f,rfl⟩:∃ f',f=f' + 1:=⟨f - 1,by omega⟩;have hl:=h.1;have hr1:Dp F m (k,x) (z,0)=some (if nod m x=0 then (true,(z,0)) else (false,(nod m x,1))):=by
   unfold Dp;dsimp only;rw [BA hm hm2 hl,ob_];by_cases h0:nod m x=0
   ·rw [h0,if_pos rfl];rfl
   ·rw [if_neg h0,show (nod m x != 0)=true by simpa using h0,ct_]
  unfold LW chE;rw [hr1,ob_];by_cases h0:nod m x=0
  ·rw [if_pos h0,if_pos h0];dsimp only;rw [nt_,cf_];have loop:∀ (n i:Nat),i<=x.Args.length->x.Args.length - i < n ->
     Eo (LW (Dp F m) f) x k n ((i:Int),(z,0))=if fnz ((x.Args.drop i).map (chE d m))=0 then some (.brk ((x.Args.length:Int),(z,0))) else some (.ret (false,(fnz ((x.Args.drop i).map (chE d m)),1))):=by
    intro n
    induction n with
    | zero=>intro i _ h;omega
    | succ n ihn=>
     intro i hi hn;unfold Eo;dsimp only;by_cases h2:i < x.Args.length
     ·rw [Ao,dt_ h2,ct_,Am,gE_ h2,ob_,show decide (k<=16)=true by simp;omega,ct_,Ar om_ om_,Oq hm hm2 d f x.Args[i] (k + 1) z (h.2 _ (GA h2)) om_ om_ om_,ob_,ct_,G0 h2,GD];unfold fnz;by_cases h3:chE d m x.Args[i]=0
      ·rw [if_pos h3,if_pos h3];dsimp only;rw [nt_,cf_,Aq om_];exact ihn (i + 1) om_ om_
      ·rw [if_neg h3,if_neg h3,if_neg h3];rfl
     ·rw [Ao,df_ h2,cf_,GT om_];have:i=x.Args.length:=by omega
      subst this;rfl
   have h3:=loop f 0 om_ om_;rw [n0,HG] at h3;rw [h3];split <;> rfl
  ·rw [if_neg h0,if_neg h0,if_neg h0];rfl
theorem Mf {f:Nat} {n:Int} {x:Expr} (hx:Lt_ x) (hn:0<=n) (hn2:n<=256) (hf:600<=f):L5 f x n=some (chE 16 n x):=by
 unfold L5;obtain ⟨a,b,h⟩:=BB hx hf;rw [df_ om_,df_ om_,JO,cf_,h,ob_];unfold LU LX;dsimp only;rw [nt_,cf_,ob_,Oq hn hn2 16 f x 1 0 hx.dp om_ om_ om_];by_cases h0:chE 16 n x=0
 ·rw [if_pos h0,h0];rfl
 ·rw [if_neg h0];rfl
def ev:Nat->LH->Expr->Bool
 | 0,_,_=>false
 | d + 1,ls,x=>if x.Op=0 then x.Index == 1 else if x.Op=1 then (idx ls x.Index).getD false else if x.Op=2 then !(x.Args.any (ev d ls)) else if x.Op=3 then x.Args.all (ev d ls) else x.Args.any (ev d ls)
theorem Hi:∀ (d f:Nat) (ls:LH) (x:Expr),okE d ls.length x->d + 300<=f->NC f x ls=some (ev d ls x)
 | 0,_,_,_,h,_=>h.elim
 | d + 1,f,ls,x,h,hf=>by
  obtain ⟨f,rfl⟩:∃ f',f=f' + 1:=⟨f - 1,by omega⟩;obtain ⟨hn,hl,ha⟩:=h;obtain ⟨o1,o2,o3,o4,o5,i1,i2⟩:=Jy hn;have hev:∀ y∈x.Args,NC f y ls=some (ev d ls y):=λy hy=>Hi d f ls y (ha y hy) om_;unfold NC ev;by_cases h0:x.Op=0
  ·rw [if_pos h0,show (x.Op == 0)=true by simpa using h0,ct_]
  ·rw [if_neg h0,show (x.Op == 0)=false by simpa using h0,cf_];by_cases h1:x.Op=1
   ·rw [if_pos h1,show (x.Op == 1)=true by simpa using h1,ct_];obtain ⟨b,hb,_⟩:=Ph i1 (i2 h1);rw [hb];rfl
   ·rw [if_neg h1,show (x.Op == 1)=false by simpa using h1,cf_];by_cases h2:x.Op=2
    ·rw [if_pos h2,show (x.Op == 2)=true by simpa using h2,ct_];obtain ⟨y,hy⟩:=List.length_eq_one_iff.1 (o4 h2);rw [hy,show idx [y] 0=some y by rfl,ob_,hev y (by rw [hy];simp)];simp
    ·rw [if_neg h2,show (x.Op == 2)=false by simpa using h2,cf_];by_cases h3:x.Op=3
     ·rw [if_pos h3,show (x.Op == 3)=true by simpa using h3,ct_];unfold NA M9;have h5:=ER (L:=Ra (NC f) f x.Args ls) (xs:=x.Args) (p:=λ_ y=>M8 f (NC f) y ls) (q:=λy=>!ev d ls y) (r:=λz=>z) (λ_ _=>rfl) om_ (λi y hy=>by
       unfold M8;rw [hev y (GF hy)];rfl) f 0 om_ om_
      rw [n0,HG] at h5;rw [h5];cases h6:x.Args.findIdx? (λy=>!ev d ls y) with
      | none=>
       rw [HJ] at h6;have:x.Args.all (ev d ls)=true:=F4.2 λy hy=>by simpa using h6 y hy
       rw [this];rfl
      | some j=>
       obtain ⟨hj,hj2,_⟩:=GP.1 h6;have:x.Args.all (ev d ls)=false:=List.all_eq_false.2 ⟨_,GA hj,by simpa using hj2⟩;rw [this];simp
     ·rw [if_neg h3,show (x.Op == 3)=false by simpa using h3,cf_];unfold Xh Xg;have h5:=ER (L:=Hh (NC f) f x.Args ls) (xs:=x.Args) (p:=λ_ y=>NB f (NC f) y ls) (q:=λy=>ev d ls y) (r:=λz=>z) (λ_ _=>rfl) om_ (λi y hy=>by
       unfold NB;rw [hev y (GF hy)];rfl) f 0 om_ om_
      rw [n0,HG] at h5;rw [h5];cases h6:x.Args.findIdx? (λy=>ev d ls y) with
      | none=>
       rw [HJ] at h6;have:x.Args.any (ev d ls)=false:=GR.2 λy hy=>by simpa using h6 y hy
       rw [this];rfl
      | some j=>
       obtain ⟨hj,hj2,_⟩:=GP.1 h6;have:x.Args.any (ev d ls)=true:=F8.2 ⟨_,GA hj,by simpa using hj2⟩;rw [this];simp
theorem Lz {d f:Nat} {ls:LH} {x:Expr} {g:Expr->LH->Option Bool} (v:Bool) (hl:x.Args.length<=256) (hf:300<=f) (hev:∀ y∈x.Args,g y ls=some (ev d ls y)) :
  MV f g v x ls=some (x.Args.all λy=>ev d ls y == v):=by
 unfold MV MU;have loop:∀ (n i:Nat),i<=x.Args.length->x.Args.length - i < n ->
   Me g (Ge g v) x ls n ((i:Int),((),0))=if (x.Args.drop i).all (λy=>ev d ls y == v) then some (.brk ((x.Args.length:Int),((),0))) else some (.ret ((),1)):=by
  intro n
  induction n with
  | zero=>intro i _ h;omega
  | succ n ihn=>
   intro i hi hn;unfold Me Ge;dsimp only;by_cases h2:i < x.Args.length
   ·rw [Ao,dt_ h2,ct_,Am,gE_ h2,ob_,hev _ (GA h2),ob_,G0 h2,KE];cases h3:(ev d ls x.Args[i] == v) with
    | true=>
     rw [show (ev d ls x.Args[i] != v)=false by (show (!(ev d ls x.Args[i] == v))=false);rw [h3];rfl,cf_,ob_];dsimp only;rw [nt_,cf_,Aq om_,HT];exact ihn (i + 1) om_ om_
    | false=>
     rw [show (ev d ls x.Args[i] != v)=true by (show (!(ev d ls x.Args[i] == v))=true);rw [h3];rfl,ct_,ob_];rfl
   ·rw [Ao,df_ h2,cf_,GT om_];have:i=x.Args.length:=by omega
    subst this;rfl
 have h3:=loop f 0 om_ om_;rw [n0,HG] at h3;rw [h3];cases x.Args.all (λy=>ev d ls y == v) <;> rfl
theorem Tl:∀ (d f:Nat) (ls:LH) (x:Expr),okE d ls.length x->d + 300<=f->MY f x ls=some (ev d ls x)
 | 0,_,_,_,h,_=>h.elim
 | d + 1,f,ls,x,h,hf=>by
  obtain ⟨f,rfl⟩:∃ f',f=f' + 1:=⟨f - 1,by omega⟩;obtain ⟨hn,hl,ha⟩:=h;obtain ⟨o1,o2,o3,o4,o5,i1,i2⟩:=Jy hn;have hev:∀ y∈x.Args,MY f y ls=some (ev d ls y):=λy hy=>Tl d f ls y (ha y hy) om_;unfold MY ev;by_cases h0:x.Op=0
  ·rw [if_pos h0,show (x.Op == 0)=true by simpa using h0,ct_]
  ·rw [if_neg h0,show (x.Op == 0)=false by simpa using h0,cf_];by_cases h1:x.Op=1
   ·rw [if_pos h1,show (x.Op == 1)=true by simpa using h1,ct_];obtain ⟨b,hb,_⟩:=Ph i1 (i2 h1);rw [hb];rfl
   ·rw [if_neg h1,show (x.Op == 1)=false by simpa using h1,cf_];unfold L2 L0;simp only [ob_];have hop:x.Op=2\/x.Op=3\/x.Op=4:=by omega
    rcases hop with h | h | h <;> rw [h]
    ·rw [show idx (List.range 5) 2=some 2 by rfl,ob_,show ((2:Nat) == 2)=true by rfl,ct_,Lz false hl om_ hev,ob_,if_pos rfl];congr 1;rw [GU];simp
    ·rw [show idx (List.range 5) 3=some 3 by rfl,ob_,show ((3:Nat) == 2)=false by rfl,cf_,show ((3:Nat) == 3)=true by rfl,ct_,Lz true hl om_ hev,ob_,if_neg om_,if_pos rfl];congr 1;rw [GU];simp
    ·rw [show idx (List.range 5) 4=some 4 by rfl,ob_,show ((4:Nat) == 2)=false by rfl,cf_,show ((4:Nat) == 3)=false by rfl,cf_,show ((4:Nat) == 4)=true by rfl,ct_];unfold MX L0;rw [ob_,Lz false hl om_ hev,ob_,ob_,if_neg om_,if_neg om_];congr 1;rw [GU];simp
def occ:Nat->Int->Expr->Bool
 | 0,_,_=>false
 | d + 1,k,x=>if x.Op=1 then x.Index == k else x.Args.any (occ d k)
theorem Ln:∀ (d f:Nat) (k:Int) (x:Expr),dp d x->d + 300<=f->m20240 f x k=some (occ d k x)
 | 0,_,_,_,h,_=>h.elim
 | d + 1,f,k,x,h,hf=>by
  obtain ⟨f,rfl⟩:∃ f',f=f' + 1:=⟨f - 1,by omega⟩;have hl:=h.1;unfold m20240 occ;by_cases h1:x.Op=1
  ·rw [if_pos h1,show (x.Op == 1)=true by simpa using h1,ct_]
  ·rw [if_neg h1,show (x.Op == 1)=false by simpa using h1,cf_];have h5:=ER (L:=Lp (m20240 f) x k) (xs:=x.Args) (p:=λ_ y=>m20240 f y k) (q:=λy=>occ d k y) (r:=λ_=>true) (λ_ _=>rfl) om_ (λi y hy=>Ln d f k y (h.2 y (GF hy)) om_) f 0 om_ om_;rw [n0,HG] at h5;rw [h5];cases h6:x.Args.findIdx? (λy=>occ d k y) with
   | none=>
    rw [HJ] at h6;have:x.Args.any (occ d k)=false:=GR.2 λy hy=>by simpa using h6 y hy
    rw [this];rfl
   | some j=>
    obtain ⟨hj,hj2,_⟩:=GP.1 h6;have:x.Args.any (occ d k)=true:=F8.2 ⟨_,GA hj,by simpa using hj2⟩;rw [this];rfl
def FK:Nat->(Int->Bool)->Expr->Bool
 | 0,_,_=>false
 | d + 1,p,x=>if x.Op=1 then p x.Index else x.Args.any (FK d p)
theorem Se:∀ {d:Nat} {p:Int->Bool} {x:Expr},FK d p x=true↔∃ k,p k=true/\occ d k x=true
 | 0,p,x=>by simp [FK,occ]
 | d + 1,p,x=>by
  unfold FK occ;by_cases h1:x.Op=1
  ·simp only [if_pos h1,beq_iff_eq];exact ⟨λh=>⟨_,h,rfl⟩,λ⟨k,h,e⟩=>e ▸ h⟩
  ·simp only [if_neg h1,F8];constructor
   ·rintro ⟨y,hy,h⟩;obtain ⟨k,hk,ho⟩:=Se.1 h;exact ⟨k,hk,y,hy,ho⟩
   ·rintro ⟨k,hk,y,hy,ho⟩;exact ⟨y,hy,Se.2 ⟨k,hk,ho⟩⟩
theorem EX:∀ {d:Nat} {n k:Int} {x:Expr},okE d n x->occ d k x=true->0<=k/\k < n
 | 0,_,_,_,h,_=>h.elim
 | d + 1,n,k,x,h,ho=>by
  obtain ⟨hn,hl,ha⟩:=h;obtain ⟨o1,o2,o3,o4,o5,i1,i2⟩:=Jy hn;unfold occ at ho;split at ho
  ·rename_i h1;have:x.Index=k:=by simpa using ho
   have:=i2 h1;omega
  ·obtain ⟨y,hy,h⟩:=F8.1 ho;exact EX (ha y hy) h
end Go.Pn
namespace Go.Pn
open Go
theorem Gz {β:Type} {L:Nat->Int->Option (Lo Int β)} {N:Nat} {Q:Nat->Bool} {r:Int->β}
  (h:∀ (n i:Nat),i < N->L (n + 1) (i:Int)=bif Q i then some (.ret (r (i:Int))) else L n ((i + 1:Nat):Int)) (h':∀ (n:Nat),L (n + 1) (N:Int)=some (.brk (N:Int))) :
  ∀ (n i:Nat),i<=N->N - i < n->(∃ k,i<=k/\k < N/\Q k=true/\L n (i:Int)=some (.ret (r (k:Int))))\/(L n (i:Int)=some (.brk (N:Int))/\∀ k,i<=k->k < N->Q k=false)
 | 0,i,_,h=>by omega
 | n + 1,i,h1,h2=>by
  by_cases hi:i < N
  ·rw [h n i hi];cases hq:Q i with
   | true=>exact .inl ⟨i,GB _,hi,hq,rfl⟩
   | false=>
    rw [cf_];rcases Gz h h' n (i + 1) om_ om_ with ⟨k,h3,h4,h5,h6⟩ | ⟨h3,h4⟩
    ·exact .inl ⟨k,by omega,h4,h5,h6⟩
    ·refine .inr ⟨h3,λk hk hk2=>?_⟩;rcases GV hk with rfl | h5
     ·exact hq
     ·exact h4 k h5 hk2
  ·obtain rfl:i=N:=by omega
   exact .inr ⟨h' n,λk hk hk2=>by omega⟩
def Sj (b:UInt8):Bool:=decide (97<=b.toNat) && decide (b.toNat<=122)
def D2 (b:UInt8):Bool:=decide (65<=b.toNat) && decide (b.toNat<=90)
def EA (b:UInt8):Bool:=decide (48<=b.toNat) && decide (b.toNat<=57)
def Cq (b:UInt8):Bool:=Sj b || D2 b || EA b || (b.toNat == 95)
def wd (s:LL):Bool:=match s.data.toList with
 | []=>false
 | b :: l=>Sj b && (b :: l).all Cq
theorem Aw (s:LL):s.size=s.data.toList.length:=rfl
theorem Wi {s:LL} {i:Nat} (h:i < s.data.toList.length):Ul s (i:Int)=some s.data.toList[i]:=by
 unfold Ul;rw [if_pos om_,G6];have h1:i < s.size:=by rw [Aw];exact h
 rw [getElem?_pos s i h1];congr 1
theorem FB {s:LL} {i:Nat} (h:i < s.data.toList.length):(s.data.toList[i].toNat < 128->Utf8.decode s i=(s.data.toList[i].toNat,1))/\(128<=s.data.toList[i].toNat->128<=(Utf8.decode s i).1):=by
 have hg:s.get! (i + 0)=s.data.toList[i]:=by
  have h1:i < s.data.size:=by simpa using h
  show s.data[i + 0]! = _;rw [JZ,getElem!_pos s.data i h1];simp
 constructor
 ·intro hb;unfold Utf8.decode;simp only [hg];rw [if_pos om_]
 ·intro hb;unfold Utf8.decode;simp only [hg];rw [if_neg om_];split
  ·split
   ·rename_i hx;exact hx
   ·decide
  ·split
   ·split
    ·rename_i hx;simp only [F0,decide_eq_true_eq] at hx;exact GX (by decide) hx.1
    ·decide
   ·split
    ·split
     ·rename_i hx;simp only [F0,decide_eq_true_eq] at hx;exact GX (by decide) hx.1
     ·decide
    ·decide
theorem u8n {n:Nat} (hn:n < 256):(UInt8.ofNat n).toNat=n:=by
 rw [UInt8.toNat_ofNat'];omega
theorem BC (f:Nat) (b:UInt8):L8 f b=some (Cq b):=by
 unfold L8 Cq Sj D2 EA;simp only [u8n (show 97 < 256 by omega),u8n (show 122 < 256 by omega),u8n (show 65 < 256 by omega),u8n (show 90 < 256 by omega),u8n (show 48 < 256 by omega),u8n (show 57 < 256 by omega),u8n (show 95 < 256 by omega)];congr 1;rw [GU];simp;omega
theorem Qj {b:UInt8} (h:Cq b=true):b.toNat<=122:=by
 unfold Cq Sj D2 EA at h;simp at h;omega
theorem BD {f:Nat} {s:LL} {i:Nat} (h:i < s.data.toList.length):L9 f (srn s (i:Int))=some (!Cq s.data.toList[i]):=by
 obtain ⟨h1,h2⟩:=FB h;unfold L9 srn;rw [G6];simp only [Ik.toI];by_cases hb:s.data.toList[i].toNat < 128
 ·rw [h1 hb];dsimp only;by_cases hc:((s.data.toList[i].toNat:Nat):Int) > 122
  ·rw [dt_ hc,ct_];have:Cq s.data.toList[i]=false:=by
    cases hp:Cq s.data.toList[i] with
    | false=>rfl
    | true=>have:=Qj hp;omega
   rw [this];rfl
  ·rw [df_ hc,cf_];have:(Ik.ofI ((s.data.toList[i].toNat:Nat):Int):UInt8)=s.data.toList[i]:=by
    show wr8 _=_;unfold wr8;refine UInt8.toNat_inj.1 ?_;rw [UInt8.toNat_ofNat'];omega
   rw [this,BC];rfl
 ·have h3:=h2 om_;rw [dt_ so_,ct_];have:Cq s.data.toList[i]=false:=by
   cases hp:Cq s.data.toList[i] with
   | false=>rfl
   | true=>have:=Qj hp;omega
  rw [this];rfl
theorem Py {α:Type} {l:List α} {p:α->Bool}:l.any p=true↔∃ i,∃ h:i < l.length,p l[i]=true:=by
 rw [F8];constructor
 ·rintro ⟨x,hx,h⟩;obtain ⟨i,hi,rfl⟩:=List.getElem_of_mem hx;exact ⟨i,hi,h⟩
 ·rintro ⟨i,hi,h⟩;exact ⟨_,GA hi,h⟩
theorem BE {f:Nat} {s:LL} (hs:s.size < f) (hs2:s.size < 1000000):MD f s=some (s.data.toList.any λb=>!Cq b):=by
 rw [Aw] at hs hs2;unfold MD MC MA;have hl:=Gz (L:=Je f s true) (N:=s.data.toList.length) (Q:=λi=>if h:i < s.data.toList.length then !Cq s.data.toList[i] else false) (r:=λz=>z) (λn i hi=>by
  rw [Je,Aw,Ao,dt_ hi,ct_,BD hi,ob_,dif_pos hi];cases hp:Cq s.data.toList[i] with
  | true=>
   rw [show ((!true) == true)=false by rfl,cf_];have:snx s (i:Int)=((i + 1:Nat):Int):=by
    unfold snx;rw [if_pos (by rw [Aw];omega),G6,(FB hi).1 (by have:=Qj hp;omega)];rfl
   rw [this];rfl
  | false=>rfl) (λn=>by
  rw [Je,Aw,Ao,df_ om_,cf_];unfold snx;rw [if_neg (by rw [Aw];omega)]) f 0 om_ om_
 rw [n0] at hl;rcases hl with ⟨k,_,hk,hq,h⟩ | ⟨h,hn⟩
 ·rw [h];rw [dif_pos hk] at hq;rw [Py.2 ⟨k,hk,hq⟩];simp only [ob_];rw [dt_ om_]
 ·rw [h];have:(s.data.toList.any λb=>!Cq b)=false:=by
   rw [Bool.eq_false_iff];intro ha;obtain ⟨i,hi,h2⟩:=Py.1 ha;have:=hn i om_ hi;rw [dif_pos hi,h2] at this;cases this
  rw [this];rfl
theorem Vj {f:Nat} {s:LL} (hs:s.size < f) (hs2:s.size < 1000000):m20176 f s=some (wd s):=by
 rw [Aw] at hs hs2;unfold m20176;have hl:=Gz (L:=Ei s) (N:=s.data.toList.length) (Q:=λi=>if h:i < s.data.toList.length then (i == 0 && !Sj s.data.toList[i]) || !Cq s.data.toList[i] else false) (r:=λ_=>false) (λn i hi=>by
  rw [Ei,Aw,Ao,dt_ hi,ct_];simp only [Wi hi,ob_,cs_,u8n (show 97 < 256 by omega),u8n (show 122 < 256 by omega),u8n (show 65 < 256 by omega),u8n (show 90 < 256 by omega),u8n (show 48 < 256 by omega),u8n (show 57 < 256 by omega),u8n (show 95 < 256 by omega)];rw [dif_pos hi,Aq om_];congr 1;rw [GU];unfold Cq Sj D2 EA;simp;generalize s.data.toList[i].toNat=b;omega) (λn=>by
  rw [Ei,Aw,Ao,df_ om_,cf_]) f 0 om_ om_
 rw [n0] at hl;have hemp:(s.toList == (⟨#[]⟩:LL).toList)=(s.data.toList == []):=by
  rw [ByteArray.toList_eq,ByteArray.toList_eq]
 rcases hl with ⟨k,_,hk,hq,h⟩ | ⟨h,hn⟩
 ·rw [h,ob_];rw [dif_pos hk] at hq;dsimp only;congr 1
  symm
  unfold wd;cases hd:s.data.toList with
  | nil=>rfl
  | cons b l=>
   have hk':k < (b :: l).length:=by rw [← hd];exact hk
   have hg:s.data.toList[k]=(b :: l)[k]:=by simp [hd]
   rw [hg] at hq;dsimp only;rw [JC];rcases Bool.or_eq_true_iff.1 hq with h1 | h1
   ·left;obtain ⟨h2,h3⟩:=Bool.and_eq_true_iff.1 h1;obtain rfl:k=0:=by simpa using h2
    simpa using h3
   ·right;exact List.all_eq_false.2 ⟨_,GA hk',by simpa using h1⟩
 ·rw [h,ob_,hemp];dsimp only;congr 1;unfold wd;cases hd:s.data.toList with
  | nil=>rfl
  | cons b l=>
   have hb:∀ (k:Nat) (hk:k < (b :: l).length),((k == 0 && !Sj (b :: l)[k]) || !Cq (b :: l)[k])=false:=by
    intro k hk;have hk':k < s.data.toList.length:=by rw [hd];exact hk
    have:=hn k om_ hk';rw [dif_pos hk'] at this;have hg:s.data.toList[k]=(b :: l)[k]:=by simp [hd]
    rw [hg] at this;exact this
   have h1:=hb 0 smp_;simp at h1;dsimp only;rw [h1.1,HT];have:(b :: l).all Cq=true:=by
    rw [F4];intro x hx;obtain ⟨i,hi,rfl⟩:=List.getElem_of_mem hx;have:=hb i hi;rw [H6] at this;simpa using this.2
   rw [this];rfl
def fx (i:Nat):LL:=⟨#[UInt8.ofNat (97 + i / 2),UInt8.ofNat (48 + i % 2)]⟩
def cA (c:Aa):Nat:=c.Actuators.toNat
def cS (c:Aa):Nat:=2 * cA c + c.Inputs.length
def cL (c:Aa):Nat:=cS c + c.Signals.length
def nmF (c:Aa) (i:Nat):LL:=if i < 2 * cA c then fx i else if i < cS c then c.Inputs.getD (i - 2 * cA c) ⟨#[]⟩ else ((c.Signals[i - cS c]?).map (·.Name)).getD ⟨#[]⟩
structure Bd_ (c:Aa):Prop where
 a1:1<=c.Actuators
 a6:c.Actuators<=6
 i:c.Inputs.length<=16
 s:c.Signals.length<=16
theorem Bd_.a {c:Aa} (h:Bd_ c):c.Actuators=(cA c:Int):=by
 have:=h.a1;unfold cA;omega
theorem Bd_.a' {c:Aa} (h:Bd_ c):1<=cA c/\cA c<=6:=by
 have:=h.a1;have:=h.a6;unfold cA;omega
theorem Bd_.wa {c:Aa} (h:Bd_ c):wr ((2:Int) * c.Actuators)=((2 * cA c:Nat):Int):=by
 have:=h.a;have:=h.a';rw [Ar om_ om_];omega
theorem Dl {f:Nat} {c:Aa} (h:Bd_ c):m20177 f c=some (cS c:Int):=by
 have:=h.a';have:=h.i;unfold m20177;rw [h.wa,Ar om_ om_];unfold cS;congr 1
theorem Jz {f:Nat} {c:Aa} (h:Bd_ c):m88 f c=some (cS c:Int):=Dl (f:=f) h
theorem Ww {f:Nat} {c:Aa} (h:Bd_ c):m84 f c=some (cL c:Int):=by
 have:=h.a';have:=h.i;have:=h.s;unfold m84;have e:wr (((2 * cA c:Nat):Int) + (c.Inputs.length:Int))=((2 * cA c:Nat):Int) + (c.Inputs.length:Int):=Ar om_ om_;rw [h.wa,e,Ar om_ om_];unfold cL cS;congr 1
theorem Mh {f:Nat} {c:Aa} (h:Bd_ c):LS f c=some (cL c:Int):=by
 have:=h.a';have:=h.i;have:=h.s;unfold LS;rw [Jz h,ob_,Ar (by unfold cS;omega) (by unfold cS;omega)];unfold cL;congr 1
theorem Yk:((List.range 12).all λi=>decide (((ssl (⟨#[97,98,99,100,101,102]⟩:LL) (wr ((i:Int).tdiv (2:Int))) (wr ((wr ((i:Int).tdiv (2:Int))) + 1))).bind λx1=>(ssl (⟨#[48,49]⟩:LL) ((i:Int).tmod (2:Int)) (wr (((i:Int).tmod (2:Int)) + 1))).bind λx2=>(cat x1 x2).bind λx3=>some x3)=some (fx i)))=true:=by kernel_rfl
theorem ref_fx:∀ i:Nat,i < 12->((ssl (⟨#[97,98,99,100,101,102]⟩:LL) (wr ((i:Int).tdiv (2:Int))) (wr ((wr ((i:Int).tdiv (2:Int))) + 1))).bind λx1=>(ssl (⟨#[48,49]⟩:LL) ((i:Int).tmod (2:Int)) (wr (((i:Int).tmod (2:Int)) + 1))).bind λx2=>(cat x1 x2).bind λx3=>some x3)=some (fx i):=λi h=>of_decide_eq_true (F4.1 Yk i (F6.2 h))
theorem Yl:((List.range 12).all λi=>decide (((cat (Dc (Ik.toI (Ik.ofI (Ik.toI (wr ((97:Int) + (wr ((i:Int).tdiv (2:Int)))))):Kd .i32))) (Dc (Ik.toI (Ik.ofI (Ik.toI (wr ((48:Int) + ((i:Int).tmod (2:Int))))):Kd .i32)))).bind λx2=>some x2)=some (fx i)))=true:=by kernel_rfl
theorem pro_fx:∀ i:Nat,i < 12->((cat (Dc (Ik.toI (Ik.ofI (Ik.toI (wr ((97:Int) + (wr ((i:Int).tdiv (2:Int)))))):Kd .i32))) (Dc (Ik.toI (Ik.ofI (Ik.toI (wr ((48:Int) + ((i:Int).tmod (2:Int))))):Kd .i32)))).bind λx2=>some x2)=some (fx i):=λi h=>of_decide_eq_true (F4.1 Yl i (F6.2 h))
theorem Lw {f:Nat} {c:Aa} (h:Bd_ c) {i:Nat} (hi:i < cL c):m20175 f c (i:Int)=some (nmF c i):=by
 have h1:=h.a';have h2:=h.i;have h3:=h.s;have hS:cS c=2 * cA c + c.Inputs.length:=rfl;have hL:cL c=cS c + c.Signals.length:=rfl;unfold m20175 nmF;rw [h.wa,Ao];by_cases h4:i < 2 * cA c
 ·rw [dt_ h4,ct_,if_pos h4];exact ref_fx i om_
 ·rw [df_ h4,cf_,if_neg h4,Dl h,ob_,Ao];by_cases h5:i < cS c
  ·rw [dt_ h5,ct_,if_pos h5,Ar om_ om_,show (i:Int) - ((2 * cA c:Nat):Int)=((i - 2 * cA c:Nat):Int) by omega,Am,gE_ om_];simp [gE_ (show i - 2 * cA c < c.Inputs.length by omega)]
  ·rw [df_ h5,cf_,if_neg h5,ob_,Ar om_ om_,show (i:Int) - (cS c:Int)=((i - cS c:Nat):Int) by omega,Am,gE_ om_];rfl
theorem BL {f:Nat} {c:Aa} (h:Bd_ c) {i:Nat} (hi:i < cL c):L7 f c (i:Int)=some (nmF c i):=by
 have h1:=h.a';have h2:=h.i;have h3:=h.s;have hS:cS c=2 * cA c + c.Inputs.length:=rfl;have hL:cL c=cS c + c.Signals.length:=rfl;unfold L7 nmF;rw [Jz h,ob_,h.wa,Ao];by_cases h4:i < 2 * cA c
 ·rw [dt_ h4,ct_,if_pos h4];exact pro_fx i om_
 ·rw [df_ h4,cf_,if_neg h4,Ao];by_cases h5:i < cS c
  ·rw [dt_ h5,ct_,if_pos h5,Ar om_ om_,show (i:Int) - ((2 * cA c:Nat):Int)=((i - 2 * cA c:Nat):Int) by omega,Am,gE_ om_];simp [gE_ (show i - 2 * cA c < c.Inputs.length by omega)]
  ·rw [df_ h5,cf_,if_neg h5,Ar om_ om_,show (i:Int) - (cS c:Int)=((i - cS c:Nat):Int) by omega,Am,gE_ om_];rfl
def nme (c:Aa) (i:Nat):Int:=if wd (nmF c i) then (if (nmF c i).size > 24 then 17 else if (List.range i).any (λj=>(nmF c j).data.toList == (nmF c i).data.toList) then 7 else 0) else 3
theorem Ly {f:Nat} {c:Aa} (h:Bd_ c) {i:Nat} (hi:i < cL c) (hn:(nmF c i).size<=200) (hf:600<=f):m20105 f c (i:Int)=some (nme c i):=by
 have h1:=h.a';have h2:=h.i;have h3:=h.s;have hS:cS c=2 * cA c + c.Inputs.length:=rfl;have hL:cL c=cS c + c.Signals.length:=rfl;unfold m20105 nme;rw [Lw h hi,ob_,Vj om_ om_,ob_];cases hw:wd (nmF c i) with
 | false=>rfl
 | true=>
  rw [nt_,cf_,if_pos rfl];by_cases h24:(nmF c i).size > 24
  ·rw [dt_ om_,ct_,if_pos h24]
  ·rw [df_ om_,cf_,if_neg h24];have hl:=Gz (L:=El f c (i:Int) (nmF c i)) (N:=i) (Q:=λj=>(nmF c j).data.toList == (nmF c i).data.toList) (r:=λ_=>7) (λn j hj=>by
    rw [El,Ao,dt_ hj,ct_,Lw h om_,ob_,ByteArray.toList_eq,ByteArray.toList_eq,Aq om_]) (λn=>by
    rw [El,Ao,df_ om_,cf_]) f 0 om_ om_
   rw [n0] at hl;rcases hl with ⟨k,_,hk,hq,h⟩ | ⟨h,hn⟩
   ·rw [h,if_pos (F8.2 ⟨k,F6.2 hk,hq⟩)];rfl
   ·rw [h,if_neg ?_]
    ·rfl
    ·intro ha;obtain ⟨k,hk,h4⟩:=F8.1 ha;have:=hn k om_ (F6.1 hk);rw [this] at h4;cases h4
def Yi (c:Aa) (i:Nat) (m:List (LL×Int)):Prop:=∀ s:LL,(mat Hz m s).isSome=(List.range i).any λj=>(nmF c j).data.toList == s.data.toList
theorem Bu {a b:LL}:Hz a b=true↔a=b:=by
 unfold Hz;obtain ⟨⟨x⟩⟩:=a;obtain ⟨⟨y⟩⟩:=b;simp
theorem Wt {m:List (LL×Int)} {k j:LL} {y:Int}:mat Hz (Jp Hz m k y) j=if j=k then some y else mat Hz m j:=by
 induction m with
 | nil=>
  show mat Hz [(k,y)] j=_;rw [Ch];by_cases h:j=k
  ·rw [if_pos (Bu.2 h),if_pos h]
  ·rw [if_neg (λe=>h (Bu.1 e)),if_neg h]
 | cons p m ih=>
  obtain ⟨k',z⟩:=p;rw [Tb,Ch];by_cases h:k=k'
  ·subst h;rw [if_pos (Bu.2 rfl),Ch];by_cases h2:j=k
   ·rw [if_pos (Bu.2 h2),if_pos h2]
   ·rw [if_neg (λe=>h2 (Bu.1 e)),if_neg h2,if_neg (λe=>h2 (Bu.1 e))]
  ·rw [if_neg (λe=>h (Bu.1 e)),Ch,ih];by_cases h2:j=k'
   ·subst h2;rw [if_pos (Bu.2 rfl),if_neg (λe=>h e.symm),if_pos (Bu.2 rfl)]
   ·rw [if_neg (λe=>h2 (Bu.1 e)),if_neg (λe=>h2 (Bu.1 e))]
theorem Yi.zero (c:Aa):Yi c 0 []:=λs=>rfl
theorem Yi.put {c:Aa} {i:Nat} {m:List (LL×Int)} (h:Yi c i m) (y:Int):Yi c (i + 1) (Jp Hz m (nmF c i) y):=by
 intro s;rw [Wt,HK,List.any_append];by_cases e:s=nmF c i
 ·rw [if_pos e,e];simp
 ·rw [if_neg e,h s];have:((nmF c i).data.toList == s.data.toList)=false:=by
   cases hb:((nmF c i).data.toList == s.data.toList) with
   | false=>rfl
   | true=>exact absurd (Bu.1 hb).symm e
  rw [List.any_cons,List.any_nil,JO,this,JO]
theorem Tn {f:Nat} {c:Aa} (h:Bd_ c) {i:Nat} (hn:(nmF c i).size<=200) (hf:600<=f) {m:List (LL×Int)} (hm:Yi c i m) (a b c' d e) :
  ∃ m',ME f (nmF c i) a b c' d e m=some (nme c i,m')/\(nme c i=0->Yi c (i + 1) m'):=by
 unfold ME nme;have hemp:((nmF c i).toList == (⟨#[]⟩:LL).toList)=((nmF c i).data.toList == []):=by
  rw [ByteArray.toList_eq,ByteArray.toList_eq]
 rw [hemp,BE om_ om_];have hwd:∀ (k:Bool->Option (Int×List (LL×Int))),((bif ((nmF c i).data.toList == []) then some true else (Ul (nmF c i) (0:Int)).bind λx1=>some (decide ((x1.toNat:Int) < (UInt8.ofNat 97).toNat))).bind λr2=>(bif r2 then some true else (Ul (nmF c i) (0:Int)).bind λx3=>some (decide ((x3.toNat:Int) > (UInt8.ofNat 122).toNat))).bind λr4=>(bif r4 then some true else (some ((nmF c i).data.toList.any λb=>!Cq b)).bind λx5=>some x5).bind k)=k (!wd (nmF c i)):=by
  intro k;cases hd:(nmF c i).data.toList with
  | nil=>unfold wd;rw [hd];rfl
  | cons b l=>
   have h0:Ul (nmF c i) (0:Int)=some b:=by
    have:=Wi (s:=nmF c i) (i:=0) (by rw [hd];simp);rw [n0] at this;rw [this];simp [hd]
   unfold wd;rw [h0,hd];simp only [ob_,cs_,u8n (show 97 < 256 by omega),u8n (show 122 < 256 by omega)];congr 1;rw [GU];unfold Sj;simp only [List.all_eq_not_any_not];cases (b :: l).any (λb=>!Cq b) <;> simp <;> omega
 rw [hwd];cases hw:wd (nmF c i) with
 | false=>exact ⟨m,rfl,λh=>by simp at h⟩
 | true=>
  rw [nt_,cf_,if_pos rfl];by_cases h24:(nmF c i).size > 24
  ·rw [dt_ om_,ct_,if_pos h24];exact ⟨m,rfl,λh=>by simp at h⟩
  ·rw [df_ om_,cf_,if_neg h24,hm (nmF c i)];cases hx:(List.range i).any (λj=>(nmF c j).data.toList == (nmF c i).data.toList) with
   | true=>exact ⟨m,rfl,λh=>by simp at h⟩
   | false=>exact ⟨_,rfl,λ_=>hm.put _⟩
end Go.Pn
namespace Go.Pn
open Go
def Xp (E:Nat->Int):Nat->Nat->Int
 | 0,_=>0
 | k + 1,i=>if E i=0 then Xp E k (i + 1) else E i
theorem Tz {E:Nat->Int}:∀ {k i:Nat},Xp E k i=0->∀ j,i<=j->j < i + k->E j=0
 | 0,_,_,j,h1,h2=>by omega
 | k + 1,i,h,j,h1,h2=>by
  unfold Xp at h;split at h
  ·rcases GV h1 with rfl | h3
   ·assumption
   ·exact Tz h j h3 om_
  ·contradiction
theorem fnzI {S σ β:Type} {L:Nat->S->Option (Lo S β)} {mk:Nat->σ->S} {N:Nat} {E:Nat->Int} {r:Int->β} {I:Nat->σ->Prop}
  (h:∀ (n i:Nat) s,i < N->I i s->(E i=0->∃ s',I (i + 1) s'/\L (n + 1) (mk i s)=L n (mk (i + 1) s'))/\(E i≠0->L (n + 1) (mk i s)=some (.ret (r (E i)))))
  (h':∀ (n:Nat) s,I N s->L (n + 1) (mk N s)=some (.brk (mk N s))) :
  ∀ (k n i:Nat) s,i + k=N->k < n->I i s->(Xp E k i=0/\∃ s',I N s'/\L n (mk i s)=some (.brk (mk N s')))\/(Xp E k i≠0/\L n (mk i s)=some (.ret (r (Xp E k i))))
 | 0,0,i,s,_,h2,_=>by omega
 | 0,n + 1,i,s,h1,h2,hI=>by
  obtain rfl:i=N:=by omega
  exact .inl ⟨rfl,s,hI,h' n s hI⟩
 | k + 1,0,i,s,_,h2,_=>by omega
 | k + 1,n + 1,i,s,h1,h2,hI=>by
  obtain ⟨a,b⟩:=h n i s om_ hI;unfold Xp;by_cases e:E i=0
  ·obtain ⟨s',hs,hl⟩:=a e;rw [if_pos e,hl];exact fnzI h h' k n (i + 1) s' om_ om_ hs
  ·rw [if_neg e];exact .inr ⟨e,b e⟩
def zrx (x:Expr):Bool:=((x.Op == 0) && (x.Index == 0)) && (((x.Args).length:Int) == 0)
theorem Lu {f:Nat} {x:Expr}:m20181 f x=some (zrx x):=rfl
theorem Tj {f:Nat} {x:Expr}:LQ f x=some (zrx x):=rfl
structure Fw (c:Aa):Prop where
 i:∀ s∈c.Inputs,s.size<=200
 n:∀ x∈c.Signals,x.Name.size<=200
 on:∀ x∈c.Signals,Lt_ x.On/\m20078 FF x.On=some true
 off:∀ x∈c.Signals,Lt_ x.Off/\m20078 FF x.Off=some true
theorem Fw.nm {c:Aa} (h:Fw c) (i:Nat):(nmF c i).size<=200:=by
 unfold nmF;split
 ·show 2<=200;omega
 ·split
  ·rw [FU];cases hx:c.Inputs[i - 2 * cA c]? with
   | none=>show 0<=200;omega
   | some s=>exact h.i s (GF hx)
  ·cases hx:c.Signals[i - cS c]? with
   | none=>show 0<=200;omega
   | some x=>exact h.n x (GF hx)
def gate (c:Aa) (k:Nat):Bool:=match c.Signals[k]? with | some y=>y.Kind == 0 | none=>false
def late (c:Aa) (i:Nat) (x:Ae):Bool:=(List.range c.Signals.length).any λk=>decide (i<=k) && (gate c k && occ 16 ((cS c + k:Nat):Int) x.On)
def sge (c:Aa) (i:Nat) (x:Ae):Int:=
 if nme c (cS c + i)≠0 then nme c (cS c + i) else if x.Kind < 0\/3<=x.Kind then 1 else if chE 16 (cL c) x.On≠0 then chE 16 (cL c) x.On else
 if x.Kind=1 then (if chE 16 (cL c) x.Off≠0 then chE 16 (cL c) x.Off else if x.Delay≠0 then 3 else 0)
 else if x.Kind=0 then (if late c i x=true then 9 else if (!zrx x.Off || x.Init || x.Delay != 0)=true then 3 else 0)
 else (if x.Delay < 1\/x.Delay > 1000000 then 2 else if (!zrx x.Off || x.Init)=true then 3 else 0)
theorem Vi {c:Aa} (h:Bd_ c) {i:Nat} {x:Ae} (hx:c.Signals[i]?=some x) (hd:dp 16 x.On):m20180 FF c (i:Int)=some (late c i x):=by
 have h1:=h.a';have h2:=h.i;have h3:=h.s;have hS:cS c=2 * cA c + c.Inputs.length:=rfl;have hi:=(FT.1 hx).1;unfold m20180;have hl:=Gz (L:=Eh FF c (i:Int)) (N:=c.Signals.length) (Q:=λk=>gate c k && occ 16 ((cS c + k:Nat):Int) x.On) (r:=λ_=>true) (λn k hk=>by
  rw [Eh,Ao,dt_ hk,ct_,Am,gE_ hk,ob_,Aq om_];unfold gate;rw [gE_ hk];dsimp only;cases hg:(c.Signals[k].Kind == 0) with
  | false=>rfl
  | true=>
   rw [ct_,Am,hx,ob_,Dl h,ob_,Ar om_ om_,show (cS c:Int) + (k:Int)=((cS c + k:Nat):Int) by omega,Ln 16 FF _ _ hd uF];simp only [ob_,HT]) (λn=>by
  rw [Eh,Ao,df_ om_,cf_]) FF i om_ uF
 unfold late;rcases hl with ⟨k,hk1,hk,hq,h⟩ | ⟨h,hn⟩
 ·rw [h,F8.2 ⟨k,F6.2 hk,by rw [hq,dt_ hk1];rfl⟩];rfl
 ·rw [h];have:((List.range c.Signals.length).any λk=>decide (i<=k) && (gate c k && occ 16 ((cS c + k:Nat):Int) x.On))=false:=by
   rw [GR];intro k hk;have hk:=F6.1 hk;by_cases hik:i<=k
   ·rw [hn k hik hk];simp
   ·rw [df_ hik];simp
  rw [this];rfl
theorem Vo {c:Aa} (h:Bd_ c) (hw:Fw c) {i:Nat} {x:Ae} (hx:c.Signals[i]?=some x):m20106 FF c (i:Int)=some (sge c i x):=by
 have h1:=h.a';have h2:=h.i;have h3:=h.s;have hS:cS c=2 * cA c + c.Inputs.length:=rfl;have hL:cL c=cS c + c.Signals.length:=rfl;have hi:=(FT.1 hx).1;have hxm:=GF hx;obtain ⟨on1,on2⟩:=hw.on x hxm;obtain ⟨of1,of2⟩:=hw.off x hxm;have hF:600<=FF:=by unfold FF;omega
 unfold m20106 sge;rw [Am,hx,ob_,Dl h,ob_,Ar om_ om_,show (cS c:Int) + (i:Int)=((cS c + i:Nat):Int) by omega,Ly h om_ (hw.nm _) hF,ob_];by_cases e1:nme c (cS c + i)=0
 ·rw [e1,if_neg smp_,zf_,cf_];by_cases e2:x.Kind < 0\/3<=x.Kind
  ·rw [if_pos e2,show (decide (x.Kind < 0) || decide (x.Kind>=(3:Int)))=true by simpa using e2,ct_]
  ·rw [if_neg e2,show (decide (x.Kind < 0) || decide (x.Kind>=(3:Int)))=false by simp;omega,cf_,Ww h,ob_,Lv on1 on2 om_ om_ hF,ob_];by_cases e3:chE 16 (cL c) x.On=0
   ·rw [e3,if_neg smp_,zf_,cf_];have hk:x.Kind=0\/x.Kind=1\/x.Kind=2:=by omega
    rcases hk with k | k | k <;> rw [k]
    ·simp only [show ((0:Int) == 1)=false by rfl,show ((0:Int) == 0)=true by rfl,show ((0:Int) == 2)=false by rfl,cf_,ct_,J7,JL,HT];rw [Vi h hx on1.dp,ob_,ob_,Lu,ob_,ob_];simp only [show ¬ ((0:Int)=1) by omega,if_false,if_true];cases late c i x with
     | true=>rfl
     | false=>
      simp only [cf_];cases zrx x.Off <;> cases x.Init <;> cases (x.Delay != 0) <;> rfl
    ·simp only [show ((1:Int) == 1)=true by rfl,show ((1:Int) == 0)=false by rfl,show ((1:Int) == 2)=false by rfl,cf_,ct_,J7,JL,HT,H1,HX,if_true];rw [ob_,Lv of1 of2 om_ om_ hF,ob_];by_cases e4:chE 16 (cL c) x.Off=0
     ·rw [e4,zf_,cf_,if_neg smp_,ob_,cf_,ob_,HX];by_cases e5:x.Delay=0
      ·rw [if_neg (by simpa using e5),e5];rfl
      ·rw [if_pos e5,show (x.Delay != 0)=true by simpa using e5];rfl
     ·rw [if_pos e4,show (chE 16 (cL c) x.Off != 0)=true by simpa using e4,ct_]
    ·simp only [show ((2:Int) == 1)=false by rfl,show ((2:Int) == 0)=false by rfl,show ((2:Int) == 2)=true by rfl,cf_,ct_,J7,JL,HT,H1,JO,if_true,show ¬ ((2:Int)=1) by omega,show ¬ ((2:Int)=0) by omega,if_false,ob_];rw [Lu,ob_];by_cases e5:x.Delay < 1\/x.Delay > 1000000
     ·rw [if_pos e5,show (decide (x.Delay < 1) || decide (x.Delay > 1000000))=true by simpa using e5,ct_]
     ·rw [if_neg e5,show (decide (x.Delay < 1) || decide (x.Delay > 1000000))=false by simp;omega,cf_,ob_];cases zrx x.Off <;> cases x.Init <;> rfl
   ·rw [if_pos e3,show (chE 16 (cL c) x.On != 0)=true by simpa using e3,ct_]
 ·rw [if_pos e1,show (nme c (cS c + i) != 0)=true by simpa using e1,ct_]
def pr (c:Aa) (i:Nat) (k:Int):Bool:=decide (k - (cS c:Int)>=(i:Int)) && gate c (k - (cS c:Int)).toNat
theorem BF {f:Nat} {c:Aa} (h:Bd_ c) {i:Nat} {k:Int} (hk0:0<=k) (hk:k < cL c) (m:List (LL×Int)) (b:Bool) :
  MG f k (i:Int) c.Actuators c.Inputs c.Signals c.Plus c.Minus m b=some (b || pr c i k):=by
 have h1:=h.a';have h2:=h.i;have h3:=h.s;have hS:cS c=2 * cA c + c.Inputs.length:=rfl;have hL:cL c=cS c + c.Signals.length:=rfl;unfold MG pr;have e:(⟨c.Actuators,c.Inputs,c.Signals,c.Plus,c.Minus⟩:Aa)=c:=rfl;rw [e,Jz h,ob_,Ar om_ om_];cases b with
 | true=>rfl
 | false=>
  rw [cf_,HX];by_cases hg:k - (cS c:Int)>=(i:Int)
  ·obtain ⟨j,hj⟩:=J4 (show 0<=k - (cS c:Int) by omega);rw [dt_ hg,ct_,hj,Am,gE_ om_,ob_,ob_,ob_];unfold gate;rw [show ((j:Int)).toNat=j by simp,gE_ om_];rfl
  ·rw [df_ hg];rfl
theorem Ti {c:Aa} (h:Bd_ c) {i:Nat} (m:List (LL×Int)):∀ (d f:Nat) (x:Expr) (b:Bool),okE d (cL c) x->d + 300<=f ->
  MH f x c.Actuators c.Inputs c.Signals c.Plus c.Minus m b (i:Int)=some (b || FK d (pr c i) x)
 | 0,_,_,_,h,_=>h.elim
 | d + 1,f,x,b,ho,hf=>by
  obtain ⟨f,rfl⟩:∃ f',f=f' + 1:=⟨f - 1,by omega⟩;obtain ⟨hn,hl,ha⟩:=ho;obtain ⟨o1,o2,o3,o4,o5,i1,i2⟩:=Jy hn;unfold MH FK;have loop:∀ (n j:Nat) (b:Bool),j<=x.Args.length->x.Args.length - j < n ->
    Mc (MH f) x c.Actuators c.Inputs c.Signals c.Plus c.Minus m (i:Int) n ((j:Int),b)=some ((x.Args.length:Int),b || (x.Args.drop j).any (FK d (pr c i))):=by
   intro n
   induction n with
   | zero=>intro j _ _ h;omega
   | succ n ihn=>
    intro j b hj hnn;unfold Mc;dsimp only;by_cases h3:j < x.Args.length
    ·rw [Ao,dt_ h3,ct_,Am,gE_ h3,ob_,Ti h m d f _ b (ha _ (GA h3)) om_,ob_,Aq om_,ihn (j + 1) _ om_ om_,G0 h3,List.any_cons,Bool.or_assoc]
    ·rw [Ao,df_ h3,cf_,GT om_];have:j=x.Args.length:=by omega
     subst this;simp
  by_cases h1:x.Op=1
  ·rw [if_pos h1,show (x.Op == 1)=true by simpa using h1,ct_,BF h i1 (i2 h1),ob_,ob_];have h3:=loop f 0 (b || pr c i x.Index) om_ om_;rw [n0,HG] at h3;rw [h3,o3 om_];simp
  ·rw [if_neg h1,show (x.Op == 1)=false by simpa using h1,cf_,ob_];have h3:=loop f 0 b om_ om_;rw [n0,HG] at h3;rw [h3];rfl
theorem late_eq {c:Aa} {i:Nat} {x:Ae} (ho:okE 16 (cL c) x.On):FK 16 (pr c i) x.On=late c i x:=by
 have hL:cL c=cS c + c.Signals.length:=rfl;rw [GU,Se];unfold late;rw [F8];constructor
 ·rintro ⟨k,hp,hk⟩;have hl:=EX ho hk;unfold pr at hp;rw [F0] at hp;obtain ⟨hp1,hp2⟩:=hp;have hp1:k - (cS c:Int)>=(i:Int):=by simpa using hp1
  refine ⟨(k - (cS c:Int)).toNat,F6.2 om_,?_⟩;rw [dt_ om_,hp2,show ((cS c + (k - (cS c:Int)).toNat:Nat):Int)=k by omega,hk];rfl
 ·rintro ⟨j,hj,hq⟩;rw [F0,F0] at hq;obtain ⟨h1,h2,h3⟩:=hq;have h1:i<=j:=by simpa using h1
  refine ⟨_,?_,h3⟩;unfold pr;rw [show ((cS c + j:Nat):Int) - (cS c:Int)=(j:Int) by omega,show ((j:Int)).toNat=j by simp,h2,dt_ om_];rfl
theorem BK {c:Aa} (h:Bd_ c) (hw:Fw c) {i:Nat} {x:Ae} (hx:c.Signals[i]?=some x) {m:List (LL×Int)} (hm:Yi c (cS c + i) m) :
  ∃ m',MP FF (i:Int) c.Actuators c.Inputs c.Signals c.Plus c.Minus m=some (sge c i x,m')/\(sge c i x=0->Yi c (cS c + (i + 1)) m'):=by
 have h1:=h.a';have h2:=h.i;have h3:=h.s;have hS:cS c=2 * cA c + c.Inputs.length:=rfl;have hL:cL c=cS c + c.Signals.length:=rfl;have hi:=(FT.1 hx).1;have hxm:=GF hx;obtain ⟨on1,on2⟩:=hw.on x hxm;obtain ⟨of1,of2⟩:=hw.off x hxm;have hF:600<=FF:=by unfold FF;omega
 have hnm:nmF c (cS c + i)=x.Name:=by
  unfold nmF;rw [if_neg om_,if_neg om_,show cS c + i - cS c=i by omega,hx];rfl
 have e:(⟨c.Actuators,c.Inputs,c.Signals,c.Plus,c.Minus⟩:Aa)=c:=rfl;unfold MP sge;obtain ⟨m',hm',hk'⟩:=Tn h (hw.nm (cS c + i)) hF hm c.Actuators c.Inputs c.Signals c.Plus c.Minus;rw [hnm] at hm';rw [Am,hx,ob_,hm',ob_];dsimp only;refine ⟨m',?_,λh0=>?_⟩
 ·by_cases e1:nme c (cS c + i)=0
  ·rw [e1,if_neg smp_,zf_,cf_];by_cases e2:x.Kind < 0\/3<=x.Kind
   ·rw [if_pos e2,show (decide (x.Kind < 0) || decide (x.Kind>=(3:Int)))=true by simpa using e2,ct_]
   ·rw [if_neg e2,show (decide (x.Kind < 0) || decide (x.Kind>=(3:Int)))=false by simp;omega,cf_,e,Mh h,ob_,Mf on1 om_ om_ hF,ob_];by_cases e3:chE 16 (cL c) x.On=0
    ·rw [e3,if_neg smp_,zf_,cf_];have hok:=okE.of on1.dp e3;have hk:x.Kind=0\/x.Kind=1\/x.Kind=2:=by omega
     rcases hk with k | k | k <;> rw [k]
     ·rw [show idx (List.range 3) (0:Int)=some 0 by rfl,ob_,show ((0:Nat) == 0)=true by rfl,ct_,if_neg om_,if_pos rfl];unfold ML MJ;rw [Am,hx,ob_,Ti h m' 16 FF x.On false hok uF,ob_,ob_,HX,late_eq hok,Tj];cases late c i x with
      | true=>rfl
      | false=>cases zrx x.Off <;> cases x.Init <;> cases (x.Delay != 0) <;> rfl
     ·rw [show idx (List.range 3) (1:Int)=some 1 by rfl,ob_,show ((1:Nat) == 0)=false by rfl,cf_,show ((1:Nat) == 1)=true by rfl,ct_,if_pos rfl];unfold MN;rw [e,Mh h,Am,hx,ob_,ob_,Mf of1 om_ om_ hF,ob_];by_cases e4:chE 16 (cL c) x.Off=0
      ·rw [e4,zf_,cf_,if_neg smp_,ob_];by_cases e5:x.Delay=0
       ·rw [if_neg (by simpa using e5),e5];rfl
       ·rw [if_pos e5,show (x.Delay != 0)=true by simpa using e5];rfl
      ·rw [if_pos e4,show (chE 16 (cL c) x.Off != 0)=true by simpa using e4,ct_];rfl
     ·rw [show idx (List.range 3) (2:Int)=some 2 by rfl,ob_,show ((2:Nat) == 0)=false by rfl,cf_,show ((2:Nat) == 1)=false by rfl,cf_,show ((2:Nat) == 2)=true by rfl,ct_,if_neg om_,if_neg om_];unfold MO;rw [Am,hx,ob_,Tj];by_cases e5:x.Delay < 1\/x.Delay > 1000000
      ·rw [if_pos e5,show (decide (x.Delay < 1) || decide (x.Delay > 1000000))=true by simpa using e5];rfl
      ·rw [if_neg e5,show (decide (x.Delay < 1) || decide (x.Delay > 1000000))=false by simp;omega];cases zrx x.Off <;> cases x.Init <;> rfl
    ·rw [if_pos e3,show (chE 16 (cL c) x.On != 0)=true by simpa using e3,ct_]
  ·rw [if_pos e1,show (nme c (cS c + i) != 0)=true by simpa using e1,ct_]
 ·refine hk' ?_;by_cases e1:nme c (cS c + i)=0
  ·exact e1
  ·rw [if_pos e1] at h0;exact h0
theorem BH {f:Nat} {c:Aa} (h:Bd_ c) {k:Int}:MQ f k c=some (bad (cL c) k):=by
 unfold MQ bad;rw [Mh h];cases decide (k < 0) <;> rfl
theorem BJ {c:Aa} (h:Bd_ c) {xs:LG} (hl:xs.length < 1000):MT FF xs c=some (xs.any (bad (cL c))):=by
 unfold MT MS;have h5:=ER (L:=Rb FF xs c) (xs:=xs) (p:=λ_ y=>MQ FF y c) (q:=bad (cL c)) (r:=λz=>z) (λ_ _=>rfl) om_ (λi y hy=>BH h) FF 0 om_ uF;rw [n0,HG] at h5;rw [h5];cases h6:xs.findIdx? (bad (cL c)) with
 | none=>
  rw [HJ] at h6;have:xs.any (bad (cL c))=false:=GR.2 λy hy=>by simpa using h6 y hy
  rw [this];rfl
 | some j=>
  obtain ⟨hj,hj2,_⟩:=GP.1 h6;have:xs.any (bad (cL c))=true:=F8.2 ⟨_,GA hj,by simpa using hj2⟩;rw [this];simp
theorem Qo {p q:LG} (hp:p.length<=400000000) (hq:q.length<=400000000):m92 FF [p,q]=some (p ++ q):=by
 unfold m92;have h1:Jr [p,q] FF ((0:Int),(0:Int))=some (((p.length + q.length:Nat):Int),2):=by
  show Jr [p,q] (99997 + 1 + 1 + 1) _=_;unfold Jr;rw [show decide ((0:Int) < (([p,q]:List LG).length:Int))=true by rfl,ct_,show idx [p,q] 0=some p by rfl,ob_];dsimp only;rw [Ar om_ om_,Ar om_ om_,df_ om_,cf_];unfold Jr;rw [show decide ((0:Int) + 1 < (([p,q]:List LG).length:Int))=true by rfl,ct_,show idx [p,q] (0 + 1)=some q by rfl,ob_];dsimp only;rw [Ar om_ om_,Ar om_ om_,df_ om_,cf_];unfold Jr;rw [show decide ((0:Int) + 1 + 1 < (([p,q]:List LG).length:Int))=false by rfl,cf_];congr 1;refine Prod.ext ?_ rfl;dsimp only;omega
 have h2:Jq [p,q] FF ((0:Int),[])=some ((2:Int),p ++ q):=by
  show Jq [p,q] (99997 + 1 + 1 + 1) _=_;unfold Jq app;rw [show decide ((0:Int) < (([p,q]:List LG).length:Int))=true by rfl,ct_,show idx [p,q] 0=some p by rfl,ob_,if_pos so_,ob_];dsimp only;rw [Ar om_ om_];unfold Jq app;rw [show decide ((0:Int) + 1 < (([p,q]:List LG).length:Int))=true by rfl,ct_,show idx [p,q] (0 + 1)=some q by rfl,ob_,if_pos so_,ob_];dsimp only;rw [Ar om_ om_];unfold Jq;rw [show decide ((0:Int) + 1 + 1 < (([p,q]:List LG).length:Int))=false by rfl,cf_];rfl
 rw [h1,ob_];unfold m123;rw [if_pos (by dsimp only;omega),ob_,h2];rfl
theorem Fk {c:Aa} (h:Bd_ c) {xs:LG} (hl:xs.length < 1000):Ej FF c xs FF (0:Int)=if xs.any (bad (cL c)) then some (.ret 6) else some (.brk (xs.length:Int)):=by
 have h5:=ER (L:=Ej FF c xs) (xs:=xs) (p:=λ_ y=>some (bad (cL c) y)) (q:=bad (cL c)) (r:=λ_=>6) (λn z=>by
  rw [Ej];congr 1;cases hx:idx xs z with
  | none=>rfl
  | some y=>
   rw [ob_,ob_,ob_,Ww h,ob_];unfold bad;cases decide (y < 0) <;> rfl) om_ (λi y hy=>rfl) FF 0 om_ (by unfold FF; omega)
 rw [n0,HG] at h5;rw [h5];cases h6:xs.findIdx? (bad (cL c)) with
 | none=>
  rw [HJ] at h6;have:xs.any (bad (cL c))=false:=GR.2 λy hy=>by simpa using h6 y hy
  rw [this];rfl
 | some j=>
  obtain ⟨hj,hj2,_⟩:=GP.1 h6;have:xs.any (bad (cL c))=true:=F8.2 ⟨_,GA hj,by simpa using hj2⟩;rw [this];rfl
def plE (c:Aa):Int:=if (c.Plus.length:Int)≠c.Actuators\/(c.Minus.length:Int)≠c.Actuators then 8 else if (c.Plus ++ c.Minus).any (bad (cL c)) then 6 else 0
theorem Vn {c:Aa} (h:Bd_ c):m20107 FF c=some (plE c):=by
 have h6:=h.a6;unfold m20107 plE;by_cases h1:(c.Plus.length:Int)≠c.Actuators\/(c.Minus.length:Int)≠c.Actuators
 ·rw [if_pos h1,show (((c.Plus.length:Int) != c.Actuators) || ((c.Minus.length:Int) != c.Actuators))=true by simpa using h1,ct_]
 ·rw [if_neg h1,show (((c.Plus.length:Int) != c.Actuators) || ((c.Minus.length:Int) != c.Actuators))=false by simp;omega,cf_];have:Ca FF c FF (0:Int)=if (c.Plus ++ c.Minus).any (bad (cL c)) then some (.ret 6) else some (.brk 2):=by
   show Ca FF c (99997 + 1 + 1 + 1) _=_;unfold Ca;rw [show decide ((0:Int) < (([c.Plus,c.Minus]:List LG).length:Int))=true by rfl,ct_,show idx [c.Plus,c.Minus] 0=some c.Plus by rfl,ob_,Fk h om_,List.any_append];cases c.Plus.any (bad (cL c)) with
   | true=>rfl
   | false=>
    rw [if_neg smp_,ob_];dsimp only;rw [Ar om_ om_];unfold Ca;rw [show decide ((0:Int) + 1 < (([c.Plus,c.Minus]:List LG).length:Int))=true by rfl,ct_,show idx [c.Plus,c.Minus] (0 + 1)=some c.Minus by rfl,ob_,Fk h om_,HX];cases c.Minus.any (bad (cL c)) with
    | true=>rfl
    | false=>
     rw [if_neg smp_,ob_];dsimp only;rw [Ar om_ om_];unfold Ca;rw [show decide ((0:Int) + 1 + 1 < (([c.Plus,c.Minus]:List LG).length:Int))=false by rfl,cf_];rfl
  rw [this];cases (c.Plus ++ c.Minus).any (bad (cL c)) <;> rfl
structure Rt (c:Aa):Prop where
 bd:Bd_ c
 sig:∀ x∈c.Signals,0<=x.Kind/\x.Kind < 3/\okE 16 (cL c) x.On/\(x.Kind=1->okE 16 (cL c) x.Off)
 plus:c.Plus.length=cA c
 minus:c.Minus.length=cA c
 lines:∀ l∈c.Plus ++ c.Minus,0<=l/\l < cL c
 ini:∀ x∈c.Signals,x.Kind=2->x.Init=false
theorem CZ {c:Aa} (hw:Fw c) {i:Nat} {x:Ae} (hx:c.Signals[i]?=some x) (h:sge c i x=0):(0<=x.Kind/\x.Kind < 3/\okE 16 (cL c) x.On/\(x.Kind=1->okE 16 (cL c) x.Off))/\(x.Kind=2->x.Init=false):=by
 have hxm:=GF hx;unfold sge at h;split at h
 ·contradiction
 ·split at h
  ·omega
  ·split at h
   ·contradiction
   ·rename_i h2 h3;refine ⟨⟨by omega,by omega,okE.of (hw.on x hxm).1.dp om_,λhk=>?_⟩,λhk=>?_⟩
    ·rw [if_pos hk] at h;split at h
     ·contradiction
     ·rename_i h4;exact okE.of (hw.off x hxm).1.dp om_
    ·rw [if_neg om_,if_neg om_] at h;split at h
     ·contradiction
     ·split at h
      ·contradiction
      ·rename_i h5;cases hi:x.Init with
       | false=>rfl
       | true=>rw [hi] at h5;simp at h5
def sgE (c:Aa) (i:Nat):Int:=match c.Signals[i]? with | some x=>sge c i x | none=>0
theorem Ky {c:Aa} (h:Bd_ c):∀ (n i:Nat) (m:List (LL×Int)),i<=2 * cA c->2 * cA c - i < n->Yi c i m->∃ z m',Te FF c n ((i:Int),m)=some (z,m')/\Yi c (2 * cA c) m'
 | 0,i,_,_,h,_=>by omega
 | n + 1,i,m,h1,h2,hm=>by
  have ha:=h.a';have hL:cL c=2 * cA c + c.Inputs.length + c.Signals.length:=rfl;unfold Te;dsimp only;rw [h.wa,Ao];by_cases hi:i < 2 * cA c
  ·rw [dt_ hi,ct_,BL h om_,ob_,Aq om_];exact Ky h n (i + 1) _ om_ om_ (hm.put _)
  ·rw [df_ hi,cf_];obtain rfl:i=2 * cA c:=by omega
   exact ⟨_,m,rfl,hm⟩
end Go.Pn
namespace Go.Pn
open Go
theorem Pi {S σ:Type} {L:Nat->S->Option S} {mk:Nat->σ->S} {N:Nat} {I:Nat->σ->Prop}
  (h:∀ (n i:Nat) s,i < N->I i s->∃ s',I (i + 1) s'/\L (n + 1) (mk i s)=L n (mk (i + 1) s')) (h':∀ (n:Nat) s,I N s->L (n + 1) (mk N s)=some (mk N s)) :
  ∀ (n i:Nat) s,i<=N->N - i < n->I i s->∃ s',I N s'/\L n (mk i s)=some (mk N s')
 | 0,i,_,_,h,_=>by omega
 | n + 1,i,s,h1,h2,hI=>by
  by_cases hi:i < N
  ·obtain ⟨s',h3,h4⟩:=h n i s hi hI;rw [h4];exact Pi h h' n (i + 1) s' om_ om_ h3
  ·obtain rfl:i=N:=by omega
   exact ⟨s,hI,h' n s hI⟩
def upd {α:Type} (f:Nat->α) (l:List α) (i:Nat):List α:=(List.range i).map f ++ l.drop i
theorem Gw {α:Type} {f:Nat->α} {l:List α}:upd f l 0=l:=by simp [upd]
theorem Kr {α:Type} {f:Nat->α} {l:List α}:upd f l l.length=(List.range l.length).map f:=by simp [upd]
theorem Qe {α:Type} {f:Nat->α} {l:List α} {i:Nat} (h:i<=l.length):(upd f l i).length=l.length:=by simp [upd];omega
theorem Fv {α:Type} {f:Nat->α} {l:List α} {i j:Nat} (h:i<=j):(upd f l i)[j]?=l[j]?:=by
 unfold upd;rw [F5 so_,KQ];congr 1;simp;omega
theorem Kq {α:Type} {f:Nat->α} {l:List α} {i:Nat} {y:α} (h:i < l.length) (hy:y=f i):(upd f l i).set i y=upd f l (i + 1):=by
 subst hy;refine JF λj=>?_;by_cases e:j=i
 ·subst e;rw [H0 (by rw [Qe om_];exact h)];unfold upd;rw [FY smp_];simp
 ·rw [H5 om_];by_cases h2:j < i
  ·unfold upd;rw [FY so_,FY so_];simp [h2,show j < i + 1 by omega]
  ·rw [Fv om_,Fv om_]
structure Rc (c:Aa):Prop where
 rt:Rt c
 fw:Fw c
 ck:m54 FF c=some 0
 ck':m20042 FF c=some 0
structure Fit (c:Aa) (s:Ad):Prop where
 e:s.Ends.length=cA c
 v:s.Valves.length=cA c
 i:s.Inputs.length=c.Inputs.length
 x:s.Values.length=c.Signals.length
 t:s.Timers.length=c.Signals.length
 ee:∀ a∈s.Ends,0<=a/\a < 4
 tt:∀ a∈s.Timers,0<=a/\a < 3
 k:∀ (i:Nat) x t v,c.Signals[i]?=some x->s.Timers[i]?=some t->s.Values[i]?=some v->(x.Kind≠2->t=0)/\(x.Kind=2->v=(t == 2))
def Yx (s:Ad):LH:=s.Ends.flatMap λe=>[e == 0,e == 2]
def pre (s:Ad):LH:=Yx s ++ s.Inputs
def vals (s:Ad):LH:=pre s ++ s.Values
theorem Pr {l:LG}:(l.flatMap λe=>[e == 0,e == 2]).length=2 * l.length:=by
 induction l with
 | nil=>rfl
 | cons a l ih=>rw [JX,FR,ih];simp;omega
theorem B3:∀ {l:LG} {j:Nat},(l.flatMap λe=>[e == 0,e == 2])[j]?=(l[j / 2]?).map λe=>if j % 2=0 then e == 0 else e == 2
 | [],j=>by simp
 | a :: l,0=>by simp
 | a :: l,1=>by simp
 | a :: l,j + 2=>by
  rw [JX];show (List.flatMap (λe=>[e == 0,e == 2]) l)[j]?=_;rw [B3,show (j + 2) / 2=j / 2 + 1 by omega,show (j + 2) % 2=j % 2 by omega];rfl
theorem Fit.pl {c:Aa} {s:Ad} (h:Fit c s):(pre s).length=cS c:=by
 unfold pre Yx;rw [FR,Pr,h.e,h.i];rfl
theorem Fit.vl {c:Aa} {s:Ad} (h:Fit c s):(vals s).length=cL c:=by
 unfold vals;rw [FR,h.pl,h.x];rfl
theorem take_fm {l:LG} {i:Nat} (h:i < l.length):(l.take (i + 1)).flatMap (λe=>[e == 0,e == 2])=(l.take i).flatMap (λe=>[e == 0,e == 2]) ++ [l[i] == 0,l[i] == 2]:=by
 rw [JE,gE_ h,JA];simp
theorem Kx {s:Ad} (h1:s.Ends.length<=1000):Hf s FF ((0:Int),[])=some ((s.Ends.length:Int),Yx s):=by
 obtain ⟨acc,he,hl⟩:=Pi (L:=Hf s) (mk:=λi acc=>((i:Int),acc)) (N:=s.Ends.length) (I:=λi acc=>acc=(s.Ends.take i).flatMap λe=>[e == 0,e == 2]) (λn i acc hi hI=>by
  subst hI;refine ⟨_,rfl,?_⟩;rw [Hf];dsimp only;have hlen:((s.Ends.take i).flatMap λe=>[e == 0,e == 2]).length<=10000:=by rw [Pr,HO];omega
  unfold app;rw [Ao,dt_ hi,ct_,Am,gE_ om_,ob_,if_pos (by simp only [JD,K1];omega),ob_,Aq om_,take_fm om_]) (λn acc _=>by
  rw [Hf];dsimp only;rw [Ao,df_ om_,cf_]) FF 0 [] om_ uF rfl
 subst he;try dsimp only at hl
 rw [n0] at hl;rw [hl,HZ om_];rfl
theorem DG {s:Ad} (h1:s.Ends.length<=1000) (h2:s.Inputs.length<=1000) (h3:s.Values.length<=1000):m86 FF s=some (vals s):=by
 unfold m86;rw [Kx h1,ob_];dsimp only;have h4:(Yx s).length<=10000:=by unfold Yx;rw [Pr];omega
 unfold app;rw [if_pos om_,ob_,if_pos (by rw [FR];omega),ob_];rfl
theorem A4 {p q r:LH} (hp:p.length<=1000000) (hq:q.length<=1000000) (hr:r.length<=1000000):M7 FF [p,q,r]=some (p ++ q ++ r):=by
 unfold M7;have h1:Dn [p,q,r] FF ((0:Int),(0:Int))=some (((p.length + q.length + r.length:Nat):Int),3):=by
  show Dn [p,q,r] (99996 + 1 + 1 + 1 + 1) _=_;unfold Dn;rw [show decide ((0:Int) < (([p,q,r]:List LH).length:Int))=true by rfl,ct_,show idx [p,q,r] 0=some p by rfl,ob_];dsimp only;rw [Ar om_ om_,Ar om_ om_,df_ om_,cf_];unfold Dn;rw [show decide ((0:Int) + 1 < (([p,q,r]:List LH).length:Int))=true by rfl,ct_,show idx [p,q,r] (0 + 1)=some q by rfl,ob_];dsimp only;rw [Ar om_ om_,Ar om_ om_,df_ om_,cf_];unfold Dn;rw [show decide ((0:Int) + 1 + 1 < (([p,q,r]:List LH).length:Int))=true by rfl,ct_,show idx [p,q,r] (0 + 1 + 1)=some r by rfl,ob_];dsimp only;rw [Ar om_ om_,Ar om_ om_,df_ om_,cf_];unfold Dn;rw [show decide ((0:Int) + 1 + 1 + 1 < (([p,q,r]:List LH).length:Int))=false by rfl,cf_];congr 1;refine Prod.ext ?_ rfl;dsimp only;omega
 have h2:Dm [p,q,r] FF ((0:Int),[])=some ((3:Int),p ++ q ++ r):=by
  show Dm [p,q,r] (99996 + 1 + 1 + 1 + 1) _=_;unfold Dm app;rw [show decide ((0:Int) < (([p,q,r]:List LH).length:Int))=true by rfl,ct_,show idx [p,q,r] 0=some p by rfl,ob_,if_pos so_,ob_];dsimp only;rw [Ar om_ om_];unfold Dm app;rw [show decide ((0:Int) + 1 < (([p,q,r]:List LH).length:Int))=true by rfl,ct_,show idx [p,q,r] (0 + 1)=some q by rfl,ob_,if_pos so_,ob_];dsimp only;rw [Ar om_ om_];unfold Dm app;rw [show decide ((0:Int) + 1 + 1 < (([p,q,r]:List LH).length:Int))=true by rfl,ct_,show idx [p,q,r] (0 + 1 + 1)=some r by rfl,ob_,if_pos so_,ob_];dsimp only;rw [Ar om_ om_];unfold Dm;rw [show decide ((0:Int) + 1 + 1 + 1 < (([p,q,r]:List LH).length:Int))=false by rfl,cf_];rfl
 rw [h1,ob_];unfold m191;rw [if_pos (by dsimp only;omega),ob_,h2];rfl
theorem Yt:∀ {s:Ad} {n z},Ma s.Ends n z=Hf s n z:=by
 intro s n
 induction n with
 | zero=>intro z;rfl
 | succ n ih=>intro z;rw [Ma,Hf];simp only [ih]
theorem Th {s:Ad} (h1:s.Ends.length<=1000) (h2:s.Inputs.length<=1000) (h3:s.Values.length<=1000) (a b c d e f):NJ FF a b c d e f s.Ends s.Valves s.Inputs s.Values s.Timers=some (vals s):=by
 unfold NJ;rw [Yt,Kx h1,ob_];dsimp only;have h4:(Yx s).length<=10000:=by unfold Yx;rw [Pr];omega
 rw [A4 om_ om_ om_,ob_];rfl
theorem Ex {xs:LG} (h:xs.length<=1000):m31 FF xs=some xs:=by
 unfold m31 app;rw [if_pos so_];rfl
theorem Bv {xs:LH} (h:xs.length<=1000):m32 FF xs=some xs:=by
 unfold m32 app;rw [if_pos so_];rfl
def tup (s:Ad):LG×LH×LH×LH×LG:=(s.Ends,s.Valves,s.Inputs,s.Values,s.Timers)
theorem Md {s:Ad} (h:Smst s 1000):M3 FF s=some (tup s):=by
 obtain ⟨h1,h2,h3,h4,h5⟩:=h;unfold M3;rw [Ex h1,ob_,Bv h2,ob_,Bv h3,ob_,Bv h4,ob_,Ex h5,ob_];rfl
theorem Wz {s:Ad} (h:Smst s 1000):m61 FF s=some (tup s):=Md h
theorem Fit.sm {c:Aa} {s:Ad} (hb:Bd_ c) (h:Fit c s):Smst s 1000:=by
 have h1:=hb.a';have h2:=hb.i;have h3:=hb.s;obtain ⟨a1,a2,a3,a4,a5⟩:=h;constructor <;> omega
def Gn (c:Aa) (p:LH) (i:Nat) (v:LH):LH:=match c.Signals[i]? with
 | some x=>if x.Kind=0 then v.set i (ev 16 (p ++ v) x.On) else v
 | none=>v
def Cu (c:Aa) (s:Ad):Nat->LH
 | 0=>s.Values
 | i + 1=>Gn c (pre s) i (Cu c s i)
def gates (c:Aa) (s:Ad):Ad:=⟨s.Ends,s.Valves,s.Inputs,Cu c s c.Signals.length,s.Timers⟩
theorem Ci {c:Aa} {s:Ad}:∀ {i:Nat},(Cu c s i).length=s.Values.length
 | 0=>rfl
 | i + 1=>by
  unfold Cu Gn;split
  ·split
   ·rw [HR,Ci]
   ·exact Ci
  ·exact Ci
theorem Zs {p v:LH} {i:Nat} {b:Bool}:(p ++ v).set (p.length + i) b=p ++ v.set i b:=by
 rw [List.set_append];rw [if_neg om_];congr 2;omega
theorem A5 {c:Aa} {s:Ad} (hc:Rt c) (h:Fit c s):NL FF c.Actuators (cS c:Int) c.Inputs c.Signals c.Plus c.Minus s.Ends s.Valves s.Inputs s.Values s.Timers=some (Cu c s c.Signals.length):=by
 have hb:=hc.bd;have h1:=hb.a';have h2:=hb.i;have h3:=hb.s;obtain ⟨s1,s2,s3,s4,s5⟩:=h.sm hb;unfold NL;rw [Th s1 s3 s4,ob_];obtain ⟨v,he,hl⟩:=Pi (L:=Gf FF (cS c:Int) c.Signals) (mk:=λi (v:LH×LH)=>((i:Int),v.1,v.2)) (N:=c.Signals.length) (I:=λi v=>v=(Cu c s i,pre s ++ Cu c s i)) (λn i v hi hI=>by
  subst hI;refine ⟨_,rfl,?_⟩;have hx:c.Signals[i]?=some c.Signals[i]:=gE_ hi;have hvl:=Ci (c:=c) (s:=s) (i:=i);have hS:cS c=2 * cA c + c.Inputs.length:=rfl;rw [Gf];dsimp only;rw [Ao,dt_ hi,ct_,Am,hx,ob_,Aq om_,Ar om_ om_];show _=Gf FF (cS c:Int) c.Signals n (((i + 1:Nat):Int),Gn c (pre s) i (Cu c s i),pre s ++ Gn c (pre s) i (Cu c s i));unfold Gn;rw [hx];dsimp only;by_cases hk:c.Signals[i].Kind=0
  ·rw [if_pos hk,show (c.Signals[i].Kind == 0)=true by simpa using hk,ct_];obtain ⟨_,_,ho,_⟩:=hc.sig _ (GA hi);rw [Hi 16 FF _ _ (by rw [FR,h.pl,hvl,h.x];exact ho) uF,ob_,Am,gE_ (by rw [hvl,h.x];exact hi),ob_,show (cS c:Int) + (i:Int)=((cS c + i:Nat):Int) by omega,Am,gE_ (by rw [FR,h.pl,hvl,h.x];omega),ob_,ob_];dsimp only;rw [show ((cS c + i:Nat):Int).toNat=(pre s).length + i by rw [h.pl];omega,Zs];simp
  ·rw [if_neg hk,show (c.Signals[i].Kind == 0)=false by simpa using hk,cf_,ob_]) (λn v _=>by
  rw [Gf];dsimp only;rw [Ao,df_ om_,cf_]) FF 0 (s.Values,vals s) om_ uF rfl
 subst he;try dsimp only at hl
 rw [n0] at hl;rw [hl];rfl
theorem okE.che:∀ {d:Nat} {n:Int} {x:Expr},okE d n x->chE d n x=0
 | 0,_,_,h=>h.elim
 | d + 1,n,x,h=>by
  unfold chE;rw [if_pos h.1];have:∀ l:List Expr,(∀ y∈l,okE d n y)->fnz (l.map (chE d n))=0:=by
   intro l
   induction l with
   | nil=>intro _;rfl
   | cons y l ih=>
    intro hl;rw [GD];unfold fnz;rw [if_pos (hl y smp_).che];exact ih λz hz=>hl z (by simp [hz])
  exact this _ h.2.2
theorem DE {n:Nat} {ls:LH} {x:Expr} (hx:Lt_ x) (ho:okE 16 n x) (hl:ls.length=n) (hn:n<=256):m87 FF x ls=some (ev 16 ls x,0):=by
 subst hl;unfold m87;rw [Mf hx om_ om_ uF,ho.che,ob_,zf_,cf_,Tl 16 FF _ _ ho uF];rfl
theorem DM {c:Aa} {s:Ad} (hc:Rt c) (hw:Fw c) (h:Fit c s):m55 FF c s=some (tup (gates c s)):=by
 have hb:=hc.bd;have h1:=hb.a';have h2:=hb.i;have h3:=hb.s;obtain ⟨s1,s2,s3,s4,s5⟩:=h.sm hb;unfold m55;rw [Ex s1,ob_,Bv s2,ob_,Bv s3,ob_,Bv s4,ob_,Ex s5,ob_,DG s1 s3 s4,ob_];have hS:cS c=2 * cA c + c.Inputs.length:=rfl;have hL:cL c=cS c + c.Signals.length:=rfl;obtain ⟨v,he,hl⟩:=Pi (L:=Ld FF c) (mk:=λi (v:LH×LH)=>((i:Int),v.1,v.2)) (N:=c.Signals.length) (I:=λi v=>v=(Cu c s i,pre s ++ Cu c s i)) (λn i v hi hI=>by
  subst hI;refine ⟨_,rfl,?_⟩;have hx:c.Signals[i]?=some c.Signals[i]:=gE_ hi;have hvl:=Ci (c:=c) (s:=s) (i:=i);rw [Ld];dsimp only;rw [Ao,dt_ hi,ct_,Am,hx,ob_,Jz hb,Aq om_];show _=Ld FF c n (((i + 1:Nat):Int),Gn c (pre s) i (Cu c s i),pre s ++ Gn c (pre s) i (Cu c s i));unfold Gn;rw [hx];dsimp only;by_cases hk:c.Signals[i].Kind=0
  ·rw [if_pos hk,show (c.Signals[i].Kind == 0)=true by simpa using hk,ct_];obtain ⟨_,_,ho,_⟩:=hc.sig _ (GA hi);rw [DE (hw.on _ (GA hi)).1 ho (by rw [FR,h.pl,hvl,h.x];rfl) om_,ob_,ob_,Am,gE_ (by rw [hvl,h.x];exact hi),ob_,Ar om_ om_,show (cS c:Int) + (i:Int)=((cS c + i:Nat):Int) by omega,Am,gE_ (by rw [FR,h.pl,hvl,h.x];omega),ob_,ob_];dsimp only;rw [show ((cS c + i:Nat):Int).toNat=(pre s).length + i by rw [h.pl];omega,Zs];simp
  ·rw [if_neg hk,show (c.Signals[i].Kind == 0)=false by simpa using hk,cf_,ob_]) (λn v _=>by
  rw [Ld];dsimp only;rw [Ao,df_ om_,cf_]) FF 0 (s.Values,vals s) om_ uF rfl
 subst he;try dsimp only at hl
 rw [n0] at hl;rw [show vals (⟨s.Ends,s.Valves,s.Inputs,s.Values,s.Timers⟩:Ad)=vals s from rfl,hl];rfl
def ofb (ls:LH) (x:Ae):Bool:=(x.Kind == 1) && ev 16 ls x.Off
def chg (ls:LH) (x:Ae) (v:Bool) (t:Int):Bool×Int:=
 if x.Kind=1 then (if ev 16 ls x.On=ofb ls x then (v,t) else (ev 16 ls x.On,t))
 else if x.Kind=2 then (if ev 16 ls x.On=false then (false,0) else if t=0 then (v,1) else (v,t)) else (v,t)
def Kl (c:Aa) (g:Ad) (i:Nat):Bool×Int:=match c.Signals[i]? with
 | some x=>chg (vals g) x (g.Values.getD i false) (g.Timers.getD i 0)
 | none=>(false,0)
def nxtS (c:Aa) (g:Ad):Ad:=⟨g.Ends,g.Valves,g.Inputs,(List.range g.Values.length).map λi=>(Kl c g i).1,(List.range g.Timers.length).map λi=>(Kl c g i).2⟩
def once (c:Aa) (s:Ad):Ad:=nxtS c (gates c s)
theorem Hq {c:Aa} {s:Ad} (h:Fit c s):Fit c (gates c s):=by
 refine ⟨h.e,h.v,h.i,Ci.trans h.x,h.t,h.ee,h.tt,?_⟩;intro i x t v hx ht hv;refine ⟨λhk=>?_,λhk=>?_⟩
 ·have hi:i < s.Values.length:=by rw [h.x];exact (FT.1 hx).1
  exact (h.k i x t _ hx ht (gE_ hi)).1 hk
 ·-- the value of a timer is not a gate's
  have key:∀ n,(Cu c s n)[i]?=s.Values[i]?:=by
   intro n
   induction n with
   | zero=>rfl
   | succ n ih=>
    unfold Cu Gn;cases hy:c.Signals[n]? with
    | none=>exact ih
    | some y=>
     dsimp only;split
     ·rename_i h0;have:n≠i:=λe=>by subst e;rw [hx] at hy;cases hy;omega
      rw [H5 this];exact ih
     ·exact ih
  have hv':(Cu c s c.Signals.length)[i]?=some v:=hv;rw [key] at hv';exact (h.k i x t v hx ht hv').2 hk
theorem FC {ls:LH} {x:Ae} {v:Bool} {t:Int} (h0:0<=t/\t < 3) (h:(x.Kind≠2->t=0)/\(x.Kind=2->v=(t == 2))) :
  (0<=(chg ls x v t).2/\(chg ls x v t).2 < 3)/\(x.Kind≠2->(chg ls x v t).2=0)/\(x.Kind=2->(chg ls x v t).1=((chg ls x v t).2 == 2)):=by
 unfold chg;by_cases h1:x.Kind=1
 ·rw [if_pos h1];split
  ·exact ⟨h0,h⟩
  ·exact ⟨h0,h.1,λh2=>by omega⟩
 ·rw [if_neg h1];by_cases h2:x.Kind=2
  ·rw [if_pos h2];split
   ·exact ⟨by simp,λh3=>absurd h2 h3,λ_=>rfl⟩
   ·split
    ·rename_i ht;refine ⟨by simp,λh3=>absurd h2 h3,λ_=>?_⟩;have:=h.2 h2;rw [ht] at this;exact this
    ·exact ⟨h0,h⟩
  ·rw [if_neg h2];exact ⟨h0,h⟩
theorem C8 {c:Aa} {g:Ad} (h:Fit c g):Fit c (nxtS c g):=by
 have hget:∀ (i:Nat) x,c.Signals[i]?=some x->∃ v t,g.Values[i]?=some v/\g.Timers[i]?=some t/\Kl c g i=chg (vals g) x v t:=by
  intro i x hx;have hi:=(FT.1 hx).1;have h1:i < g.Values.length:=by rw [h.x];exact hi
  have h2:i < g.Timers.length:=by rw [h.t];exact hi
  refine ⟨g.Values[i],g.Timers[i],gE_ h1,gE_ h2,?_⟩;unfold Kl;rw [hx];simp [gE_ h1,gE_ h2]
 refine ⟨h.e,h.v,h.i,by simp [nxtS,h.x],by simp [nxtS,h.t],h.ee,?_,?_⟩
 ·intro a ha;obtain ⟨i,hi,rfl⟩:=GE.1 ha;have hi:i < c.Signals.length:=by have:=F6.1 hi;rw [h.t] at this;exact this
  obtain ⟨v,t,h1,h2,h3⟩:=hget i _ (gE_ hi);rw [h3];exact (FC (h.tt t (GF h2)) (h.k i _ t v (gE_ hi) h2 h1)).1
 ·intro i x t v hx ht hv;obtain ⟨v0,t0,h1,h2,h3⟩:=hget i x hx;have hi:=(FT.1 hx).1;have ht':((List.range g.Timers.length).map λi=>(Kl c g i).2)[i]?=some t:=ht;have hv':((List.range g.Values.length).map λi=>(Kl c g i).1)[i]?=some v:=hv;rw [F9,GN (by rw [h.t];exact hi)] at ht';rw [F9,GN (by rw [h.x];exact hi)] at hv';have ht':=Option.some.inj ht';have hv':=Option.some.inj hv';dsimp only at ht' hv';rw [h3] at ht' hv';subst ht';subst hv';exact (FC (h.tt t0 (GF h2)) (h.k i x t0 v0 hx h2 h1)).2
theorem Ql {c:Aa} {s:Ad} (h:Fit c s):Fit c (once c s):=C8 (Hq h)
def onPi (c:Aa) (g:Ad) (i:Nat) (x:Int):Prop:=∃ j sig,j < i/\c.Signals[j]?=some sig/\x=((cS c + j:Nat):Int)/\(ev 16 (vals g) sig.On && ofb (vals g) sig)=true
def onP (c:Aa) (s:Ad) (x:Int):Prop:=onPi c (gates c s) c.Signals.length x
theorem AJ {c:Aa} {g:Ad} {x:Int}:¬ onPi c g 0 x:=λ⟨j,_,h,_⟩=>by omega
theorem AK {c:Aa} {g:Ad} {i:Nat} {x:Int} (hi:i < c.Signals.length):onPi c g (i + 1) x↔onPi c g i x\/(x=((cS c + i:Nat):Int)/\(ev 16 (vals g) c.Signals[i].On && ofb (vals g) c.Signals[i])=true):=by
 constructor
 ·rintro ⟨j,sig,h1,h2,h3,h4⟩;by_cases h:j=i
  ·subst h;rw [gE_ hi] at h2;cases h2;exact .inr ⟨h3,h4⟩
  ·exact .inl ⟨j,sig,by omega,h2,h3,h4⟩
 ·rintro (⟨j,sig,h1,h2,h3,h4⟩ | ⟨h3,h4⟩)
  ·exact ⟨j,sig,by omega,h2,h3,h4⟩
  ·exact ⟨i,_,by omega,gE_ hi,h3,h4⟩
theorem E3 {l:LG} {x y:Int} {b:Bool} {p:Int->Prop} (h:∀ x,x∈l↔p x):x∈(if b=true then l ++ [y] else l)↔p x\/(x=y/\b=true):=by
 cases b
 ·rw [if_neg smp_,h];simp
 ·rw [if_pos rfl,GL,h];simp
theorem A9 {c:Aa} {s:Ad} (hc:Rt c) (h:Fit c s):∃ l,NM FF c.Actuators (cS c:Int) c.Inputs c.Signals c.Plus c.Minus s.Ends s.Valves s.Inputs s.Values s.Timers=some (!sst s (once c s),l,(once c s).Values,(once c s).Timers)/\l.length<=c.Signals.length/\∀ x,x∈l↔onP c s x:=by
 have hb:=hc.bd;have h1:=hb.a';have h2:=hb.i;have h3:=hb.s;have hg:=Hq h;have hS:cS c=2 * cA c + c.Inputs.length:=rfl;obtain ⟨s1,s2,s3,s4,s5⟩:=hg.sm hb;unfold NM NH;rw [show (⟨s.Ends,s.Valves,s.Inputs,s.Values,s.Timers⟩:Ad)=s from rfl,Md (h.sm hb),ob_,A5 hc h,ob_];have h318:=Th (s:=gates c s) s1 s3 s4 c.Actuators (cS c:Int) c.Inputs c.Signals c.Plus c.Minus;rw [show (gates c s).Ends=s.Ends from rfl,show (gates c s).Valves=s.Valves from rfl,show (gates c s).Inputs=s.Inputs from rfl,show (gates c s).Timers=s.Timers from rfl,show (gates c s).Values=Cu c s c.Signals.length from rfl] at h318;rw [h318,ob_,ob_];have hvl:(Cu c s c.Signals.length).length=c.Signals.length:=hg.x;have htl:s.Timers.length=c.Signals.length:=hg.t;obtain ⟨v,he,hl⟩:=Pi (L:=Jf FF (cS c:Int) c.Signals (vals (gates c s))) (mk:=λi (v:LH×LG×LG)=>((i:Int),v.1,v.2.1,v.2.2)) (N:=c.Signals.length) (I:=λi v=>v.1=upd (λi=>(Kl c (gates c s) i).1) (Cu c s c.Signals.length) i/\v.2.1=upd (λi=>(Kl c (gates c s) i).2) s.Timers i/\v.2.2.length<=i/\∀ x,x∈v.2.2↔onPi c (gates c s) i x) (λn i v hi hI=>by
  obtain ⟨V,T,l⟩:=v;obtain ⟨rfl,rfl,hll,hmm⟩:=hI;have hx:c.Signals[i]?=some c.Signals[i]:=gE_ hi;obtain ⟨k0,k3,ho,hf⟩:=hc.sig _ (GA hi);have e4:(upd (λi=>(Kl c (gates c s) i).1) (Cu c s c.Signals.length) i)[i]?=some (Cu c s c.Signals.length)[i]:=by rw [Fv (GB i)];exact gE_ om_
  have e5:(upd (λi=>(Kl c (gates c s) i).2) s.Timers i)[i]?=some s.Timers[i]:=by rw [Fv (GB i)];exact gE_ om_
  have hci:Kl c (gates c s) i=chg (vals (gates c s)) c.Signals[i] (Cu c s c.Signals.length)[i] s.Timers[i]:=by
   unfold Kl;rw [hx];simp [gates,gE_ (show i < (Cu c s c.Signals.length).length by omega),gE_ (show i < s.Timers.length by omega)]
  have hbody:∃ b,(((bif (c.Signals[i].Kind.toNat) == 0 then NE FF (⟨(Cu c s c.Signals.length)[i],s.Timers[i],false⟩:Ag) (ev 16 (vals (gates c s)) c.Signals[i].On) (ofb (vals (gates c s)) c.Signals[i]) else bif (c.Signals[i].Kind.toNat) == 1 then NF FF (⟨(Cu c s c.Signals.length)[i],s.Timers[i],false⟩:Ag) (ev 16 (vals (gates c s)) c.Signals[i].On) (ofb (vals (gates c s)) c.Signals[i]) else bif (c.Signals[i].Kind.toNat) == 2 then NG FF (⟨(Cu c s c.Signals.length)[i],s.Timers[i],false⟩:Ag) (ev 16 (vals (gates c s)) c.Signals[i].On) (ofb (vals (gates c s)) c.Signals[i]) else none)))=some (⟨(Kl c (gates c s) i).1,(Kl c (gates c s) i).2,b⟩:Ag)/\b=(ev 16 (vals (gates c s)) c.Signals[i].On && ofb (vals (gates c s)) c.Signals[i]):=by
   rw [hci];have hk:c.Signals[i].Kind=0\/c.Signals[i].Kind=1\/c.Signals[i].Kind=2:=by omega
   unfold chg;rcases hk with k | k | k <;> rw [k]
   ·exact ⟨false,rfl,by unfold ofb;rw [k];simp⟩
   ·rw [show ((1:Int).toNat == 0)=false by rfl,show ((1:Int).toNat == 1)=true by rfl,cf_,ct_,if_pos rfl];unfold NF;cases ev 16 (vals (gates c s)) c.Signals[i].On <;> cases ofb (vals (gates c s)) c.Signals[i] <;> exact ⟨_,rfl,rfl⟩
   ·rw [show ((2:Int).toNat == 0)=false by rfl,show ((2:Int).toNat == 1)=false by rfl,show ((2:Int).toNat == 2)=true by rfl,cf_,cf_,ct_,if_neg om_,if_pos rfl];unfold NG;cases ev 16 (vals (gates c s)) c.Signals[i].On with
    | false=>exact ⟨_,rfl,rfl⟩
    | true=>
     rw [nt_,cf_,if_neg smp_];by_cases e:s.Timers[i]=0
     ·rw [if_pos e,show (s.Timers[i] == 0)=true by simpa using e];exact ⟨_,rfl,by unfold ofb;rw [k];rfl⟩
     ·rw [if_neg e,show (s.Timers[i] == 0)=false by simpa using e];exact ⟨_,rfl,by unfold ofb;rw [k];rfl⟩
  obtain ⟨b,hbody,hbe⟩:=hbody;refine ⟨(upd (λi=>(Kl c (gates c s) i).1) (Cu c s c.Signals.length) (i + 1),upd (λi=>(Kl c (gates c s) i).2) s.Timers (i + 1),if b=true then l ++ [((cS c + i:Nat):Int)] else l),⟨rfl,rfl,?_⟩,?_⟩
  ·dsimp only at hll hmm ⊢;refine ⟨by split <;> (try simp) <;> omega,λx=>?_⟩
   rw [E3 hmm,AK hi,← hbe]
  ·rw [Jf];dsimp only at hll ⊢;have hr3:idx (List.range 3) c.Signals[i].Kind=some c.Signals[i].Kind.toNat:=by
    have hk:c.Signals[i].Kind=0\/c.Signals[i].Kind=1\/c.Signals[i].Kind=2:=by omega
    rcases hk with k | k | k <;> rw [k] <;> rfl
   have hoff:(bif (c.Signals[i].Kind == 1) then (NC FF (c.Signals[i].Off) (vals (gates c s))).bind λx19=>some x19 else some false)=some (ofb (vals (gates c s)) c.Signals[i]):=by
    unfold ofb;by_cases hk:c.Signals[i].Kind=1
    ·rw [show (c.Signals[i].Kind == 1)=true by simpa using hk,ct_,Hi 16 FF _ _ (by rw [hg.vl];exact hf hk) uF];rfl
    ·rw [show (c.Signals[i].Kind == 1)=false by simpa using hk];rfl
   rw [Ao,dt_ hi,ct_,Am,hx,ob_,hr3,ob_,Am,e4,ob_,Am,e5,ob_,Hi 16 FF _ _ (by rw [hg.vl];exact ho) uF,ob_,hoff,ob_,hbody,ob_,ob_,ob_];dsimp only;rw [Ar om_ om_,show (cS c:Int) + (i:Int)=((cS c + i:Nat):Int) by omega,Aq om_,G6,Kq om_ rfl,Kq om_ rfl];cases b with
   | true=>
    unfold app;rw [ct_,if_pos so_];rfl
   | false=>rfl) (λn v _=>by
  rw [Jf];dsimp only;rw [Ao,df_ om_,cf_]) FF 0 (Cu c s c.Signals.length,s.Timers,[]) om_ uF ⟨Gw.symm,Gw.symm,by simp,λx=>by simp [AJ]⟩
 obtain ⟨V,T,l⟩:=v;obtain ⟨rfl,rfl,hll,hmm⟩:=he;try dsimp only at hl hll hmm
 rw [n0] at hl;rw [hl,ob_];dsimp only;have e1:upd (λi=>(Kl c (gates c s) i).1) (Cu c s c.Signals.length) c.Signals.length=(once c s).Values:=by
  unfold once nxtS;dsimp only
  conv=>lhs;rw [show c.Signals.length=(Cu c s c.Signals.length).length from hvl.symm]
  rw [show (gates c s).Values=Cu c s c.Signals.length from rfl,hvl];rw [← hvl,hvl];have:=Kr (f:=λi=>(Kl c (gates c s) i).1) (l:=Cu c s c.Signals.length);rw [hvl] at this;exact this
 have e2:upd (λi=>(Kl c (gates c s) i).2) s.Timers c.Signals.length=(once c s).Timers:=by
  have:=Kr (f:=λi=>(Kl c (gates c s) i).2) (l:=s.Timers);rw [htl] at this;rw [this];unfold once nxtS;dsimp only;rw [show (gates c s).Timers=s.Timers from rfl,htl]
 rw [e1,e2];refine ⟨l,?_,hll,hmm⟩;have e3:(⟨s.Ends,s.Valves,s.Inputs,(once c s).Values,(once c s).Timers⟩:Ad)=once c s:=rfl;unfold tup;dsimp only;rw [e3,Qs (n:=1000) (h.sm hb) uF om_];rfl
end Go.Pn
namespace Go.Pn
open Go
theorem Av {α:Type} {xs ys:List α} (h:xs.length + ys.length<=1073741824):app xs ys=some (xs ++ ys):=if_pos h
def stl (c:Aa):Nat->Ad->Option Ad
 | 0,_=>none
 | k + 1,s=>if sst s (once c s)=true then some s else stl c k (once c s)
structure Kp (s t:Ad):Prop where
 e:t.Ends=s.Ends
 v:t.Valves=s.Valves
 i:t.Inputs=s.Inputs
theorem Nn {c:Aa}:∀ {k:Nat} {s t:Ad},Fit c s->stl c k s=some t->Fit c t/\Kp s t/\sst t (once c t)=true
 | 0,_,_,_,h=>by cases h
 | k + 1,s,t,hf,h=>by
  unfold stl at h;split at h
  ·rename_i h1;obtain rfl:=Option.some.inj h;exact ⟨hf,⟨rfl,rfl,rfl⟩,h1⟩
  ·obtain ⟨h1,⟨h2,h3,h4⟩,h5⟩:=Nn (Ql hf) h;exact ⟨h1,⟨h2,h3,h4⟩,h5⟩
def Cs (l:LG) (p:Int->Prop):Prop:=l.Pairwise (· < ·)/\∀ x,x∈l↔p x
theorem Cs.iff {l:LG} {p q:Int->Prop} (h:Cs l p) (e:∀ x,p x↔q x):Cs l q:=⟨h.1,λx=>(h.2 x).trans (e x)⟩
theorem Cs.nil {p:Int->Prop} (h:∀ x,¬ p x):Cs [] p:=⟨.nil,λx=>by simp [h x]⟩
theorem Yy {zs:LG} (h:zs.Pairwise (·<=·)):Cs (Lib.compact zs) (·∈zs):=by
 have hle:∀ i j,(_:i<=j)->(hj:j < zs.length)->zs[i]'om_<=zs[j]:=λi j hij hj=>by
  by_cases e:i=j
  ·subst e;exact KH _
  ·exact List.pairwise_iff_getElem.1 h i j om_ hj om_
 have hd:∀ i,(hi:i < zs.length)->zs.toArray[i]! = zs[i]:=λi hi=>by simp [hi]
 unfold Lib.compact Lib.compactUpTo;constructor
 ·rw [List.pairwise_map];refine (List.Pairwise.filter _ List.pairwise_lt_range).imp_of_mem λ{a b} ha hb hab=>?_;obtain ⟨ha1,_⟩:=HC.1 ha;obtain ⟨hb1,hb2⟩:=HC.1 hb;have ha1:=F6.1 ha1;have hb1:=F6.1 hb1;have hk:zs.toArray[b]! ≠ zs.toArray[b - 1]!:=(of_decide_eq_true hb2).resolve_left om_;rw [hd b hb1,hd (b - 1) om_] at hk;rw [hd a ha1,hd b hb1];have h1:=hle a (b - 1) om_ om_;have h2:=hle (b - 1) b om_ hb1;omega
 ·intro x;constructor
  ·intro hx;obtain ⟨i,hi,rfl⟩:=GE.1 hx;have hi:=F6.1 (HC.1 hi).1;rw [hd i hi];exact GA hi
  ·intro hx;cases hf:zs.findIdx? (· == x) with
   | none=>
    rw [HJ] at hf;have:=hf x hx;simp at this
   | some i=>
    obtain ⟨hi,h1,h2⟩:=GP.1 hf;have h1:zs[i]=x:=by simpa using h1
    refine GE.2 ⟨i,HC.2 ⟨List.mem_range.2 hi,dt_ ?_⟩,by rw [hd i hi,h1]⟩;by_cases h0:i=0
    ·exact .inl h0
    ·right;rw [hd i hi,hd (i - 1) om_,h1];have:=h2 (i - 1) om_;exact λe=>this (by simp [← e])
theorem Wh {l:LG} (h:l.length<=900000000):∃ r1 r2,m93 FF l=some r1/\m94 FF r1=some r2/\r2.length<=l.length/\Cs r2 (·∈l):=by
 have hl:(isort l).length=l.length:=(isort_perm l).length_eq;refine ⟨isort l,Lib.compact (isort l),by unfold m93;rw [if_pos om_],by unfold m94;rw [if_pos om_],by rw [← hl];exact compact_le _,?_⟩;have hs:=isort_pw l;exact (Yy hs).iff λx=>(isort_perm l).mem_iff
def CW (c:Aa):Nat->Ad->Int->Prop
 | 0,_,_=>False
 | k + 1,s,x=>onP c s x\/(sst s (once c s)=false/\CW c k (once c s) x)
theorem Jv {c:Aa} (hc:Rt c):∀ (k n j:Nat) (s:Ad) (q:LG),j + k=65->k < n->Fit c s->q.length<=16 * j ->
  match stl c k s with
  | some t=>∃ l z,Gg FF c.Actuators (cS c:Int) c.Inputs c.Signals c.Plus c.Minus s.Ends s.Valves s.Inputs n ((j:Int),s.Values,s.Timers,q)=some (.ret (z,0,t.Values,t.Timers,l))/\l.length<=2000/\Cs l λx=>x∈q\/CW c k s x
  | none=>∃ q',Gg FF c.Actuators (cS c:Int) c.Inputs c.Signals c.Plus c.Minus s.Ends s.Valves s.Inputs n ((j:Int),s.Values,s.Timers,q)=some (.brk q')
 | _,0,_,_,_,_,h,_,_=>by omega
 | 0,n + 1,j,s,q,h1,h2,hf,hq=>by
  unfold stl Gg;dsimp only;rw [show decide ((j:Int)<=64)=false by simp;omega,cf_];exact ⟨_,rfl⟩
 | k + 1,n + 1,j,s,q,h1,h2,hf,hq=>by
  have hb:=hc.bd;have h3:=hb.s;obtain ⟨l,e1,hl,hmm⟩:=A9 hc hf;have ho:=Ql hf;unfold stl Gg;dsimp only;rw [show decide ((j:Int)<=64)=true by simp;omega,ct_,e1,ob_];dsimp only;rw [Av om_,ob_];cases hs:sst s (once c s) with
  | true=>
   obtain ⟨r1,r2,e2,e3,l3,hC⟩:=Wh (l:=q ++ l) so_;rw [if_pos rfl,show (!(!true))=true by rfl,ct_,e2,ob_,e3,ob_];have hse:=Eb.1 hs;rw [← hse];refine ⟨r2,(j:Int),rfl,by rw [FR] at l3;omega,hC.iff λx=>?_⟩;rw [GL,hmm,CW,hs];simp
  | false=>
   rw [if_neg smp_,show (!(!false))=false by rfl,cf_,Aq om_];have ih:=Jv hc k n (j + 1) (once c s) (q ++ l) om_ om_ ho (by rw [FR];omega);cases hst:stl c k (once c s) with
   | none=>rw [hst] at ih;exact ih
   | some t=>
    rw [hst] at ih;obtain ⟨l',z',e4,hl',hC⟩:=ih;refine ⟨l',z',e4,hl',hC.iff λx=>?_⟩;rw [GL,hmm,CW,hs];simp [or_assoc]
theorem Mi {xs:LG} {k:Int} (hl:xs.length<=1000):Pg FF xs k=some (xs.any λx=>decide (x < 0) || decide (x>=k)):=by
 unfold Pg Xi;have h5:=ER (L:=Hj FF xs k) (xs:=xs) (p:=λ_ y=>MZ FF y k) (q:=λx=>decide (x < 0) || decide (x>=k)) (r:=λz=>z) (λ_ _=>rfl) om_ (λi y hy=>rfl) FF 0 om_ uF;rw [n0,HG] at h5;rw [h5];cases h6:xs.findIdx? (λx=>decide (x < 0) || decide (x>=k)) with
 | none=>
  rw [HJ] at h6;have:(xs.any λx=>decide (x < 0) || decide (x>=k))=false:=GR.2 λy hy=>by simpa using h6 y hy
  rw [this];rfl
 | some j=>
  obtain ⟨hj,hj2,_⟩:=GP.1 h6;have:(xs.any λx=>decide (x < 0) || decide (x>=k))=true:=F8.2 ⟨_,GA hj,by simpa using hj2⟩;rw [this];simp
def tbad (c:Aa) (s:Ad) (i:Nat):Bool:=match c.Signals[i]?,s.Timers[i]?,s.Values[i]? with
 | some x,some t,some v=>(x.Kind != 2 && t != 0) || (x.Kind == 2 && v != (t == 2))
 | _,_,_=>false
def B5 (c:Aa) (s:Ad):Int:=
 if (s.Ends.length:Int)≠c.Actuators\/(s.Valves.length:Int)≠c.Actuators\/s.Inputs.length≠c.Inputs.length\/s.Values.length≠c.Signals.length\/s.Timers.length≠c.Signals.length then 8
 else if (s.Ends.any λx=>decide (x < 0) || decide (x>=4))=true then 1
 else if (s.Timers.any λx=>decide (x < 0) || decide (x>=3))=true then 1
 else if (List.range c.Signals.length).any (tbad c s)=true then 14 else 0
theorem D1 {c:Aa} {s:Ad}:(((((((s.Ends.length:Int) != c.Actuators) || ((s.Valves.length:Int) != c.Actuators)) || ((s.Inputs.length:Int) != (c.Inputs.length:Int))) || ((s.Values.length:Int) != (c.Signals.length:Int))) || ((s.Timers.length:Int) != (c.Signals.length:Int))))=decide ((s.Ends.length:Int)≠c.Actuators\/(s.Valves.length:Int)≠c.Actuators\/s.Inputs.length≠c.Inputs.length\/s.Values.length≠c.Signals.length\/s.Timers.length≠c.Signals.length):=by
 rw [GU];simp only [HY,bne_iff_ne,ne_eq,decide_eq_true_eq,Int.natCast_inj,or_assoc]
theorem DD {c:Aa} {s:Ad} (hb:Bd_ c):m89 FF c s=some (B5 c s):=by
 have h1:=hb.a6;have h2:=hb.i;have h3:=hb.s;unfold m89 B5;rw [D1];by_cases hl:(s.Ends.length:Int)≠c.Actuators\/(s.Valves.length:Int)≠c.Actuators\/s.Inputs.length≠c.Inputs.length\/s.Values.length≠c.Signals.length\/s.Timers.length≠c.Signals.length
 ·rw [if_pos hl,dt_ hl];rfl
 ·rw [if_neg hl,df_ hl,cf_];have hl:(s.Ends.length:Int)=c.Actuators/\(s.Valves.length:Int)=c.Actuators/\s.Inputs.length=c.Inputs.length/\s.Values.length=c.Signals.length/\s.Timers.length=c.Signals.length:=by omega
  rw [show LM FF (4:Int)=some 4 from rfl,show LM FF (3:Int)=some 3 from rfl,ob_,Mi om_,ob_,ob_,Mi om_];cases (s.Ends.any λx=>decide (x < 0) || decide (x>=4)) with
  | true=>rfl
  | false=>
   rw [cf_,ob_,ob_,if_neg smp_];cases (s.Timers.any λx=>decide (x < 0) || decide (x>=3)) with
   | true=>rfl
   | false=>
    rw [cf_,if_neg smp_];have hs:=Gz (L:=Ns c s) (N:=c.Signals.length) (Q:=tbad c s) (r:=λ_=>14) (λn i hi=>by
     have e1:c.Signals[i]?=some c.Signals[i]:=gE_ hi;have e2:s.Timers[i]?=some s.Timers[i]:=gE_ om_;have e3:s.Values[i]?=some s.Values[i]:=gE_ om_;rw [Ns];unfold tbad;rw [hl.2.2.2.2,Ao,dt_ hi,ct_,Am,Am,Am,e1,e2,e3,ob_,ob_,ob_,Aq om_];dsimp only;cases hk:(c.Signals[i].Kind == 2) with
     | true=>
      have hk':(c.Signals[i].Kind != 2)=false:=by show (!(c.Signals[i].Kind == 2))=false;rw [hk];rfl
      rw [hk'];cases (s.Values[i] != (s.Timers[i] == 2)) <;> rfl
     | false=>
      have hk':(c.Signals[i].Kind != 2)=true:=by show (!(c.Signals[i].Kind == 2))=true;rw [hk];rfl
      rw [hk'];cases (s.Timers[i] != 0) <;> rfl) (λn=>by
     rw [Ns,hl.2.2.2.2,Ao,df_ om_,cf_]) FF 0 om_ uF
    rw [n0] at hs;rcases hs with ⟨k,_,hk,hq,h⟩ | ⟨h,hn⟩
    ·rw [h,if_pos (F8.2 ⟨k,F6.2 hk,hq⟩)];rfl
    ·rw [h,if_neg ?_]
     ·rfl
     ·intro ha;obtain ⟨k,hk,h4⟩:=F8.1 ha;have:=hn k om_ (F6.1 hk);rw [this] at h4;cases h4
theorem Et {c:Aa} {s:Ad} (hb:Bd_ c):B5 c s=0↔Fit c s:=by
 have ha:=hb.a;unfold B5;constructor
 ·intro h;split at h
  ·contradiction
  ·rename_i h1;split at h
   ·contradiction
   ·rename_i h2;split at h
    ·contradiction
    ·rename_i h3;split at h
     ·contradiction
     ·rename_i h4;refine ⟨by omega,by omega,by omega,by omega,by omega,λa ha=>?_,λa ha=>?_,λi x t v hx ht hv=>?_⟩
      ·have:=GR.1 (by simpa using h2:(s.Ends.any λx=>decide (x < 0) || decide (x>=4))=false) a ha;simp at this;omega
      ·have:=GR.1 (by simpa using h3:(s.Timers.any λx=>decide (x < 0) || decide (x>=3))=false) a ha;simp at this;omega
      ·have hb:tbad c s i=false:=by
        cases hq:tbad c s i with
        | false=>rfl
        | true=>exact absurd (F8.2 ⟨i,F6.2 (FT.1 hx).1,hq⟩) h4
       unfold tbad at hb;rw [hx,ht,hv] at hb;dsimp only at hb;rw [H6,JC,JC] at hb;obtain ⟨h5,h6⟩:=hb;refine ⟨λhk=>?_,λhk=>?_⟩
       ·rcases h5 with h5 | h5
        ·exact absurd (by simpa using h5) hk
        ·simpa using h5
       ·rcases h6 with h6 | h6
        ·simp [hk] at h6
        ·simpa using h6
 ·intro h;obtain ⟨a1,a2,a3,a4,a5,a6,a7,a8⟩:=h;rw [if_neg om_,if_neg,if_neg,if_neg]
  ·intro hx;obtain ⟨i,hi,hq⟩:=F8.1 hx;have hi:=F6.1 hi;have e1:c.Signals[i]?=some c.Signals[i]:=gE_ hi;have e2:s.Timers[i]?=some s.Timers[i]:=gE_ om_;have e3:s.Values[i]?=some s.Values[i]:=gE_ om_;unfold tbad at hq;rw [e1,e2,e3] at hq;dsimp only at hq;obtain ⟨k1,k2⟩:=a8 i _ _ _ e1 e2 e3;by_cases hk:c.Signals[i].Kind=2
   ·rw [k2 hk] at hq;simp [hk] at hq
   ·rw [k1 hk] at hq;simp [hk] at hq
  ·intro hx;obtain ⟨a,ha,hq⟩:=F8.1 hx;have:=a7 a ha;simp at hq;omega
  ·intro hx;obtain ⟨a,ha,hq⟩:=F8.1 hx;have:=a6 a ha;simp at hq;omega
theorem Kh {c:Aa} {s:Ad} (hc:Rc c):m56 FF c s=some (B5 c s):=by
 unfold m56;rw [hc.ck,ob_,zf_,cf_,DD hc.rt.bd];rfl
abbrev z0:Ad:=⟨[],[],[],[],[]⟩
theorem DC {c:Aa} {s:Ad} (hc:Rc c) (hf:Fit c s):match stl c 65 s with
  | some t=>∃ l,m90 FF c s=some (t,0,l)/\l.length<=2000/\Cs l (CW c 65 s)
  | none=>m90 FF c s=some (z0,21,[]):=by
 have hb:=hc.rt.bd;have h1:=hb.a';have h2:=hb.i;have h3:=hb.s;have hS:cS c=2 * cA c + c.Inputs.length:=rfl;have h:=Jv hc.rt 65 FF 0 s [] om_ uF hf smp_;rw [n0] at h;unfold m90 M5;rw [Kh hc,(Et hb).2 hf,ob_,zf_,cf_,Md (hf.sm hb),ob_,ob_];dsimp only;rw [zf_,cf_,hb.wa,Ar om_ om_,show ((2 * cA c:Nat):Int) + (c.Inputs.length:Int)=(cS c:Int) by omega];unfold NN tup;dsimp only;cases hs:stl c 65 s with
 | none=>rw [hs] at h;obtain ⟨q,h⟩:=h;rw [h];rfl
 | some t=>
  rw [hs] at h;obtain ⟨l,z,h,hl,hC⟩:=h;obtain ⟨_,⟨k1,k2,k3⟩,_⟩:=Nn hf hs;rw [h];refine ⟨l,?_,hl,hC.iff λx=>by simp⟩;rw [ob_,ob_];dsimp only;rw [zf_,cf_,← k1,← k2,← k3]
def lin (s:Ad) (k:Int):Bool:=(vals s).getD k.toNat false
def vlv (c:Aa) (s:Ad) (i:Nat):Bool:=if lin s (c.Plus.getD i 0)=lin s (c.Minus.getD i 0) then s.Valves.getD i false else lin s (c.Plus.getD i 0)
def Nh (v:Bool) (e:Int):Int:=if v=true then (if e=2\/e=1 then e else 1) else (if e=0\/e=3 then e else 3)
def rnd (c:Aa) (s:Ad):Ad:=⟨(List.range s.Ends.length).map λi=>Nh (vlv c s i) (s.Ends.getD i 0),(List.range s.Valves.length).map (vlv c s),s.Inputs,s.Values,s.Timers⟩
theorem Qi {c:Aa} {s:Ad} (h:Fit c s):Fit c (rnd c s):=by
 refine ⟨by simp [rnd,h.e],by simp [rnd,h.v],h.i,h.x,h.t,?_,h.tt,h.k⟩;intro a ha;obtain ⟨i,hi,rfl⟩:=GE.1 ha;have hi:=F6.1 hi;have:=h.ee s.Ends[i] (GA hi);rw [FU,gE_ hi,H3];generalize s.Ends[i]=e at this;unfold Nh;split <;> split <;> omega
theorem Wv {c:Aa} {s:Ad} (hb:Bd_ c) (h:Fit c s) {k:Nat} (hk:k < cL c):m91 FF c s (k:Int)=some (lin s (k:Int)):=by
 have h1:=hb.a';have h2:=hb.i;have h3:=hb.s;have hS:cS c=2 * cA c + c.Inputs.length:=rfl;have hL:cL c=cS c + c.Signals.length:=rfl;have hel:(Yx s).length=2 * cA c:=by unfold Yx;rw [Pr,h.e]
 unfold m91 lin;rw [hb.wa,Ao,G6,FU];by_cases h4:k < 2 * cA c
 ·rw [dt_ h4,ct_];have hdiv:(k:Int).tdiv 2=((k / 2:Nat):Int):=by
   rw [Int.tdiv_eq_ediv_of_nonneg om_];omega
  have hmod:(k:Int).tmod 2=((k % 2:Nat):Int):=by
   rw [Int.tmod_eq_emod_of_nonneg om_];omega
  have hv:(vals s)[k]?=(Yx s)[k]?:=by
   unfold vals pre;rw [GG,FY om_]
  have hk2:k / 2 < s.Ends.length:=by rw [h.e];omega
  have he:s.Ends[k / 2]?=some s.Ends[k / 2]:=gE_ hk2;rw [hdiv,hmod,Ar om_ om_,Am,he,ob_,hv];unfold Yx;rw [B3,he];have hm2:k % 2=0\/k % 2=1:=by omega
  rcases hm2 with e | e <;> rw [e] <;> rfl
 ·rw [df_ h4,cf_,Ar om_ om_,show (k:Int) - ((2 * cA c:Nat):Int)=((k - 2 * cA c:Nat):Int) by omega,Ao];by_cases h5:k - 2 * cA c < s.Inputs.length
  ·rw [dt_ h5,ct_,Am,gE_ h5,ob_];unfold vals pre;rw [GG,F5 om_,hel,FY h5,gE_ h5];rfl
  ·rw [df_ h5,cf_,Ar (by have:=h.i;omega) om_,show ((k - 2 * cA c:Nat):Int) - (s.Inputs.length:Int)=((k - 2 * cA c - s.Inputs.length:Nat):Int) by omega,Am];have h6:k - 2 * cA c - s.Inputs.length < s.Values.length:=by have:=h.i;have:=h.x;omega
   rw [gE_ h6,ob_];unfold vals pre;rw [GG,F5 om_,hel,F5 om_,gE_ h6];rfl
end Go.Pn
namespace Go.Pn
open Go
theorem plus_at {c:Aa} (hc:Rt c) {i:Nat} (hi:i < cA c):∃ p m:Nat,c.Plus[i]?=some (p:Int)/\c.Minus[i]?=some (m:Int)/\p < cL c/\m < cL c/\c.Plus.getD i 0=(p:Int)/\c.Minus.getD i 0=(m:Int):=by
 have h1:i < c.Plus.length:=by rw [hc.plus];exact hi
 have h2:i < c.Minus.length:=by rw [hc.minus];exact hi
 have h3:=hc.lines c.Plus[i] (GK _ (GA h1));have h4:=hc.lines c.Minus[i] (GJ _ (GA h2));have e1:((c.Plus[i].toNat:Nat):Int)=c.Plus[i]:=by omega
 have e2:((c.Minus[i].toNat:Nat):Int)=c.Minus[i]:=by omega
 refine ⟨c.Plus[i].toNat,c.Minus[i].toNat,?_,?_,by omega,by omega,?_,?_⟩
 ·rw [gE_ h1,e1]
 ·rw [gE_ h2,e2]
 ·rw [FU,gE_ h1,e1];rfl
 ·rw [FU,gE_ h2,e2];rfl
theorem endn_eq (v:Bool) (e:Int):(bif (e != (bif v then ((2:Int),(1:Int)) else ((0:Int),(3:Int))).1) && (e != (bif v then ((2:Int),(1:Int)) else ((0:Int),(3:Int))).2) then (bif v then ((2:Int),(1:Int)) else ((0:Int),(3:Int))).2 else e)=Nh v e:=by
 unfold Nh;cases v with
 | true=>
  simp only [ct_,if_true];by_cases h:e=2
  ·simp [h]
  ·by_cases h1:e=1
   ·simp [h1]
   ·rw [show (e != 2)=true by simpa using h,show (e != 1)=true by simpa using h1,if_neg om_];rfl
 | false=>
  simp only [cf_];by_cases h:e=0
  ·simp [h]
  ·by_cases h1:e=3
   ·simp [h1]
   ·rw [show (e != 0)=true by simpa using h,show (e != 3)=true by simpa using h1];simp [h,h1]
def rnPi (c:Aa) (t:Ad) (i:Nat) (x:Int):Prop:=∃ j:Nat,j < i/\x=((cL c + j:Nat):Int)/\(lin t (c.Plus.getD j 0) && lin t (c.Minus.getD j 0))=true
def rnP (c:Aa) (t:Ad) (x:Int):Prop:=rnPi c t (cA c) x
theorem Zx {c:Aa} {t:Ad} {i:Nat} {x:Int}:rnPi c t (i + 1) x↔rnPi c t i x\/(x=((cL c + i:Nat):Int)/\(lin t (c.Plus.getD i 0) && lin t (c.Minus.getD i 0))=true):=by
 constructor
 ·rintro ⟨j,h1,h2,h3⟩;by_cases h:j=i
  ·subst h;exact .inr ⟨h2,h3⟩
  ·exact .inl ⟨j,by omega,h2,h3⟩
 ·rintro (⟨j,h1,h2,h3⟩ | ⟨h2,h3⟩)
  ·exact ⟨j,by omega,h2,h3⟩
  ·exact ⟨i,by omega,h2,h3⟩
theorem Zw {c:Aa} {t:Ad} {x:Int}:¬ rnPi c t 0 x:=λ⟨_,h,_⟩=>by omega
theorem Xa {c:Aa} {s:Ad} (hc:Rc c) (hf:Fit c s):match stl c 65 s with
  | some t=>∃ l,m57 FF c s=some (rnd c t,0,l)/\l.length<=3000/\∀ x,x∈l↔CW c 65 s x\/rnP c t x
  | none=>m57 FF c s=some (z0,21,[]):=by
 have hb:=hc.rt.bd;have h1:=hb.a';have h2:=hb.i;have h3:=hb.s;have hS:cS c=2 * cA c + c.Inputs.length:=rfl;have hL:cL c=cS c + c.Signals.length:=rfl;have h:=DC hc hf;unfold m57;cases hs:stl c 65 s with
 | none=>rw [hs] at h;rw [h];rfl
 | some t=>
  rw [hs] at h;obtain ⟨l0,h,hl0,hC0⟩:=h;obtain ⟨ht,_,_⟩:=Nn hf hs;rw [h,ob_];dsimp only;rw [zf_,cf_,Wz (ht.sm hb),ob_];have hel:=ht.e;have hvl:=ht.v;obtain ⟨v,hI,hl⟩:=Pi (L:=Lc FF c (t,0,l0)) (mk:=λi (v:LG×LG×LH)=>((i:Int),v.1,v.2.1,v.2.2)) (N:=cA c) (I:=λi v=>(v.1.length<=2000 + i/\∀ x,x∈v.1↔CW c 65 s x\/rnPi c t i x)/\v.2.1=upd (λi=>Nh (vlv c t i) (t.Ends.getD i 0)) t.Ends i/\v.2.2=upd (vlv c t) t.Valves i) (λn i v hi hI=>by
   obtain ⟨l,E,V⟩:=v;obtain ⟨⟨hll,hmm⟩,rfl,rfl⟩:=hI;obtain ⟨p,m,e1,e2,hp,hm,g1,g2⟩:=plus_at hc.rt hi;have e4:(upd (λi=>Nh (vlv c t i) (t.Ends.getD i 0)) t.Ends i)[i]?=some t.Ends[i]:=by rw [Fv (GB i)];exact gE_ om_
   have e5:(upd (vlv c t) t.Valves i)[i]?=some t.Valves[i]:=by rw [Fv (GB i)];exact gE_ om_
   have e6:t.Ends.getD i 0=t.Ends[i]:=by rw [FU,gE_ om_];rfl
   have e7:t.Valves.getD i false=t.Valves[i]:=by rw [FU,gE_ om_];rfl
   have hsetE:∀ y,y=Nh (vlv c t i) (t.Ends.getD i 0)->(upd (λi=>Nh (vlv c t i) (t.Ends.getD i 0)) t.Ends i).set i y=upd (λi=>Nh (vlv c t i) (t.Ends.getD i 0)) t.Ends (i + 1):=λy hy=>Kq om_ hy;have hsetV:∀ y,y=vlv c t i->(upd (vlv c t) t.Valves i).set i y=upd (vlv c t) t.Valves (i + 1):=λy hy=>Kq om_ hy;have hkeep:vlv c t i=t.Valves[i]->upd (vlv c t) t.Valves i=upd (vlv c t) t.Valves (i + 1):=λhy=>by
    rw [← hsetV t.Valves[i] hy.symm];refine JF λj=>?_;by_cases hj:j=i
    ·subst hj;rw [H0 (by rw [Qe om_];omega),e5]
    ·rw [H5 om_]
   have hkeepE:Nh (vlv c t i) (t.Ends.getD i 0)=t.Ends[i]->upd (λi=>Nh (vlv c t i) (t.Ends.getD i 0)) t.Ends i=upd (λi=>Nh (vlv c t i) (t.Ends.getD i 0)) t.Ends (i + 1):=λhy=>by
    rw [← hsetE t.Ends[i] hy.symm];refine JF λj=>?_;by_cases hj:j=i
    ·subst hj;rw [H0 (by rw [Qe om_];omega),e4]
    ·rw [H5 om_]
   have hvi:vlv c t i=if lin t (p:Int)=lin t (m:Int) then t.Valves[i] else lin t (p:Int):=by
    unfold vlv;rw [g1,g2,e7]
   -- the valve
   have hV:∀ (k:(LG×LH)->Option (Int×LG×LG×LH)),((bif (lin t (p:Int) && lin t (m:Int)) then (app l ([(wr ((wr ((wr ((wr ((2:Int) * (c).Actuators)) + (((c).Inputs).length:Int))) + (((c).Signals).length:Int))) + (i:Int)))]:LG)).bind λx16=>some (x16,(upd (vlv c t) t.Valves i)) else (bif (lin t (p:Int) || lin t (m:Int)) then (idx (upd (vlv c t) t.Valves i) (i:Int)).bind λx19=>some ((upd (vlv c t) t.Valves i).set ((i:Int)).toNat (lin t (p:Int))) else some (upd (vlv c t) t.Valves i)).bind λz18=>some (l,z18)).bind k)=k ((if (lin t (p:Int) && lin t (m:Int))=true then l ++ [((cL c + i:Nat):Int)] else l),upd (vlv c t) t.Valves (i + 1)):=by
    intro k;have w1:wr (((2 * cA c:Nat):Int) + (c.Inputs.length:Int))=((cS c:Nat):Int):=by rw [Ar om_ om_];omega
    have w2:wr (((cS c:Nat):Int) + (c.Signals.length:Int))=((cL c:Nat):Int):=by rw [Ar om_ om_];omega
    have w3:wr (((cL c:Nat):Int) + (i:Int))=((cL c + i:Nat):Int):=by rw [Ar om_ om_];omega
    rw [hb.wa,w1,w2,w3,Am,e5,G6];dsimp only at hll;cases hP:lin t (p:Int) with
    | true=>
     cases hM:lin t (m:Int) with
     | true=>
      unfold app;rw [Bool.and_self,ct_,if_pos so_,hkeep (by rw [hvi,hP,hM];simp)];rfl
     | false=>
      rw [hsetV true (by rw [hvi,hP,hM];simp)];rfl
    | false=>
     cases hM:lin t (m:Int) with
     | true=>
      rw [hsetV false (by rw [hvi,hP,hM];simp)];rfl
     | false=>
      rw [hkeep (by rw [hvi,hP,hM];simp)];rfl
   refine ⟨((if (lin t (p:Int) && lin t (m:Int))=true then l ++ [((cL c + i:Nat):Int)] else l),upd (λi=>Nh (vlv c t i) (t.Ends.getD i 0)) t.Ends (i + 1),upd (vlv c t) t.Valves (i + 1)),⟨?_,rfl,rfl⟩,?_⟩
   ·dsimp only at hll hmm ⊢;refine ⟨by split <;> (try simp) <;> omega,λx=>?_⟩
    rw [E3 hmm,Zx,g1,g2,or_assoc]
   ·rw [Lc];dsimp only;rw [hb.a,Ao,dt_ hi,ct_,Am,e1,ob_,Wv hb ht hp,ob_,Am,e2,ob_,Wv hb ht hm,ob_,← hb.a,hV];dsimp only;have e8:(upd (vlv c t) t.Valves (i + 1))[i]?=some (vlv c t i):=by
     rw [← hsetV _ rfl,H0 (by rw [Qe om_];omega)]
    rw [Am,e4,ob_,Am,e8,ob_,cs_,ob_,ob_,Aq om_];have hE:((bif (t.Ends[i] != (bif vlv c t i then ((2:Int),(1:Int)) else ((0:Int),(3:Int))).1) && (t.Ends[i] != (bif vlv c t i then ((2:Int),(1:Int)) else ((0:Int),(3:Int))).2) then some ((upd (λi=>Nh (vlv c t i) (t.Ends.getD i 0)) t.Ends i).set ((i:Int)).toNat (bif vlv c t i then ((2:Int),(1:Int)) else ((0:Int),(3:Int))).2) else some (upd (λi=>Nh (vlv c t i) (t.Ends.getD i 0)) t.Ends i)))=some (upd (λi=>Nh (vlv c t i) (t.Ends.getD i 0)) t.Ends (i + 1)):=by
     have hq:=endn_eq (vlv c t i) t.Ends[i];rw [G6];cases hcnd:(t.Ends[i] != (bif vlv c t i then ((2:Int),(1:Int)) else ((0:Int),(3:Int))).1) && (t.Ends[i] != (bif vlv c t i then ((2:Int),(1:Int)) else ((0:Int),(3:Int))).2) with
     | true=>
      rw [hcnd,ct_] at hq;rw [ct_,hsetE _ (by rw [e6,← hq])]
     | false=>
      rw [hcnd,cf_] at hq;rw [cf_,hkeepE (by rw [e6,← hq])]
    rw [hE,ob_]) (λn v _=>by
   rw [Lc];dsimp only;rw [hb.a,Ao,df_ om_,cf_]) FF 0 (l0,t.Ends,t.Valves) om_ uF ⟨⟨by dsimp only;omega,λx=>by simp [hC0.2 x,Zw]⟩,Gw.symm,Gw.symm⟩
  obtain ⟨l,E,V⟩:=v;obtain ⟨⟨hll,hmm⟩,rfl,rfl⟩:=hI;try dsimp only at hl hll hmm
  rw [n0] at hl;refine ⟨l,?_,by omega,hmm⟩;show ((Lc FF c (t,0,l0) FF ((0:Int),l0,t.Ends,t.Valves)).bind _)=_;rw [hl,ob_];unfold rnd tup;dsimp only;have e1:=Kr (f:=λi=>Nh (vlv c t i) (t.Ends.getD i 0)) (l:=t.Ends);have e2:=Kr (f:=vlv c t) (l:=t.Valves);rw [hel] at e1;rw [hvl] at e2;rw [e1,e2,hel,hvl]
def rst (c:Aa):Nat->Ad->Option Ad
 | 0,_=>none
 | k + 1,s=>match stl c 65 s with
  | none=>none
  | some t=>if sst (rnd c t) s=true then some s else rst c k (rnd c t)
def Qt (c:Aa) (s:Ad):Prop:=∃ t,stl c 65 s=some t/\sst (rnd c t) s=true
theorem ET {c:Aa}:∀ {k:Nat} {s t:Ad},Fit c s->rst c k s=some t->Fit c t/\t.Inputs=s.Inputs/\Qt c t
 | 0,_,_,_,h=>by cases h
 | k + 1,s,t,hf,h=>by
  unfold rst at h;cases hs:stl c 65 s with
  | none=>rw [hs] at h;cases h
  | some u=>
   rw [hs] at h;try dsimp only at h
   obtain ⟨hu,hk,_⟩:=Nn hf hs;split at h
   ·rename_i h1;obtain rfl:=Option.some.inj h;exact ⟨hf,rfl,u,hs,h1⟩
   ·obtain ⟨h1,h2,h3⟩:=ET (Qi hu) h;exact ⟨h1,h2.trans hk.i,h3⟩
def rstP (c:Aa):Nat->Ad->Int->Prop
 | 0,_,_=>False
 | k + 1,s,x=>match stl c 65 s with
  | none=>False
  | some t=>(CW c 65 s x\/rnP c t x)\/(sst (rnd c t) s=false/\rstP c k (rnd c t) x)
theorem DL {a b:LG} (h:a.length + b.length<=400000000):∃ l,m58 FF a b=some l/\l.length<=a.length + b.length/\Cs l λx=>x∈a\/x∈b:=by
 unfold m58;obtain ⟨r1,r2,e2,e3,l3,hC⟩:=Wh (l:=a ++ b) so_;rw [Qo om_ om_,ob_,e2,ob_,e3];exact ⟨r2,rfl,by rw [FR] at l3;omega,hC.iff λx=>GL⟩
theorem Gc {c:Aa} (hc:Rc c):∀ (k n j:Nat) (s:Ad) (q:LG),j + k=65->k < n->Fit c s->q.length<=3000 * j ->
  match rst c k s with
  | some t=>∃ l,Dx FF c n ((j:Int),s,q)=some (.ret (t,0,l))/\l.length<=200000/\Cs l λx=>x∈q\/rstP c k s x
  | none=>Dx FF c n ((j:Int),s,q)=some (.ret (z0,21,[]))\/∃ q',Dx FF c n ((j:Int),s,q)=some (.brk q')
 | _,0,_,_,_,_,h,_,_=>by omega
 | 0,n + 1,j,s,q,h1,h2,hf,hq=>by
  unfold rst Dx;dsimp only;rw [show decide ((j:Int) < 65)=false by simp;omega,cf_];exact .inr ⟨_,rfl⟩
 | k + 1,n + 1,j,s,q,h1,h2,hf,hq=>by
  have hb:=hc.rt.bd;have h:=Xa hc hf;unfold rst Dx;dsimp only;rw [show decide ((j:Int) < 65)=true by simp;omega,ct_];cases hs:stl c 65 s with
  | none=>rw [hs] at h;rw [h];exact .inl rfl
  | some t=>
   rw [hs] at h;obtain ⟨l,h,hl,hmm⟩:=h;obtain ⟨ht,_,_⟩:=Nn hf hs;have hr:=Qi ht;obtain ⟨l2,e2,hl2,hC2⟩:=DL (a:=q) (b:=l) om_;rw [h,ob_];dsimp only;rw [zf_,cf_,e2,ob_,Qs (n:=1000) (hr.sm hb) uF om_,ob_];cases hq2:sst (rnd c t) s with
   | true=>
    rw [if_pos rfl,ct_,Eb.1 hq2];refine ⟨l2,rfl,by omega,hC2.iff λx=>?_⟩;rw [hmm,rstP,hs];dsimp only;rw [hq2];simp
   | false=>
    rw [if_neg smp_,cf_,Aq om_];have ih:=Gc hc k n (j + 1) (rnd c t) l2 om_ om_ hr om_;cases hst:rst c k (rnd c t) with
    | none=>rw [hst] at ih;exact ih
    | some u=>
     rw [hst] at ih;obtain ⟨l',e4,hl',hC⟩:=ih;refine ⟨l',e4,hl',hC.iff λx=>?_⟩;rw [hC2.2];show (x∈q\/x∈l)\/rstP c k (rnd c t) x↔_;rw [hmm,rstP,hs];dsimp only;rw [hq2];simp [or_assoc]
theorem DW {c:Aa} {s:Ad} (hc:Rc c) (hf:Fit c s):match rst c 65 s with
  | some t=>∃ l,m26 FF c s=some (t,0,l)/\l.length<=200000/\Cs l (rstP c 65 s)
  | none=>m26 FF c s=some (z0,21,[]):=by
 have h:=Gc hc 65 FF 0 s [] om_ uF hf smp_;rw [n0] at h;unfold m26;rw [Kh hc,(Et hc.rt.bd).2 hf,ob_,zf_,cf_];cases hs:rst c 65 s with
 | none=>
  rw [hs] at h;rcases h with h | ⟨q,h⟩ <;> rw [h] <;> rfl
 | some t=>rw [hs] at h;obtain ⟨l,h,hl,hC⟩:=h;rw [h];exact ⟨l,rfl,hl,hC.iff λx=>by simp⟩
theorem Ve {c:Aa}:∀ {n z},Dj FF c n z=(Dx FF c n z).map λo=>match o with | .brk q=>.brk q | .ret r=>.ret (r.1,r.2.2,r.2.1):=by
 intro n
 induction n with
 | zero=>intro z;rfl
 | succ n ih=>
  intro z;rw [Dj,Dx];cases decide (z.1 < 65) with
  | false=>rfl
  | true=>
   rw [ct_,ct_];cases m57 FF c z.2.1 with
   | none=>rfl
   | some x=>
    rw [ob_,ob_];cases x.2.1 != 0 with
    | true=>rfl
    | false=>
     rw [cf_,cf_];cases m58 FF z.2.2 x.2.2 with
     | none=>rfl
     | some y=>
      rw [ob_,ob_];cases m59 FF x.1 z.2.1 with
      | none=>rfl
      | some b=>
       rw [ob_,ob_];cases b with
       | true=>rfl
       | false=>rw [cf_,cf_];exact ih
theorem Yr {c:Aa} {s:Ad} (hc:Rc c) (hf:Fit c s):match rst c 65 s with
  | some t=>∃ l,Ys FF c s=some (t,l,0)/\l.length<=200000/\Cs l (rstP c 65 s)
  | none=>Ys FF c s=some (z0,[],21):=by
 have h:=Gc hc 65 FF 0 s [] om_ uF hf smp_;rw [n0] at h;unfold Ys;rw [Kh hc,(Et hc.rt.bd).2 hf,ob_,zf_,cf_,Ve];cases hs:rst c 65 s with
 | none=>
  rw [hs] at h;rcases h with h | ⟨q,h⟩ <;> rw [h] <;> rfl
 | some t=>rw [hs] at h;obtain ⟨l,h,hl,hC⟩:=h;rw [h];exact ⟨l,rfl,hl,hC.iff λx=>by simp⟩
def qtE (c:Aa) (s:Ad):Int:=if B5 c s=0 then (match stl c 65 s with | some t=>if sst (rnd c t) s=true then 0 else 14 | none=>14) else B5 c s
theorem Xd {c:Aa} {s:Ad} (hc:Rc c):m28 FF c s=some (qtE c s):=by
 unfold m28 m60 qtE;rw [Kh hc,ob_];by_cases h0:B5 c s=0
 ·have hf:=(Et hc.rt.bd).1 h0;have h:=Xa hc hf;rw [if_pos h0,h0,zf_,cf_];cases hs:stl c 65 s with
  | none=>rw [hs] at h;rw [h];rfl
  | some t=>
   rw [hs] at h;obtain ⟨l,h,hl⟩:=h;obtain ⟨ht,_,_⟩:=Nn hf hs;rw [h,ob_];dsimp only;rw [show ((0:Int) == 0)=true by rfl,ct_,Qs (n:=1000) ((Qi ht).sm hc.rt.bd) uF om_];cases sst (rnd c t) s <;> rfl
 ·rw [if_neg h0,show (B5 c s != 0)=true by simpa using h0,ct_,ob_];dsimp only;rw [show (B5 c s != 0)=true by simpa using h0,ct_]
theorem Wp {c:Aa} {s:Ad} (hb:Bd_ c):qtE c s=0↔Fit c s/\Qt c s:=by
 unfold qtE Qt;rw [← Et hb];by_cases h0:B5 c s=0
 ·rw [if_pos h0];cases stl c 65 s with
  | none=>simp
  | some t=>simp [h0]
 ·rw [if_neg h0];simp [h0]
def act (s:Ad) (x:Af):Option Ad:=
 if x.Kind=0 then (match idx s.Ends x.Index with
  | some e=>if e=1 then some { s with Ends:=s.Ends.set x.Index.toNat 2 } else if e=3 then some { s with Ends:=s.Ends.set x.Index.toNat 0 } else none
  | none=>none)
 else if x.Kind=1 then (match idx s.Timers x.Index with
  | some t=>if t=1 then some { s with Values:=s.Values.set x.Index.toNat true,Timers:=s.Timers.set x.Index.toNat 2 } else none
  | none=>none)
 else (match idx s.Inputs x.Index with
  | some v=>if v=x.Value then none else some { s with Inputs:=s.Inputs.set x.Index.toNat x.Value }
  | none=>none)
def aft (c:Aa) (s:Ad) (x:Af):Ad×Int:=
 if x.Kind < 0\/3<=x.Kind then (z0,1) else match act s x with
  | none=>(z0,14)
  | some s'=>match rst c 65 s' with
   | none=>(z0,21)
   | some t=>(t,0)
theorem Ux {α:Type} {l:List α} {i:Nat} {y a:α} (h:a∈l.set i y):a∈l\/a=y:=by
 rcases List.mem_or_eq_of_mem_set h with h | h
 ·exact .inl h
 ·exact .inr h
theorem My {c:Aa} {s s':Ad} {x:Af} (h:Fit c s) (ha:act s x=some s'):Fit c s':=by
 unfold act at ha;split at ha
 ·split at ha
  ·rename_i e he;split at ha
   ·obtain rfl:=Option.some.inj ha;exact ⟨(HR ..).trans h.e,h.v,h.i,h.x,h.t,λa ha=>(Ux ha).elim (h.ee a) (λe=>by omega),h.tt,h.k⟩
   ·split at ha
    ·obtain rfl:=Option.some.inj ha;exact ⟨(HR ..).trans h.e,h.v,h.i,h.x,h.t,λa ha=>(Ux ha).elim (h.ee a) (λe=>by omega),h.tt,h.k⟩
    ·cases ha
  ·cases ha
 ·split at ha
  ·split at ha
   ·rename_i t ht;split at ha
    ·rename_i h1;obtain rfl:=Option.some.inj ha;obtain ⟨i0,i1,i2⟩:=Bo ht;refine ⟨h.e,h.v,h.i,(HR ..).trans h.x,(HR ..).trans h.t,h.ee,λa ha=>(Ux ha).elim (h.tt a) (λe=>by omega),?_⟩;intro i y t' v' hy ht' hv';dsimp only at ht' hv';by_cases e:i=x.Index.toNat
     ·subst e;rw [H0 om_] at ht';rw [H0 (by have:=h.x;have:=h.t;omega)] at hv';obtain rfl:=Option.some.inj ht';obtain rfl:=Option.some.inj hv';refine ⟨λhk=>?_,λ_=>rfl⟩;have hlt:x.Index.toNat < s.Values.length:=by rw [h.x,← h.t];exact (FT.1 i2).1
      have hvo:s.Values[x.Index.toNat]?=some s.Values[x.Index.toNat]:=gE_ hlt;have:=(h.k _ y t _ hy i2 hvo).1 hk;omega
     ·rw [H5 om_] at ht' hv';exact h.k i y t' v' hy ht' hv'
    ·cases ha
   ·cases ha
  ·split at ha
   ·split at ha
    ·cases ha
    ·obtain rfl:=Option.some.inj ha;exact ⟨h.e,h.v,(HR ..).trans h.i,h.x,h.t,h.ee,h.tt,h.k⟩
   ·cases ha
def afP (c:Aa) (s:Ad) (x:Af) (y:Int):Prop:=(aft c s x).2=0/\∃ s',act s x=some s'/\rstP c 65 s' y
theorem DV {c:Aa} {s:Ad} {x:Af} (hc:Rc c) (hf:Fit c s):∃ l,m29 FF c s x=some ((aft c s x).1,l,(aft c s x).2)/\l.length<=200000/\Cs l (afP c s x):=by
 have hb:=hc.rt.bd;unfold m29 afP aft;rw [Wz (hf.sm hb),ob_];by_cases hk:x.Kind < 0\/3<=x.Kind
 ·rw [if_pos hk,show (decide (x.Kind < 0) || decide (x.Kind>=(3:Int)))=true by simpa using hk];exact ⟨_,rfl,by simp,Cs.nil λx h=>by cases h.1⟩
 ·rw [if_neg hk,show (decide (x.Kind < 0) || decide (x.Kind>=(3:Int)))=false by simp;omega,cf_]
  -- what the act gives
  have key:∃ r:Bool×LG×LH×LH×LH×LG,((idx (List.range 3) x.Kind).bind λx6=>(bif x6 == 0 then m62 FF x (tup s).1 (tup s).2.1 (tup s).2.2.1 (tup s).2.2.2.1 (tup s).2.2.2.2 else bif x6 == 1 then m63 FF x (tup s).1 (tup s).2.1 (tup s).2.2.1 (tup s).2.2.2.1 (tup s).2.2.2.2 else bif x6 == 2 then m64 FF x (tup s).1 (tup s).2.1 (tup s).2.2.1 (tup s).2.2.2.1 (tup s).2.2.2.2 else none))=some r /\
    (match act s x with | none=>r.1=false | some s'=>r=(true,s'.Ends,s'.Valves,s'.Inputs,s'.Values,s'.Timers)):=by
   unfold tup act;dsimp only;have hkk:x.Kind=0\/x.Kind=1\/x.Kind=2:=by omega
   rcases hkk with k | k | k <;> rw [k]
   ·rw [show idx (List.range 3) (0:Int)=some 0 by rfl,ob_,show ((0:Nat) == 0)=true by rfl,ct_,if_pos rfl];unfold m62;by_cases hr:x.Index < 0\/(s.Ends.length:Int)<=x.Index
    ·rw [show (decide (x.Index < 0) || decide (x.Index>=(s.Ends.length:Int)))=true by simpa using hr,ct_];have:idx s.Ends x.Index=none:=by
      cases he:idx s.Ends x.Index with
      | none=>rfl
      | some e=>have:=Bo he;omega
     rw [this];exact ⟨_,rfl,rfl⟩
    ·rw [show (decide (x.Index < 0) || decide (x.Index>=(s.Ends.length:Int)))=false by simp;omega,cf_];obtain ⟨e,he,_⟩:=Ph (xs:=s.Ends) (i:=x.Index) om_ om_;rw [he,ob_];dsimp only;by_cases h1:e=1
     ·rw [if_pos h1,show (e == 1)=true by simpa using h1,ct_];exact ⟨_,rfl,rfl⟩
     ·rw [if_neg h1,show (e == 1)=false by simpa using h1,cf_];by_cases h3:e=3
      ·rw [if_pos h3,show (e == 3)=true by simpa using h3,ct_];exact ⟨_,rfl,rfl⟩
      ·rw [if_neg h3,show (e == 3)=false by simpa using h3,cf_];exact ⟨_,rfl,rfl⟩
   ·rw [show idx (List.range 3) (1:Int)=some 1 by rfl,ob_,show ((1:Nat) == 0)=false by rfl,cf_,show ((1:Nat) == 1)=true by rfl,ct_,if_neg om_,if_pos rfl];unfold m63;by_cases hr:x.Index < 0\/(s.Timers.length:Int)<=x.Index
    ·rw [show (decide (x.Index < 0) || decide (x.Index>=(s.Timers.length:Int)))=true by simpa using hr,ct_,ob_];have:idx s.Timers x.Index=none:=by
      cases he:idx s.Timers x.Index with
      | none=>rfl
      | some e=>have:=Bo he;omega
     rw [this];exact ⟨_,rfl,rfl⟩
    ·rw [show (decide (x.Index < 0) || decide (x.Index>=(s.Timers.length:Int)))=false by simp;omega,cf_];obtain ⟨e,he,_⟩:=Ph (xs:=s.Timers) (i:=x.Index) om_ om_;obtain ⟨v,hv,_⟩:=Ph (xs:=s.Values) (i:=x.Index) om_ (by have:=hf.x;have:=hf.t;omega);rw [he,ob_,ob_];dsimp only;by_cases h1:e=1
     ·rw [if_pos h1,show (e != 1)=false by simpa using h1,cf_,ob_,hv];exact ⟨_,rfl,rfl⟩
     ·rw [if_neg h1,show (e != 1)=true by simpa using h1,ct_];exact ⟨_,rfl,rfl⟩
   ·rw [show idx (List.range 3) (2:Int)=some 2 by rfl,ob_,show ((2:Nat) == 0)=false by rfl,cf_,show ((2:Nat) == 1)=false by rfl,cf_,show ((2:Nat) == 2)=true by rfl,ct_,if_neg om_,if_neg om_];unfold m64;by_cases hr:x.Index < 0\/(s.Inputs.length:Int)<=x.Index
    ·rw [show (decide (x.Index < 0) || decide (x.Index>=(s.Inputs.length:Int)))=true by simpa using hr,ct_,ob_];have:idx s.Inputs x.Index=none:=by
      cases he:idx s.Inputs x.Index with
      | none=>rfl
      | some e=>have:=Bo he;omega
     rw [this];exact ⟨_,rfl,rfl⟩
    ·rw [show (decide (x.Index < 0) || decide (x.Index>=(s.Inputs.length:Int)))=false by simp;omega,cf_];obtain ⟨e,he,_⟩:=Ph (xs:=s.Inputs) (i:=x.Index) om_ om_;rw [he,ob_,ob_];dsimp only;by_cases h1:e=x.Value
     ·rw [if_pos h1,show (e == x.Value)=true by simpa using h1,ct_];exact ⟨_,rfl,rfl⟩
     ·rw [if_neg h1,show (e == x.Value)=false by simpa using h1,cf_,ob_];exact ⟨_,rfl,rfl⟩
  obtain ⟨r,hr,hm⟩:=key;obtain ⟨x6,h6,hr⟩:=HN.1 hr;rw [h6,ob_,hr,ob_];cases ha:act s x with
  | none=>
   rw [ha] at hm;rw [hm,nf_,ct_];exact ⟨_,rfl,by simp,Cs.nil λx h=>by cases h.1⟩
  | some s'=>
   rw [ha] at hm;subst hm;have h:=Yr hc (My hf ha);dsimp only;rw [nt_,cf_];rw [show (⟨s'.Ends,s'.Valves,s'.Inputs,s'.Values,s'.Timers⟩:Ad)=s' from rfl];cases hs:rst c 65 s' with
   | none=>rw [hs] at h;rw [h];exact ⟨_,rfl,by simp,Cs.nil λx h=>by cases h.1⟩
   | some t=>rw [hs] at h;obtain ⟨l,h,hl,hC⟩:=h;rw [h];exact ⟨_,rfl,hl,hC.iff λx=>by simp⟩
theorem m11_cs {c:Aa} {s:Ad} {x:Af} (hc:Rc c) (hf:Fit c s) (hq:Qt c s):∃ l,m11 FF c s x=some ((aft c s x).1,l,(aft c s x).2)/\l.length<=200000/\Cs l (afP c s x):=by
 obtain ⟨l,h,hl,hC⟩:=DV (x:=x) hc hf;unfold m11;rw [Xd hc,(Wp hc.rt.bd).2 ⟨hf,hq⟩,ob_,zf_,cf_,h];exact ⟨l,rfl,hl,hC⟩
theorem Ki {c:Aa} {s:Ad} {x:Af} (hc:Rc c) (hf:Fit c s) (hq:Qt c s):∃ l,m11 FF c s x=some ((aft c s x).1,l,(aft c s x).2):=
 let ⟨l,h,_⟩:=m11_cs hc hf hq;⟨l,h⟩
end Go.Pn
namespace Go.Pn
open Go
def Ym (s:Ad) (i:Nat):Option Af:=if s.Ends.getD i 0=1\/s.Ends.getD i 0=3 then some ⟨0,(i:Int),false⟩ else none
def CS (s:Ad) (i:Nat):Option Af:=if s.Timers.getD i 0=1 then some ⟨1,(i:Int),false⟩ else none
def pend (s:Ad):List Af:=(List.range s.Ends.length).filterMap (Ym s) ++ (List.range s.Timers.length).filterMap (CS s)
theorem Du {α:Type} {g:Nat->Option α} {n:Nat}:((List.range n).filterMap g).length<=n:=by
 have:=List.length_filterMap_le g (List.range n);rw [G9] at this;exact this
theorem Ro {α:Type} {g:Nat->Option α} {n:Nat}:(List.range (n + 1)).filterMap g=(List.range n).filterMap g ++ (match g n with | some y=>[y] | none=>[]):=by
 rw [HK,List.filterMap_append];cases h:g n <;> simp [h]
theorem Wq {s:Ad} (h:Smst s 1000):(pend s).length<=2000:=by
 have h1:=h.e;have h2:=h.t;have a:=Du (g:=Ym s) (n:=s.Ends.length);have b:=Du (g:=CS s) (n:=s.Timers.length);unfold pend;rw [FR];omega
def BS (c:Aa) (i:Nat):Bool:=((c.Signals[i]?).map (·.Init)).getD false
def ini (c:Aa):Ad:=⟨List.replicate (cA c) 0,List.replicate (cA c) false,List.replicate c.Inputs.length false,(List.range c.Signals.length).map (BS c),List.replicate c.Signals.length 0⟩
theorem Vu {c:Aa} (hc:Rt c):Fit c (ini c):=by
 refine ⟨by simp [ini],by simp [ini],by simp [ini],by simp [ini],by simp [ini],?_,?_,?_⟩
 ·intro a ha;have:=List.eq_of_mem_replicate ha;omega
 ·intro a ha;have:=List.eq_of_mem_replicate ha;omega
 ·intro i x t v hx ht hv;have hi:=(FT.1 hx).1;have ht':(List.replicate c.Signals.length (0:Int))[i]?=some t:=ht;have hv':((List.range c.Signals.length).map (BS c))[i]?=some v:=hv;rw [JG,if_pos hi] at ht';rw [F9,GN hi] at hv';have ht':=Option.some.inj ht';have hv':=Option.some.inj hv';subst ht';refine ⟨λ_=>rfl,λhk=>?_⟩;have:=hc.ini x (GF hx) hk;unfold BS at hv';rw [hx] at hv';have hv':x.Init=v:=hv';rw [← hv',this];rfl
theorem Vf {c:Aa} (hb:Bd_ c):∃ z,Lj c FF ((0:Int),List.replicate c.Signals.length false)=some (z,(List.range c.Signals.length).map (BS c)):=by
 have h3:=hb.s;obtain ⟨v,hv,hl⟩:=Pi (L:=Lj c) (mk:=λi (v:LH)=>((i:Int),v)) (N:=c.Signals.length) (I:=λi v=>v=upd (BS c) (List.replicate c.Signals.length false) i) (λn i v hi hI=>by
  subst hI;refine ⟨_,rfl,?_⟩;have hg:(upd (BS c) (List.replicate c.Signals.length false) i)[i]?=some false:=by rw [Fv (GB i),JG,if_pos hi]
  rw [Lj];dsimp only;rw [Ao,dt_ hi,ct_,Am,gE_ hi,ob_,Am,hg,ob_,Aq om_,G6,Kq (by simpa using hi) (by unfold BS;rw [gE_ hi];rfl)]) (λn v _=>by
  rw [Lj];dsimp only;rw [Ao,df_ om_,cf_]) FF 0 _ om_ uF Gw.symm
 subst hv;try dsimp only at hl
 rw [n0] at hl;rw [hl];have:=Kr (f:=BS c) (l:=List.replicate c.Signals.length false);rw [List.length_replicate] at this;rw [this];exact ⟨_,rfl⟩
theorem Nr {α:Type} {z:α} {n:Nat} (h:n<=1000):mks z (n:Int)=some (List.replicate n z):=by
 unfold mks;rw [if_pos om_,G6]
theorem DX {c:Aa} (hc:Rc c):m25 FF c=some (gates c (ini c),0):=by
 have hb:=hc.rt.bd;have h1:=hb.a';have h2:=hb.i;have h3:=hb.s;obtain ⟨z,hz⟩:=Vf hb;unfold m25;rw [hc.ck,ob_,zf_,cf_,hb.a,Nr om_,ob_,Nr om_,ob_,Nr om_,ob_,Nr om_,ob_,Nr om_,ob_,hz,ob_];dsimp only;rw [show (⟨List.replicate (cA c) 0,List.replicate (cA c) false,List.replicate c.Inputs.length false,(List.range c.Signals.length).map (BS c),List.replicate c.Signals.length 0⟩:Ad)=ini c from rfl,DM hc.rt hc.fw (Vu hc.rt)];rfl
theorem m8_spec {c:Aa} (hc:Rc c):match rst c 65 (gates c (ini c)) with
  | some t=>∃ l,m8 FF c=some (t,0,l)/\l.length<=200000/\Cs l (rstP c 65 (gates c (ini c)))
  | none=>m8 FF c=some (z0,21,[]):=by
 have h:=DW hc (Hq (Vu hc.rt));unfold m8;rw [DX hc,ob_,zf_,cf_];dsimp only;cases hs:rst c 65 (gates c (ini c)) with
 | none=>rw [hs] at h;rw [h];rfl
 | some t=>rw [hs] at h;obtain ⟨l,h,hl,hC⟩:=h;rw [h];exact ⟨l,rfl,hl,hC⟩
end Go.Pn
namespace Go.Pn
open Go
theorem forG {S σ R:Type} {L:Nat->S->R} {mk:Nat->σ->S} {N:Nat} {I:Nat->σ->Prop} {E:σ->R}
  (h:∀ (n i:Nat) s,i < N->I i s->∃ s',I (i + 1) s'/\L (n + 1) (mk i s)=L n (mk (i + 1) s')) (h':∀ (n:Nat) s,I N s->L (n + 1) (mk N s)=E s) :
  ∀ (n i:Nat) s,i<=N->N - i < n->I i s->∃ s',I N s'/\L n (mk i s)=E s'
 | 0,i,_,_,h,_=>by omega
 | n + 1,i,s,h1,h2,hI=>by
  by_cases hi:i < N
  ·obtain ⟨s',h3,h4⟩:=h n i s hi hI;rw [h4];exact forG h h' n (i + 1) s' om_ om_ h3
  ·obtain rfl:i=N:=by omega
   exact ⟨s,hI,h' n s hI⟩
theorem Jw {x:Af} {l:List Af} (h:l.length<=100000):Dq x (l,0)=some (true,(l ++ [x],0)):=by
 unfold Dq;dsimp only;rw [Av so_];rfl
theorem BM {s:Ad} (h:Smst s 1000):NP FF s=some (pend s):=by
 have h1:=h.e;have h2:=h.t;unfold NP NO;obtain ⟨v,hv,hl⟩:=forG (L:=Gj Dq s) (mk:=λi (v:List Af)=>((i:Int),(v,0))) (N:=s.Ends.length) (I:=λi v=>v=(List.range i).filterMap (Ym s)) (E:=λv=>some (.brk ((s.Ends.length:Int),(v,0)))) (λn i v hi hI=>by
  subst hI;refine ⟨_,rfl,?_⟩;have hle:=Du (g:=Ym s) (n:=i);have hg:s.Ends.getD i 0=s.Ends[i]:=by rw [FU,gE_ hi];rfl
  rw [Gj];dsimp only;rw [Ao,dt_ hi,ct_,Am,gE_ hi,ob_,Aq om_,Ro];have hp:Ym s i=if s.Ends[i]=1\/s.Ends[i]=3 then some ⟨0,(i:Int),false⟩ else none:=by unfold Ym;rw [hg]
  rw [hp];by_cases a1:s.Ends[i]=1\/s.Ends[i]=3
  ·rw [show ((s.Ends[i] == 1) || (s.Ends[i] == 3))=true by simpa using a1,if_pos a1,ct_,Jw om_];rfl
  ·rw [show ((s.Ends[i] == 1) || (s.Ends[i] == 3))=false by simpa using a1,if_neg a1,cf_,cf_,G2]) (λn v _=>by
  rw [Gj];dsimp only;rw [Ao,df_ om_,cf_]) FF 0 [] om_ uF rfl
 subst hv;try dsimp only at hl
 rw [n0] at hl;rw [hl,ob_];have hle1:=Du (g:=Ym s) (n:=s.Ends.length);obtain ⟨v,hv,hl⟩:=forG (L:=Gi Dq s) (mk:=λi (v:List Af)=>((i:Int),(v,0))) (N:=s.Timers.length) (I:=λi v=>v=(List.range s.Ends.length).filterMap (Ym s) ++ (List.range i).filterMap (CS s)) (E:=λv=>some (.brk ((s.Timers.length:Int),(v,0)))) (λn i v hi hI=>by
  subst hI;refine ⟨_,rfl,?_⟩;have hle:=Du (g:=CS s) (n:=i);have hg:s.Timers.getD i 0=s.Timers[i]:=by rw [FU,gE_ hi];rfl
  rw [Gi];dsimp only;rw [Ao,dt_ hi,ct_,Am,gE_ hi,ob_,Aq om_,Ro];have hp:CS s i=if s.Timers[i]=1 then some ⟨1,(i:Int),false⟩ else none:=by unfold CS;rw [hg]
  rw [hp];by_cases a1:s.Timers[i]=1
  ·rw [show (s.Timers[i] == 1)=true by simpa using a1,if_pos a1,ct_,Jw (by rw [FR];omega),← GG];rfl
  ·rw [show (s.Timers[i] == 1)=false by simpa using a1,if_neg a1,cf_,cf_,G2]) (λn v _=>by
  rw [Gi];dsimp only;rw [Ao,df_ om_,cf_]) FF 0 ((List.range s.Ends.length).filterMap (Ym s)) om_ uF smp_
 subst hv;try dsimp only at hl
 rw [n0] at hl;dsimp only;rw [hl];rfl
theorem Qx {c:Aa} {s:Ad} (hc:Rc c) (hf:Fit c s) (hq:Qt c s):m39 FF c s=some (0,pend s):=by
 unfold m39 m72 m71;rw [Xd hc,(Wp hc.rt.bd).2 ⟨hf,hq⟩,ob_,zf_,cf_,ob_,BM (hf.sm hc.rt.bd)];rfl
def nb (l:LG):List UInt8:=l.flatMap λn=>[UInt8.ofNat (48 + n.toNat),32]
def fb (l:LH):List UInt8:=l.map λv=>if v=true then 116 else 102
theorem CF (a b:LL):(a ++ b).data.toList=a.data.toList ++ b.data.toList:=by
 rw [ByteArray.data_append,Array.toList_append]
theorem ba_push (a:LL) (b:UInt8):(a.push b).data.toList=a.data.toList ++ [b]:=by
 rw [ByteArray.data_push,Array.toList_push]
theorem m97_tab:((List.range 10).all λn=>decide (m97 0 (n:Int)=some (⟨#[UInt8.ofNat (48 + n)]⟩:LL)))=true:=by kernel_rfl
theorem DB {n:Int} (h0:0<=n) (h:n < 10):m97 FF n=some (⟨#[UInt8.ofNat (48 + n.toNat)]⟩:LL):=by
 have:=of_decide_eq_true (F4.1 m97_tab n.toNat (F6.2 om_));rw [show ((n.toNat:Nat):Int)=n by omega] at this;exact this
theorem Dw {l:LG}:(nb l).length=2 * l.length:=by
 induction l with
 | nil=>rfl
 | cons a l ih=>unfold nb at ih ⊢;rw [JX,FR,ih];simp;omega
theorem AN:∀ {l l':LG},(∀ a∈l,0<=a/\a < 10)->(∀ a∈l',0<=a/\a < 10)->nb l=nb l'->l=l'
 | [],[],_,_,_=>rfl
 | [],b :: l',_,_,h=>by unfold nb at h;simp at h
 | a :: l,[],_,_,h=>by unfold nb at h;simp at h
 | a :: l,b :: l',h1,h2,h=>by
  unfold nb at h;rw [JX,JX] at h;have h:=List.cons.inj h;have ha:=h1 a smp_;have hb:=h2 b smp_;have he:a=b:=by
   have:=congrArg UInt8.toNat h.1;rw [UInt8.toNat_ofNat',UInt8.toNat_ofNat'] at this;omega
  have ht:=(List.cons.inj h.2).2;rw [he,AN (λx hx=>h1 x (by simp [hx])) (λx hx=>h2 x (by simp [hx])) ht]
theorem Xu:∀ {l l':LH},fb l=fb l'->l=l'
 | [],[],_=>rfl
 | [],b :: l',h=>by unfold fb at h;simp at h
 | a :: l,[],h=>by unfold fb at h;simp at h
 | a :: l,b :: l',h=>by
  unfold fb at h;rw [GD,GD] at h;have h:=List.cons.inj h;have he:a=b:=by
   cases a <;> cases b <;> first | rfl | (have:=h.1; revert this; decide)
  rw [he,Xu h.2]
theorem DA {κ ν:Type} [DecidableEq κ] {eqb:κ->κ->Bool} (he:∀ a b,eqb a b=true↔a=b) {m:List (κ×ν)} {k j:κ} {y:ν}:mat eqb (Jp eqb m k y) j=if eqb j k=true then some y else mat eqb m j:=by
 induction m with
 | nil=>
  show mat eqb [(k,y)] j=_;rw [Ch]
 | cons p m ih=>
  obtain ⟨k',z⟩:=p;rw [Tb,Ch];by_cases h:eqb k k'=true
  ·rw [if_pos h,Ch,← (he _ _).1 h];by_cases h2:eqb j k=true
   ·rw [if_pos h2,if_pos h2]
   ·rw [if_neg h2,if_neg h2,if_neg h2]
  ·rw [if_neg h,Ch,ih];by_cases h2:eqb j k'=true
   ·have h3:¬ eqb j k=true:=λe=>h (by rw [← (he _ _).1 e];exact h2);rw [if_pos h2,if_neg h3,if_pos h2]
   ·rw [if_neg h2,if_neg h2]
def Yz (c:Aa) (most:Nat) (s:Ad):List Af->List Ad->LG->Int ⊕ (List Ad×LG)
 | [],S,mv=>.inr (S,mv)
 | x :: l,S,mv=>if (aft c s x).2=0 then (if plc S (aft c s x).1 < 0 then (if S.length=most then .inl 12 else Yz c most s l (S ++ [(aft c s x).1]) (mv ++ [(S.length:Int)])) else Yz c most s l S (mv ++ [plc S (aft c s x).1])) else .inl (aft c s x).2
def xall (c:Aa) (most:Nat):Nat->Nat->List Ad->List LG->Int ⊕ Ah
 | 0,_,_,_=>.inl 99
 | n + 1,i,S,M=>match S[i]? with
  | none=>.inr ⟨S,M⟩
  | some s=>match Yz c most s (pend s) S [] with
   | .inl e=>.inl e
   | .inr r=>xall c most n (i + 1) r.1 (M ++ [r.2])
def Al (c:Aa) (S:List Ad):Prop:=∀ s∈S,Fit c s/\Qt c s
theorem FL {c:Aa} {s:Ad} {x:Af} (hf:Fit c s) (h:(aft c s x).2=0):Fit c (aft c s x).1/\Qt c (aft c s x).1:=by
 unfold aft at h ⊢;by_cases hk:x.Kind < 0\/3<=x.Kind
 ·rw [if_pos hk] at h;cases h
 ·rw [if_neg hk] at h ⊢;cases ha:act s x with
  | none=>rw [ha] at h;cases h
  | some s'=>
   rw [ha] at h;dsimp only at h ⊢;cases ht:rst c 65 s' with
   | none=>rw [ht] at h;cases h
   | some t=>
    have:=ET (My hf ha) ht;exact ⟨this.1,this.2.2⟩
theorem Ku {S:List Ad} {t:Ad} (h:¬ plc S t < 0):∃ j,j < S.length/\plc S t=(j:Int)/\S.findIdx? (λx=>sst t x)=some j:=by
 unfold plc at h ⊢;cases hf:S.findIdx? (λx=>sst t x) with
 | none=>rw [hf] at h;simp at h
 | some j=>exact ⟨j,(GP.1 hf).1,rfl,rfl⟩
theorem Us {S:List Ad} {t:Ad} (h:plc S t < 0):S.findIdx? (λx=>sst t x)=none:=by
 unfold plc at h;cases hf:S.findIdx? (λx=>sst t x) with
 | none=>rfl
 | some j=>rw [hf] at h;simp at h;omega
end Go.Pn
namespace Go.Pn
open Go
theorem fi_any {α:Type} {l:List α} {q:α->Bool}:(∃ j,l.findIdx? q=some j/\l.any q=true)\/(l.findIdx? q=none/\l.any q=false):=by
 cases h:l.findIdx? q with
 | some j=>
  left;obtain ⟨h1,h2,_⟩:=GP.1 h;exact ⟨j,rfl,F8.2 ⟨_,GA h1,h2⟩⟩
 | none=>
  right;rw [HJ] at h;exact ⟨rfl,GR.2 λx hx=>by simpa using h x hx⟩
theorem zf:((0:Int) != 0)=false:=rfl
def Sd (s:Ad):Bool:=((pend s).length:Int) == 0
end Go.Pn
namespace Go.Pn
open Go
structure Xr (c:Aa) (s:Ad) (l:List Af) (S:List Ad) (R:List Ad) (Y:LG):Prop where
 app:∃ X,R=S ++ X
 len:Y.length=l.length
 ev:∀ (j:Nat) x,l[j]?=some x->(aft c s x).2=0/\∃ k:Nat,Y[j]?=some (k:Int)/\R[k]?=some (aft c s x).1
 new:∀ k,S.length<=k->k < R.length->(k:Int)∈Y
def Nd (S:List Ad):Prop:=∀ (i j:Nat) s,S[i]?=some s->S[j]?=some s->i=j
theorem Nd.put {S:List Ad} {t:Ad} (h:Nd S) (hn:S.findIdx? (λx=>sst t x)=none):Nd (S ++ [t]):=by
 rw [HJ] at hn;have hno:∀ (i:Nat),S[i]?≠some t:=λi hi=>by
  have:=hn t (GF hi);rw [Da] at this;cases this
 have hg:∀ (i:Nat) s,(S ++ [t])[i]?=some s->S[i]?=some s\/(i=S.length/\s=t):=λi s hs=>by
  rcases G5 i S.length with h1 | h1
  ·rw [FY h1] at hs;exact .inl hs
  ·rw [F5 h1] at hs;rcases GV h1 with h2 | h2
   ·subst h2;simp at hs;exact .inr ⟨rfl,hs.symm⟩
   ·rw [GY so_] at hs;cases hs
 intro i j s hi hj;rcases hg i s hi with h1 | ⟨h1,h2⟩ <;> rcases hg j s hj with h3 | ⟨h3,h4⟩
 ·exact h i j s h1 h3
 ·subst h4;exact absurd h1 (hno i)
 ·subst h2;exact absurd h3 (hno j)
 ·omega
theorem Uq {c:Aa} {most:Nat} {s:Ad}:∀ (l:List Af) (S:List Ad) (mv:LG) {r:List Ad×LG},Nd S->Yz c most s l S mv=.inr r->∃ Y,r.2=mv ++ Y/\Xr c s l S r.1 Y/\Nd r.1
 | [],S,mv,r,hN,h=>by
  unfold Yz at h;obtain rfl:=Sum.inr.inj h;exact ⟨[],by simp,⟨⟨[],by simp⟩,rfl,λj x hx=>by simp at hx,λk h1 h2=>by dsimp only at h2;omega⟩,hN⟩
 | x :: l,S,mv,r,hN,h=>by
  unfold Yz at h;by_cases h0:(aft c s x).2=0
  ·rw [if_pos h0] at h;by_cases hp:plc S (aft c s x).1 < 0
   ·rw [if_pos hp] at h;by_cases hM:S.length=most
    ·rw [if_pos hM] at h;cases h
    ·rw [if_neg hM] at h;obtain ⟨Y,e1,⟨⟨X,e2⟩,e3,e4,e5⟩,e6⟩:=Uq l _ _ (hN.put (Us hp)) h;refine ⟨(S.length:Int) :: Y,by rw [e1];simp,⟨⟨(aft c s x).1 :: X,by rw [e2];simp⟩,by simp [e3],λj y hy=>?_,λk h1 h2=>?_⟩,e6⟩
     ·cases j with
      | zero=>
       obtain rfl:x=y:=by simpa using hy
       exact ⟨h0,S.length,rfl,by rw [e2];simp⟩
      | succ j=>
       obtain ⟨a,k,b,d⟩:=e4 j y (by simpa using hy);exact ⟨a,k,by simpa using b,d⟩
     ·by_cases hk:k=S.length
      ·subst hk;simp
      ·exact GO _ (e5 k so_ h2)
   ·rw [if_neg hp] at h;obtain ⟨q,hq,hq2,hq3⟩:=Ku hp;obtain ⟨Y,e1,⟨⟨X,e2⟩,e3,e4,e5⟩,e6⟩:=Uq l _ _ hN h;refine ⟨(q:Int) :: Y,by rw [e1,hq2];simp,⟨⟨X,e2⟩,by simp [e3],λj y hy=>?_,λk h1 h2=>GO _ (e5 k h1 h2)⟩,e6⟩;cases j with
    | zero=>
     obtain rfl:x=y:=by simpa using hy
     refine ⟨h0,q,rfl,?_⟩;obtain ⟨g1,g2,_⟩:=GP.1 hq3;rw [e2,FY g1,gE_ g1,← Eb.1 g2]
    | succ j=>
     obtain ⟨a,k,b,d⟩:=e4 j y (by simpa using hy);exact ⟨a,k,by simpa using b,d⟩
  ·rw [if_neg h0] at h;cases h
structure Rwm (c:Aa) (S:List Ad) (s:Ad) (mv:LG):Prop where
 len:mv.length=(pend s).length
 ev:∀ (j:Nat) x,(pend s)[j]?=some x->(aft c s x).2=0/\∃ k:Nat,mv[j]?=some (k:Int)/\S[k]?=some (aft c s x).1
theorem Rwm.app {c:Aa} {S X:List Ad} {s:Ad} {mv:LG} (h:Rwm c S s mv):Rwm c (S ++ X) s mv:=
 ⟨h.len,λj x hx=>by
  obtain ⟨a,k,b,d⟩:=h.ev j x hx;exact ⟨a,k,b,by rw [FY (FT.1 d).1];exact d⟩⟩
structure Fnd (c:Aa) (s0:Ad) (i:Nat) (S:List Ad) (M:List LG):Prop where
 ml:M.length=i
 il:i<=S.length
 hd:S[0]?=some s0
 nd:Nd S
 row:∀ (j:Nat) s mv,j < i->S[j]?=some s->M[j]?=some mv->Rwm c S s mv
 par:∀ k,0 < k->k < S.length->∃ p mv,p < k/\M[p]?=some mv/\(k:Int)∈mv
theorem Zh {c:Aa} {s0:Ad} {most:Nat}:∀ (n i:Nat) (S:List Ad) (M:List LG) {sp:Ah},Fnd c s0 i S M->xall c most n i S M=.inr sp->Fnd c s0 sp.States.length sp.States sp.Moves
 | 0,_,_,_,_,_,h=>by cases h
 | n + 1,i,S,M,sp,hF,h=>by
  unfold xall at h;cases hs:S[i]? with
  | none=>
   rw [hs] at h;obtain rfl:=Sum.inr.inj h;have h1:=List.getElem?_eq_none_iff.1 hs;have h2:=hF.il;have:i=S.length:=by omega
   subst this;exact hF
  | some s=>
   rw [hs] at h;try dsimp only at h
   cases hx:Yz c most s (pend s) S [] with
   | inl e=>rw [hx] at h;cases h
   | inr r=>
    rw [hx] at h;obtain ⟨Y,e1,⟨⟨X,e2⟩,e3,e4,e5⟩,e6⟩:=Uq _ _ _ hF.nd hx;have hil:=(FT.1 hs).1;have e1:r.2=Y:=by simpa using e1
    refine Zh n (i + 1) r.1 _ ⟨by simp [hF.ml],by rw [e2];simp;omega,?_,e6,?_,?_⟩ h
    ·rw [e2,FY om_];exact hF.hd
    ·intro j t mv hj ht hm;by_cases hji:j=i
     ·subst hji;rw [F5 (by rw [hF.ml];omega),hF.ml,JU] at hm;have hm:r.2=mv:=by simpa using hm
      rw [e2,FY hil,hs] at ht;obtain rfl:=Option.some.inj ht;rw [← hm,e1];exact ⟨e3,e4⟩
     ·have hj2:j < i:=by omega
      rw [FY (by rw [hF.ml];exact hj2)] at hm;rw [e2,FY om_] at ht;rw [e2];exact (hF.row j t mv hj2 ht hm).app
    ·intro k h1 h2;by_cases hk:k < S.length
     ·obtain ⟨p,mv,a,b,d⟩:=hF.par k h1 hk;exact ⟨p,mv,a,by rw [FY (FT.1 b).1];exact b,d⟩
     ·refine ⟨i,r.2,by omega,?_,by rw [e1];exact e5 k om_ h2⟩;rw [F5 (by rw [hF.ml];omega),hF.ml,JU];rfl
structure Sp_ (c:Aa) (s0:Ad) (sp:Ah):Prop where
 al:Al c sp.States
 le:sp.States.length<=120
 fd:Fnd c s0 sp.States.length sp.States sp.Moves
theorem C4 {c:Aa} {s:Ad} (hb:Bd_ c) (h:Fit c s):(pend s).length<=22:=by
 have h1:=hb.a';have h3:=hb.s;have a:=Du (g:=Ym s) (n:=s.Ends.length);have b:=Du (g:=CS s) (n:=s.Timers.length);have he:=h.e;have ht:=h.t;unfold pend;rw [FR];omega
theorem Sp_.get {c:Aa} {s0:Ad} {sp:Ah} (h:Sp_ c s0 sp) {i:Nat} (hi:i < sp.States.length):∃ s mv,sp.States[i]?=some s/\sp.Moves[i]?=some mv/\Rwm c sp.States s mv/\Fit c s/\Qt c s:=by
 have hm:i < sp.Moves.length:=by rw [h.fd.ml];exact hi
 have h1:sp.States[i]?=some sp.States[i]:=gE_ hi;have h2:sp.Moves[i]?=some sp.Moves[i]:=gE_ hm;obtain ⟨hf,hq⟩:=h.al _ (GA hi);exact ⟨_,_,h1,h2,h.fd.row i _ _ hi h1 h2,hf,hq⟩
theorem Rwm.mem {c:Aa} {S:List Ad} {s:Ad} {mv:LG} (h:Rwm c S s mv) {k:Int} (hk:k∈mv):0<=k/\k < S.length:=by
 obtain ⟨j,hj⟩:=HE hk;have hl:=(FT.1 hj).1;rw [h.len] at hl;obtain ⟨_,q,h1,h2⟩:=h.ev j _ (gE_ hl);rw [hj] at h1;obtain rfl:=Option.some.inj h1;have:=(FT.1 h2).1;omega
theorem Sp_.pos {c:Aa} {s0:Ad} {sp:Ah} (h:Sp_ c s0 sp):0 < sp.States.length:=(FT.1 h.fd.hd).1
theorem Sp_.rows {c:Aa} {s0:Ad} {sp:Ah} (hb:Bd_ c) (h:Sp_ c s0 sp):∀ l∈sp.Moves,l.length<=22/\∀ k∈l,0<=k/\k < sp.States.length:=by
 intro l hl;obtain ⟨i,hi⟩:=HE hl;have hil:=(FT.1 hi).1;rw [h.fd.ml] at hil;obtain ⟨s,mv,h1,h2,h3,h4,h5⟩:=h.get hil;rw [hi] at h2;obtain rfl:=Option.some.inj h2;exact ⟨by rw [h3.len];exact C4 hb h4,λk hk=>h3.mem hk⟩
end Go.Pn
namespace Go.Pn
open Go
def prs (s:Ad) (i:Nat):Af:=⟨2,(i:Int),!(s.Inputs.getD i false)⟩
def tld (p:Bool) (s:Ad):List Af:=pend s ++ (if p=true then (List.range s.Inputs.length).map (prs s) else [])
theorem Sh {s:Ad}:tld false s=pend s:=by unfold tld;simp
theorem tld_len {p:Bool} {s:Ad} (h:Smst s 1000):(tld p s).length<=3000:=by
 have h1:=Wq h;have h2:=h.i;unfold tld; cases p <;> simp <;> omega
def frE (s t:Ad) (i:Nat):Option Ab:=if (t.Ends.getD i 0=1\/t.Ends.getD i 0=3)/\s.Ends.getD i 0≠t.Ends.getD i 0 then some ⟨(i:Int),t.Ends.getD i 0 == 1⟩ else none
def frs (s t:Ad):List Ab:=(List.range s.Ends.length).filterMap (frE s t)
theorem frE_at {s t:Ad} {i:Nat} (h:i < s.Ends.length) (h':i < t.Ends.length):frE s t i=if (t.Ends[i]=1\/t.Ends[i]=3)/\s.Ends[i]≠t.Ends[i] then some ⟨(i:Int),t.Ends[i] == 1⟩ else none:=by
 unfold frE;rw [FU,FU,gE_ h,gE_ h'];rfl
theorem BG {s t:Ad} (he:t.Ends.length=s.Ends.length) (hl:s.Ends.length<=1000):NT FF s t=some (frs s t):=by
 unfold NT;obtain ⟨v,hv,hh⟩:=Pi (L:=Jg s t) (mk:=λi (v:List Ab)=>((i:Int),v)) (N:=s.Ends.length) (I:=λi v=>v=(List.range i).filterMap (frE s t)) (λn i v hi hI=>by
  subst hI;have hi':i < t.Ends.length:=by omega
  refine ⟨_,rfl,?_⟩;have hle:=Du (g:=frE s t) (n:=i);rw [Jg];simp only [he,Ao,dt_ hi,ct_,Am,gE_ hi,gE_ hi',ob_];rw [Aq om_,Ro,frE_at hi hi'];have k1:((t.Ends[i] != s.Ends[i]) && ((t.Ends[i] == 1) || (t.Ends[i] == 3)))=decide ((t.Ends[i]=1\/t.Ends[i]=3)/\s.Ends[i]≠t.Ends[i]):=by
   rw [GU];simp;omega
  rw [k1];by_cases ha:(t.Ends[i]=1\/t.Ends[i]=3)/\s.Ends[i]≠t.Ends[i]
  ·rw [dt_ ha,ct_,Av so_,ob_,ob_,if_pos ha]
  ·rw [df_ ha,cf_,ob_,if_neg ha,G2]) (λn v _=>by
  rw [Jg];dsimp only;rw [he,Ao,df_ om_,cf_]) FF 0 [] om_ uF rfl
 subst hv;try dsimp only at hh
 rw [n0] at hh;rw [hh];rfl
theorem BN {c:Aa} {s t:Ad} (hb:Bd_ c) (hs:Fit c s) (ht:Fit c t):NU FF s t=some (frs s t,0):=by
 have h6:=hb.a';have h1:=hs.e;have h2:=ht.e;unfold NU;rw [show ((s.Ends.length:Int) != (t.Ends.length:Int))=false by simp;omega,df_ om_,JO,cf_,Qo om_ om_,ob_];have e1:=ER (L:=Re (s.Ends ++ t.Ends)) (xs:=s.Ends ++ t.Ends) (p:=λ_ x=>some (decide (x < 0) || decide (x>=4))) (q:=λx=>decide (x < 0) || decide (x>=4)) (r:=λ_=>(([]:List Ab),(1:Int))) (λ_ _=>rfl) so_ (λ_ _ _=>rfl) FF 0 smp_ (by simp;unfold FF;omega);rw [n0,HG] at e1;rcases fi_any (l:=s.Ends ++ t.Ends) (q:=λx=>decide (x < 0) || decide (x>=4)) with ⟨j,hj,ha⟩ | ⟨hj,ha⟩
 ·exfalso;obtain ⟨x,hx,h3⟩:=F8.1 ha;have:0<=x/\x < 4:=(GL.1 hx).elim (hs.ee x) (ht.ee x);simp at h3;omega
 ·rw [hj] at e1;rw [e1,ob_];dsimp only;rw [BG om_ om_];rfl
structure Zt where
 N:List Node
 F:List Aj
 mv:LG
 B:List Ab
def zS (z:Zt):List Ad:=z.N.map (·.state)
def Ck (i:Nat) (s t:Ad) (x:Af) (z:Zt):Zt:=
 if plc (zS z) t < 0 then ⟨z.N ++ [⟨t,(i:Int),x⟩],z.F ++ [⟨t,((z.F[i]?).map (·.Run)).getD [] ++ [x]⟩],z.mv ++ [(z.N.length:Int)],z.B ++ frs s t⟩ else ⟨z.N,z.F,z.mv ++ [plc (zS z) t],z.B ++ frs s t⟩
def Nj (c:Aa) (most i:Nat) (s:Ad):List Af->Zt->Int ⊕ Zt
 | [],z=>.inr z
 | x :: l,z=>if (aft c s x).2=0 then (if plc (zS z) (aft c s x).1 < 0/\z.N.length=most then .inl 12 else Nj c most i s l (Ck i s (aft c s x).1 x z)) else .inl (aft c s x).2
def Uk (c:Aa) (most:Nat) (p:Bool):Nat->Nat->Zt->List LG->Int ⊕ (Zt×List LG)
 | 0,_,_,_=>.inl 99
 | n + 1,i,z,M=>match z.N[i]? with
  | none=>.inr (z,M)
  | some y=>match Nj c most i y.state (tld p y.state) { z with mv:=[] } with
   | .inl e=>.inl e
   | .inr r=>Uk c most p n (i + 1) r (M ++ [r.mv])
structure Zi (c:Aa) (most:Nat) (z:Zt):Prop where
 al:Al c (zS z)
 le:z.N.length<=most
 fs:z.F.map (·.State)=zS z
 par:∀ k y f,z.N[k]?=some y->z.F[k]?=some f->(y.by_=-1/\f.Run=[])\/∃ p:Nat,p < k/\y.by_=(p:Int)/\∃ g,z.F[p]?=some g/\f.Run=g.Run ++ [y.event]
theorem Zi.len {c:Aa} {most:Nat} {z:Zt} (h:Zi c most z):z.F.length=z.N.length:=by
 have:=congrArg List.length h.fs;unfold zS at this;simpa using this
theorem Zi.get {c:Aa} {most:Nat} {z:Zt} (h:Zi c most z) {i:Nat} {y:Node} (hy:z.N[i]?=some y):∃ R,z.F[i]?=some ⟨y.state,R⟩:=by
 have h1:(z.F.map (·.State))[i]?=(zS z)[i]?:=by rw [h.fs]
 unfold zS at h1;rw [F9,F9,hy] at h1;cases hf:z.F[i]? with
 | none=>rw [hf] at h1;simp at h1
 | some f=>rw [hf] at h1;simp at h1;exact ⟨f.Run,by rw [← h1]⟩
theorem Zi.step {c:Aa} {most i:Nat} {s:Ad} {x:Af} {z:Zt} (h:Zi c most z) (hf:Fit c s) (hi:∃ y,z.N[i]?=some y/\y.state=s) (h0:(aft c s x).2=0) (hm:¬ (plc (zS z) (aft c s x).1 < 0/\z.N.length=most)) :
  Zi c most (Ck i s (aft c s x).1 x z)/\(∃ X,(Ck i s (aft c s x).1 x z).N=z.N ++ X)/\(∃ X,(Ck i s (aft c s x).1 x z).F=z.F ++ X):=by
 obtain ⟨y,hy,rfl⟩:=hi;unfold Ck;by_cases hp:plc (zS z) (aft c y.state x).1 < 0
 ·rw [if_pos hp];have hl:=h.len;have hiN:i < z.N.length:=(FT.1 hy).1;refine ⟨⟨?_,?_,?_,?_⟩,⟨_,rfl⟩,⟨_,rfl⟩⟩
  ·intro t ht;unfold zS at ht;rw [HD] at ht;rcases GL.1 ht with ht | ht
   ·exact h.al t ht
   ·obtain rfl:t=_:=by simpa using ht
    exact FL hf h0
  ·have:=h.le;simp;omega
  ·have:=h.fs;unfold zS at this ⊢;simp [this]
  ·intro k a f ha hfk;dsimp only at ha hfk ⊢;by_cases hk:k < z.N.length
   ·rw [FY hk] at ha;rw [FY om_] at hfk;rcases h.par k a f ha hfk with h1 | ⟨p,h1,h2,g,h3,h4⟩
    ·exact .inl h1
    ·exact .inr ⟨p,h1,h2,g,by rw [FY om_];exact h3,h4⟩
   ·have hk':k=z.N.length:=by
     have:=(FT.1 ha).1;simp at this;omega
    subst hk';rw [F5 om_] at ha;rw [← hl,F5 om_] at hfk;obtain rfl:(⟨(aft c y.state x).1,(i:Int),x⟩:Node)=a:=by simpa using ha
    obtain rfl:(⟨(aft c y.state x).1,((z.F[i]?).map (·.Run)).getD [] ++ [x]⟩:Aj)=f:=by simpa using hfk
    obtain ⟨R,hR⟩:=h.get hy;exact .inr ⟨i,hiN,rfl,⟨y.state,R⟩,by rw [FY om_];exact hR,by rw [hR];rfl⟩
 ·rw [if_neg hp];exact ⟨⟨h.al,h.le,h.fs,h.par⟩,⟨[],by simp⟩,⟨[],by simp⟩⟩
theorem Uo {c:Aa} {most i:Nat} {s:Ad} (hf:Fit c s):∀ (l:List Af) (z:Zt) {r:Zt},Zi c most z->(∃ y,z.N[i]?=some y/\y.state=s)->Nj c most i s l z=.inr r ->
  Zi c most r/\∃ X,r.N=z.N ++ X
 | [],z,r,h,hi,hr=>by
  unfold Nj at hr;obtain rfl:=Sum.inr.inj hr;exact ⟨h,[],by simp⟩
 | x :: l,z,r,h,hi,hr=>by
  unfold Nj at hr;split at hr
  ·rename_i h0;split at hr
   ·cases hr
   ·rename_i hm;obtain ⟨h1,⟨X,hX⟩,_⟩:=h.step hf hi h0 hm;obtain ⟨y,hy,hys⟩:=hi;obtain ⟨h2,X2,hX2⟩:=Uo hf l _ h1 ⟨y,by rw [hX,FY (FT.1 hy).1];exact hy,hys⟩ hr;exact ⟨h2,X ++ X2,by rw [hX2,hX,GG]⟩
  ·cases hr
def z0t (s:Ad):Zt:=⟨[⟨s,-1,⟨0,0,false⟩⟩],[⟨s,[]⟩],[],[]⟩
theorem EP {c:Aa} {most:Nat} {s:Ad} (hf:Fit c s) (hq:Qt c s) (hm:1<=most):Zi c most (z0t s):=by
 refine ⟨λt ht=>?_,hm,rfl,λk y f hy hf=>?_⟩
 ·obtain rfl:t=s:=by simpa [zS,z0t] using ht
  exact ⟨hf,hq⟩
 ·have hk:k=0:=by
   have:=(FT.1 hy).1;simp [z0t] at this;exact this
  subst hk;obtain rfl:(⟨s,-1,⟨0,0,false⟩⟩:Node)=y:=by simpa [z0t] using hy
  obtain rfl:(⟨s,[]⟩:Aj)=f:=by simpa [z0t] using hf
  exact .inl ⟨rfl,rfl⟩
def srF (c:Aa) (s:Ad) (p:Bool) (most:Nat):Int ⊕ (Zt×List LG):=Uk c most p FF 0 (z0t s) []
end Go.Pn

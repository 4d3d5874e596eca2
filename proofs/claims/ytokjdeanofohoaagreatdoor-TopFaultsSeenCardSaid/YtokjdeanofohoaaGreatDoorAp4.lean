import Derived.Test.YtokjdeanofohoaaGreatDoorAp3
set_option synthInstance.checkSynthOrder false
set_option synthInstance.maxSize 10000
set_option synthInstance.maxHeartbeats 400000
set_option maxRecDepth 100000
set_option maxHeartbeats 4000000
set_option linter.unusedVariables false
set_option linter.unusedSimpArgs false
set_option linter.defProp false
namespace Go.Pn
open Go Go.RowKit Go.Proofs Go.Proofs.Tryz
def Ce (f:Nat) (v0:Aa) (v1:Fault) (x1:ByteArray×Bool×Int×ByteArray×Bool×Int×ByteArray×Bool×Int×ByteArray×Bool×Int×ByteArray×Bool×Int×ByteArray×Bool×Int×Int×Int×Int×Int×Int×Int×Int×Int) (x4:Nat):Nat->(Int×(List Pilots))->Option (Int×(List Pilots))
 | 0,_=>none
 | n+1,z5=>(bif (decide (z5.1 < v0.Actuators)) then (bif ((!(([x1.2.1,x1.2.2.2.2.1,x1.2.2.2.2.2.2.2.1,x1.2.2.2.2.2.2.2.2.2.2.1,x1.2.2.2.2.2.2.2.2.2.2.2.2.2.1,x1.2.2.2.2.2.2.2.2.2.2.2.2.2.2.2.2.1]:List Bool).getD x4 false)) && (z5.1 == v1.Index)) then (bif x4 == 0 then ((m94 f x1.2.2.2.2.2.2.2.2.2.2.2.2.2.2.2.2.2.2.1 x1.2.2.2.2.2.2.2.2.2.2.2.2.2.2.2.2.2.2.2.1).bind λx9=>(app z5.2 ([x9]:List Pilots)).bind λx10=>Ce f v0 v1 x1 x4 n ((wr (z5.1 + 1)),x10)) else (bif x4 == 1 then ((m94 f x1.2.2.2.2.2.2.2.2.2.2.2.2.2.2.2.2.2.2.2.2.1 x1.2.2.2.2.2.2.2.2.2.2.2.2.2.2.2.2.2.2.2.2.2.1).bind λx9=>(app z5.2 ([x9]:List Pilots)).bind λx10=>Ce f v0 v1 x1 x4 n ((wr (z5.1 + 1)),x10)) else (bif x4 == 4 then ((m94 f x1.2.2.2.2.2.2.2.2.2.2.2.2.2.2.2.2.2.2.2.2.2.2.1 x1.2.2.2.2.2.2.2.2.2.2.2.2.2.2.2.2.2.2.2.2.2.2.2.1).bind λx9=>(app z5.2 ([x9]:List Pilots)).bind λx10=>Ce f v0 v1 x1 x4 n ((wr (z5.1 + 1)),x10)) else (bif x4 == 5 then ((m94 f x1.2.2.2.2.2.2.2.2.2.2.2.2.2.2.2.2.2.2.2.2.2.2.2.2.1 x1.2.2.2.2.2.2.2.2.2.2.2.2.2.2.2.2.2.2.2.2.2.2.2.2.2).bind λx9=>(app z5.2 ([x9]:List Pilots)).bind λx10=>Ce f v0 v1 x1 x4 n ((wr (z5.1 + 1)),x10)) else none)))) else (bif (([x1.2.1,x1.2.2.2.2.1,x1.2.2.2.2.2.2.2.1,x1.2.2.2.2.2.2.2.2.2.2.1,x1.2.2.2.2.2.2.2.2.2.2.2.2.2.1,x1.2.2.2.2.2.2.2.2.2.2.2.2.2.2.2.2.1]:List Bool).getD x4 false) then (idx v0.Plus z5.1).bind λx13=>(bif (x13 == v1.Index) then some { (⟨(-1:Int),(-1:Int)⟩:Pilots) with plus:=(([x1.2.2.1,x1.2.2.2.2.2.1,x1.2.2.2.2.2.2.2.2.1,x1.2.2.2.2.2.2.2.2.2.2.2.1,x1.2.2.2.2.2.2.2.2.2.2.2.2.2.2.1,x1.2.2.2.2.2.2.2.2.2.2.2.2.2.2.2.2.2.1]:List Int).getD x4 0) } else some (⟨(-1:Int),(-1:Int)⟩:Pilots)).bind λz14=>(idx v0.Minus z5.1).bind λx15=>(bif (x15 == v1.Index) then some { z14 with minus:=(([x1.2.2.1,x1.2.2.2.2.2.1,x1.2.2.2.2.2.2.2.2.1,x1.2.2.2.2.2.2.2.2.2.2.2.1,x1.2.2.2.2.2.2.2.2.2.2.2.2.2.2.1,x1.2.2.2.2.2.2.2.2.2.2.2.2.2.2.2.2.2.1]:List Int).getD x4 0) } else some z14).bind λz16=>some z16 else some (⟨(-1:Int),(-1:Int)⟩:Pilots)).bind λz12=>(app z5.2 ([z12]:List Pilots)).bind λx17=>Ce f v0 v1 x1 x4 n ((wr (z5.1 + 1)),x17)) else some (z5.1,z5.2))
def m109 (f:Nat) (v0:Aa) (v1:Fault):Option ((List Pilots)):=(m54 f).bind λx1=>(idx (List.range 6) v1.Kind).bind λx4=>(Ce f v0 v1 x1 x4 f ((0:Int),([]:List Pilots))).bind λo6s=>some o6s.2
theorem s109 (f:Nat) (v0:Aa) (v1:Fault) (r:(List Pilots)) (hm:m109 f v0 v1=some r):Sp Tryz.prog 109 [Va v0,Va v1] (Va r):=by
 unfold m109 at hm;refine ens func109 kr_ I ntmps109 I I λM W a hM hD s=>?_;refine R 3 s λa w s=>?_;obtain ⟨x1,hx1,hm⟩:=bk hm;obtain ⟨x4,hx4,hm⟩:=bk hm;refine se (Az [] [0,1,2] [9,10,11] [] [] [5] [(3,[]),(5,[5])] s (.skip (.late (.skip (.cons (.cons (.cons .nil I I (cc I on (s54 f _ hx1.e))) I I (fa (f:=Fault.Kind) (t I))) I I (ld (t I))) I) I I (alr (cs:=[(.string ByteArray.empty),(.bool false),(.int .i64 0),.nilFunc]) (z:=.agg #[(.string ByteArray.empty),(.bool false),(.int .i64 0),.nilFunc]) kr_ I I)) I) kr_ kr_ I I sw0 I (by decide) I I ?_);refine ⟨⟨λ_=>I,I,.inr ⟨sw0,sb0,sn0⟩⟩,by kernel_rfl,_,I,λΨ a w s=>opz (d:=9) [1008,1009,1010,1011,1012,1013,1014,1015] s I (λ_=>I) I λy3 s=>sq s (aixA (e:=114) (len:=6) (sz:=4) (cols:=[[(.string x1.1),(.string x1.2.2.2.1),(.string x1.2.2.2.2.2.2.1),(.string x1.2.2.2.2.2.2.2.2.2.1),(.string x1.2.2.2.2.2.2.2.2.2.2.2.2.1),(.string x1.2.2.2.2.2.2.2.2.2.2.2.2.2.2.2.1)],[(.bool x1.2.1),(.bool x1.2.2.2.2.1),(.bool x1.2.2.2.2.2.2.2.1),(.bool x1.2.2.2.2.2.2.2.2.2.2.1),(.bool x1.2.2.2.2.2.2.2.2.2.2.2.2.2.1),(.bool x1.2.2.2.2.2.2.2.2.2.2.2.2.2.2.2.2.1)],[(.int .i64 x1.2.2.1),(.int .i64 x1.2.2.2.2.2.1),(.int .i64 x1.2.2.2.2.2.2.2.2.1),(.int .i64 x1.2.2.2.2.2.2.2.2.2.2.2.1),(.int .i64 x1.2.2.2.2.2.2.2.2.2.2.2.2.2.2.1),(.int .i64 x1.2.2.2.2.2.2.2.2.2.2.2.2.2.2.2.2.2.1)],[(fv 94 [] [y3.1,y3.2.1]),(fv 94 [] [y3.2.2.1,y3.2.2.2.1]),.nilFunc,.nilFunc,(fv 94 [] [y3.2.2.2.2.1,y3.2.2.2.2.2.1]),(fv 94 [] [y3.2.2.2.2.2.2.1,y3.2.2.2.2.2.2.2])]]) (t I) (t I) kr_ kr_ kr_ I hx4.e) I λa w s=>nl ?_⟩;refine nxt Ψ s ?_;refine ⟨⟨λ_=>I,I,.inr ⟨sw0,sb0,sn0⟩⟩,by kernel_rfl,_,I,λΨ a w s=>opr (d:=5) 1016 s I I λb2 s=>sra (K:=1016) (m:=[(Au x4 [(.string x1.1),(.string x1.2.2.2.1),(.string x1.2.2.2.2.2.2.1),(.string x1.2.2.2.2.2.2.2.2.2.1),(.string x1.2.2.2.2.2.2.2.2.2.2.2.2.1),(.string x1.2.2.2.2.2.2.2.2.2.2.2.2.2.2.2.1)]),(Au x4 [(.bool x1.2.1),(.bool x1.2.2.2.2.1),(.bool x1.2.2.2.2.2.2.2.1),(.bool x1.2.2.2.2.2.2.2.2.2.2.1),(.bool x1.2.2.2.2.2.2.2.2.2.2.2.2.2.1),(.bool x1.2.2.2.2.2.2.2.2.2.2.2.2.2.2.2.2.1)]),(Au x4 [(.int .i64 x1.2.2.1),(.int .i64 x1.2.2.2.2.2.1),(.int .i64 x1.2.2.2.2.2.2.2.2.1),(.int .i64 x1.2.2.2.2.2.2.2.2.2.2.2.1),(.int .i64 x1.2.2.2.2.2.2.2.2.2.2.2.2.2.2.1),(.int .i64 x1.2.2.2.2.2.2.2.2.2.2.2.2.2.2.2.2.2.1)]),(Au x4 [(fv 94 [] [y3.1,y3.2.1]),(fv 94 [] [y3.2.2.1,y3.2.2.2.1]),.nilFunc,.nilFunc,(fv 94 [] [y3.2.2.2.2.1,y3.2.2.2.2.2.1]),(fv 94 [] [y3.2.2.2.2.2.2.1,y3.2.2.2.2.2.2.2])])]) (cs':=[(Au x4 [(.string x1.1),(.string x1.2.2.2.1),(.string x1.2.2.2.2.2.2.1),(.string x1.2.2.2.2.2.2.2.2.2.1),(.string x1.2.2.2.2.2.2.2.2.2.2.2.2.1),(.string x1.2.2.2.2.2.2.2.2.2.2.2.2.2.2.2.1)]),(Au x4 [(.bool x1.2.1),(.bool x1.2.2.2.2.1),(.bool x1.2.2.2.2.2.2.2.1),(.bool x1.2.2.2.2.2.2.2.2.2.2.1),(.bool x1.2.2.2.2.2.2.2.2.2.2.2.2.2.1),(.bool x1.2.2.2.2.2.2.2.2.2.2.2.2.2.2.2.2.1)]),(Au x4 [(.int .i64 x1.2.2.1),(.int .i64 x1.2.2.2.2.2.1),(.int .i64 x1.2.2.2.2.2.2.2.2.1),(.int .i64 x1.2.2.2.2.2.2.2.2.2.2.2.1),(.int .i64 x1.2.2.2.2.2.2.2.2.2.2.2.2.2.2.1),(.int .i64 x1.2.2.2.2.2.2.2.2.2.2.2.2.2.2.2.2.2.1)]),(Au x4 [(fv 94 [] [y3.1,y3.2.1]),(fv 94 [] [y3.2.2.1,y3.2.2.2.1]),.nilFunc,.nilFunc,(fv 94 [] [y3.2.2.2.2.1,y3.2.2.2.2.2.1]),(fv 94 [] [y3.2.2.2.2.2.2.1,y3.2.2.2.2.2.2.2])])]) s (t I) I (t I) kr_ I I I λw s=>nl ?_⟩
 refine nxt Ψ s ?_;refine ⟨⟨λ_=>I,I,.inl I⟩,λa w s=>?_⟩;replace s:St M W 63 [(0,Va v0),(1,Va v1),(2,Pt v0),(3,Pt v1),(4,Qv nz),(5,Qv (pb b2 0)),(1016,Mr b2 [(Au x4 [(.string x1.1),(.string x1.2.2.2.1),(.string x1.2.2.2.2.2.2.1),(.string x1.2.2.2.2.2.2.2.2.2.1),(.string x1.2.2.2.2.2.2.2.2.2.2.2.2.1),(.string x1.2.2.2.2.2.2.2.2.2.2.2.2.2.2.2.1)]),(Au x4 [(.bool x1.2.1),(.bool x1.2.2.2.2.1),(.bool x1.2.2.2.2.2.2.2.1),(.bool x1.2.2.2.2.2.2.2.2.2.2.1),(.bool x1.2.2.2.2.2.2.2.2.2.2.2.2.2.1),(.bool x1.2.2.2.2.2.2.2.2.2.2.2.2.2.2.2.2.1)]),(Au x4 [(.int .i64 x1.2.2.1),(.int .i64 x1.2.2.2.2.2.1),(.int .i64 x1.2.2.2.2.2.2.2.2.1),(.int .i64 x1.2.2.2.2.2.2.2.2.2.2.2.1),(.int .i64 x1.2.2.2.2.2.2.2.2.2.2.2.2.2.2.1),(.int .i64 x1.2.2.2.2.2.2.2.2.2.2.2.2.2.2.2.2.2.1)]),(Au x4 [(fv 94 [] [y3.1,y3.2.1]),(fv 94 [] [y3.2.2.1,y3.2.2.2.1]),.nilFunc,.nilFunc,(fv 94 [] [y3.2.2.2.2.1,y3.2.2.2.2.2.1]),(fv 94 [] [y3.2.2.2.2.2.2.1,y3.2.2.2.2.2.2.2])])]),(1008,At y3.1 (Pt x1.2.2.2.2.2.2.2.2.2.2.2.2.2.2.2.2.2.2.1)),(1009,At y3.2.1 (Pt x1.2.2.2.2.2.2.2.2.2.2.2.2.2.2.2.2.2.2.2.1)),(1010,At y3.2.2.1 (Pt x1.2.2.2.2.2.2.2.2.2.2.2.2.2.2.2.2.2.2.2.2.1)),(1011,At y3.2.2.2.1 (Pt x1.2.2.2.2.2.2.2.2.2.2.2.2.2.2.2.2.2.2.2.2.2.1)),(1012,At y3.2.2.2.2.1 (Pt x1.2.2.2.2.2.2.2.2.2.2.2.2.2.2.2.2.2.2.2.2.2.2.1)),(1013,At y3.2.2.2.2.2.1 (Pt x1.2.2.2.2.2.2.2.2.2.2.2.2.2.2.2.2.2.2.2.2.2.2.2.1)),(1014,At y3.2.2.2.2.2.2.1 (Pt x1.2.2.2.2.2.2.2.2.2.2.2.2.2.2.2.2.2.2.2.2.2.2.2.2.1)),(1015,At y3.2.2.2.2.2.2.2 (Pt x1.2.2.2.2.2.2.2.2.2.2.2.2.2.2.2.2.2.2.2.2.2.2.2.2.2))] a w:=s.pick [0,1,2,3,4,5,1016,1008,1009,1010,1011,1012,1013,1014,1015];refine R 1 s λa w s=>?_;refine se (R 3 s λa w s=>?_);refine Ja (α:=Pilots) (d:=6) 1017 155 s I I λc7 s=>?_;refine lA1 hm [0,1,2,3,4,5,14,1016,1008,1009,1010,1011,1012,1013,1014,1015] s (λz5 z5c0=>[(6,Qv z5c0),(15,Va z5.1),(1017,Ow 155 z5c0 z5.2)]) ⟨c7,s.fi⟩ (λ_=>I) (λo6s hko6 n z5 a w hm s=>?_) λo6s hm a w s=>?_
 ·obtain ⟨z5c0,s⟩:=s;unfold Ce at hm;refine R 1 s λa w s=>?_;refine se (cmt s hm (λhb hm=>?_) λhb hm=>?_)
  ·refine se (wpIn_block ?_);refine R 2 s λa w s=>?_;refine se (rg (sq s (Sy ci ci) I λa w s=>sqb 1018 s (al (z:=(⟨(0:Int),(0:Int)⟩:Pilots))) I I λb8 a w s=>sw (K:=1018) s (t I) I (t I) I λw s=>nl ?_));refine se (wpIn_block ?_);refine se (rg (ru 1 s λa w s=>sq s (oqsb (xs:=([x1.2.1,x1.2.2.2.2.1,x1.2.2.2.2.2.2.2.1,x1.2.2.2.2.2.2.2.2.2.2.1,x1.2.2.2.2.2.2.2.2.2.2.2.2.2.1,x1.2.2.2.2.2.2.2.2.2.2.2.2.2.2.2.2.1]:List Bool)) (lrc (K:=1016) Bool (t I) I I I I) I (Le hx4.e).1) I λa w s=>ru 8 s λa w s=>nl ?_));refine cM s hm (λhb hm=>?_) λhb hm=>?_
   ·rcases bfc hm with ⟨hj0,hm⟩ | ⟨_,hm⟩
    ·obtain ⟨x9,hx9,hm⟩:=bk hm;refine rg (ru 1 s λa w s=>sq s (lrp (K:=1016) (t I) I I kr_) I λa w s=>sq s (ccv (BM hj0 (t I) I) I on vn (va (k:=1008) I (va (k:=1009) I vn)) (s94 f _ _ _ hx9.e)) I λa w s=>sw (K:=1018) s (t I) I (t I) I λw s=>nl ?_);obtain ⟨x10,hx10,hm⟩:=bk hm;refine rg (ru 3 s λa w s=>apd (α:=Pilots) (k:=1017) s (t I) I (t I) hx10.e I I λc11 a w s=>ru 1 s λa w s=>nl ?_);refine R0 2 s λa w s=>?_;exact ⟨_,hm,⟨c11,s.fi⟩⟩
    ·rcases bfc hm with ⟨hj0,hm⟩ | ⟨_,hm⟩
     ·obtain ⟨x9,hx9,hm⟩:=bk hm;refine rg (ru 1 s λa w s=>sq s (lrp (K:=1016) (t I) I I kr_) I λa w s=>sq s (ccv (BM hj0 (t I) I) I on vn (va (k:=1010) I (va (k:=1011) I vn)) (s94 f _ _ _ hx9.e)) I λa w s=>sw (K:=1018) s (t I) I (t I) I λw s=>nl ?_);obtain ⟨x10,hx10,hm⟩:=bk hm;refine rg (ru 3 s λa w s=>apd (α:=Pilots) (k:=1017) s (t I) I (t I) hx10.e I I λc11 a w s=>ru 1 s λa w s=>nl ?_);refine R0 2 s λa w s=>?_;exact ⟨_,hm,⟨c11,s.fi⟩⟩
     ·rcases bfc hm with ⟨hj0,hm⟩ | ⟨_,hm⟩
      ·obtain ⟨x9,hx9,hm⟩:=bk hm;refine rg (ru 1 s λa w s=>sq s (lrp (K:=1016) (t I) I I kr_) I λa w s=>sq s (ccv (BM hj0 (t I) I) I on vn (va (k:=1012) I (va (k:=1013) I vn)) (s94 f _ _ _ hx9.e)) I λa w s=>sw (K:=1018) s (t I) I (t I) I λw s=>nl ?_);obtain ⟨x10,hx10,hm⟩:=bk hm;refine rg (ru 3 s λa w s=>apd (α:=Pilots) (k:=1017) s (t I) I (t I) hx10.e I I λc11 a w s=>ru 1 s λa w s=>nl ?_);refine R0 2 s λa w s=>?_;exact ⟨_,hm,⟨c11,s.fi⟩⟩
      ·rcases bfc hm with ⟨hj0,hm⟩ | ⟨_,hm⟩
       ·obtain ⟨x9,hx9,hm⟩:=bk hm;refine rg (ru 1 s λa w s=>sq s (lrp (K:=1016) (t I) I I kr_) I λa w s=>sq s (ccv (BM hj0 (t I) I) I on vn (va (k:=1014) I (va (k:=1015) I vn)) (s94 f _ _ _ hx9.e)) I λa w s=>sw (K:=1018) s (t I) I (t I) I λw s=>nl ?_);obtain ⟨x10,hx10,hm⟩:=bk hm;refine rg (ru 3 s λa w s=>apd (α:=Pilots) (k:=1017) s (t I) I (t I) hx10.e I I λc11 a w s=>ru 1 s λa w s=>nl ?_);refine R0 2 s λa w s=>?_;exact ⟨_,hm,⟨c11,s.fi⟩⟩
       ·cases hm
   ·refine se (rg (ru 1 s λa w s=>sq s (oqsb (xs:=([x1.2.1,x1.2.2.2.2.1,x1.2.2.2.2.2.2.2.1,x1.2.2.2.2.2.2.2.2.2.2.1,x1.2.2.2.2.2.2.2.2.2.2.2.2.2.1,x1.2.2.2.2.2.2.2.2.2.2.2.2.2.2.2.2.1]:List Bool)) (lrc (K:=1016) Bool (t I) I I I I) I (Le hx4.e).1) I λa w s=>ru 1 s λa w s=>nl ?_));obtain ⟨z12,hz12,hkz12⟩:=bs hm;refine cP [0,1,2,3,4,5,6,7,8,14,15,1016,1008,1009,1010,1011,1012,1013,1014,1015,1017] s [(1018,Mg b8 z12)] ?_ λa w s=>?_
    ·refine cm s I hz12 (λhb hm=>?_) (λhb hm=>?_)
     ·refine se ?_;obtain ⟨x13,hx13,hm⟩:=bk hm;refine se (fW 8 s kr_ I I λa w s=>nl ?_);obtain ⟨z14,hz14,hkz14⟩:=bs hm;refine cP [0,1,2,3,4,5,6,7,8,14,15,1016,1008,1009,1010,1011,1012,1013,1014,1015,1017] s [(1018,Mg b8 z14)] ?_ λa w s=>?_
      ·refine cm s I hz14 (λhb hm=>?_) (λhb hm=>?_)
       ·refine rg (ru 3 s λa w s=>sf (γ:=Pilots) (K:=1018) s (t I) I (qsi (xs:=([x1.2.2.1,x1.2.2.2.2.2.1,x1.2.2.2.2.2.2.2.2.1,x1.2.2.2.2.2.2.2.2.2.2.2.1,x1.2.2.2.2.2.2.2.2.2.2.2.2.2.2.1,x1.2.2.2.2.2.2.2.2.2.2.2.2.2.2.2.2.2.1]:List Int)) (t I) I (Le hx4.e).1) λw s=>nl ?_);obtain rfl:=si hm;exact s.fi
       ·refine wpIn_skip ?_;obtain rfl:=si hm;exact s.fi
      ·replace hm:=hkz14;obtain ⟨x15,hx15,hm⟩:=bk hm;refine se (fW 8 s kr_ I I λa w s=>nl ?_);obtain ⟨z16,hz16,hkz16⟩:=bs hm;refine cP [0,1,2,3,4,5,6,7,8,14,15,1016,1008,1009,1010,1011,1012,1013,1014,1015,1017] s [(1018,Mg b8 z16)] ?_ λa w s=>?_
       ·refine cm s I hz16 (λhb hm=>?_) (λhb hm=>?_)
        ·refine rg (ru 3 s λa w s=>sf (γ:=Pilots) (K:=1018) s (t I) I (qsi (xs:=([x1.2.2.1,x1.2.2.2.2.2.1,x1.2.2.2.2.2.2.2.2.1,x1.2.2.2.2.2.2.2.2.2.2.2.1,x1.2.2.2.2.2.2.2.2.2.2.2.2.2.2.1,x1.2.2.2.2.2.2.2.2.2.2.2.2.2.2.2.2.2.1]:List Int)) (t I) I (Le hx4.e).1) λw s=>nl ?_);obtain rfl:=si hm;exact s.fi
        ·refine wpIn_skip ?_;obtain rfl:=si hm;exact s.fi
       ·replace hm:=hkz16;obtain rfl:=si hm;exact s.fi
     ·refine wpIn_skip ?_;obtain rfl:=si hm;exact s.fi
    ·replace hm:=hkz12;obtain ⟨x17,hx17,hm⟩:=bk hm;refine rg (ru 3 s λa w s=>apd (α:=Pilots) (k:=1017) s (t I) I (t I) hx17.e I I λc18 a w s=>ru 1 s λa w s=>nl ?_);refine R0 2 s λa w s=>?_;exact ⟨_,hm,⟨c18,s.fi⟩⟩
  ·refine wpIn_exit ?_;obtain rfl:=si hm;exact ⟨z5c0,s.fi⟩
 ·obtain ⟨o6sc0,s⟩:=s;refine R 2 s λa w s=>?_;obtain rfl:=si hm;refine fzk (α:=Pilots) (k:=1017) hM s I λs=>?_;refine wpIn_ret ?_;exact rn hD s I (rv1 (ro (ta (k:=1017) (t I) I)))
def Ph (v0:List ByteArray) (v1:ByteArray):Nat->Int->Option (Lo (Int) (Int))
 | 0,_=>none
 | n+1,z1=>(bif (decide (z1 < (v0.length:Int))) then (idx v0 z1).bind λx3=>(bif (v1.toList == x3.toList) then some (.ret z1) else Ph v0 v1 n (wr (z1 + 1))) else some (.brk z1))
def m139 (f:Nat) (v0:List ByteArray) (v1:ByteArray):Option (Int):=((Ph v0 v1 f (0:Int)).bind λo2=>match o2 with | .brk o2s=>some (-1:Int) | .ret r=>some r)
theorem s139 (f:Nat) (v0:List ByteArray) (v1:ByteArray) (r:Int) (hm:m139 f v0 v1=some r):Sp Tryz.prog 139 [Va v0,Va v1] (Va r):=by
 unfold m139 at hm;refine ens func139 kr_ I ntmps139 I I λM W a hM hD s=>?_;refine R 1 s λa w s=>?_;refine se (R 3 s λa w s=>?_);refine lB hm [0,1,4,7] s (λz1=>[(8,Va z1)]) s.fi (λ_=>I) (λo2 hko2 n z1 a w hm s=>?_) λo2s hm a w s=>?_
 ·unfold Ph at hm;refine R 1 s λa w s=>?_;refine se (cmt s hm (λhb hm=>?_) λhb hm=>?_)
  ·refine se (wpIn_block ?_);refine R 2 s λa w s=>?_;refine se (rg (ru 3 s λa w s=>iB s hm λx3 hm a w s=>ru 2 s λa w s=>nl ?_));refine cmf s hm (λhb hm=>?_) λhb hm=>?_
   ·refine R 2 s λa w s=>?_;obtain rfl:=si hm;replace hm:=hko2;dsimp only at hm;cases hm;exact rT hD s I I
   ·refine R0 2 s λa w s=>?_;exact ⟨_,hm,s.fi⟩
  ·refine wpIn_exit ?_;exact ⟨_,(si hm).symm,s.fi⟩
 ·dsimp only at hm;refine R 1 s λa w s=>?_;cases hm;exact rT hD s I I
def m110 (f:Nat) (v0:List ByteArray) (v1:ByteArray):Option (Bool):=(m139 f v0 v1).bind λx1=>some (decide (x1>=(0:Int)))
theorem s110 (f:Nat) (v0:List ByteArray) (v1:ByteArray) (r:Bool) (hm:m110 f v0 v1=some r):Sp Tryz.prog 110 [Va v0,Va v1] (Va r):=by
 unfold m110 at hm;refine ens func110 kr_ I ntmps110 I I λM W a hM hD s=>?_;refine R 1 s λa w s=>?_;refine se (rg (ru 2 s λa w s=>cB s hm (s139 f _ _) λx1 hm a w s=>ru 2 s λa w s=>nl ?_));cases hm;exact rT hD s I I
def Ma (f:Nat) (o16s:Int×(List ByteArray)) (z30:Int×(List Ae)×(List Int)×(List Int)×(List ByteArray)×(List Bool)):Nat->ByteArray->Option (ByteArray)
 | 0,_=>none
 | n+1,z44=>(m110 f z30.2.2.2.2.1 z44).bind λx46=>(bif x46 then (cat z44 (⟨#[95]⟩:ByteArray)).bind λx47=>Ma f o16s z30 n x47 else some z44)
def Ka (z30:Int×(List Ae)×(List Int)×(List Int)×(List ByteArray)×(List Bool)) (x33:ByteArray) (x34:Int) (x35:(List Pilots)):Nat->(Bool×Int×(List Int)×(List Int))->Option (Bool×Int×(List Int)×(List Int))
 | 0,_=>none
 | n+1,z36=>(bif (decide (z36.2.1 < (x35.length:Int))) then (idx x35 z36.2.1).bind λx38=>(bif (x38.plus == z30.1) then (idx z36.2.2.1 z36.2.1).bind λx41=>some (true,(z36.2.2.1.set z36.2.1.toNat x34)) else some (z36.1,z36.2.2.1)).bind λz40=>(bif (x38.minus == z30.1) then (idx z36.2.2.2 z36.2.1).bind λx43=>some (true,(z36.2.2.2.set z36.2.1.toNat x34)) else some (z40.1,z36.2.2.2)).bind λz42=>Ka z30 x33 x34 x35 n (z42.1,(wr (z36.2.1 + 1)),z40.2,z42.2) else some (z36.1,z36.2.1,z36.2.2.1,z36.2.2.2))
def Bw (f:Nat) (v0:Aa) (v1:Fault) (x7:(List ByteArray)) (o16s:Int×(List ByteArray)):Nat->(Int×(List Ae)×(List Int)×(List Int)×(List ByteArray)×(List Bool))->Option (Int×(List Ae)×(List Int)×(List Int)×(List ByteArray)×(List Bool))
 | 0,_=>none
 | n+1,z30=>(bif (decide (z30.1 < (([(⟨#[115,116,117,99,107,48]⟩:ByteArray),(⟨#[115,116,117,99,107,49]⟩:ByteArray)]:List ByteArray).length:Int))) then (idx ([(⟨#[115,116,117,99,107,48]⟩:ByteArray),(⟨#[115,116,117,99,107,49]⟩:ByteArray)]:List ByteArray) z30.1).bind λx33=>(m107 f (⟨v0.Actuators,x7,z30.2.1,z30.2.2.1,z30.2.2.2.1⟩:Aa)).bind λx34=>(m109 f v0 v1).bind λx35=>(Ka z30 x33 x34 x35 f (false,(0:Int),z30.2.2.1,z30.2.2.2.1)).bind λo37s=>(bif (!o37s.1) then Bw f v0 v1 x7 o16s n ((wr (z30.1 + 1)),z30.2.1,o37s.2.2.1,o37s.2.2.2,z30.2.2.2.2.1,z30.2.2.2.2.2) else (Ma f o16s z30 f x33).bind λo45s=>(app z30.2.2.2.2.1 ([o45s]:List ByteArray)).bind λx48=>(app z30.2.1 ([(⟨o45s,(0:Int),(⟨(0:Int),z30.1,([]:List Expr)⟩:Expr),(⟨(0:Int),(0:Int),([]:List Expr)⟩:Expr),(0:Int),false⟩:Ae)]:List Ae)).bind λx50=>(app z30.2.2.2.2.2 ([(z30.1 == 1)]:List Bool)).bind λx52=>Bw f v0 v1 x7 o16s n ((wr (z30.1 + 1)),x50,o37s.2.2.1,o37s.2.2.2,x48,x52)) else some (z30.1,z30.2.1,z30.2.2.1,z30.2.2.2.1,z30.2.2.2.2.1,z30.2.2.2.2.2))
def Mb (f:Nat) (v0:Aa) (x2:ByteArray×Bool×Int×ByteArray×Bool×Int×ByteArray×Bool×Int×ByteArray×Bool×Int×ByteArray×Bool×Int×ByteArray×Bool×Int×Int×Int×Int×Int×Int×Int×Int×Int) (x5:Nat) (z6:Int):Nat->(Int×(List Ae))->Option (Int×(List Ae))
 | 0,_=>none
 | n+1,z21=>(bif (decide (z21.1 < (v0.Signals.length:Int))) then (idx v0.Signals z21.1).bind λx24=>(m108 f x24.On z6 (([x2.2.2.1,x2.2.2.2.2.2.1,x2.2.2.2.2.2.2.2.2.1,x2.2.2.2.2.2.2.2.2.2.2.2.1,x2.2.2.2.2.2.2.2.2.2.2.2.2.2.2.1,x2.2.2.2.2.2.2.2.2.2.2.2.2.2.2.2.2.2.1]:List Int).getD x5 0)).bind λx26=>(m108 f (({ x24 with On:=x26.1 }).Off) z6 (([x2.2.2.1,x2.2.2.2.2.2.1,x2.2.2.2.2.2.2.2.2.1,x2.2.2.2.2.2.2.2.2.2.2.2.1,x2.2.2.2.2.2.2.2.2.2.2.2.2.2.2.1,x2.2.2.2.2.2.2.2.2.2.2.2.2.2.2.2.2.2.1]:List Int).getD x5 0)).bind λx27=>(app z21.2 ([{ { x24 with On:=x26.1 } with Off:=x27.1 }]:List Ae)).bind λx28=>Mb f v0 x2 x5 z6 n ((wr (z21.1 + 1)),x28) else some (z21.1,z21.2))
def Mc (f:Nat) (v0:Aa) (x14:Int):Nat->(Int×(List ByteArray))->Option (Int×(List ByteArray))
 | 0,_=>none
 | n+1,z15=>(bif (decide (z15.1 < x14)) then (m55 f v0 z15.1).bind λx18=>(app z15.2 ([x18.1]:List ByteArray)).bind λx19=>Mc f v0 x14 n ((wr (z15.1 + 1)),x19) else some (z15.1,z15.2))
def m79 (f:Nat) (v0:Aa) (v1:Fault):Option (Aa×(List Bool)):=(m54 f).bind λx2=>(idx (List.range 6) v1.Kind).bind λx5=>(bif (([x2.2.1,x2.2.2.2.2.1,x2.2.2.2.2.2.2.2.1,x2.2.2.2.2.2.2.2.2.2.2.1,x2.2.2.2.2.2.2.2.2.2.2.2.2.2.1,x2.2.2.2.2.2.2.2.2.2.2.2.2.2.2.2.2.1]:List Bool).getD x5 false) then some v1.Index else some (-1:Int)).bind λz6=>(m105 f v0.Inputs).bind λx7=>(m106 f v0.Plus).bind λx8=>(m106 f v0.Minus).bind λx9=>(m107 f v0).bind λx14=>(Mc f v0 x14 f ((0:Int),([]:List ByteArray))).bind λo16s=>(Mb f v0 x2 x5 z6 f ((0:Int),([]:List Ae))).bind λo22s=>(Bw f v0 v1 x7 o16s f ((0:Int),o22s.2,x8,x9,o16s.2,([]:List Bool))).bind λo31s=>some ((⟨v0.Actuators,x7,o31s.2.1,o31s.2.2.1,o31s.2.2.2.1⟩:Aa),o31s.2.2.2.2.2)
theorem s79 (f:Nat) (v0:Aa) (v1:Fault) (r:Aa×(List Bool)) (hm:m79 f v0 v1=some r):Sp Tryz.prog 79 [Va v0,Va v1] (T2 (Va r.1) (Va r.2)):=by
 unfold m79 at hm;refine ens func79 kr_ I ntmps79 I I λM W a hM hD s=>?_;refine se (rg (ru 2 s λa w s=>aR 1000 s λb1 a w s=>ru 1 s λa w s=>nl ?_));obtain ⟨x2,hx2,hm⟩:=bk hm;obtain ⟨x5,hx5,hm⟩:=bk hm;refine se (Az [] [0,1,2] [22,23,24] [] [] [6] [(3,[]),(5,[6])] s (.skip (.late (.skip (.cons (.cons (.cons .nil I I (cc I on (s54 f _ hx2.e))) I I (fa (f:=Fault.Kind) (t I))) I I (ld (t I))) I) I I (alr (cs:=[(.string ByteArray.empty),(.bool false),(.int .i64 0),.nilFunc]) (z:=.agg #[(.string ByteArray.empty),(.bool false),(.int .i64 0),.nilFunc]) kr_ I I)) I) kr_ kr_ I I sw0 I (by decide) I I ?_);refine ⟨⟨λ_=>I,I,.inr ⟨sw0,sb0,sn0⟩⟩,by kernel_rfl,_,I,λΨ a w s=>opz (d:=22) [1009,1010,1011,1012,1013,1014,1015,1016] s I (λ_=>I) I λy4 s=>sq s (aixA (e:=114) (len:=6) (sz:=4) (cols:=[[(.string x2.1),(.string x2.2.2.2.1),(.string x2.2.2.2.2.2.2.1),(.string x2.2.2.2.2.2.2.2.2.2.1),(.string x2.2.2.2.2.2.2.2.2.2.2.2.2.1),(.string x2.2.2.2.2.2.2.2.2.2.2.2.2.2.2.2.1)],[(.bool x2.2.1),(.bool x2.2.2.2.2.1),(.bool x2.2.2.2.2.2.2.2.1),(.bool x2.2.2.2.2.2.2.2.2.2.2.1),(.bool x2.2.2.2.2.2.2.2.2.2.2.2.2.2.1),(.bool x2.2.2.2.2.2.2.2.2.2.2.2.2.2.2.2.2.1)],[(.int .i64 x2.2.2.1),(.int .i64 x2.2.2.2.2.2.1),(.int .i64 x2.2.2.2.2.2.2.2.2.1),(.int .i64 x2.2.2.2.2.2.2.2.2.2.2.2.1),(.int .i64 x2.2.2.2.2.2.2.2.2.2.2.2.2.2.2.1),(.int .i64 x2.2.2.2.2.2.2.2.2.2.2.2.2.2.2.2.2.2.1)],[(fv 94 [] [y4.1,y4.2.1]),(fv 94 [] [y4.2.2.1,y4.2.2.2.1]),.nilFunc,.nilFunc,(fv 94 [] [y4.2.2.2.2.1,y4.2.2.2.2.2.1]),(fv 94 [] [y4.2.2.2.2.2.2.1,y4.2.2.2.2.2.2.2])]]) (t I) (t I) kr_ kr_ kr_ I hx5.e) I λa w s=>nl ?_⟩;refine nxt Ψ s ?_;refine ⟨⟨λ_=>I,I,.inr ⟨sw0,sb0,sn0⟩⟩,by kernel_rfl,_,I,λΨ a w s=>opr (d:=6) 1017 s I I λb3 s=>sra (K:=1017) (m:=[(Au x5 [(.string x2.1),(.string x2.2.2.2.1),(.string x2.2.2.2.2.2.2.1),(.string x2.2.2.2.2.2.2.2.2.2.1),(.string x2.2.2.2.2.2.2.2.2.2.2.2.2.1),(.string x2.2.2.2.2.2.2.2.2.2.2.2.2.2.2.2.1)]),(Au x5 [(.bool x2.2.1),(.bool x2.2.2.2.2.1),(.bool x2.2.2.2.2.2.2.2.1),(.bool x2.2.2.2.2.2.2.2.2.2.2.1),(.bool x2.2.2.2.2.2.2.2.2.2.2.2.2.2.1),(.bool x2.2.2.2.2.2.2.2.2.2.2.2.2.2.2.2.2.1)]),(Au x5 [(.int .i64 x2.2.2.1),(.int .i64 x2.2.2.2.2.2.1),(.int .i64 x2.2.2.2.2.2.2.2.2.1),(.int .i64 x2.2.2.2.2.2.2.2.2.2.2.2.1),(.int .i64 x2.2.2.2.2.2.2.2.2.2.2.2.2.2.2.1),(.int .i64 x2.2.2.2.2.2.2.2.2.2.2.2.2.2.2.2.2.2.1)]),(Au x5 [(fv 94 [] [y4.1,y4.2.1]),(fv 94 [] [y4.2.2.1,y4.2.2.2.1]),.nilFunc,.nilFunc,(fv 94 [] [y4.2.2.2.2.1,y4.2.2.2.2.2.1]),(fv 94 [] [y4.2.2.2.2.2.2.1,y4.2.2.2.2.2.2.2])])]) (cs':=[(Au x5 [(.string x2.1),(.string x2.2.2.2.1),(.string x2.2.2.2.2.2.2.1),(.string x2.2.2.2.2.2.2.2.2.2.1),(.string x2.2.2.2.2.2.2.2.2.2.2.2.2.1),(.string x2.2.2.2.2.2.2.2.2.2.2.2.2.2.2.2.1)]),(Au x5 [(.bool x2.2.1),(.bool x2.2.2.2.2.1),(.bool x2.2.2.2.2.2.2.2.1),(.bool x2.2.2.2.2.2.2.2.2.2.2.1),(.bool x2.2.2.2.2.2.2.2.2.2.2.2.2.2.1),(.bool x2.2.2.2.2.2.2.2.2.2.2.2.2.2.2.2.2.1)]),(Au x5 [(.int .i64 x2.2.2.1),(.int .i64 x2.2.2.2.2.2.1),(.int .i64 x2.2.2.2.2.2.2.2.2.1),(.int .i64 x2.2.2.2.2.2.2.2.2.2.2.2.1),(.int .i64 x2.2.2.2.2.2.2.2.2.2.2.2.2.2.2.1),(.int .i64 x2.2.2.2.2.2.2.2.2.2.2.2.2.2.2.2.2.2.1)]),(Au x5 [(fv 94 [] [y4.1,y4.2.1]),(fv 94 [] [y4.2.2.1,y4.2.2.2.1]),.nilFunc,.nilFunc,(fv 94 [] [y4.2.2.2.2.1,y4.2.2.2.2.2.1]),(fv 94 [] [y4.2.2.2.2.2.2.1,y4.2.2.2.2.2.2.2])])]) s (t I) I (t I) kr_ I I I λw s=>nl ?_⟩
 refine nxt Ψ s ?_;refine ⟨⟨λ_=>I,I,.inl I⟩,λa w s=>?_⟩;replace s:St M W 157 [(0,Va v0),(1,Va v1),(2,Pt v0),(3,Pt v1),(4,Qv (pb b1 0)),(5,Qv nz),(6,Qv (pb b3 0)),(1000,Mr b1 [(.int .i64 0),nz,nz,nz,nz]),(1017,Mr b3 [(Au x5 [(.string x2.1),(.string x2.2.2.2.1),(.string x2.2.2.2.2.2.2.1),(.string x2.2.2.2.2.2.2.2.2.2.1),(.string x2.2.2.2.2.2.2.2.2.2.2.2.2.1),(.string x2.2.2.2.2.2.2.2.2.2.2.2.2.2.2.2.1)]),(Au x5 [(.bool x2.2.1),(.bool x2.2.2.2.2.1),(.bool x2.2.2.2.2.2.2.2.1),(.bool x2.2.2.2.2.2.2.2.2.2.2.1),(.bool x2.2.2.2.2.2.2.2.2.2.2.2.2.2.1),(.bool x2.2.2.2.2.2.2.2.2.2.2.2.2.2.2.2.2.1)]),(Au x5 [(.int .i64 x2.2.2.1),(.int .i64 x2.2.2.2.2.2.1),(.int .i64 x2.2.2.2.2.2.2.2.2.1),(.int .i64 x2.2.2.2.2.2.2.2.2.2.2.2.1),(.int .i64 x2.2.2.2.2.2.2.2.2.2.2.2.2.2.2.1),(.int .i64 x2.2.2.2.2.2.2.2.2.2.2.2.2.2.2.2.2.2.1)]),(Au x5 [(fv 94 [] [y4.1,y4.2.1]),(fv 94 [] [y4.2.2.1,y4.2.2.2.1]),.nilFunc,.nilFunc,(fv 94 [] [y4.2.2.2.2.1,y4.2.2.2.2.2.1]),(fv 94 [] [y4.2.2.2.2.2.2.1,y4.2.2.2.2.2.2.2])])]),(1009,At y4.1 (Pt x2.2.2.2.2.2.2.2.2.2.2.2.2.2.2.2.2.2.2.1)),(1010,At y4.2.1 (Pt x2.2.2.2.2.2.2.2.2.2.2.2.2.2.2.2.2.2.2.2.1)),(1011,At y4.2.2.1 (Pt x2.2.2.2.2.2.2.2.2.2.2.2.2.2.2.2.2.2.2.2.2.1)),(1012,At y4.2.2.2.1 (Pt x2.2.2.2.2.2.2.2.2.2.2.2.2.2.2.2.2.2.2.2.2.2.1)),(1013,At y4.2.2.2.2.1 (Pt x2.2.2.2.2.2.2.2.2.2.2.2.2.2.2.2.2.2.2.2.2.2.2.1)),(1014,At y4.2.2.2.2.2.1 (Pt x2.2.2.2.2.2.2.2.2.2.2.2.2.2.2.2.2.2.2.2.2.2.2.2.1)),(1015,At y4.2.2.2.2.2.2.1 (Pt x2.2.2.2.2.2.2.2.2.2.2.2.2.2.2.2.2.2.2.2.2.2.2.2.2.1)),(1016,At y4.2.2.2.2.2.2.2 (Pt x2.2.2.2.2.2.2.2.2.2.2.2.2.2.2.2.2.2.2.2.2.2.2.2.2.2))] a w:=s.pick [0,1,2,3,4,5,6,1000,1017,1009,1010,1011,1012,1013,1014,1015,1016];refine R 1 s λa w s=>?_;refine se (se (rg (ru 1 s λa w s=>sq s (oqsb (xs:=([x2.2.1,x2.2.2.2.2.1,x2.2.2.2.2.2.2.2.1,x2.2.2.2.2.2.2.2.2.2.2.1,x2.2.2.2.2.2.2.2.2.2.2.2.2.2.1,x2.2.2.2.2.2.2.2.2.2.2.2.2.2.2.2.2.1]:List Bool)) (lrc (K:=1017) Bool (t I) I I I I) I (Le hx5.e).1) I λa w s=>nl ?_)));obtain ⟨z6,hz6,hkz6⟩:=bs hm;refine cP [0,1,2,3,4,5,6,1000,1017,1009,1010,1011,1012,1013,1014,1015,1016] s [(7,Va z6)] ?_ λa w s=>?_
 ·refine cm s I hz6 (λhb hm=>?_) (λhb hm=>?_)
  ·refine R0 3 s λa w s=>?_;obtain rfl:=si hm;exact s.fi
  ·refine wpIn_skip ?_;obtain rfl:=si hm;exact s.fi
 ·replace hm:=hkz6;obtain ⟨x7,hx7,hm⟩:=bk hm;obtain ⟨x8,hx8,hm⟩:=bk hm;obtain ⟨x9,hx9,hm⟩:=bk hm;refine se (Az [] [0,1,2,3,4,5,6,7,8,9,10] [30,31,32,33,34,35,36,37,38,39,40] [] [] [8] [(11,[]),(13,[8])] s (.skip (.late (.skip (.cons (.cons (.cons (.cons (.cons (.cons (.cons (.cons (.cons (.cons (.cons .nil I I (fa (f:=Aa.Actuators) (t I))) I I (ld (t I))) I I (fa (f:=Aa.Inputs) (t I))) I I (ld (t I))) I I (cc I (oc (t I) on) (s105 f _ _ hx7.e))) I I (fa (f:=Aa.Plus) (t I))) I I (ld (t I))) I I (cc I (oc (t I) on) (s106 f _ _ hx8.e))) I I (fa (f:=Aa.Minus) (t I))) I I (ld (t I))) I I (cc I (oc (t I) on) (s106 f _ _ hx9.e))) I) I I (alr (cs:=[(.int .i64 0),nz,nz,nz,nz]) (z:=.agg #[(.int .i64 0),nz,nz,nz,nz]) kr_ I I)) I) kr_ kr_ I I sw0 I (by decide) I I ?_);refine ⟨⟨λ_=>I,I,.inr ⟨sw0,sb0,sn0⟩⟩,by kernel_rfl,_,I,λΨ a w s=>opz (d:=34) [1022] s I (λ_=>I) I λy11 s=>opz (d:=37) [1023] s I (λ_=>I) I λy12 s=>opz (d:=40) [1024] s I (λ_=>I) I λy13 s=>sq s (bla (L:=[(0,1),(1,1),(2,1),(3,1),(4,1)]) (z:=[(.int .i64 0),nz,nz,nz,nz]) (res:=[(.int .i64 v0.Actuators),y11,nz,y12,y13]) I kr_ kr_ (pdq (iq (t I)) (ocr I) (pdq (t I) (oco (k:=1022) I) (pdq (t I) (oco (k:=1023) I) (pdq (t I) (oco (k:=1024) I) pdn)))) I I) I λa w s=>nl ?_⟩;refine nxt Ψ s ?_;refine ⟨⟨λ_=>I,I,.inr ⟨sw0,sb0,sn0⟩⟩,by kernel_rfl,_,I,λΨ a w s=>opr (d:=8) 1025 s I I λb10 s=>sra (K:=1025) (m:=[(.int .i64 v0.Actuators),y11,nz,y12,y13]) (cs':=[(.int .i64 v0.Actuators),y11,nz,y12,y13]) s (t I) I (t I) kr_ I I I λw s=>nl ?_⟩;refine nxt Ψ s ?_;refine ⟨⟨λ_=>I,I,.inl I⟩,λa w s=>?_⟩;replace s:St M W 157 [(0,Va v0),(1,Va v1),(2,Pt v0),(3,Pt v1),(4,Qv (pb b1 0)),(5,Qv nz),(6,Qv (pb b3 0)),(7,Va z6),(8,Qv (pb b10 0)),(1000,Mr b1 [(.int .i64 0),nz,nz,nz,nz]),(1017,Mr b3 [(Au x5 [(.string x2.1),(.string x2.2.2.2.1),(.string x2.2.2.2.2.2.2.1),(.string x2.2.2.2.2.2.2.2.2.2.1),(.string x2.2.2.2.2.2.2.2.2.2.2.2.2.1),(.string x2.2.2.2.2.2.2.2.2.2.2.2.2.2.2.2.1)]),(Au x5 [(.bool x2.2.1),(.bool x2.2.2.2.2.1),(.bool x2.2.2.2.2.2.2.2.1),(.bool x2.2.2.2.2.2.2.2.2.2.2.1),(.bool x2.2.2.2.2.2.2.2.2.2.2.2.2.2.1),(.bool x2.2.2.2.2.2.2.2.2.2.2.2.2.2.2.2.2.1)]),(Au x5 [(.int .i64 x2.2.2.1),(.int .i64 x2.2.2.2.2.2.1),(.int .i64 x2.2.2.2.2.2.2.2.2.1),(.int .i64 x2.2.2.2.2.2.2.2.2.2.2.2.1),(.int .i64 x2.2.2.2.2.2.2.2.2.2.2.2.2.2.2.1),(.int .i64 x2.2.2.2.2.2.2.2.2.2.2.2.2.2.2.2.2.2.1)]),(Au x5 [(fv 94 [] [y4.1,y4.2.1]),(fv 94 [] [y4.2.2.1,y4.2.2.2.1]),.nilFunc,.nilFunc,(fv 94 [] [y4.2.2.2.2.1,y4.2.2.2.2.2.1]),(fv 94 [] [y4.2.2.2.2.2.2.1,y4.2.2.2.2.2.2.2])])]),(1009,At y4.1 (Pt x2.2.2.2.2.2.2.2.2.2.2.2.2.2.2.2.2.2.2.1)),(1010,At y4.2.1 (Pt x2.2.2.2.2.2.2.2.2.2.2.2.2.2.2.2.2.2.2.2.1)),(1011,At y4.2.2.1 (Pt x2.2.2.2.2.2.2.2.2.2.2.2.2.2.2.2.2.2.2.2.2.1)),(1012,At y4.2.2.2.1 (Pt x2.2.2.2.2.2.2.2.2.2.2.2.2.2.2.2.2.2.2.2.2.2.1)),(1013,At y4.2.2.2.2.1 (Pt x2.2.2.2.2.2.2.2.2.2.2.2.2.2.2.2.2.2.2.2.2.2.2.1)),(1014,At y4.2.2.2.2.2.1 (Pt x2.2.2.2.2.2.2.2.2.2.2.2.2.2.2.2.2.2.2.2.2.2.2.2.1)),(1015,At y4.2.2.2.2.2.2.1 (Pt x2.2.2.2.2.2.2.2.2.2.2.2.2.2.2.2.2.2.2.2.2.2.2.2.2.1)),(1016,At y4.2.2.2.2.2.2.2 (Pt x2.2.2.2.2.2.2.2.2.2.2.2.2.2.2.2.2.2.2.2.2.2.2.2.2.2)),(1025,Mr b10 [(.int .i64 v0.Actuators),y11,nz,y12,y13]),(1022,Ow 9 y11 x7),(1023,Ow 3 y12 x8),(1024,Ow 3 y13 x9)] a w:=s.pick [0,1,2,3,4,5,6,7,8,1000,1017,1009,1010,1011,1012,1013,1014,1015,1016,1025,1022,1023,1024]
  refine R 1 s λa w s=>?_;refine se (se (rg (ru 1 s λa w s=>cB s hm (s107 f _) λx14 hm a w s=>ru 1 s λa w s=>nl ?_)));refine Ja (α:=ByteArray) (d:=9) 1026 9 s I I λc17 s=>?_;refine lA1 hm [0,1,2,3,4,5,6,7,8,43,1000,1017,1009,1010,1011,1012,1013,1014,1015,1016,1025,1022,1023,1024] s (λz15 z15c0=>[(9,Qv z15c0),(44,Va z15.1),(1026,Ow 9 z15c0 z15.2)]) ⟨c17,s.fi⟩ (λ_=>I) (λo16s hko16 n z15 a w hm s=>?_) λo16s hm a w s=>?_
  ·obtain ⟨z15c0,s⟩:=s;unfold Mc at hm;refine R 1 s λa w s=>?_;refine se (cmt s hm (λhb hm=>?_) λhb hm=>?_)
   ·refine se (wpIn_block ?_);refine R 2 s λa w s=>?_;refine se (rg (ru 2 s λa w s=>cB s hm (s55 f _ _) λx18 hm a w s=>ru 5 s λa w s=>nl ?_));obtain ⟨x19,hx19,hm⟩:=bk hm;refine rg (ru 3 s λa w s=>apd (α:=ByteArray) (k:=1026) s (t I) I (t I) hx19.e I I λc20 a w s=>ru 1 s λa w s=>nl ?_);refine R0 2 s λa w s=>?_;exact ⟨_,hm,⟨c20,s.fi⟩⟩
   ·refine wpIn_exit ?_;obtain rfl:=si hm;exact ⟨z15c0,s.fi⟩
  ·obtain ⟨o16sc0,s⟩:=s;refine se (R 4 s λa w s=>?_);refine B9 (α:=Ae) (k:=1025) (cs':=λc23=>[(.int .i64 v0.Actuators),y11,c23,y12,y13]) 1028 85 s I (λ_=>I) I λc23 s=>?_;refine lA1 hm [0,1,2,3,4,5,6,7,8,9,43,44,59,60,1000,1017,1009,1010,1011,1012,1013,1014,1015,1016,1022,1023,1024,1026] s (λz21 z21c0=>[(61,Va z21.1),(1025,Mr b10 [(.int .i64 v0.Actuators),y11,z21c0,y12,y13]),(1028,Ow 85 z21c0 z21.2)]) ⟨c23,s.fi⟩ (λ_=>I) (λo22s hko22 n z21 a w hm s=>?_) λo22s hm a w s=>?_
   ·obtain ⟨z21c0,s⟩:=s;unfold Mb at hm;refine R 1 s λa w s=>?_;refine se (cmt s hm (λhb hm=>?_) λhb hm=>?_)
    ·refine se (wpIn_block ?_);refine se (rg (iB s hm λx24 hm a w s=>ru 1 s λa w s=>aR 1029 s λb25 a w s=>sW s I λw s=>nl ?_));obtain ⟨x26,hx26,hm⟩:=bk hm;refine se (rg (ru 5 s λa w s=>sq s (cc I (oc (t I) (oc (t I) (oc (qsi (xs:=([x2.2.2.1,x2.2.2.2.2.2.1,x2.2.2.2.2.2.2.2.2.1,x2.2.2.2.2.2.2.2.2.2.2.2.1,x2.2.2.2.2.2.2.2.2.2.2.2.2.2.2.1,x2.2.2.2.2.2.2.2.2.2.2.2.2.2.2.2.2.2.1]:List Int)) (t I) I (Le hx5.e).1) on))) (s108 f _ _ _ _ hx26.e)) I λa w s=>ru 4 s λa w s=>sf (γ:=Ae) (K:=1029) s (t I) I (t I) λw s=>nl ?_));obtain ⟨x27,hx27,hm⟩:=bk hm;refine se (rg (ru 5 s λa w s=>sq s (cc I (oc (t I) (oc (t I) (oc (qsi (xs:=([x2.2.2.1,x2.2.2.2.2.2.1,x2.2.2.2.2.2.2.2.2.1,x2.2.2.2.2.2.2.2.2.2.2.2.1,x2.2.2.2.2.2.2.2.2.2.2.2.2.2.2.1,x2.2.2.2.2.2.2.2.2.2.2.2.2.2.2.2.2.2.1]:List Int)) (t I) I (Le hx5.e).1) on))) (s108 f _ _ _ _ hx27.e)) I λa w s=>ru 4 s λa w s=>sf (γ:=Ae) (K:=1029) s (t I) I (t I) λw s=>nl ?_));obtain ⟨x28,hx28,hm⟩:=bk hm;refine rg (ru 4 s λa w s=>apd (α:=Ae) (k:=1028) s (t I) I (t I) hx28.e I I λc29 a w s=>ru 1 s λa w s=>srq (K:=1025) (cs':=[(.int .i64 v0.Actuators),y11,c29,y12,y13]) s (t I) I (t I) kr_ (oco (k:=1028) I) I I λw s=>nl ?_);refine R0 2 s λa w s=>?_;exact ⟨_,hm,⟨c29,s.fi⟩⟩
    ·refine wpIn_exit ?_;obtain rfl:=si hm;exact ⟨z21c0,s.fi⟩
   ·obtain ⟨o22sc0,s⟩:=s;refine R 1 s λa w s=>?_;refine se (R 3 s λa w s=>?_);refine Ja (α:=Bool) (d:=15) 1030 4 s I I λc32 s=>?_;refine la hm (λz30 a w=>∃ (z30c0:Value) (z30c1:Value) (z30c2:Value),St M W 157 [(0,Va v0),(1,Va v1),(2,Pt v0),(3,Pt v1),(4,Qv (pb b1 0)),(5,Qv nz),(6,Qv (pb b3 0)),(7,Va z6),(8,Qv (pb b10 0)),(9,Qv z30c1),(15,Qv z30c2),(43,Va x14),(44,Va o16s.1),(59,Va v0.Signals),(60,Va ((v0.Signals.length:Int))),(61,Va o22s.1),(92,Va (([(⟨#[115,116,117,99,107,48]⟩:ByteArray),(⟨#[115,116,117,99,107,49]⟩:ByteArray)]:List ByteArray))),(93,Va ((([(⟨#[115,116,117,99,107,48]⟩:ByteArray),(⟨#[115,116,117,99,107,49]⟩:ByteArray)]:List ByteArray).length:Int))),(94,Va z30.1),(1000,Mr b1 [(.int .i64 0),nz,nz,nz,nz]),(1017,Mr b3 [(Au x5 [(.string x2.1),(.string x2.2.2.2.1),(.string x2.2.2.2.2.2.2.1),(.string x2.2.2.2.2.2.2.2.2.2.1),(.string x2.2.2.2.2.2.2.2.2.2.2.2.2.1),(.string x2.2.2.2.2.2.2.2.2.2.2.2.2.2.2.2.1)]),(Au x5 [(.bool x2.2.1),(.bool x2.2.2.2.2.1),(.bool x2.2.2.2.2.2.2.2.1),(.bool x2.2.2.2.2.2.2.2.2.2.2.1),(.bool x2.2.2.2.2.2.2.2.2.2.2.2.2.2.1),(.bool x2.2.2.2.2.2.2.2.2.2.2.2.2.2.2.2.2.1)]),(Au x5 [(.int .i64 x2.2.2.1),(.int .i64 x2.2.2.2.2.2.1),(.int .i64 x2.2.2.2.2.2.2.2.2.1),(.int .i64 x2.2.2.2.2.2.2.2.2.2.2.2.1),(.int .i64 x2.2.2.2.2.2.2.2.2.2.2.2.2.2.2.1),(.int .i64 x2.2.2.2.2.2.2.2.2.2.2.2.2.2.2.2.2.2.1)]),(Au x5 [(fv 94 [] [y4.1,y4.2.1]),(fv 94 [] [y4.2.2.1,y4.2.2.2.1]),.nilFunc,.nilFunc,(fv 94 [] [y4.2.2.2.2.1,y4.2.2.2.2.2.1]),(fv 94 [] [y4.2.2.2.2.2.2.1,y4.2.2.2.2.2.2.2])])]),(1009,At y4.1 (Pt x2.2.2.2.2.2.2.2.2.2.2.2.2.2.2.2.2.2.2.1)),(1010,At y4.2.1 (Pt x2.2.2.2.2.2.2.2.2.2.2.2.2.2.2.2.2.2.2.2.1)),(1011,At y4.2.2.1 (Pt x2.2.2.2.2.2.2.2.2.2.2.2.2.2.2.2.2.2.2.2.2.1)),(1012,At y4.2.2.2.1 (Pt x2.2.2.2.2.2.2.2.2.2.2.2.2.2.2.2.2.2.2.2.2.2.1)),(1013,At y4.2.2.2.2.1 (Pt x2.2.2.2.2.2.2.2.2.2.2.2.2.2.2.2.2.2.2.2.2.2.2.1)),(1014,At y4.2.2.2.2.2.1 (Pt x2.2.2.2.2.2.2.2.2.2.2.2.2.2.2.2.2.2.2.2.2.2.2.2.1)),(1015,At y4.2.2.2.2.2.2.1 (Pt x2.2.2.2.2.2.2.2.2.2.2.2.2.2.2.2.2.2.2.2.2.2.2.2.2.1)),(1016,At y4.2.2.2.2.2.2.2 (Pt x2.2.2.2.2.2.2.2.2.2.2.2.2.2.2.2.2.2.2.2.2.2.2.2.2.2)),(1025,Mr b10 [(.int .i64 v0.Actuators),y11,z30c0,y12,y13]),(1022,Ow 9 y11 x7),(1028,Ow 85 z30c0 z30.2.1),(1023,Ow 3 y12 z30.2.2.1),(1024,Ow 3 y13 z30.2.2.2.1),(1026,Ow 9 z30c1 z30.2.2.2.2.1),(1030,Ow 4 z30c2 z30.2.2.2.2.2)] a w) ⟨o22sc0,o16sc0,c32,s.fi⟩ (λ_=>I) (λo31s hko31 n z30 a w hm s=>?_) λo31s hm a w s=>?_
    ·obtain ⟨z30c0,z30c1,z30c2,s⟩:=s;unfold Bw at hm;refine R 1 s λa w s=>?_;refine se (cmt s hm (λhb hm=>?_) λhb hm=>?_)
     ·refine se (wpIn_block ?_);refine se (rg (ru 1 s λa w s=>iB s hm λx33 hm a w s=>ru 3 s λa w s=>nl ?_));refine R 1 s λa w s=>?_;obtain ⟨x34,hx34,hm⟩:=bk hm;refine se (rg (sq s (lra (K:=1025) (ds:=[(.int .i64 v0.Actuators),y11,z30c0,y12,y13]) Aa (t I) I I I I) I λa w s=>sq s (tfg (k:=1024) fl1 I (tfg (k:=1023) fl1 I (tfg (k:=1028) fl1 I (tfg (k:=1022) fl1 I (cc I (oc (qad (y:=(⟨v0.Actuators,x7,z30.2.1,z30.2.2.1,z30.2.2.2.1⟩:Aa)) (t I) (Js (l:=([(.int .i64 v0.Actuators)],[y11],[z30c0],[y12],[y13])) rpi (rpz (k:=1022) I) (rpz (k:=1028) I) (rpz (k:=1023) I) (rpz (k:=1024) I)) I) on) (s107 f _ _ hx34.e)))))) I λa w s=>ru 1 s λa w s=>nl ?_));refine se (se (rg (ru 2 s λa w s=>cB s hm (s109 f _ _) λx35 hm a w s=>ru 2 s λa w s=>nl ?_)));refine lA hm [0,1,2,3,4,5,6,7,8,9,15,16,17,19,43,44,59,60,61,92,93,94,103,104,1000,1017,1009,1010,1011,1012,1013,1014,1015,1016,1025,1022,1028,1026,1030] s (λz36=>[(18,Va z36.1),(105,Va z36.2.1),(1023,Ow 3 y12 z36.2.2.1),(1024,Ow 3 y13 z36.2.2.2)]) s.fi (λ_=>I) (λo37s hko37 n z36 a w hm s=>?_) λo37s hm a w s=>?_
      ·unfold Ka at hm;refine R 1 s λa w s=>?_;refine se (cmt s hm (λhb hm=>?_) λhb hm=>?_)
       ·refine se (wpIn_block ?_);refine se (rg (ru 1 s λa w s=>iB s hm λx38 hm a w s=>ru 1 s λa w s=>sqb 1031 s (al (z:=(⟨(0:Int),(0:Int)⟩:Pilots))) I I λb39 a w s=>ru 1 s λa w s=>sw (K:=1031) s (t I) I (t I) I λw s=>nl ?_));refine se (R 4 s λa w s=>?_);obtain ⟨z40,hz40,hkz40⟩:=bs hm;refine cP [0,1,2,3,4,5,6,7,8,9,15,16,17,19,20,21,43,44,59,60,61,92,93,94,103,104,105,1000,1017,1009,1010,1011,1012,1013,1014,1015,1016,1025,1022,1028,1024,1026,1030,1031] s [(18,Va z40.1),(1023,Ow 3 y12 z40.2)] ?_ λa w s=>?_
        ·refine cm s I hz40 (λhb hm=>?_) (λhb hm=>?_)
         ·obtain ⟨x41,hx41,hm⟩:=bk hm;refine rg (ru 5 s λa w s=>stq (k:=1023) s (t I) I (Fk hx41.e) (t I) λw s=>ru 1 s λa w s=>nl ?_);obtain rfl:=si hm;exact s.fi
         ·refine wpIn_skip ?_;obtain rfl:=si hm;exact s.fi
        ·replace hm:=hkz40;refine R 4 s λa w s=>?_;obtain ⟨z42,hz42,hkz42⟩:=bs hm;refine cP [0,1,2,3,4,5,6,7,8,9,15,16,17,19,20,21,43,44,59,60,61,92,93,94,103,104,105,1000,1017,1009,1010,1011,1012,1013,1014,1015,1016,1025,1022,1028,1023,1026,1030,1031] s [(18,Va z42.1),(1024,Ow 3 y13 z42.2)] ?_ λa w s=>?_
         ·refine cm s I hz42 (λhb hm=>?_) (λhb hm=>?_)
          ·obtain ⟨x43,hx43,hm⟩:=bk hm;refine rg (ru 5 s λa w s=>stq (k:=1024) s (t I) I (Fk hx43.e) (t I) λw s=>ru 1 s λa w s=>nl ?_);obtain rfl:=si hm;exact s.fi
          ·refine wpIn_skip ?_;obtain rfl:=si hm;exact s.fi
         ·replace hm:=hkz42;refine R0 2 s λa w s=>?_;exact ⟨_,hm,s.fi⟩
       ·refine wpIn_exit ?_;obtain rfl:=si hm;exact s.fi
      ·refine se (R 2 s λa w s=>?_);refine cmf s hm (λhb hm=>?_) λhb hm=>?_
       ·refine wpIn_exit ?_;refine R0 2 s λa w s=>?_;exact ⟨_,hm,⟨z30c0,z30c1,z30c2,s.fi⟩⟩
       ·refine se (lA hm [0,1,2,3,4,5,6,7,8,9,15,16,18,19,43,44,59,60,61,92,93,94,103,104,105,1000,1017,1009,1010,1011,1012,1013,1014,1015,1016,1025,1022,1028,1023,1024,1026,1030] s (λz44=>[(17,Va z44)]) s.fi (λ_=>I) (λo45s hko45 n z44 a w hm s=>?_) λo45s hm a w s=>?_)
        ·unfold Ma at hm;refine se ?_;obtain ⟨x46,hx46,hm⟩:=bk hm;refine se (rg (ru 2 s λa w s=>sq s (tfg (k:=1026) fl1 I (cc I (oc (ta (k:=1026) (t I) I) (oc (t I) on)) (s110 f _ _ _ hx46.e))) I λa w s=>nl ?_));refine cmt s hm (λhb hm=>?_) λhb hm=>?_
         ·refine wpIn_block ?_;obtain ⟨x47,hx47,hm⟩:=bk hm;refine rg (ru 1 s λa w s=>sq s (ct (t I) cs hx47.e) I λa w s=>ru 1 s λa w s=>nl ?_);exact ⟨_,hm,s.fi⟩
         ·refine wpIn_exit ?_;obtain rfl:=si hm;exact s.fi
        ·obtain ⟨x48,hx48,hm⟩:=bk hm;refine se (rg (ru 3 s λa w s=>apd (α:=ByteArray) (k:=1026) s (t I) I (t I) hx48.e I I λc49 a w s=>ru 1 s λa w s=>nl ?_));obtain ⟨x50,hx50,hm⟩:=bk hm;refine se (rg (ru 4 s λa w s=>sq s (Jk ci (t I)) I λa w s=>sq s (Qg (t I) (t I)) I λa w s=>ru 1 s λa w s=>apd (α:=Ae) (k:=1028) s (t I) I (t I) hx50.e I I λc51 a w s=>ru 1 s λa w s=>srq (K:=1025) (cs':=[(.int .i64 v0.Actuators),y11,c51,y12,y13]) s (t I) I (t I) kr_ (oco (k:=1028) I) I I λw s=>nl ?_));obtain ⟨x52,hx52,hm⟩:=bk hm;refine rg (ru 4 s λa w s=>apd (α:=Bool) (k:=1030) s (t I) I (t I) hx52.e I I λc53 a w s=>ru 1 s λa w s=>nl ?_);refine R0 2 s λa w s=>?_;exact ⟨_,hm,⟨c51,c49,c53,s.fi⟩⟩
     ·refine wpIn_exit ?_;obtain rfl:=si hm;exact ⟨z30c0,z30c1,z30c2,s.fi⟩
    ·obtain ⟨o31sc0,o31sc1,o31sc2,s⟩:=s;refine se (rg (sq s (lra (K:=1025) (ds:=[(.int .i64 v0.Actuators),y11,o31sc0,y12,y13]) Aa (t I) I I I I) I λa w s=>ru 1 s λa w s=>sra (K:=1000) (m:=[(.int .i64 v0.Actuators),y11,o31sc0,y12,y13]) (cs':=[(.int .i64 v0.Actuators),y11,o31sc0,y12,y13]) s (t I) I (t I) kr_ I I I λw s=>ru 1 s λa w s=>nl ?_));obtain rfl:=si hm;refine fzk (α:=ByteArray) (k:=1022) hM s I λs=>?_;refine fzk (α:=Ae) (k:=1028) hM s I λs=>?_;refine fzk (α:=Int) (k:=1023) hM s I λs=>?_;refine fzk (α:=Int) (k:=1024) hM s I λs=>?_;refine Lh (k:=1000) (x:=(⟨v0.Actuators,x7,o31s.2.1,o31s.2.2.1,o31s.2.2.2.1⟩:Aa)) s I (Js (l:=([(.int .i64 v0.Actuators)],[y11],[o31sc0],[y12],[y13])) rpi (rpz (k:=1022) I) (rpz (k:=1028) I) (rpz (k:=1023) I) (rpz (k:=1024) I)) λs=>?_;refine fzk (α:=Bool) (k:=1030) hM s I λs=>?_;refine wpIn_ret ?_;exact rn hD s I (rv2 (rc (K:=1000) I I) (ro (ta (k:=1030) (t I) I)))
def m38 (f:Nat) (v0:Aa) (v1:Fault):Option (Aa×Int):=(m25 f v0 v1).bind λx2=>(bif (x2 != 0) then some ((⟨(0:Int),([]:List ByteArray),([]:List Ae),([]:List Int),([]:List Int)⟩:Aa),x2) else (m79 f v0 v1).bind λx3=>(m52 f x3.1).bind λx5=>(bif (x5 != 0) then some ((⟨(0:Int),([]:List ByteArray),([]:List Ae),([]:List Int),([]:List Int)⟩:Aa),(12:Int)) else some (x3.1,(0:Int))))
theorem s38 (f:Nat) (v0:Aa) (v1:Fault) (r:Aa×Int) (hm:m38 f v0 v1=some r):Sp Tryz.prog 38 [Va v0,Va v1] (T2 (Va r.1) (Va r.2)):=by
 unfold m38 at hm;refine ens func38 kr_ I ntmps38 I I λM W a hM hD s=>?_;refine se (rg (ru 2 s λa w s=>aR 1000 s λb1 a w s=>ru 1 s λa w s=>nl ?_));refine se (se (rg (ru 2 s λa w s=>cB s hm (s25 f _ _) λx2 hm a w s=>ru 1 s λa w s=>nl ?_)));refine R 2 s λa w s=>?_;refine cmf s hm (λhb hm=>?_) λhb hm=>?_
 ·refine se (rg (sq s (DQ ) I λa w s=>ru 1 s λa w s=>sW s I λw s=>ru 1 s λa w s=>nl ?_));cases hm;exact rU hD s I I
 ·refine se (rg (ru 2 s λa w s=>cB s hm (s79 f _ _) λx3 hm a w s=>ru 3 s λa w s=>aR 1001 s λb4 a w s=>sW s I λw s=>ru 1 s λa w s=>nl ?_));refine se (se (rg (ru 1 s λa w s=>cB s hm (s52 f _) λx5 hm a w s=>ru 1 s λa w s=>nl ?_)));refine cmf s hm (λhb hm=>?_) λhb hm=>?_
  ·refine se (rg (sq s (DQ ) I λa w s=>sW s I λw s=>ru 1 s λa w s=>nl ?_));cases hm;exact rU hD s I I
  ·refine se (rg (ru 1 s λa w s=>sW s I λw s=>ru 1 s λa w s=>nl ?_));cases hm;exact rU hD s I I
def m18 (f:Nat) (v0:Aa) (v1:Fault):Option (World_detect×Int):=(m38 f v0 v1).bind λx2=>(bif (x2.2 != 0) then some ((⟨(⟨(0:Int),([]:List ByteArray),([]:List Ae),([]:List Int),([]:List Int)⟩:Aa),(⟨(0:Int),([]:List ByteArray),([]:List Ae),([]:List Int),([]:List Int)⟩:Aa)⟩:World_detect),x2.2) else some ((⟨v0,x2.1⟩:World_detect),(0:Int)))
theorem s18 (f:Nat) (v0:Aa) (v1:Fault) (r:World_detect×Int) (hm:m18 f v0 v1=some r):Sp Tryz.prog 18 [Va v0,Va v1] (T2 (Va r.1) (Va r.2)):=by
 unfold m18 at hm;refine ens func18 kr_ I ntmps18 I I λM W a hM hD s=>?_;refine se (rg (ru 2 s λa w s=>aR 1000 s λb1 a w s=>ru 1 s λa w s=>nl ?_));refine se (rg (ru 2 s λa w s=>cB s hm (s38 f _ _) λx2 hm a w s=>ru 3 s λa w s=>aR 1001 s λb3 a w s=>sW s I λw s=>ru 1 s λa w s=>nl ?_));refine se (R 2 s λa w s=>?_);refine cmf s hm (λhb hm=>?_) λhb hm=>?_
 ·refine se (rg (sq s (bl57_ ) I λa w s=>ru 1 s λa w s=>sW s I λw s=>ru 1 s λa w s=>nl ?_));cases hm;exact rU hD s I I
 ·refine se (rg (ru 2 s λa w s=>sq s (DP (t I) (t I)) I λa w s=>sW s I λw s=>ru 1 s λa w s=>nl ?_));cases hm;exact rU hD s I I
def m117 (f:Nat) (v0:Ad):Option (Ad):=some v0
theorem s117 (f:Nat) (v0:Ad) (r:Ad) (hm:m117 f v0=some r):Sp Tryz.prog 117 [Va v0] (Rz (λx:Value=>Qv (fv 149 [] [x])) (λx=>[At x (Pt r)])):=by
 unfold m117 at hm;refine ens func117 kr_ I ntmps117 I I λM W a hM hD s=>?_;refine R 2 s λa w s=>?_;refine se (rg (nmk (d:=1) 1000 s I I λc1 s=>sq s (mkf I I qn (qc (t I) qn)) I λa w s=>ru 1 s λa w s=>nl ?_));obtain rfl:=si hm;refine wpIn_ret ?_;exact rz [1000] c1 hM hD s I (rv1 (rt I)) (kc I kn) I
def m165 (f:Nat) (v0:Int) (v1:Int):Option (Bool):=some ((decide (v0 < 0)) || (decide (v0>=v1)))
theorem s165 (f:Nat) (v0:Int) (v1:Int) (r:Bool) (hm:m165 f v0 v1=some r):Sp Tryz.prog 165 [Va v0,Pt v1] (Va r):=by
 unfold m165 at hm;refine ens func165 kr_ I ntmps165 I I λM W a hM hD s=>?_;refine R 1 s λa w s=>?_;refine R 8 s λa w s=>?_;cases hm;exact rT hD s I I
def Gj (f:Nat) (v0:List Int) (v1:Int):Nat->Int->Option (Lo (Int) (Int))
 | 0,_=>none
 | n+1,z1=>(bif (decide (z1 < (v0.length:Int))) then (idx v0 z1).bind λx3=>(m165 f x3 v1).bind λx4=>(bif x4 then some (.ret z1) else Gj f v0 v1 n (wr (z1 + 1))) else some (.brk z1))
def Vo (f:Nat) (v0:List Int) (v1:Int):Option (Int):=((Gj f v0 v1 f (0:Int)).bind λo2=>match o2 with | .brk o2s=>some (-1:Int) | .ret r=>some r)
theorem s157_1 (f:Nat) (v0:List Int) (v1:Int) (r:Int) (hm:Vo f v0 v1=some r):Sp Tryz.prog 157 [Va v0,Fv1 165 v1] (Va r):=by
 unfold Vo at hm;refine ens func157 kr_ I ntmps157 I I λM W a hM hD s=>?_;refine R 1 s λa w s=>?_;refine se (R 3 s λa w s=>?_);refine lB hm [0,1,4,7] s (λz1=>[(8,Va z1)]) s.fi (λ_=>I) (λo2 hko2 n z1 a w hm s=>?_) λo2s hm a w s=>?_
 ·unfold Gj at hm;refine R 1 s λa w s=>?_;refine se (cmt s hm (λhb hm=>?_) λhb hm=>?_)
  ·refine se (wpIn_block ?_);refine R 2 s λa w s=>?_;obtain ⟨x3,hx3,hm⟩:=bk hm;obtain ⟨x4,hx4,hm⟩:=bk hm;refine se (rg (ru 5 s λa w s=>sq s (ccf (t I) I (oc (t I) on) (s165 f _ _ _ hx4.e)) I λa w s=>nl ?_));refine cmf s hm (λhb hm=>?_) λhb hm=>?_
   ·refine R 2 s λa w s=>?_;obtain rfl:=si hm;replace hm:=hko2;dsimp only at hm;cases hm;exact rT hD s I I
   ·refine R0 2 s λa w s=>?_;exact ⟨_,hm,s.fi⟩
  ·refine wpIn_exit ?_;exact ⟨_,(si hm).symm,s.fi⟩
 ·dsimp only at hm;refine R 1 s λa w s=>?_;cases hm;exact rT hD s I I
def Np (f:Nat) (v0:List Int) (v1:Int):Option (Bool):=(Vo f v0 v1).bind λx1=>some (decide (x1>=(0:Int)))
theorem D0 (f:Nat) (v0:List Int) (v1:Int) (r:Bool) (hm:Np f v0 v1=some r):Sp Tryz.prog 128 [Va v0,Fv1 165 v1] (Va r):=by
 unfold Np at hm;refine ens func128 kr_ I ntmps128 I I λM W a hM hD s=>?_;refine R 1 s λa w s=>?_;obtain ⟨x1,hx1,hm⟩:=bk hm;refine se (rg (ru 2 s λa w s=>sq s (cc I (oc (t I) (oc (t I) on)) (s157_1 f _ _ _ hx1.e)) I λa w s=>ru 2 s λa w s=>nl ?_));cases hm;exact rT hD s I I
def Hh (v0:Aa) (v1:Ad):Nat->Int->Option (Lo (Int) (Int))
 | 0,_=>none
 | n+1,z6=>(bif (decide (z6 < (v1.Timers.length:Int))) then (idx v1.Timers z6).bind λx8=>(idx v0.Signals z6).bind λx9=>(bif ((!(x9.Kind == 2)) && (x8 != 0)) then some true else (bif (x9.Kind == 2) then (idx v1.Values z6).bind λx10=>some (x10 != (x8 == 2)) else some false).bind λr11=>some r11).bind λr12=>(bif r12 then some (.ret (14:Int)) else Hh v0 v1 n (wr (z6 + 1))) else some (.brk z6))
def m143 (f:Nat) (v0:Aa) (v1:Ad):Option (Int):=(bif ((((((v1.Ends.length:Int) != v0.Actuators) || ((v1.Valves.length:Int) != v0.Actuators)) || ((v1.Inputs.length:Int) != (v0.Inputs.length:Int))) || ((v1.Values.length:Int) != (v0.Signals.length:Int))) || ((v1.Timers.length:Int) != (v0.Signals.length:Int))) then some (8:Int) else (m164 f (4:Int)).bind λx1=>(Np f v1.Ends x1).bind λx2=>(bif x2 then some true else (m164 f (3:Int)).bind λx3=>(Np f v1.Timers x3).bind λx4=>some x4).bind λr5=>(bif r5 then some (1:Int) else ((Hh v0 v1 f (0:Int)).bind λo7=>match o7 with | .brk o7s=>some (0:Int) | .ret r=>some r)))
theorem s143 (f:Nat) (v0:Aa) (v1:Ad) (r:Int) (hm:m143 f v0 v1=some r):Sp Tryz.prog 143 [Va v0,Va v1] (Va r):=by
 unfold m143 at hm;refine ens func143 kr_ I ntmps143 I I λM W a hM hD s=>?_;refine R 3 s λa w s=>?_;refine R 4 s λa w s=>?_;refine se (R 37 s λa w s=>?_);refine cmf s hm (λhb hm=>?_) λhb hm=>?_
 ·refine R 1 s λa w s=>?_;cases hm;exact rT hD s I I
 ·refine se (rg (sq s (saq qf) I λa w s=>nl ?_));refine se ?_;obtain ⟨x1,hx1,hm⟩:=bk hm;obtain ⟨x2,hx2,hm⟩:=bk hm;obtain ⟨r5,hr5,hm⟩:=bs hm;have gr5:=gF hr5;have er5:=gT hr5;obtain ⟨x3,hx3,gr5⟩:=gk gr5;obtain ⟨x4,hx4,gr5⟩:=gk gr5;have:=pko gr5 er5;refine se (Lf s (m:=12) (.cons (.cong (.cong (.cong (.cong (.cong (.cons (.cons (.cons (.cons (.cons (.cons .nil I (fa (f:=Ad.Ends) (t I))) I (ld (t I))) I (mvq (t I))) I (ccv (t I) I (oc ci on) vn vn (s164 f _ _ hx1.e))) I (cc I (oc (t I) (oc (t I) on)) (D0 f _ _ _ hx2.e))) I (mv (t I))) I I I (λhb=>(fa (f:=Ad.Timers) (t I)))) I I I (λhb=>(ld (tg I hb)))) I I I (λhb=>(mvq (t I)))) I I I (λhb=>(ccv (tg I hb) I (oc ci on) vn vn (s164 f _ _ (hx3.h hb))))) I I I (λhb=>(cc I (oc (tg I hb) (oc (tg I hb) on)) (D0 f _ _ _ (hx4.h hb))))) I (po (t I) I (λh=>si (gr5 h)) (λh=>(si (er5 h)).symm))) kr_ I I λa w s=>nl ?_);refine cmf s hm (λhb hm=>?_) λhb hm=>?_
  ·refine R 1 s λa w s=>?_;cases hm;exact rT hD s I I
  ·refine se (R 4 s λa w s=>?_);refine lB hm [0,1,2,3,4,5,6,63,64] s (λz6=>[(65,Va z6)]) s.fi (λ_=>I) (λo7 hko7 n z6 a w hm s=>?_) λo7s hm a w s=>?_
   ·unfold Hh at hm;refine R 1 s λa w s=>?_;refine se (cmt s hm (λhb hm=>?_) λhb hm=>?_)
    ·refine se (wpIn_block ?_);refine se (rg (ru 1 s λa w s=>iB s hm λx8 hm a w s=>ru 3 s λa w s=>nl ?_));refine se (rg (ru 3 s λa w s=>iB s hm λx9 hm a w s=>ru 4 s λa w s=>nl ?_));obtain ⟨r12,hr12,hm⟩:=bs hm;have gr12:=gF hr12;have er12:=gT hr12;obtain ⟨r11,hr11,gr12⟩:=gx gr12;have gr11:=gT2 hr11;have er11:=gF1 hr11;obtain ⟨x10,hx10,gr11⟩:=gk gr11;have:=pko gr12 er12;refine se (rg (ru 12 s λa w s=>sn s I I (λhb hc=>(ix (tg I (g2 hb hc)) (tg I (g2 hb hc)) (hx10.h (g2 hb hc)))) I λa w s=>ru 4 s λa w s=>sg s I I (λhb=>(pag (tg I hb) I (λh=>g2 hb h) (λh=>si (gr11 (g2 hb h))) (λh=>(si (er11 hb h)).symm))) I λa w s=>ru 1 s λa w s=>nl ?_));refine cmf s hm (λhb hm=>?_) λhb hm=>?_
     ·refine R 1 s λa w s=>?_;obtain rfl:=si hm;replace hm:=hko7;dsimp only at hm;cases hm;exact rT hD s I I
     ·refine R0 2 s λa w s=>?_;exact ⟨_,hm,s.fi⟩
    ·refine wpIn_exit ?_;exact ⟨_,(si hm).symm,s.fi⟩
   ·dsimp only at hm;refine R 1 s λa w s=>?_;cases hm;exact rT hD s I I
def m113 (f:Nat) (v0:Aa) (v1:Ad):Option (Int):=(m52 f v0).bind λx1=>(bif (x1 != 0) then some x1 else (m143 f v0 v1).bind λx2=>some x2)
theorem s113 (f:Nat) (v0:Aa) (v1:Ad) (r:Int) (hm:m113 f v0 v1=some r):Sp Tryz.prog 113 [Va v0,Va v1] (Va r):=by
 unfold m113 at hm;refine ens func113 kr_ I ntmps113 I I λM W a hM hD s=>?_;refine R 3 s λa w s=>?_;refine se (se (rg (ru 1 s λa w s=>cB s hm (s52 f _) λx1 hm a w s=>ru 1 s λa w s=>nl ?_)));refine R 2 s λa w s=>?_;refine cmf s hm (λhb hm=>?_) λhb hm=>?_
 ·refine R 2 s λa w s=>?_;cases hm;exact rT hD s I I
 ·refine se (rg (ru 2 s λa w s=>cB s hm (s143 f _ _) λx2 hm a w s=>ru 1 s λa w s=>nl ?_));cases hm;exact rT hD s I I
def m140 (f:Nat) (v0:List Bool):Option ((List Bool)):=(app ([]:List Bool) v0).bind λx4=>some x4
theorem s140 (f:Nat) (v0:List Bool) (r:(List Bool)) (hm:m140 f v0=some r):Sp Tryz.prog 140 [Va v0] (Rz (λx:Value=>Qv x) (λx=>[Ow 4 x r])):=by
 unfold m140 at hm;refine ens func140 kr_ I ntmps140 I I λM W a hM hD s=>?_;refine R 1 s λa w s=>?_;refine se (se (rg (ru 1 s λa w s=>nmk (d:=3) 1000 s I I λc1 s=>sq s (eqn (K:=1000) (α:=Bool) (e:=4) (t I) cq I kr_) I λa w s=>nl ?_)));refine cd s I (λhb=>?_) (λhb=>?_)
 ·obtain rfl:=nilv (K:=1000) s rfl hb;replace hm:some ([]:List Bool)=some r:=hm;refine R 1 s λa w s=>?_;obtain rfl:=si hm;refine Ja (α:=Bool) (d:=2) 1001 4 s I I λc2 s=>?_;refine wpIn_ret ?_;exact rz [1001] c2 hM hD s I (rv1 (rt I)) (kc I kn) I
 ·refine wpIn_skip ?_;obtain ⟨x4,hx4,hm⟩:=bk hm;refine se (rg (sqo 1002 s (bso (o0 (α:=Bool)) I I kr_) I I λc3 a w s=>ru 1 s λa w s=>apd (α:=Bool) (k:=1002) s (t I) I (t I) hx4.e I I λc5 a w s=>ru 1 s λa w s=>nl ?_));obtain rfl:=si hm;refine wpIn_ret ?_;exact rz [1002] c5 hM hD s I (rv1 (rt I)) (kc I kn) I
instance {f:Nat} {v0:List Bool}:Cn Tryz.prog 140 (m140 f v0) [Va v0] (λr:(List Bool)=>(Rz (λx:Value=>Qv x) (λx=>[Ow 4 x r]))):=⟨s140 f v0⟩
def m182 (f:Nat) (v0:Ad):Option ((List Int)×(List Bool)×(List Bool)×(List Bool)×(List Int)):=(m106 f v0.Ends).bind λx2=>(m140 f v0.Valves).bind λx3=>(m140 f v0.Inputs).bind λx4=>(m140 f v0.Values).bind λx5=>(m106 f v0.Timers).bind λx6=>some (x2,x3,x4,x5,x6)
theorem s182 (f:Nat) (v0:Ad) (r:(List Int)×(List Bool)×(List Bool)×(List Bool)×(List Int)) (hm:m182 f v0=some r):Sp Tryz.prog 182 [Va v0] (Rz (λx:Value×Value×Value×Value×Value=>Qa [x.1,x.2.1,x.2.2.1,x.2.2.2.1,x.2.2.2.2]) (λx=>[Ow 3 x.1 r.1,Ow 4 x.2.1 r.2.1,Ow 4 x.2.2.1 r.2.2.1,Ow 4 x.2.2.2.1 r.2.2.2.1,Ow 3 x.2.2.2.2 r.2.2.2.2])):=by
 unfold m182 at hm;refine ens func182 kr_ I ntmps182 I I λM W a hM hD s=>?_;refine se (rg (ru 1 s λa w s=>aR 1000 s λb1 a w s=>nl ?_));obtain ⟨x2,hx2,hm⟩:=bk hm;obtain ⟨x3,hx3,hm⟩:=bk hm;obtain ⟨x4,hx4,hm⟩:=bk hm;obtain ⟨x5,hx5,hm⟩:=bk hm;obtain ⟨x6,hx6,hm⟩:=bk hm;refine se (fW 15 s kr_ I I λa w s=>opz (d:=5) [1006] s I (λ_=>I) I λy7 s=>opz (d:=8) [1007] s I (λ_=>I) I λy8 s=>opz (d:=11) [1008] s I (λ_=>I) I λy9 s=>opz (d:=14) [1009] s I (λ_=>I) I λy10 s=>opz (d:=17) [1010] s I (λ_=>I) I λy11 s=>sq s (bla (L:=[(0,1),(1,1),(2,1),(3,1),(4,1)]) (z:=[nz,nz,nz,nz,nz]) (res:=[y7,y8,y9,y10,y11]) I kr_ kr_ (pdq (t I) (oco (k:=1006) I) (pdq (t I) (oco (k:=1007) I) (pdq (t I) (oco (k:=1008) I) (pdq (t I) (oco (k:=1009) I) (pdq (t I) (oco (k:=1010) I) pdn))))) I I) I λa w s=>sra (K:=1000) (m:=[y7,y8,y9,y10,y11]) (cs':=[y7,y8,y9,y10,y11]) s (t I) I (t I) kr_ I I I λw s=>nl ?_);obtain rfl:=si hm;refine wpIn_ret ?_;exact rz [1006,1007,1008,1009,1010] (y7,y8,y9,y10,y11) hM hD s I (rv1 (rca (K:=1000) I I kr_ I kr_)) (k4 I I I I (kc I kn)) I
instance {f:Nat} {v0:Ad}:Cn Tryz.prog 182 (m182 f v0) [Va v0] (λr:(List Int)×(List Bool)×(List Bool)×(List Bool)×(List Int)=>(Rz (λx:Value×Value×Value×Value×Value=>Qa [x.1,x.2.1,x.2.2.1,x.2.2.2.1,x.2.2.2.2]) (λx=>[Ow 3 x.1 r.1,Ow 4 x.2.1 r.2.1,Ow 4 x.2.2.1 r.2.2.1,Ow 4 x.2.2.2.1 r.2.2.2.1,Ow 3 x.2.2.2.2 r.2.2.2.2]))):=⟨s182 f v0⟩
def m166 (f:Nat) (v0:Aa) (v1:Ad):Option (Int ⊕ (Int×Int×Int×(List ByteArray)×(List Ae)×(List Int)×(List Int)×(List Int)×(List Bool)×(List Bool)×(List Bool)×(List Int))):=(m113 f v0 v1).bind λx1=>(bif (x1 != 0) then some (.inl x1) else (m182 f v1).bind λx2=>some (.inr ((0:Int),v0.Actuators,(wr ((wr ((2:Int) * v0.Actuators)) + (v0.Inputs.length:Int))),v0.Inputs,v0.Signals,v0.Plus,v0.Minus,x2.1,x2.2.1,x2.2.2.1,x2.2.2.2.1,x2.2.2.2.2)))
theorem s166 (f:Nat) (v0:Aa) (v1:Ad) (r:Int ⊕ (Int×Int×Int×(List ByteArray)×(List Ae)×(List Int)×(List Int)×(List Int)×(List Bool)×(List Bool)×(List Bool)×(List Int))) (hm:m166 f v0 v1=some r):Sp Tryz.prog 166 [Va v0,Va v1] (Sm r (λq:Int=>(T2 (Qv (.pointer none)) (Va q))) (λq:Int×Int×Int×(List ByteArray)×(List Ae)×(List Int)×(List Int)×(List Int)×(List Bool)×(List Bool)×(List Bool)×(List Int)=>(Rz (λx:Nat×Value×Value×Value×Value×Value×Value×Value×Value×Value=>T2 (Qv (pb x.1 0)) (Va q.1)) (λx=>[Mr x.1 [(.int .i64 q.2.1),x.2.1,x.2.2.1,x.2.2.2.1,x.2.2.2.2.1,x.2.2.2.2.2.1,x.2.2.2.2.2.2.1,x.2.2.2.2.2.2.2.1,x.2.2.2.2.2.2.2.2.1,x.2.2.2.2.2.2.2.2.2,(.int .i64 q.2.2.1)],At x.2.1 (Va q.2.2.2.1),At x.2.2.1 (Va q.2.2.2.2.1),At x.2.2.2.1 (Va q.2.2.2.2.2.1),At x.2.2.2.2.1 (Va q.2.2.2.2.2.2.1),Ow 3 x.2.2.2.2.2.1 q.2.2.2.2.2.2.2.1,Ow 4 x.2.2.2.2.2.2.1 q.2.2.2.2.2.2.2.2.1,Ow 4 x.2.2.2.2.2.2.2.1 q.2.2.2.2.2.2.2.2.2.1,Ow 4 x.2.2.2.2.2.2.2.2.1 q.2.2.2.2.2.2.2.2.2.2.1,Ow 3 x.2.2.2.2.2.2.2.2.2 q.2.2.2.2.2.2.2.2.2.2.2])))):=by
 unfold m166 at hm;refine ens func166 kr_ I ntmps166 I I λM W a hM hD s=>?_;refine R 4 s λa w s=>?_;refine se (se (rg (ru 2 s λa w s=>cB s hm (s113 f _ _) λx1 hm a w s=>ru 1 s λa w s=>nl ?_)));refine R 2 s λa w s=>?_;refine cmf s hm (λhb hm=>?_) λhb hm=>?_
 ·refine R 3 s λa w s=>?_;cases hm;exact rU hD s I I
 ·obtain ⟨x2,hx2,hm⟩:=bk hm;refine se (fW 10 s kr_ I I λa w s=>opz (d:=15) [1005,1006,1007,1008,1009] s I (λ_=>I) I λy3 s=>opv33 (d:=13) 1010 1011 1012 1013 s I I λc4 c5 c6 c7 s=>sq s (bla (L:=[(0,5),(5,5),(10,1)]) (z:=[(.int .i64 0),nz,nz,nz,nz,nz,nz,nz,nz,nz,(.int .i64 0)]) (res:=[(.int .i64 v0.Actuators),c4,c5,c6,c7,y3.1,y3.2.1,y3.2.2.1,y3.2.2.2.1,y3.2.2.2.2,(.int .i64 (wr ((wr ((2:Int) * v0.Actuators)) + (v0.Inputs.length:Int))))]) I kr_ kr_ (pda (t I) (pda (t I) (pdq (iq (t I)) (ocr I) pdn))) I I) I λa w s=>sqr 1014 s (bxa (t I)) I I λb8 a w s=>ru 2 s λa w s=>nl ?_);obtain rfl:=si hm;refine wpIn_ret ?_;exact rz [1014,1010,1011,1012,1013,1005,1006,1007,1008,1009] (b8,c4,c5,c6,c7,y3.1,y3.2.1,y3.2.2.1,y3.2.2.2.1,y3.2.2.2.2) hM hD s I (rv2 (rt I) (rt I)) (k4 I I I I (k4 I I I I (k2 I I kn))) I
def Cu (v0:List (List Bool)):Nat->(Int×(List Bool))->Option (Int×(List Bool))
 | 0,_=>none
 | n+1,z6=>(bif (decide (z6.1 < (v0.length:Int))) then (idx v0 z6.1).bind λx8=>(app z6.2 x8).bind λx9=>Cu v0 n ((wr (z6.1 + 1)),x9) else some (z6.1,z6.2))
def Cv (v0:List (List Bool)):Nat->(Int×Int)->Option (Int×Int)
 | 0,_=>none
 | n+1,z1=>(bif (decide (z1.2 < (v0.length:Int))) then (idx v0 z1.2).bind λx3=>(bif (decide ((wr (z1.1 + (x3.length:Int))) < 0)) then none else Cv v0 n ((wr (z1.1 + (x3.length:Int))),(wr (z1.2 + 1)))) else some (z1.1,z1.2))
def m212 (f:Nat) (v0:List (List Bool)):Option ((List Bool)):=(Cv v0 f ((0:Int),(0:Int))).bind λo2s=>(m220 f o2s.1).bind λx4=>(Cu v0 f ((0:Int),([]:List Bool))).bind λo7s=>some o7s.2
theorem s212 (f:Nat) (v0:List (List Bool)) (r:(List Bool)) (hm:m212 f v0=some r):Sp Tryz.prog 212 [Va v0] (Rz (λx:Value=>Qv x) (λx=>[Ow 4 x r])):=by
 unfold m212 at hm;refine ens func212 kr_ I ntmps212 I I λM W a hM hD s=>?_;refine R 1 s λa w s=>?_;refine R 1 s λa w s=>?_;refine se (R 3 s λa w s=>?_);refine lA hm [0,2,9,10] s (λz1=>[(3,Va z1.1),(11,Va z1.2)]) s.fi (λ_=>I) (λo2s hko2 n z1 a w hm s=>?_) λo2s hm a w s=>?_
 ·unfold Cv at hm;refine R 1 s λa w s=>?_;refine se (cmt s hm (λhb hm=>?_) λhb hm=>?_)
  ·refine se (wpIn_block ?_);refine se (rg (iB s hm λx3 hm a w s=>ru 2 s λa w s=>nl ?_));refine R 5 s λa w s=>?_;refine R 2 s λa w s=>?_;refine cmf s hm (λhb hm=>?_) λhb hm=>?_
   ·cases hm
   ·refine R0 2 s λa w s=>?_;exact ⟨_,hm,s.fi⟩
  ·refine wpIn_exit ?_;obtain rfl:=si hm;exact s.fi
 ·obtain ⟨x4,hx4,hm⟩:=bk hm;refine se (rg (ru 1 s λa w s=>sqz [1000] hM s (cc I (oc cq (oc (t I) on)) (s220 f _ _ hx4.e)) (λ_=>I) I I λy5 a w s=>ru 1 s λa w s=>nl ?_));refine se (R 3 s λa w s=>?_);refine lA1 hm [0,2,3,9,10,11,25,26] s (λz6 z6c0=>[(6,Qv z6c0),(27,Va z6.1),(1000,Ow 4 z6c0 z6.2)]) ⟨y5,s.fi⟩ (λ_=>I) (λo7s hko7 n z6 a w hm s=>?_) λo7s hm a w s=>?_
  ·obtain ⟨z6c0,s⟩:=s;unfold Cu at hm;refine R 1 s λa w s=>?_;refine se (cmt s hm (λhb hm=>?_) λhb hm=>?_)
   ·refine se (wpIn_block ?_);refine se (rg (iB s hm λx8 hm a w s=>ru 2 s λa w s=>nl ?_));obtain ⟨x9,hx9,hm⟩:=bk hm;refine rg (ru 2 s λa w s=>apd (α:=Bool) (k:=1000) s (t I) I (t I) hx9.e I I λc10 a w s=>ru 1 s λa w s=>nl ?_);refine R0 2 s λa w s=>?_;exact ⟨_,hm,⟨c10,s.fi⟩⟩
   ·refine wpIn_exit ?_;obtain rfl:=si hm;exact ⟨z6c0,s.fi⟩
  ·obtain ⟨o7sc0,s⟩:=s;refine R 2 s λa w s=>?_;obtain rfl:=si hm;refine wpIn_ret ?_;exact rz [1000] o7sc0 hM hD s I (rv1 (rt I)) (kc I kn) I
def m217 (f:Nat) (g204:Expr->(List Bool)->Option (Bool)) (v0:Expr) (v1:List Bool):Option (Bool):=(g204 v0 v1).bind λx1=>some (!x1)
theorem s217 (f:Nat) (g204:Expr->(List Bool)->Option (Bool)) (ih204:∀ (v0:Expr) (v1:List Bool) (r:Bool),g204 v0 v1=some r->Sp Tryz.prog 204 [Va v0,Va v1] (Va r)) (v0:Expr) (v1:List Bool) (r:Bool) (hm:m217 f g204 v0 v1=some r):Sp Tryz.prog 217 [Va v0,Pt v1] (Va r):=by
 unfold m217 at hm;refine ens func217 kr_ I ntmps217 I I λM W a hM hD s=>?_;refine R 2 s λa w s=>?_;obtain ⟨x1,hx1,hm⟩:=bk hm;refine se (rg (ru 2 s λa w s=>sq s (cc I (oc (t I) (oc (t I) on)) (ih204 _ _ _ hx1.e)) I λa w s=>ru 2 s λa w s=>nl ?_));cases hm;exact rT hD s I I
def Pc (g204:Expr->(List Bool)->Option (Bool)) (f:Nat) (v0:List Expr) (v1:List Bool):Nat->Int->Option (Lo (Int) (Int))
 | 0,_=>none
 | n+1,z1=>(bif (decide (z1 < (v0.length:Int))) then (idx v0 z1).bind λx3=>(m217 f g204 x3 v1).bind λx4=>(bif x4 then some (.ret z1) else Pc g204 f v0 v1 n (wr (z1 + 1))) else some (.brk z1))
def m221 (f:Nat) (g204:Expr->(List Bool)->Option (Bool)) (v0:List Expr) (v1:List Bool):Option (Int):=((Pc g204 f v0 v1 f (0:Int)).bind λo2=>match o2 with | .brk o2s=>some (-1:Int) | .ret r=>some r)
theorem s221 (f:Nat) (g204:Expr->(List Bool)->Option (Bool)) (ih204:∀ (v0:Expr) (v1:List Bool) (r:Bool),g204 v0 v1=some r->Sp Tryz.prog 204 [Va v0,Va v1] (Va r)) (n0:Value) (v0:List Expr) (v1:List Bool) (r:Int) (hm:m221 f g204 v0 v1=some r):Cg Tryz.prog 221 [Va v0,Qv (fv 217 [] [n0])] [At n0 (Pt v1)] (Rz (λx:Unit=>Va r) (λx=>[At n0 (Pt v1)])):=by
 unfold m221 at hm;refine eng func221 kr_ I ntmps221 I I λM W a hM hD s=>?_;refine R 1 s λa w s=>?_;refine se (R 3 s λa w s=>?_);refine lB hm [0,1,4,7,1000] s (λz1=>[(8,Va z1)]) s.fi (λ_=>I) (λo2 hko2 n z1 a w hm s=>?_) λo2s hm a w s=>?_
 ·unfold Pc at hm;refine R 1 s λa w s=>?_;refine se (cmt s hm (λhb hm=>?_) λhb hm=>?_)
  ·refine se (wpIn_block ?_);refine R 2 s λa w s=>?_;obtain ⟨x3,hx3,hm⟩:=bk hm;obtain ⟨x4,hx4,hm⟩:=bk hm;refine se (rg (ru 5 s λa w s=>sq s (ccv (t I) I (oc (t I) on) vn (va (k:=1000) I vn) (s217 f g204 ih204 _ _ _ hx4.e)) I λa w s=>nl ?_));refine cmf s hm (λhb hm=>?_) λhb hm=>?_
   ·refine R 2 s λa w s=>?_;obtain rfl:=si hm;replace hm:=hko2;dsimp only at hm;obtain rfl:=si hm;refine wpIn_ret ?_;exact rz [1000] () hM hD s I (rv1 (rt I)) (kc I kn) I
   ·refine R0 2 s λa w s=>?_;exact ⟨_,hm,s.fi⟩
  ·refine wpIn_exit ?_;exact ⟨_,(si hm).symm,s.fi⟩
 ·dsimp only at hm;refine R 1 s λa w s=>?_;obtain rfl:=si hm;refine wpIn_ret ?_;exact rz [1000] () hM hD s I (rv1 (rt I)) (kc I kn) I
def m216 (f:Nat) (g204:Expr->(List Bool)->Option (Bool)) (v0:List Expr) (v1:List Bool):Option (Bool):=(m221 f g204 v0 v1).bind λx1=>some (decide (x1>=(0:Int)))
theorem s216 (f:Nat) (g204:Expr->(List Bool)->Option (Bool)) (ih204:∀ (v0:Expr) (v1:List Bool) (r:Bool),g204 v0 v1=some r->Sp Tryz.prog 204 [Va v0,Va v1] (Va r)) (n0:Value) (v0:List Expr) (v1:List Bool) (r:Bool) (hm:m216 f g204 v0 v1=some r):Cg Tryz.prog 216 [Va v0,Qv (fv 217 [] [n0])] [At n0 (Pt v1)] (Rz (λx:Unit=>Va r) (λx=>[At n0 (Pt v1)])):=by
 unfold m216 at hm;refine eng func216 kr_ I ntmps216 I I λM W a hM hD s=>?_;refine R 1 s λa w s=>?_;obtain ⟨x1,hx1,hm⟩:=bk hm;refine se (rg (ru 2 s λa w s=>cgv [1000] [1000] hM s qf I (oc (t I) (oc (t I) on)) vn vn (s221 f g204 ih204 n0 _ _ _ hx1.e) (kc I kn) I (λ_=>I) I I I λy2 a w s=>ru 2 s λa w s=>nl ?_));obtain rfl:=si hm;refine wpIn_ret ?_;exact rz [1000] () hM hD s I (rv1 (rt I)) (kc I kn) I
def m218 (f:Nat) (g204:Expr->(List Bool)->Option (Bool)) (v0:Expr) (v1:List Bool):Option (Bool):=(g204 v0 v1).bind λx1=>some x1
theorem s218 (f:Nat) (g204:Expr->(List Bool)->Option (Bool)) (ih204:∀ (v0:Expr) (v1:List Bool) (r:Bool),g204 v0 v1=some r->Sp Tryz.prog 204 [Va v0,Va v1] (Va r)) (v0:Expr) (v1:List Bool) (r:Bool) (hm:m218 f g204 v0 v1=some r):Sp Tryz.prog 218 [Va v0,Pt v1] (Va r):=by
 unfold m218 at hm;refine ens func218 kr_ I ntmps218 I I λM W a hM hD s=>?_;refine R 2 s λa w s=>?_;obtain ⟨x1,hx1,hm⟩:=bk hm;refine se (rg (ru 2 s λa w s=>sq s (cc I (oc (t I) (oc (t I) on)) (ih204 _ _ _ hx1.e)) I λa w s=>ru 1 s λa w s=>nl ?_));cases hm;exact rT hD s I I
def Gf (g204:Expr->(List Bool)->Option (Bool)) (f:Nat) (v0:List Expr) (v1:List Bool):Nat->Int->Option (Lo (Int) (Int))
 | 0,_=>none
 | n+1,z1=>(bif (decide (z1 < (v0.length:Int))) then (idx v0 z1).bind λx3=>(m218 f g204 x3 v1).bind λx4=>(bif x4 then some (.ret z1) else Gf g204 f v0 v1 n (wr (z1 + 1))) else some (.brk z1))
def Vm (f:Nat) (g204:Expr->(List Bool)->Option (Bool)) (v0:List Expr) (v1:List Bool):Option (Int):=((Gf g204 f v0 v1 f (0:Int)).bind λo2=>match o2 with | .brk o2s=>some (-1:Int) | .ret r=>some r)
theorem s221_1 (f:Nat) (g204:Expr->(List Bool)->Option (Bool)) (ih204:∀ (v0:Expr) (v1:List Bool) (r:Bool),g204 v0 v1=some r->Sp Tryz.prog 204 [Va v0,Va v1] (Va r)) (n0:Value) (v0:List Expr) (v1:List Bool) (r:Int) (hm:Vm f g204 v0 v1=some r):Cg Tryz.prog 221 [Va v0,Qv (fv 218 [] [n0])] [At n0 (Pt v1)] (Rz (λx:Unit=>Va r) (λx=>[At n0 (Pt v1)])):=by
 unfold Vm at hm;refine eng func221 kr_ I ntmps221 I I λM W a hM hD s=>?_;refine R 1 s λa w s=>?_;refine se (R 3 s λa w s=>?_);refine lB hm [0,1,4,7,1000] s (λz1=>[(8,Va z1)]) s.fi (λ_=>I) (λo2 hko2 n z1 a w hm s=>?_) λo2s hm a w s=>?_
 ·unfold Gf at hm;refine R 1 s λa w s=>?_;refine se (cmt s hm (λhb hm=>?_) λhb hm=>?_)
  ·refine se (wpIn_block ?_);refine R 2 s λa w s=>?_;obtain ⟨x3,hx3,hm⟩:=bk hm;obtain ⟨x4,hx4,hm⟩:=bk hm;refine se (rg (ru 5 s λa w s=>sq s (ccv (t I) I (oc (t I) on) vn (va (k:=1000) I vn) (s218 f g204 ih204 _ _ _ hx4.e)) I λa w s=>nl ?_));refine cmf s hm (λhb hm=>?_) λhb hm=>?_
   ·refine R 2 s λa w s=>?_;obtain rfl:=si hm;replace hm:=hko2;dsimp only at hm;obtain rfl:=si hm;refine wpIn_ret ?_;exact rz [1000] () hM hD s I (rv1 (rt I)) (kc I kn) I
   ·refine R0 2 s λa w s=>?_;exact ⟨_,hm,s.fi⟩
  ·refine wpIn_exit ?_;exact ⟨_,(si hm).symm,s.fi⟩
 ·dsimp only at hm;refine R 1 s λa w s=>?_;obtain rfl:=si hm;refine wpIn_ret ?_;exact rz [1000] () hM hD s I (rv1 (rt I)) (kc I kn) I
def Vn (f:Nat) (g204:Expr->(List Bool)->Option (Bool)) (v0:List Expr) (v1:List Bool):Option (Bool):=(Vm f g204 v0 v1).bind λx1=>some (decide (x1>=(0:Int)))
theorem s216_1 (f:Nat) (g204:Expr->(List Bool)->Option (Bool)) (ih204:∀ (v0:Expr) (v1:List Bool) (r:Bool),g204 v0 v1=some r->Sp Tryz.prog 204 [Va v0,Va v1] (Va r)) (n0:Value) (v0:List Expr) (v1:List Bool) (r:Bool) (hm:Vn f g204 v0 v1=some r):Cg Tryz.prog 216 [Va v0,Qv (fv 218 [] [n0])] [At n0 (Pt v1)] (Rz (λx:Unit=>Va r) (λx=>[At n0 (Pt v1)])):=by
 unfold Vn at hm;refine eng func216 kr_ I ntmps216 I I λM W a hM hD s=>?_;refine R 1 s λa w s=>?_;obtain ⟨x1,hx1,hm⟩:=bk hm;refine se (rg (ru 2 s λa w s=>cgv [1000] [1000] hM s qf I (oc (t I) (oc (t I) on)) vn vn (s221_1 f g204 ih204 n0 _ _ _ hx1.e) (kc I kn) I (λ_=>I) I I I λy2 a w s=>ru 2 s λa w s=>nl ?_));obtain rfl:=si hm;refine wpIn_ret ?_;exact rz [1000] () hM hD s I (rv1 (rt I)) (kc I kn) I
def m204:Nat->Expr->(List Bool)->Option (Bool)
 | 0,_,_=>none
 | f+1,v0,v1=>(bif (v0.Op == 0) then some (v0.Index == 1) else (bif (v0.Op == 1) then (idx v1 v0.Index).bind λx1=>some x1 else (bif (v0.Op == 2) then (idx v0.Args (0:Int)).bind λx2=>((m204 f) x2 v1).bind λx3=>some (!x3) else (bif (v0.Op == 3) then (m216 f (m204 f) v0.Args v1).bind λx5=>some (!x5) else (Vn f (m204 f) v0.Args v1).bind λx8=>some x8))))
theorem s204:∀ (f:Nat) (v0:Expr) (v1:List Bool) (r:Bool),m204 f v0 v1=some r->Sp Tryz.prog 204 [Va v0,Va v1] (Va r):=by
 intro f
 induction f with
 | zero=>intro v0 v1 r hm;cases hm
 | succ f ih=>
 intro v0 v1 r hm;unfold m204 at hm;refine ens func204 kr_ I ntmps204 I I λM W a hM hD s=>?_;refine R 3 s λa w s=>?_;refine se (R 2 s λa w s=>?_);refine wpIn_block (R 2 s λa w s=>?_);refine cM s hm (λhb hm=>?_) λhb hm=>?_
 ·refine R 4 s λa w s=>?_;cases hm;exact rT hD s I I
 ·refine R 2 s λa w s=>?_;refine cM s hm (λhb hm=>?_) λhb hm=>?_
  ·refine se (rg (ru 3 s λa w s=>iB s hm λx1 hm a w s=>ru 2 s λa w s=>nl ?_));cases hm;exact rT hD s I I
  ·refine R 2 s λa w s=>?_;refine cM s hm (λhb hm=>?_) λhb hm=>?_
   ·obtain ⟨x2,hx2,hm⟩:=bk hm;obtain ⟨x3,hx3,hm⟩:=bk hm;refine se (Lf s (m:=7) (.cons (.cons (.cons (.cons (.cons (.cons (.cons .nil I (fa (f:=Expr.Args) (t I))) I (ld (t I))) I (ix (t I) ci hx2.e)) I (ld (t I))) I (ld (t I))) I (cc I (oc (t I) (oc (t I) on)) (ih _ _ _ hx3.e))) I (nt (t I))) kr_ I I λa w s=>sq s (sa (t I)) I λa w s=>nl ?_);cases hm;exact rT hD s I I
   ·refine R 2 s λa w s=>?_;refine cmf s hm (λhb hm=>?_) λhb hm=>?_
    ·obtain ⟨x5,hx5,hm⟩:=bk hm;refine se (rg (ru 2 s λa w s=>nmk (d:=3) 1000 s I I λc4 s=>sq s (mkf I I qn (qc (t I) qn)) I λa w s=>cgv [1000] [1000] hM s qf I (oc (t I) (oc (t I) on)) vn vn (s216 f (m204 f) ih c4 _ _ _ hx5.e) (kc I kn) I (λ_=>I) I I I λy6 a w s=>ru 2 s λa w s=>nl ?_));cases hm;exact rT hD s I I
    ·obtain ⟨x8,hx8,hm⟩:=bk hm;refine se (rg (ru 2 s λa w s=>nmk (d:=3) 1001 s I I λc7 s=>sq s (mkf I I qn (qc (t I) qn)) I λa w s=>cgv [1001] [1001] hM s qf I (oc (t I) (oc (t I) on)) vn vn (s216_1 f (m204 f) ih c7 _ _ _ hx8.e) (kc I kn) I (λ_=>I) I I I λy9 a w s=>ru 1 s λa w s=>nl ?_));cases hm;exact rT hD s I I
def m213 (f:Nat) (v0:Ag) (v1:Bool) (v2:Bool):Option (Ag):=some v0
theorem s213 (f:Nat) (v0:Ag) (v1:Bool) (v2:Bool) (r:Ag) (hm:m213 f v0 v1 v2=some r):Sp Tryz.prog 213 [Va v0,Va v1,Va v2] (Va r):=by
 unfold m213 at hm;refine ens func213 kr_ I ntmps213 I I λM W a hM hD s=>?_;refine se (rg (ru 1 s λa w s=>sqb 1000 s (al (z:=(⟨false,(0:Int),false⟩:Ag))) I I λb1 a w s=>nl ?_));refine se (rg (ru 1 s λa w s=>sw (K:=1000) s (t I) I (t I) I λw s=>nl ?_));cases hm;exact rT hD s I I
def m214 (f:Nat) (v0:Ag) (v1:Bool) (v2:Bool):Option (Ag):=(bif (v1 != v2) then some { v0 with value:=v1 } else some v0).bind λz3=>some { z3 with conflict:=(v1 && v2) }
theorem s214 (f:Nat) (v0:Ag) (v1:Bool) (v2:Bool) (r:Ag) (hm:m214 f v0 v1 v2=some r):Sp Tryz.prog 214 [Va v0,Va v1,Va v2] (Va r):=by
 unfold m214 at hm;refine ens func214 kr_ I ntmps214 I I λM W a hM hD s=>?_;refine se (rg (sqb 1000 s (bxm (t I)) I I λb1 a w s=>sqb 1001 s (al (z:=(⟨false,(0:Int),false⟩:Ag))) I I λb2 a w s=>nl ?_));refine se (R 3 s λa w s=>?_);obtain ⟨z3,hz3,hkz3⟩:=bs hm;refine cP [0,1,2,3,6,1001] s [(1000,Mg b1 z3)] ?_ λa w s=>?_
 ·refine cm s I hz3 (λhb hm=>?_) (λhb hm=>?_)
  ·refine rg (ru 2 s λa w s=>sf (γ:=Ag) (K:=1000) s (t I) I (t I) λw s=>nl ?_);obtain rfl:=si hm;exact s.fi
  ·refine wpIn_skip ?_;obtain rfl:=si hm;exact s.fi
 ·replace hm:=hkz3;refine se (rg (ru 5 s λa w s=>sf (γ:=Ag) (K:=1000) s (t I) I (t I) λw s=>nl ?_));refine se (rg (ru 1 s λa w s=>sw (K:=1001) s (t I) I (t I) I λw s=>nl ?_));cases hm;exact rT hD s I I
def m215 (f:Nat) (v0:Ag) (v1:Bool) (v2:Bool):Option (Ag):=(bif (!v1) then some (⟨false,(0:Int),false⟩:Ag) else (bif (v0.timer == 0) then some { v0 with timer:=(1:Int) } else some v0).bind λz3=>some z3)
theorem s215 (f:Nat) (v0:Ag) (v1:Bool) (v2:Bool) (r:Ag) (hm:m215 f v0 v1 v2=some r):Sp Tryz.prog 215 [Va v0,Va v1,Va v2] (Va r):=by
 unfold m215 at hm;refine ens func215 kr_ I ntmps215 I I λM W a hM hD s=>?_;refine se (rg (sqb 1000 s (bxm (t I)) I I λb1 a w s=>sqb 1001 s (al (z:=(⟨false,(0:Int),false⟩:Ag))) I I λb2 a w s=>nl ?_));refine se (wpIn_block ?_);refine R 3 s λa w s=>?_;refine cM s hm (λhb hm=>?_) λhb hm=>?_
 ·refine se (rg (sq s (bl269_ ) I λa w s=>sw (K:=1001) s (t I) I (t I) I λw s=>nl ?_));cases hm;exact rT hD s I I
 ·refine R 4 s λa w s=>?_;obtain ⟨z3,hz3,hkz3⟩:=bs hm;refine cP [0,1,2,3,6,1001] s [(1000,Mg b1 z3)] ?_ λa w s=>?_
  ·refine cm s I hz3 (λhb hm=>?_) (λhb hm=>?_)
   ·refine rg (ru 1 s λa w s=>sf (γ:=Ag) (K:=1000) s (t I) I ci λw s=>nl ?_);obtain rfl:=si hm;exact s.fi
   ·refine wpIn_skip ?_;obtain rfl:=si hm;exact s.fi
  ·replace hm:=hkz3;refine se (rg (ru 1 s λa w s=>sw (K:=1001) s (t I) I (t I) I λw s=>nl ?_));cases hm;exact rT hD s I I
def m203 (f:Nat) :Option (Unit):=some ()
theorem s203 (f:Nat) (r:Unit) (hm:m203 f =some r):Sp Tryz.prog 203 [] (Qa [(fv 213 [] []),(fv 214 [] []),(fv 215 [] [])]):=by
 unfold m203 at hm;refine ens func203 kr_ I ntmps203 I I λM W a hM hD s=>?_;refine se (rg (sqr 1000 s (alr (cs:=[.nilFunc,.nilFunc,.nilFunc]) (z:=.agg #[.nilFunc,.nilFunc,.nilFunc]) kr_ I I) I I λb1 a w s=>nl ?_));refine se (rg (sq s (bly (e:=265) (len:=3) (z:=[.nilFunc,.nilFunc,.nilFunc]) (cs:=[(fv 213 [] []),(fv 214 [] []),(fv 215 [] [])]) I (cd1 qf (ocr I) (cd1 qf (ocr I) (cd1 qf (ocr I) cd0))) kr_ kr_ kr_ I) I λa w s=>sra (K:=1000) (m:=[(fv 213 [] []),(fv 214 [] []),(fv 215 [] [])]) (cs':=[(fv 213 [] []),(fv 214 [] []),(fv 215 [] [])]) s (t I) I (t I) kr_ I I I λw s=>nl ?_));obtain rfl:=si hm;refine wpIn_ret ?_;exact rn hD s I (rv1 (rca (K:=1000) I I kr_ I kr_))
def Vi (v0:List Int) (v1:List Int):Nat->Int->Option (Lo (Int) (Bool))
 | 0,_=>none
 | n+1,z1=>(bif (decide (z1 < (v0.length:Int))) then (idx v0 z1).bind λx3=>(idx v1 z1).bind λx4=>(bif (x3 != x4) then some (.ret false) else Vi v0 v1 n (wr (z1 + 1))) else some (.brk z1))
def m43 (f:Nat) (v0:List Int) (v1:List Int):Option (Bool):=(bif ((v0.length:Int) != (v1.length:Int)) then some false else ((Vi v0 v1 f (0:Int)).bind λo2=>match o2 with | .brk o2s=>some true | .ret r=>some r))
theorem s43 (f:Nat) (v0:List Int) (v1:List Int) (r:Bool) (hm:m43 f v0 v1=some r):Sp Tryz.prog 43 [Va v0,Va v1] (Va r):=by
 unfold m43 at hm;refine ens func43 kr_ I ntmps43 I I λM W a hM hD s=>?_;refine R 1 s λa w s=>?_;refine se (R 5 s λa w s=>?_);refine cmf s hm (λhb hm=>?_) λhb hm=>?_
 ·refine R 1 s λa w s=>?_;cases hm;exact rT hD s I I
 ·refine se (R 3 s λa w s=>?_);refine lB hm [0,1,4,12] s (λz1=>[(13,Va z1)]) s.fi (λ_=>I) (λo2 hko2 n z1 a w hm s=>?_) λo2s hm a w s=>?_
  ·unfold Vi at hm;refine R 1 s λa w s=>?_;refine se (cmt s hm (λhb hm=>?_) λhb hm=>?_)
   ·refine se (wpIn_block ?_);refine R 2 s λa w s=>?_;obtain ⟨x3,hx3,hm⟩:=bk hm;obtain ⟨x4,hx4,hm⟩:=bk hm;refine se (fW 9 s kr_ I I λa w s=>nl ?_);refine cmf s hm (λhb hm=>?_) λhb hm=>?_
    ·refine R 1 s λa w s=>?_;obtain rfl:=si hm;replace hm:=hko2;dsimp only at hm;cases hm;exact rT hD s I I
    ·refine R0 2 s λa w s=>?_;exact ⟨_,hm,s.fi⟩
   ·refine wpIn_exit ?_;exact ⟨_,(si hm).symm,s.fi⟩
  ·dsimp only at hm;refine R 1 s λa w s=>?_;cases hm;exact rT hD s I I
instance {f:Nat} {v0:List Int} {v1:List Int}:Cn Tryz.prog 43 (m43 f v0 v1) [Va v0,Va v1] (λr:Bool=>(Va r)):=⟨s43 f v0 v1⟩
def Vh (v0:List Bool) (v1:List Bool):Nat->Int->Option (Lo (Int) (Bool))
 | 0,_=>none
 | n+1,z1=>(bif (decide (z1 < (v0.length:Int))) then (idx v0 z1).bind λx3=>(idx v1 z1).bind λx4=>(bif (x3 != x4) then some (.ret false) else Vh v0 v1 n (wr (z1 + 1))) else some (.brk z1))
def m44 (f:Nat) (v0:List Bool) (v1:List Bool):Option (Bool):=(bif ((v0.length:Int) != (v1.length:Int)) then some false else ((Vh v0 v1 f (0:Int)).bind λo2=>match o2 with | .brk o2s=>some true | .ret r=>some r))
theorem s44 (f:Nat) (v0:List Bool) (v1:List Bool) (r:Bool) (hm:m44 f v0 v1=some r):Sp Tryz.prog 44 [Va v0,Va v1] (Va r):=by
 unfold m44 at hm;refine ens func44 kr_ I ntmps44 I I λM W a hM hD s=>?_;refine R 1 s λa w s=>?_;refine se (R 5 s λa w s=>?_);refine cmf s hm (λhb hm=>?_) λhb hm=>?_
 ·refine R 1 s λa w s=>?_;cases hm;exact rT hD s I I
 ·refine se (R 3 s λa w s=>?_);refine lB hm [0,1,4,12] s (λz1=>[(13,Va z1)]) s.fi (λ_=>I) (λo2 hko2 n z1 a w hm s=>?_) λo2s hm a w s=>?_
  ·unfold Vh at hm;refine R 1 s λa w s=>?_;refine se (cmt s hm (λhb hm=>?_) λhb hm=>?_)
   ·refine se (wpIn_block ?_);refine R 2 s λa w s=>?_;obtain ⟨x3,hx3,hm⟩:=bk hm;obtain ⟨x4,hx4,hm⟩:=bk hm;refine se (fW 9 s kr_ I I λa w s=>nl ?_);refine cmf s hm (λhb hm=>?_) λhb hm=>?_
    ·refine R 1 s λa w s=>?_;obtain rfl:=si hm;replace hm:=hko2;dsimp only at hm;cases hm;exact rT hD s I I
    ·refine R0 2 s λa w s=>?_;exact ⟨_,hm,s.fi⟩
   ·refine wpIn_exit ?_;exact ⟨_,(si hm).symm,s.fi⟩
  ·dsimp only at hm;refine R 1 s λa w s=>?_;cases hm;exact rT hD s I I
instance {f:Nat} {v0:List Bool} {v1:List Bool}:Cn Tryz.prog 44 (m44 f v0 v1) [Va v0,Va v1] (λr:Bool=>(Va r)):=⟨s44 f v0 v1⟩
def m111 (f:Nat) (v0:Ad) (v1:Ad):Option (Bool):=(m43 f v0.Ends v1.Ends).bind λx1=>(bif x1 then (m44 f v0.Valves v1.Valves).bind λx2=>some x2 else some false).bind λr3=>(bif r3 then (m44 f v0.Inputs v1.Inputs).bind λx4=>some x4 else some false).bind λr5=>(bif r5 then (m44 f v0.Values v1.Values).bind λx6=>some x6 else some false).bind λr7=>(bif r7 then (m43 f v0.Timers v1.Timers).bind λx8=>some x8 else some false).bind λr9=>some r9
theorem s111 (f:Nat) (v0:Ad) (v1:Ad) (r:Bool) (hm:m111 f v0 v1=some r):Sp Tryz.prog 111 [Va v0,Va v1] (Va r):=by
 unfold m111 at hm;refine ens func111 kr_ I ntmps111 I I λM W a hM hD s=>?_;refine R 3 s λa w s=>?_;obtain ⟨x1,hx1,hm⟩:=bk hm;obtain ⟨r3,hr3,hm⟩:=bs hm;have gr3:=gT hr3;have er3:=gF hr3;obtain ⟨x2,hx2,gr3⟩:=gk gr3;obtain ⟨r5,hr5,hm⟩:=bs hm;have gr5:=gT hr5;have er5:=gF hr5;obtain ⟨x4,hx4,gr5⟩:=gk gr5;obtain ⟨r7,hr7,hm⟩:=bs hm;have gr7:=gT hr7;have er7:=gF hr7;obtain ⟨x6,hx6,gr7⟩:=gk gr7;obtain ⟨r9,hr9,hm⟩:=bs hm;have gr9:=gT hr9;have er9:=gF hr9;obtain ⟨x8,hx8,gr9⟩:=gk gr9;have:=pka gr3 er3;have:=pka gr5 er5;have:=pka gr7 er7;have:=pka gr9 er9;refine R 34 s λa w s=>?_;cases hm;exact rT hD s I I
instance {f:Nat} {v0:Ad} {v1:Ad}:Cn Tryz.prog 111 (m111 f v0 v1) [Va v0,Va v1] (λr:Bool=>(Va r)):=⟨s111 f v0 v1⟩
def Km (v6:List Int):Nat->(Int×(List Bool))->Option (Int×(List Bool))
 | 0,_=>none
 | n+1,z1=>(bif (decide (z1.1 < (v6.length:Int))) then (idx v6 z1.1).bind λx4=>(app z1.2 ([(x4 == 0),(x4 == 2)]:List Bool)).bind λx5=>Km v6 n ((wr (z1.1 + 1)),x5) else some (z1.1,z1.2))
def m202 (f:Nat) (v0:Int) (v1:Int) (v2:List ByteArray) (v3:List Ae) (v4:List Int) (v5:List Int) (v6:List Int) (v7:List Bool) (v8:List Bool) (v9:List Bool) (v10:List Int):Option ((List Bool)):=(Km v6 f ((0:Int),([]:List Bool))).bind λo2s=>(m212 f ([o2s.2,v8,v9]:List (List Bool))).bind λx7=>some x7
theorem s202 (f:Nat) (n0:Nat) (n1:Value) (n2:Value) (n3:Value) (n4:Value) (n5:Value) (n6:Value) (n7:Value) (n8:Value) (n9:Value) (v0:Int) (v1:Int) (v2:List ByteArray) (v3:List Ae) (v4:List Int) (v5:List Int) (v6:List Int) (v7:List Bool) (v8:List Bool) (v9:List Bool) (v10:List Int) (r:(List Bool)) (hm:m202 f v0 v1 v2 v3 v4 v5 v6 v7 v8 v9 v10=some r):Cg Tryz.prog 202 [Qv (pb n0 0)] [Mr n0 [(.int .i64 v0),n1,n2,n3,n4,n5,n6,n7,n8,n9,(.int .i64 v1)],At n1 (Va v2),At n2 (Va v3),At n3 (Va v4),At n4 (Va v5),Ow 3 n5 v6,Ow 4 n6 v7,Ow 4 n7 v8,Ow 4 n8 v9,Ow 3 n9 v10] (Rz (λx:Value=>Qv x) (λx=>[Mr n0 [(.int .i64 v0),n1,n2,n3,n4,n5,n6,n7,n8,n9,(.int .i64 v1)],At n1 (Va v2),At n2 (Va v3),At n3 (Va v4),At n4 (Va v5),Ow 3 n5 v6,Ow 4 n6 v7,Ow 4 n7 v8,Ow 4 n8 v9,Ow 3 n9 v10,Ow 4 x r])):=by
 unfold m202 at hm;refine eng func202 kr_ I ntmps202 I I λM W a hM hD s=>?_;refine R 1 s λa w s=>?_;refine R 1 s λa w s=>?_;refine se (R 7 s λa w s=>?_);refine Ja (α:=Bool) (d:=3) 1010 4 s I I λc3 s=>?_;refine lA1 hm [0,2,10,11,1000,1001,1002,1003,1004,1005,1006,1007,1008,1009] s (λz1 z1c0=>[(3,Qv z1c0),(12,Va z1.1),(1010,Ow 4 z1c0 z1.2)]) ⟨c3,s.fi⟩ (λ_=>I) (λo2s hko2 n z1 a w hm s=>?_) λo2s hm a w s=>?_
 ·obtain ⟨z1c0,s⟩:=s;unfold Km at hm;refine R 1 s λa w s=>?_;refine se (cmt s hm (λhb hm=>?_) λhb hm=>?_)
  ·refine se (wpIn_block ?_);obtain ⟨x4,hx4,hm⟩:=bk hm;refine R 3 s λa w s=>?_;obtain ⟨x5,hx5,hm⟩:=bk hm;refine rg (ru 6 s λa w s=>apd (α:=Bool) (k:=1010) s (t I) I (t I) hx5.e I I λc6 a w s=>ru 1 s λa w s=>nl ?_);refine R0 2 s λa w s=>?_;exact ⟨_,hm,⟨c6,s.fi⟩⟩
  ·refine wpIn_exit ?_;obtain rfl:=si hm;exact ⟨z1c0,s.fi⟩
 ·obtain ⟨o2sc0,s⟩:=s;obtain ⟨x7,hx7,hm⟩:=bk hm;refine se (Lf s (m:=13) (.cons (.cons (.cons (.cons (.cons (.cons (.cons (.cons (.cons (.cons (.cons (.cons (.cons .nil I (mvq (t I))) I (mvq (t I))) I (nkq (t I))) I (fm_ (off:=5) (m:=4) (q:=5) (t I) kr_ I)) I (fm_ (off:=2) (m:=0) (q:=7) (t I) kr_ I)) I (lrc (K:=1000) (List Bool) (t I) I I I I)) I (mvq (t I))) I (nkq (t I))) I (fm_ (off:=5) (m:=4) (q:=5) (t I) kr_ I)) I (fm_ (off:=3) (m:=0) (q:=8) (t I) kr_ I)) I (lrc (K:=1000) (List Bool) (t I) I I I I)) I (bsw (β:=Bool) (cd1 (t I) (oco (k:=1010) I) (cd1 (t I) (oco (k:=1007) I) (cd1 (t I) (oco (k:=1008) I) cd0))) I I kr_)) I (tfg (k:=1010) (flz (λ_=>flq) (λ_=>(flc flo fln))) I (tfg (k:=1007) (flz (λ_=>flq) (λ_=>(flc flo fln))) I (tfg (k:=1008) (flz (λ_=>flq) (λ_=>(flc flo fln))) I (cc I (oc (rwd (t I) (rl1 (rpz (k:=1010) I) (rl1 (rpz (k:=1007) I) (rl1 (rpz (k:=1008) I) rl0)))) on) (s212 f _ _ hx7.e)))))) kr_ I I λa w s=>opz (d:=36) [1012] s I (λ_=>I) I λy8 s=>sq s (saq (t I)) I λa w s=>nl ?_);obtain rfl:=si hm;refine wpIn_ret ?_;exact rz [1000,1001,1002,1003,1004,1005,1006,1007,1008,1009,1012] y8 hM hD s I (rv1 (rt I)) (k4 I I I I (k4 I I I I (k2 I I (kc I kn)))) I
def Ew (f:Nat) (v1:Int) (v3:List Ae):Nat->(Int×(List Bool)×(List Bool))->Option (Int×(List Bool)×(List Bool))
 | 0,_=>none
 | n+1,z3=>(bif (decide (z3.1 < (v3.length:Int))) then (idx v3 z3.1).bind λx5=>(bif (x5.Kind == 0) then (m204 f x5.On z3.2.2).bind λx8=>(idx z3.2.1 z3.1).bind λx9=>(idx z3.2.2 (wr (v1 + z3.1))).bind λx10=>some ((z3.2.1.set z3.1.toNat x8),(z3.2.2.set (wr (v1 + z3.1)).toNat x8)) else some (z3.2.1,z3.2.2)).bind λz7=>Ew f v1 v3 n ((wr (z3.1 + 1)),z7.1,z7.2) else some (z3.1,z3.2.1,z3.2.2))
def m201 (f:Nat) (v0:Int) (v1:Int) (v2:List ByteArray) (v3:List Ae) (v4:List Int) (v5:List Int) (v6:List Int) (v7:List Bool) (v8:List Bool) (v9:List Bool) (v10:List Int):Option ((List Bool)):=(m202 f v0 v1 v2 v3 v4 v5 v6 v7 v8 v9 v10).bind λx1=>(Ew f v1 v3 f ((0:Int),v9,x1)).bind λo4s=>some o4s.2.1
theorem s201 (f:Nat) (n0:Nat) (n1:Value) (n2:Value) (n3:Value) (n4:Value) (n5:Value) (n6:Value) (n7:Value) (n8:Value) (n9:Value) (v0:Int) (v1:Int) (v2:List ByteArray) (v3:List Ae) (v4:List Int) (v5:List Int) (v6:List Int) (v7:List Bool) (v8:List Bool) (v9:List Bool) (v10:List Int) (r:(List Bool)) (hm:m201 f v0 v1 v2 v3 v4 v5 v6 v7 v8 v9 v10=some r):Cg Tryz.prog 201 [Qv (pb n0 0)] [Mr n0 [(.int .i64 v0),n1,n2,n3,n4,n5,n6,n7,n8,n9,(.int .i64 v1)],At n1 (Va v2),At n2 (Va v3),At n3 (Va v4),At n4 (Va v5),Ow 3 n5 v6,Ow 4 n6 v7,Ow 4 n7 v8,Ow 4 n8 v9,Ow 3 n9 v10] (Rz (λx:Unit=>Dd) (λx=>[Mr n0 [(.int .i64 v0),n1,n2,n3,n4,n5,n6,n7,n8,n9,(.int .i64 v1)],At n1 (Va v2),At n2 (Va v3),At n3 (Va v4),At n4 (Va v5),Ow 3 n5 v6,Ow 4 n6 v7,Ow 4 n7 v8,Ow 4 n8 r,Ow 3 n9 v10])):=by
 unfold m201 at hm;refine eng func201 kr_ I ntmps201 I I λM W a hM hD s=>?_;obtain ⟨x1,hx1,hm⟩:=bk hm;refine se (rg (ru 1 s λa w s=>cgv [1000,1001,1002,1003,1004,1005,1006,1007,1008,1009] [1000,1001,1002,1003,1004,1005,1006,1007,1008,1009,1010] hM s qf I (oc (t I) on) vn vn (s202 f n0 n1 n2 n3 n4 n5 n6 n7 n8 n9 _ _ _ _ _ _ _ _ _ _ _ _ hx1.e) (k4 I I I I (k4 I I I I (k2 I I kn))) I (λ_=>I) I I I λy2 a w s=>ru 1 s λa w s=>nl ?_));refine se (rg (ru 5 s λa w s=>sq s (ln (ta (k:=1002) (t I) I)) I λa w s=>ru 1 s λa w s=>nl ?_));refine lA hm [0,2,12,13,1000,1001,1002,1003,1004,1005,1006,1007,1009] s (λz3=>[(14,Va z3.1),(1008,Ow 4 n8 z3.2.1),(1010,Ow 4 y2 z3.2.2)]) s.fi (λ_=>I) (λo4s hko4 n z3 a w hm s=>?_) λo4s hm a w s=>?_
 ·unfold Ew at hm;refine R 1 s λa w s=>?_;refine se (cmt s hm (λhb hm=>?_) λhb hm=>?_)
  ·refine se (wpIn_block ?_);obtain ⟨x5,hx5,hm⟩:=bk hm;refine se (rg (ru 1 s λa w s=>sq s (ix (ta (k:=1002) (t I) I) (t I) hx5.e) I λa w s=>ru 1 s λa w s=>aR 1011 s λb6 a w s=>ru 1 s λa w s=>sW s I λw s=>nl ?_));refine R 3 s λa w s=>?_;obtain ⟨z7,hz7,hkz7⟩:=bs hm;refine cP [0,2,3,4,12,13,14,1000,1001,1002,1003,1004,1005,1006,1007,1009,1011] s [(1008,Ow 4 n8 z7.1),(1010,Ow 4 y2 z7.2)] ?_ λa w s=>?_
   ·refine cm s I hz7 (λhb hm=>?_) (λhb hm=>?_)
    ·obtain ⟨x8,hx8,hm⟩:=bk hm;refine se (rg (ru 3 s λa w s=>sq s (tfg (k:=1010) fl1 I (cc I (oc (t I) (oc (ta (k:=1010) (t I) I) on)) (s204 f _ _ _ hx8.e))) I λa w s=>ru 1 s λa w s=>nl ?_));obtain ⟨x9,hx9,hm⟩:=bk hm;obtain ⟨x10,hx10,hm⟩:=bk hm;refine Az [(2,Qv y2),(3,Va z3.1),(5,Va x8)] [0,1,2,3,4,5,7,8,9,10,13,15] [26,27,28,29,30,31,33,34,35,36,39,41] [36] [37] [40,38,37,32] [(16,[]),(17,[40,38,37,32]),(18,[])] s (.skip (.skip (.skip (.cons (.late (.cons (.late (.late (.cons (.cons (.cons (.cons (.late (.cons (.cons (.cons (.cons (.cons (.cons .nil I I (mvq (t I))) I I (nkq (t I))) I I (fm_ (off:=5) (m:=4) (q:=5) (t I) kr_ I)) I I (fm_ (off:=3) (m:=0) (q:=8) (t I) kr_ I)) I I (lrc (K:=1000) (List Bool) (t I) I I I I)) I I (mv (t I))) I I (mvq (t I))) I I (mvq (t I))) I I (nkq (t I))) I I (fm_ (off:=10) (m:=0) (q:=10) (t I) kr_ I)) I I (lrc (K:=1000) Int (t I) I I I I)) I I (mv (t I))) I I (ad (qi (t I)) (t I))) I I (mv (t I))) I I (mv (t I))) I I (ixq (α:=Bool) (k:=1008) (t I) I (t I) hx9.e)) I) I) I) kr_ kr_ I I (sw1 I (sw1 I (sw1 I sw0))) I (by decide) I I ?_;refine ⟨⟨λ_=>I,I,.inr ⟨(sw1 I (sw1 I (sw1 I sw0))),(sb1 I sb0),(sn2 I sn0)⟩⟩,by kernel_rfl,_,I,λΨ a w s=>stq (k:=1008) s (t I) I (Fk hx9.e) (t I) λw s=>nl ?_⟩;refine nxt Ψ s ?_;refine ⟨⟨λ_=>I,I,.inr ⟨(sw1 I (sw1 I (sw1 I sw0))),(sb1 I sb0),(sn2 I sn0)⟩⟩,by kernel_rfl,_,I,λΨ a w s=>sq s (ixq (α:=Bool) (k:=1010) (t I) I (t I) hx10.e) I λa w s=>nl ?_⟩;refine nxt Ψ s ?_;refine ⟨⟨λ_=>I,I,.inl I⟩,by kernel_rfl,_,I,λΨ a w s=>stq (k:=1010) s (t I) I (Fk hx10.e) (t I) λw s=>nl ?_⟩;refine nxt Ψ s ?_;refine ⟨⟨λ_=>I,I,.inl I⟩,λa w s=>?_⟩;replace s:St M W 44 [(0,Qv (pb n0 0)),(2,Qv y2),(3,Va z3.1),(4,Qv (pb b6 0)),(5,Va x8),(12,Qv n2),(13,Va ((v3.length:Int))),(14,Va z3.1),(1000,Mr n0 [(.int .i64 v0),n1,n2,n3,n4,n5,n6,n7,n8,n9,(.int .i64 v1)]),(1001,At n1 (Va v2)),(1002,At n2 (Va v3)),(1003,At n3 (Va v4)),(1004,At n4 (Va v5)),(1005,Ow 3 n5 v6),(1006,Ow 4 n6 v7),(1007,Ow 4 n7 v8),(1008,Ow 4 n8 ((z3.2.1.set z3.1.toNat x8))),(1009,Ow 3 n9 v10),(1010,Ow 4 y2 ((z3.2.2.set (wr (v1 + z3.1)).toNat x8))),(1011,Mg b6 x5)] a w:=s.pick [0,2,3,4,5,12,13,14,1000,1001,1002,1003,1004,1005,1006,1007,1008,1009,1010,1011];obtain rfl:=si hm;exact s.fi
    ·refine wpIn_skip ?_;obtain rfl:=si hm;exact s.fi
   ·replace hm:=hkz7;refine R0 2 s λa w s=>?_;exact ⟨_,hm,s.fi⟩
  ·refine wpIn_exit ?_;obtain rfl:=si hm;exact s.fi
 ·obtain rfl:=si hm;exact rze [1000,1001,1002,1003,1004,1005,1006,1007,1008,1009] () hM hD s I rv0 (k4 I I I I (k4 I I I I (k2 I I kn))) I
def Hg (f:Nat) (v1:Int) (v3:List Ae) (x6:(List Bool)):Nat->(Int×(List Bool)×(List Int)×(List Int))->Option (Int×(List Bool)×(List Int)×(List Int))
 | 0,_=>none
 | n+1,z10=>(bif (decide (z10.1 < (v3.length:Int))) then (idx v3 z10.1).bind λx13=>(idx (List.range 3) x13.Kind).bind λx15=>(idx z10.2.1 z10.1).bind λx16=>(idx z10.2.2.1 z10.1).bind λx17=>(m204 f x13.On x6).bind λx18=>(bif (x13.Kind == 1) then (m204 f x13.Off x6).bind λx19=>some x19 else some false).bind λr20=>((bif x15 == 0 then m213 f (⟨x16,x17,false⟩:Ag) x18 r20 else bif x15 == 1 then m214 f (⟨x16,x17,false⟩:Ag) x18 r20 else bif x15 == 2 then m215 f (⟨x16,x17,false⟩:Ag) x18 r20 else none)).bind λx24=>(idx z10.2.1 z10.1).bind λx26=>(idx z10.2.2.1 z10.1).bind λx27=>(bif x24.conflict then (app z10.2.2.2 ([(wr (v1 + z10.1))]:List Int)).bind λx29=>some x29 else some z10.2.2.2).bind λz28=>Hg f v1 v3 x6 n ((wr (z10.1 + 1)),(z10.2.1.set z10.1.toNat x24.value),(z10.2.2.1.set z10.1.toNat x24.timer),z28) else some (z10.1,z10.2.1,z10.2.2.1,z10.2.2.2))
def m183 (f:Nat) (v0:Int) (v1:Int) (v2:List ByteArray) (v3:List Ae) (v4:List Int) (v5:List Int) (v6:List Int) (v7:List Bool) (v8:List Bool) (v9:List Bool) (v10:List Int):Option (Bool×(List Int)×(List Bool)×(List Int)):=(m182 f (⟨v6,v7,v8,v9,v10⟩:Ad)).bind λx1=>(m201 f v0 v1 v2 v3 v4 v5 v6 v7 v8 v9 v10).bind λx4=>(m202 f v0 v1 v2 v3 v4 v5 v6 v7 v8 x4 v10).bind λx6=>(m203 f).bind λx8=>(Hg f v1 v3 x6 f ((0:Int),x4,v10,([]:List Int))).bind λo11s=>(m111 f (⟨x1.1,x1.2.1,x1.2.2.1,x1.2.2.2.1,x1.2.2.2.2⟩:Ad) (⟨v6,v7,v8,o11s.2.1,o11s.2.2.1⟩:Ad)).bind λx31=>some ((!x31),o11s.2.2.2,o11s.2.1,o11s.2.2.1)
theorem s183 (f:Nat) (n0:Nat) (n1:Value) (n2:Value) (n3:Value) (n4:Value) (n5:Value) (n6:Value) (n7:Value) (n8:Value) (n9:Value) (v0:Int) (v1:Int) (v2:List ByteArray) (v3:List Ae) (v4:List Int) (v5:List Int) (v6:List Int) (v7:List Bool) (v8:List Bool) (v9:List Bool) (v10:List Int) (r:Bool×(List Int)×(List Bool)×(List Int)) (hm:m183 f v0 v1 v2 v3 v4 v5 v6 v7 v8 v9 v10=some r):Cg Tryz.prog 183 [Qv (pb n0 0)] [Mr n0 [(.int .i64 v0),n1,n2,n3,n4,n5,n6,n7,n8,n9,(.int .i64 v1)],At n1 (Va v2),At n2 (Va v3),At n3 (Va v4),At n4 (Va v5),Ow 3 n5 v6,Ow 4 n6 v7,Ow 4 n7 v8,Ow 4 n8 v9,Ow 3 n9 v10] (Rz (λx:Unit=>T2 (Va r.1) (Va r.2.1)) (λx=>[Mr n0 [(.int .i64 v0),n1,n2,n3,n4,n5,n6,n7,n8,n9,(.int .i64 v1)],At n1 (Va v2),At n2 (Va v3),At n3 (Va v4),At n4 (Va v5),Ow 3 n5 v6,Ow 4 n6 v7,Ow 4 n7 v8,Ow 4 n8 r.2.2.1,Ow 3 n9 r.2.2.2])):=by
 unfold m183 at hm;refine eng func183 kr_ I ntmps183 I I λM W a hM hD s=>?_;refine R 2 s λa w s=>?_;obtain ⟨x1,hx1,hm⟩:=bk hm;refine se (rg (ru 3 s λa w s=>sq s (lra (K:=1000) (ds:=[n5,n6,n7,n8,n9]) Ad (t I) I I I I) I λa w s=>sqz [1010,1011,1012,1013,1014] hM s (tfg (k:=1009) (flz (λ_=>fla) (λ_=>(flc flo (flc flo (flc flo (flc flo (flc flo fln))))))) I (tfg (k:=1008) (flz (λ_=>fla) (λ_=>(flc flo (flc flo (flc flo (flc flo (flc flo fln))))))) I (tfg (k:=1007) (flz (λ_=>fla) (λ_=>(flc flo (flc flo (flc flo (flc flo (flc flo fln))))))) I (tfg (k:=1006) (flz (λ_=>fla) (λ_=>(flc flo (flc flo (flc flo (flc flo (flc flo fln))))))) I (tfg (k:=1005) (flz (λ_=>fla) (λ_=>(flc flo (flc flo (flc flo (flc flo (flc flo fln))))))) I (cc I (oc (qad (y:=(⟨v6,v7,v8,v9,v10⟩:Ad)) (t I) (Cc (l:=([n5],[n6],[n7],[n8],[n9])) (rpz (k:=1005) I) (rpz (k:=1006) I) (rpz (k:=1007) I) (rpz (k:=1008) I) (rpz (k:=1009) I)) I) on) (s182 f _ _ hx1.e))))))) (λ_=>I) I I λy2 a w s=>aR 1015 s λb3 a w s=>sra (K:=1015) (m:=[y2.1,y2.2.1,y2.2.2.1,y2.2.2.2.1,y2.2.2.2.2]) (cs':=[y2.1,y2.2.1,y2.2.2.1,y2.2.2.2.1,y2.2.2.2.2]) s (t I) I (t I) kr_ I I I λw s=>nl ?_));obtain ⟨x4,hx4,hm⟩:=bk hm;refine se (rg (ru 1 s λa w s=>cgv [1000,1001,1002,1003,1004,1005,1006,1007,1008,1009] [1000,1001,1002,1003,1004,1005,1006,1007,1008,1009] hM s qf I (oc (t I) on) vn vn (s201 f n0 n1 n2 n3 n4 n5 n6 n7 n8 n9 _ _ _ _ _ _ _ _ _ _ _ _ hx4.e) (k4 I I I I (k4 I I I I (k2 I I kn))) I (λ_=>I) I I I λy5 a w s=>nl ?_));obtain ⟨x6,hx6,hm⟩:=bk hm;refine se (rg (ru 1 s λa w s=>cgv [1000,1001,1002,1003,1004,1005,1006,1007,1008,1009] [1000,1001,1002,1003,1004,1005,1006,1007,1008,1009,1016] hM s qf I (oc (t I) on) vn vn (s202 f n0 n1 n2 n3 n4 n5 n6 n7 n8 n9 _ _ _ _ _ _ _ _ _ _ _ _ hx6.e) (k4 I I I I (k4 I I I I (k2 I I kn))) I (λ_=>I) I I I λy7 a w s=>cB s hm (s203 f) λx8 hm a w s=>aR 1017 s λb9 a w s=>ru 1 s λa w s=>sra (K:=1017) (m:=[(fv 213 [] []),(fv 214 [] []),(fv 215 [] [])]) (cs':=[(fv 213 [] []),(fv 214 [] []),(fv 215 [] [])]) s (t I) I (t I) kr_ I I I λw s=>nl ?_));refine R 1 s λa w s=>?_;refine se (se (rg (ru 5 s λa w s=>sq s (ln (ta (k:=1002) (t I) I)) I λa w s=>ru 1 s λa w s=>nl ?_)));refine Ja (α:=Int) (d:=7) 1018 3 s I I λc12 s=>?_;refine lA1 hm [0,2,3,4,5,6,25,26,1000,1001,1002,1003,1004,1005,1006,1007,1015,1010,1011,1012,1013,1014,1016,1017] s (λz10 z10c0=>[(7,Qv z10c0),(27,Va z10.1),(1008,Ow 4 n8 z10.2.1),(1009,Ow 3 n9 z10.2.2.1),(1018,Ow 3 z10c0 z10.2.2.2)]) ⟨c12,s.fi⟩ (λ_=>I) (λo11s hko11 n z10 a w hm s=>?_) λo11s hm a w s=>?_
 ·obtain ⟨z10c0,s⟩:=s;unfold Hg at hm;refine R 1 s λa w s=>?_;refine se (cmt s hm (λhb hm=>?_) λhb hm=>?_)
  ·refine se (wpIn_block ?_);obtain ⟨x13,hx13,hm⟩:=bk hm;refine se (rg (ru 1 s λa w s=>sq s (ix (ta (k:=1002) (t I) I) (t I) hx13.e) I λa w s=>ru 1 s λa w s=>aR 1019 s λb14 a w s=>ru 1 s λa w s=>sW s I λw s=>nl ?_));obtain ⟨x15,hx15,hm⟩:=bk hm;obtain ⟨x16,hx16,hm⟩:=bk hm;obtain ⟨x17,hx17,hm⟩:=bk hm;obtain ⟨x18,hx18,hm⟩:=bk hm;obtain ⟨r20,hr20,hm⟩:=bs hm;have gr20:=gT hr20;have er20:=gF hr20;obtain ⟨x19,hx19,gr20⟩:=gk gr20;obtain ⟨x24,hx24,hm⟩:=bk hm;have:=pka gr20 er20;refine se (Lf s (m:=36) (.cons (.cons (.cons (.cong (.cong (.cong (.cong (.cons (.cons (.cons (.cons (.cons (.cons (.cons (.cons (.cons (.cons (.cons (.cons (.cons (.cons (.cons (.cons (.cons (.cons (.cons (.cons (.cons (.cons (.cons (.cons (.cons (.cons (.cons (.cons (.cons .nil I (fm_ (off:=1) (m:=0) (q:=1) (t I) kr_ I)) I (lf (K:=1019) (f:=Ae.Kind) (t I) I)) I (iax (e:=265) (t I) (t I) kr_ kr_ hx15.e)) I (lsel (K:=1017) (ds:=[(fv 213 [] []),(fv 214 [] []),(fv 215 [] [])]) (t I) I I (Le hx15.e).1 (FA I) kr_)) I (mvq (t I))) I (nkq (t I))) I (fm_ (off:=5) (m:=4) (q:=5) (t I) kr_ I)) I (fm_ (off:=3) (m:=0) (q:=8) (t I) kr_ I)) I (lrc (K:=1000) (List Bool) (t I) I I I I)) I (mv (t I))) I (ixq (α:=Bool) (k:=1008) (t I) I (t I) hx16.e)) I (lq (k:=1008) (t I) I (Fk hx16.e))) I (mvq (t I))) I (nkq (t I))) I (fm_ (off:=5) (m:=4) (q:=5) (t I) kr_ I)) I (fm_ (off:=4) (m:=0) (q:=9) (t I) kr_ I)) I (lrc (K:=1000) (List Int) (t I) I I I I)) I (mv (t I))) I (ixq (α:=Int) (k:=1009) (t I) I (t I) hx17.e)) I (lq (k:=1009) (t I) I (Fk hx17.e))) I (Uc (t I) (t I) cb)) I (fm_ (off:=2) (m:=2) (q:=2) (t I) kr_ I)) I (lf (K:=1019) (f:=Ae.On) (t I) I)) I (mvq (t I))) I (tfg (k:=1016) fl1 I (cc I (oc (t I) (oc (ta (k:=1016) (t I) I) on)) (s204 f _ _ _ hx18.e)))) I (fm_ (off:=1) (m:=0) (q:=1) (t I) kr_ I)) I (lf (K:=1019) (f:=Ae.Kind) (t I) I)) I (eq (t I) ci)) I (mv (t I))) I I I (λhb=>(fm_ (off:=5) (m:=2) (q:=5) (t I) kr_ I))) I I I (λhb=>(lf (K:=1019) (f:=Ae.Off) (tg I hb) I))) I I I (λhb=>(mvq (t I)))) I I I (λhb=>(tfg (k:=1016) fl1 I (cc I (oc (tg I hb) (oc (ta (k:=1016) (tg I hb) I) on)) (s204 f _ _ _ (hx19.h hb)))))) I (pa (t I) I (λh=>si (gr20 h)) (λh=>(si (er20 h)).symm))) I (bifE hx24.e (λhj hx=>(ccv (BM hj (t I) I) I (oc (t I) (oc (t I) (oc (t I) on))) vn vn (s213 f _ _ _ _ hx))) (λ_ hx=>(bifE hx (λhj hx=>(ccv (BM hj (t I) I) I (oc (t I) (oc (t I) (oc (t I) on))) vn vn (s214 f _ _ _ _ hx))) (λ_ hx=>(bifE hx (λhj hx=>(ccv (BM hj (t I) I) I (oc (t I) (oc (t I) (oc (t I) on))) vn vn (s215 f _ _ _ _ hx))) (λ_ hx=>(bifN hx)))))))) I (al (z:=(⟨false,(0:Int),false⟩:Ag)))) kr_ I I λa w s=>opb (d:=10) 1020 s I I λb25 s=>sw (K:=1020) s (t I) I (t I) I λw s=>nl ?_);obtain ⟨x26,hx26,hm⟩:=bk hm;obtain ⟨x27,hx27,hm⟩:=bk hm;refine se (Az [(8,Va z10.1),(10,Qv (pb b25 0)),(1020,Mg b25 x24)] [0,1,2,3,4,5,6,7,8,9,10,12,13,16] [67,68,69,70,71,72,73,74,75,76,77,79,80,83] [] [81] [82,81,78] [(17,[]),(18,[82,81,78]),(19,[])] s (.skip (.skip (.skip (.cons (.late (.late (.cons (.cons (.late (.cons (.cons (.cons (.cons (.cons (.cons (.cons (.cons (.cons (.cons (.cons .nil I I (mvq (t I))) I I (nkq (t I))) I I (fm_ (off:=5) (m:=4) (q:=5) (t I) kr_ I)) I I (fm_ (off:=3) (m:=0) (q:=8) (t I) kr_ I)) I I (lrc (K:=1000) (List Bool) (t I) I I I I)) I I (mv (t I))) I I (mvq (t I))) I I (nkq (t I))) I I (fm_ (off:=5) (m:=4) (q:=5) (t I) kr_ I)) I I (fm_ (off:=4) (m:=0) (q:=9) (t I) kr_ I)) I I (lrc (K:=1000) (List Int) (t I) I I I I)) I I (mv (t I))) I I (fm_ (off:=0) (m:=0) (q:=0) (t I) kr_ I)) I I (lf (K:=1020) (f:=Ag.value) (t I) I)) I I (fm_ (off:=1) (m:=0) (q:=1) (t I) kr_ I)) I I (lf (K:=1020) (f:=Ag.timer) (t I) I)) I I (ixq (α:=Bool) (k:=1008) (t I) I (t I) hx26.e)) I) I) I) kr_ kr_ I I (sw1 I (sw1 I (sw1 I sw0))) I (by decide) I I ?_)
   refine ⟨⟨λ_=>I,I,.inr ⟨(sw1 I (sw1 I (sw1 I sw0))),sb0,(sn2 I sn0)⟩⟩,by kernel_rfl,_,I,λΨ a w s=>stq (k:=1008) s (t I) I (Fk hx26.e) (t I) λw s=>nl ?_⟩;refine nxt Ψ s ?_;refine ⟨⟨λ_=>I,I,.inr ⟨(sw1 I (sw1 I (sw1 I sw0))),sb0,(sn2 I sn0)⟩⟩,by kernel_rfl,_,I,λΨ a w s=>sq s (ixq (α:=Int) (k:=1009) (t I) I (t I) hx27.e) I λa w s=>nl ?_⟩;refine nxt Ψ s ?_;refine ⟨⟨λ_=>I,I,.inl I⟩,by kernel_rfl,_,I,λΨ a w s=>stq (k:=1009) s (t I) I (Fk hx27.e) (t I) λw s=>nl ?_⟩;refine nxt Ψ s ?_;refine ⟨⟨λ_=>I,I,.inl I⟩,λa w s=>?_⟩;replace s:St M W 105 [(0,Qv (pb n0 0)),(2,Va false),(3,Qv nz),(4,Qv (pb b3 0)),(5,Qv y7),(6,Qv (pb b9 0)),(7,Qv z10c0),(8,Va z10.1),(9,Qv (pb b14 0)),(10,Qv (pb b25 0)),(25,Qv n2),(26,Va ((v3.length:Int))),(27,Va z10.1),(1000,Mr n0 [(.int .i64 v0),n1,n2,n3,n4,n5,n6,n7,n8,n9,(.int .i64 v1)]),(1001,At n1 (Va v2)),(1002,At n2 (Va v3)),(1003,At n3 (Va v4)),(1004,At n4 (Va v5)),(1005,Ow 3 n5 v6),(1006,Ow 4 n6 v7),(1007,Ow 4 n7 v8),(1008,Ow 4 n8 ((z10.2.1.set z10.1.toNat x24.value))),(1009,Ow 3 n9 ((z10.2.2.1.set z10.1.toNat x24.timer))),(1015,Mr b3 [y2.1,y2.2.1,y2.2.2.1,y2.2.2.2.1,y2.2.2.2.2]),(1010,Ow 3 y2.1 x1.1),(1011,Ow 4 y2.2.1 x1.2.1),(1012,Ow 4 y2.2.2.1 x1.2.2.1),(1013,Ow 4 y2.2.2.2.1 x1.2.2.2.1),(1014,Ow 3 y2.2.2.2.2 x1.2.2.2.2),(1016,Ow 4 y7 x6),(1017,Mr b9 [(fv 213 [] []),(fv 214 [] []),(fv 215 [] [])]),(1018,Ow 3 z10c0 z10.2.2.2),(1019,Mg b14 x13),(1020,Mg b25 x24)] a w:=s.pick [0,2,3,4,5,6,7,8,9,10,25,26,27,1000,1001,1002,1003,1004,1005,1006,1007,1008,1009,1015,1010,1011,1012,1013,1014,1016,1017,1018,1019,1020];refine R 2 s λa w s=>?_;obtain ⟨z28,hz28,hkz28⟩:=bs hm;refine cP1 [0,2,3,4,5,6,8,9,10,25,26,27,1000,1001,1002,1003,1004,1005,1006,1007,1008,1009,1015,1010,1011,1012,1013,1014,1016,1017,1019,1020] s (λz28c0=>[(7,Qv z28c0),(1018,Ow 3 z28c0 z28)]) ?_ λa w s=>?_
   ·refine cm s I hz28 (λhb hm=>?_) (λhb hm=>?_)
    ·obtain ⟨x29,hx29,hm⟩:=bk hm;refine rg (ru 6 s λa w s=>sq s (ad (qi (t I)) (t I)) I λa w s=>ru 1 s λa w s=>apd (α:=Int) (k:=1018) s (t I) I (t I) hx29.e I I λc30 a w s=>ru 1 s λa w s=>nl ?_);obtain rfl:=si hm;exact ⟨c30,s.fi⟩
    ·refine wpIn_skip ?_;obtain rfl:=si hm;exact ⟨z10c0,s.fi⟩
   ·obtain ⟨z28c0,s⟩:=s;replace hm:=hkz28;refine R0 2 s λa w s=>?_;exact ⟨_,hm,⟨z28c0,s.fi⟩⟩
  ·refine wpIn_exit ?_;obtain rfl:=si hm;exact ⟨z10c0,s.fi⟩
 ·obtain ⟨o11sc0,s⟩:=s;obtain ⟨x31,hx31,hm⟩:=bk hm;refine se (Az [(7,Qv o11sc0)] [0,1,2,3,4,5,6] [97,98,99,100,101,102,103] [] [] [104] [(8,[]),(9,[104])] s (.skip (.skip (.late (.cons (.cons (.cons (.cons (.cons (.cons (.cons .nil I I (lra (K:=1015) (ds:=[y2.1,y2.2.1,y2.2.2.1,y2.2.2.2.1,y2.2.2.2.2]) Ad (t I) I I I I)) I I (mvq (t I))) I I (nkq (t I))) I I (fm_ (off:=5) (m:=4) (q:=5) (t I) kr_ I)) I I (lra (K:=1000) (ds:=[n5,n6,n7,n8,n9]) Ad (t I) I I I I)) I I (tfg (k:=1009) fl1 I (tfg (k:=1008) fl1 I (tfg (k:=1007) fl1 I (tfg (k:=1006) fl1 I (tfg (k:=1005) fl1 I (tfg (k:=1014) fl1 I (tfg (k:=1013) fl1 I (tfg (k:=1012) fl1 I (tfg (k:=1011) fl1 I (tfg (k:=1010) fl1 I (cc I (oc (qad (y:=(⟨x1.1,x1.2.1,x1.2.2.1,x1.2.2.2.1,x1.2.2.2.2⟩:Ad)) (t I) (Cc (l:=([y2.1],[y2.2.1],[y2.2.2.1],[y2.2.2.2.1],[y2.2.2.2.2])) (rpz (k:=1010) I) (rpz (k:=1011) I) (rpz (k:=1012) I) (rpz (k:=1013) I) (rpz (k:=1014) I)) I) (oc (qad (y:=(⟨v6,v7,v8,o11s.2.1,o11s.2.2.1⟩:Ad)) (t I) (Cc (l:=([n5],[n6],[n7],[n8],[n9])) (rpz (k:=1005) I) (rpz (k:=1006) I) (rpz (k:=1007) I) (rpz (k:=1008) I) (rpz (k:=1009) I)) I) on)) (s111 f _ _ _ hx31.e))))))))))))) I I (nt (t I))) I I (mvq (t I))) I) I) kr_ kr_ I I (sw1 I sw0) I (by decide) I I ?_);refine ⟨⟨λ_=>I,I,.inr ⟨(sw1 I sw0),sb0,sn0⟩⟩,by kernel_rfl,_,I,λΨ a w s=>sq s (sa (t I)) I λa w s=>nl ?_⟩;refine nxt Ψ s ?_;refine ⟨⟨λ_=>I,I,.inr ⟨(sw1 I sw0),sb0,sn0⟩⟩,by kernel_rfl,_,I,λΨ a w s=>sq s (saq (t I)) I λa w s=>nl ?_⟩;refine nxt Ψ s ?_;refine ⟨⟨λ_=>I,I,.inl I⟩,λa w s=>?_⟩;replace s:St M W 105 [(0,Qv (pb n0 0)),(2,Va ((!x31))),(3,Qv o11sc0),(4,Qv (pb b3 0)),(5,Qv y7),(6,Qv (pb b9 0)),(7,Qv o11sc0),(25,Qv n2),(26,Va ((v3.length:Int))),(27,Va o11s.1),(1000,Mr n0 [(.int .i64 v0),n1,n2,n3,n4,n5,n6,n7,n8,n9,(.int .i64 v1)]),(1001,At n1 (Va v2)),(1002,At n2 (Va v3)),(1003,At n3 (Va v4)),(1004,At n4 (Va v5)),(1005,Ow 3 n5 v6),(1006,Ow 4 n6 v7),(1007,Ow 4 n7 v8),(1008,Ow 4 n8 o11s.2.1),(1009,Ow 3 n9 o11s.2.2.1),(1018,Ow 3 o11sc0 o11s.2.2.2),(1015,Mr b3 [y2.1,y2.2.1,y2.2.2.1,y2.2.2.2.1,y2.2.2.2.2]),(1010,Ow 3 y2.1 x1.1),(1011,Ow 4 y2.2.1 x1.2.1),(1012,Ow 4 y2.2.2.1 x1.2.2.1),(1013,Ow 4 y2.2.2.2.1 x1.2.2.2.1),(1014,Ow 3 y2.2.2.2.2 x1.2.2.2.2),(1016,Ow 4 y7 x6),(1017,Mr b9 [(fv 213 [] []),(fv 214 [] []),(fv 215 [] [])])] a w:=s.pick [0,2,3,4,5,6,7,25,26,27,1000,1001,1002,1003,1004,1005,1006,1007,1008,1009,1018,1015,1010,1011,1012,1013,1014,1016,1017];obtain rfl:=si hm;refine fzk (α:=Int) (k:=1018) hM s I λs=>?_;refine wpIn_ret ?_;exact rz [1000,1001,1002,1003,1004,1005,1006,1007,1008,1009] () hM hD s I (rv2 (rt I) (ro (ta (k:=1018) (t I) I))) (k4 I I I I (k4 I I I I (k2 I I kn))) I
def Ex (f:Nat) (v0:Int) (v1:Int) (v2:List ByteArray) (v3:List Ae) (v4:List Int) (v5:List Int) (v6:List Int) (v7:List Bool) (v8:List Bool):Nat->(Int×(List Bool)×(List Int)×(List Int))->Option (Lo (Int×(List Bool)×(List Int)×(List Int)) (Int×Int×(List Bool)×(List Int)×(List Int)))
 | 0,_=>none
 | n+1,z1=>(bif (decide (z1.1<=(64:Int))) then (m183 f v0 v1 v2 v3 v4 v5 v6 v7 v8 z1.2.1 z1.2.2.1).bind λx4=>(app z1.2.2.2 x4.2.1).bind λx6=>(bif (!x4.1) then (m146 f x6).bind λx8=>(m147 f x8).bind λx10=>some (.ret (z1.1,(0:Int),x4.2.2.1,x4.2.2.2,x10)) else Ex f v0 v1 v2 v3 v4 v5 v6 v7 v8 n ((wr (z1.1 + 1)),x4.2.2.1,x4.2.2.2,x6)) else some (.brk (z1.1,z1.2.1,z1.2.2.1,z1.2.2.2)))
def m167 (f:Nat) (v0:Int) (v1:Int) (v2:List ByteArray) (v3:List Ae) (v4:List Int) (v5:List Int) (v6:List Int) (v7:List Bool) (v8:List Bool) (v9:List Bool) (v10:List Int):Option (Int×Int×(List Bool)×(List Int)×(List Int)):=((Ex f v0 v1 v2 v3 v4 v5 v6 v7 v8 f ((0:Int),v9,v10,([]:List Int))).bind λo2=>match o2 with | .brk o2s=>some ((0:Int),(21:Int),o2s.2.1,o2s.2.2.1,([]:List Int)) | .ret r=>some r)
theorem s167 (f:Nat) (n0:Nat) (n1:Value) (n2:Value) (n3:Value) (n4:Value) (n5:Value) (n6:Value) (n7:Value) (n8:Value) (n9:Value) (v0:Int) (v1:Int) (v2:List ByteArray) (v3:List Ae) (v4:List Int) (v5:List Int) (v6:List Int) (v7:List Bool) (v8:List Bool) (v9:List Bool) (v10:List Int) (r:Int×Int×(List Bool)×(List Int)×(List Int)) (hm:m167 f v0 v1 v2 v3 v4 v5 v6 v7 v8 v9 v10=some r):Cg Tryz.prog 167 [Qv (pb n0 0)] [Mr n0 [(.int .i64 v0),n1,n2,n3,n4,n5,n6,n7,n8,n9,(.int .i64 v1)],At n1 (Va v2),At n2 (Va v3),At n3 (Va v4),At n4 (Va v5),Ow 3 n5 v6,Ow 4 n6 v7,Ow 4 n7 v8,Ow 4 n8 v9,Ow 3 n9 v10] (Rz (λx:Value=>T3 (Va r.1) (Qv x) (Va r.2.1)) (λx=>[Mr n0 [(.int .i64 v0),n1,n2,n3,n4,n5,n6,n7,n8,n9,(.int .i64 v1)],At n1 (Va v2),At n2 (Va v3),At n3 (Va v4),At n4 (Va v5),Ow 3 n5 v6,Ow 4 n6 v7,Ow 4 n7 v8,Ow 4 n8 r.2.2.1,Ow 3 n9 r.2.2.2.1,Ow 3 x r.2.2.2.2])):=by
 unfold m167 at hm;refine eng func167 kr_ I ntmps167 I I λM W a hM hD s=>?_;refine R 3 s λa w s=>?_;refine R 1 s λa w s=>?_;refine se (R 1 s λa w s=>?_);refine Ja (α:=Int) (d:=5) 1010 3 s I I λc3 s=>?_;refine lB1 hm [0,2,3,4,1000,1001,1002,1003,1004,1005,1006,1007] s (λz1 z1c0=>[(5,Qv z1c0),(6,Va z1.1),(1008,Ow 4 n8 z1.2.1),(1009,Ow 3 n9 z1.2.2.1),(1010,Ow 3 z1c0 z1.2.2.2)]) ⟨c3,s.fi⟩ (λ_=>I) (λo2 hko2 n z1 a w hm s=>?_) λo2s hm a w s=>?_
 ·obtain ⟨z1c0,s⟩:=s;unfold Ex at hm;refine se (R 2 s λa w s=>?_);refine cmt s hm (λhb hm=>?_) λhb hm=>?_
  ·refine se (wpIn_block ?_);obtain ⟨x4,hx4,hm⟩:=bk hm;refine se (rg (ru 1 s λa w s=>cgv [1000,1001,1002,1003,1004,1005,1006,1007,1008,1009] [1000,1001,1002,1003,1004,1005,1006,1007,1008,1009] hM s qf I (oc (t I) on) vn vn (s183 f n0 n1 n2 n3 n4 n5 n6 n7 n8 n9 _ _ _ _ _ _ _ _ _ _ _ _ hx4.e) (k4 I I I I (k4 I I I I (k2 I I kn))) I (λ_=>I) I I I λy5 a w s=>ru 5 s λa w s=>nl ?_));obtain ⟨x6,hx6,hm⟩:=bk hm;refine se (rg (ru 2 s λa w s=>apd (α:=Int) (k:=1010) s (t I) I (t I) hx6.e I I λc7 a w s=>ru 1 s λa w s=>nl ?_));refine R 2 s λa w s=>?_;refine cmf s hm (λhb hm=>?_) λhb hm=>?_
   ·obtain ⟨x8,hx8,hm⟩:=bk hm;refine se (rg (ru 1 s λa w s=>cgv [1010] [1010] hM s qf I (oc (t I) on) vn vn (s146 f c7 _ _ hx8.e) (kc I kn) I (λ_=>I) I I I λy9 a w s=>nl ?_));obtain ⟨x10,hx10,hm⟩:=bk hm;refine se (rg (ru 2 s λa w s=>cgv [1010] [1010] hM s qf I (oc (t I) on) vn vn (s147 f c7 _ _ hx10.e) (kc I kn) I (λ_=>I) I I I λy11 a w s=>ru 3 s λa w s=>nl ?_));obtain rfl:=si hm;replace hm:=hko2;dsimp only at hm;obtain rfl:=si hm;refine wpIn_ret ?_;exact rz [1000,1001,1002,1003,1004,1005,1006,1007,1008,1009,1010] y11 hM hD s I (rv3 (rt I) (rt I) (rt I)) (k4 I I I I (k4 I I I I (k2 I I (kc I kn)))) I
   ·refine R0 3 s λa w s=>?_;exact ⟨_,hm,⟨c7,s.fi⟩⟩
  ·refine wpIn_exit ?_;exact ⟨_,(si hm).symm,⟨z1c0,s.fi⟩⟩
 ·obtain ⟨o2sc0,s⟩:=s;dsimp only at hm;refine R 3 s λa w s=>?_;obtain rfl:=si hm;refine Ja (α:=Int) (d:=3) 1012 3 s I I λc12 s=>?_;refine wpIn_ret ?_;exact rz [1000,1001,1002,1003,1004,1005,1006,1007,1008,1009,1012] c12 hM hD s I (rv3 (rt I) (rt I) (rt I)) (k4 I I I I (k4 I I I I (k2 I I (kc I kn)))) I
def m144 (f:Nat) (v0:Aa) (v1:Ad):Option (Ad×Int×(List Int)):=(m166 f v0 v1).bind λx2=>match x2 with | .inl x2=>(bif (x2 != 0) then some ((⟨([]:List Int),([]:List Bool),([]:List Bool),([]:List Bool),([]:List Int)⟩:Ad),x2,([]:List Int)) else none) | .inr x2=>(bif (x2.1 != 0) then some ((⟨([]:List Int),([]:List Bool),([]:List Bool),([]:List Bool),([]:List Int)⟩:Ad),x2.1,([]:List Int)) else (m167 f x2.2.1 x2.2.2.1 x2.2.2.2.1 x2.2.2.2.2.1 x2.2.2.2.2.2.1 x2.2.2.2.2.2.2.1 x2.2.2.2.2.2.2.2.1 x2.2.2.2.2.2.2.2.2.1 x2.2.2.2.2.2.2.2.2.2.1 x2.2.2.2.2.2.2.2.2.2.2.1 x2.2.2.2.2.2.2.2.2.2.2.2).bind λx5=>(bif (x5.2.1 != 0) then some ((⟨([]:List Int),([]:List Bool),([]:List Bool),([]:List Bool),([]:List Int)⟩:Ad),x5.2.1,([]:List Int)) else some ((⟨x2.2.2.2.2.2.2.2.1,x2.2.2.2.2.2.2.2.2.1,x2.2.2.2.2.2.2.2.2.2.1,x5.2.2.1,x5.2.2.2.1⟩:Ad),(0:Int),x5.2.2.2.2)))
theorem s144 (f:Nat) (v0:Aa) (v1:Ad) (r:Ad×Int×(List Int)) (hm:m144 f v0 v1=some r):Sp Tryz.prog 144 [Va v0,Va v1] (Rz (λx:Value=>T3 (Va r.1) (Qv x) (Va r.2.1)) (λx=>[Ow 3 x r.2.2])):=by
 unfold m144 at hm;refine ens func144 kr_ I ntmps144 I I λM W a hM hD s=>?_;refine se (rg (ru 2 s λa w s=>aR 1000 s λb1 a w s=>ru 2 s λa w s=>nl ?_));obtain ⟨x2,hx2,hm⟩:=bk hm;rcases x2 with x2 | x2
 ·dsimp only at hm;refine se (rg (ru 2 s λa w s=>sq s (cc I (oc (t I) (oc (t I) on)) (smR (R:=(T2 (Qv (.pointer none)) (Va x2))) (s166 f _ _ _ hx2.e))) I λa w s=>ru 5 s λa w s=>nl ?_));refine se (R 2 s λa w s=>?_);refine cmf s hm (λhb hm=>?_) λhb hm=>?_
  ·refine se (rg (sq s (bla (L:=[(0,1),(1,1),(2,1),(3,1),(4,1)]) (z:=[nz,nz,nz,nz,nz]) (res:=[nz,nz,nz,nz,nz]) I kr_ kr_ pdn I I) I λa w s=>ru 1 s λa w s=>sra (K:=1000) (m:=[nz,nz,nz,nz,nz]) (cs':=[nz,nz,nz,nz,nz]) s (t I) I (t I) kr_ I I I λw s=>ru 2 s λa w s=>nl ?_));obtain rfl:=si hm;refine Lh (k:=1000) (x:=(⟨([]:List Int),([]:List Bool),([]:List Bool),([]:List Bool),([]:List Int)⟩:Ad)) s I (Cc (l:=([nz],[nz],[nz],[nz],[nz])) (rpn (α:=Int)) (rpn (α:=Bool)) (rpn (α:=Bool)) (rpn (α:=Bool)) (rpn (α:=Int))) λs=>?_;refine Ja (α:=Int) (d:=5) 1001 3 s I I λc3 s=>?_;refine wpIn_ret ?_;exact rz [1001] c3 hM hD s I (rv3 (rc (K:=1000) I I) (rt I) (rt I)) (kc I kn) I
  ·cases hm
 ·dsimp only at hm;refine se (rg (ru 2 s λa w s=>sqz [1001,1002,1003,1004,1005,1006,1007,1008,1009,1010] hM s (cc I (oc (t I) (oc (t I) on)) (smR (R:=(Rz (λx:Nat×Value×Value×Value×Value×Value×Value×Value×Value×Value=>T2 (Qv (pb x.1 0)) (Va x2.1)) (λx=>[Mr x.1 [(.int .i64 x2.2.1),x.2.1,x.2.2.1,x.2.2.2.1,x.2.2.2.2.1,x.2.2.2.2.2.1,x.2.2.2.2.2.2.1,x.2.2.2.2.2.2.2.1,x.2.2.2.2.2.2.2.2.1,x.2.2.2.2.2.2.2.2.2,(.int .i64 x2.2.2.1)],At x.2.1 (Va x2.2.2.2.1),At x.2.2.1 (Va x2.2.2.2.2.1),At x.2.2.2.1 (Va x2.2.2.2.2.2.1),At x.2.2.2.2.1 (Va x2.2.2.2.2.2.2.1),Ow 3 x.2.2.2.2.2.1 x2.2.2.2.2.2.2.2.1,Ow 4 x.2.2.2.2.2.2.1 x2.2.2.2.2.2.2.2.2.1,Ow 4 x.2.2.2.2.2.2.2.1 x2.2.2.2.2.2.2.2.2.2.1,Ow 4 x.2.2.2.2.2.2.2.2.1 x2.2.2.2.2.2.2.2.2.2.2.1,Ow 3 x.2.2.2.2.2.2.2.2.2 x2.2.2.2.2.2.2.2.2.2.2.2]))) (s166 f _ _ _ hx2.e))) (λ_=>I) I I λy3 a w s=>ru 5 s λa w s=>nl ?_));refine se (R 2 s λa w s=>?_);refine cmf s hm (λhb hm=>?_) λhb hm=>?_
  ·refine se (rg (sq s (bla (L:=[(0,1),(1,1),(2,1),(3,1),(4,1)]) (z:=[nz,nz,nz,nz,nz]) (res:=[nz,nz,nz,nz,nz]) I kr_ kr_ pdn I I) I λa w s=>ru 1 s λa w s=>sra (K:=1000) (m:=[nz,nz,nz,nz,nz]) (cs':=[nz,nz,nz,nz,nz]) s (t I) I (t I) kr_ I I I λw s=>ru 2 s λa w s=>nl ?_));obtain rfl:=si hm;refine Lh (k:=1000) (x:=(⟨([]:List Int),([]:List Bool),([]:List Bool),([]:List Bool),([]:List Int)⟩:Ad)) s I (Cc (l:=([nz],[nz],[nz],[nz],[nz])) (rpn (α:=Int)) (rpn (α:=Bool)) (rpn (α:=Bool)) (rpn (α:=Bool)) (rpn (α:=Int))) λs=>?_;refine Ja (α:=Int) (d:=5) 1011 3 s I I λc4 s=>?_;refine wpIn_ret ?_;exact rz [1011] c4 hM hD s I (rv3 (rc (K:=1000) I I) (rt I) (rt I)) (kc I kn) I
  ·obtain ⟨x5,hx5,hm⟩:=bk hm;refine se (rg (ru 1 s λa w s=>cgv [1001,1002,1003,1004,1005,1006,1007,1008,1009,1010] [1001,1002,1003,1004,1005,1006,1007,1008,1009,1010,1012] hM s qf I (oc (t I) on) vn vn (s167 f y3.1 y3.2.1 y3.2.2.1 y3.2.2.2.1 y3.2.2.2.2.1 y3.2.2.2.2.2.1 y3.2.2.2.2.2.2.1 y3.2.2.2.2.2.2.2.1 y3.2.2.2.2.2.2.2.2.1 y3.2.2.2.2.2.2.2.2.2 _ _ _ _ _ _ _ _ _ _ _ _ hx5.e) (k4 I I I I (k4 I I I I (k2 I I kn))) I (λ_=>I) I I I λy6 a w s=>ru 7 s λa w s=>nl ?_));refine se (R 2 s λa w s=>?_);refine cmf s hm (λhb hm=>?_) λhb hm=>?_
   ·refine se (rg (sq s (bla (L:=[(0,1),(1,1),(2,1),(3,1),(4,1)]) (z:=[nz,nz,nz,nz,nz]) (res:=[nz,nz,nz,nz,nz]) I kr_ kr_ pdn I I) I λa w s=>ru 1 s λa w s=>sra (K:=1000) (m:=[nz,nz,nz,nz,nz]) (cs':=[nz,nz,nz,nz,nz]) s (t I) I (t I) kr_ I I I λw s=>ru 2 s λa w s=>nl ?_));obtain rfl:=si hm;refine Lh (k:=1000) (x:=(⟨([]:List Int),([]:List Bool),([]:List Bool),([]:List Bool),([]:List Int)⟩:Ad)) s I (Cc (l:=([nz],[nz],[nz],[nz],[nz])) (rpn (α:=Int)) (rpn (α:=Bool)) (rpn (α:=Bool)) (rpn (α:=Bool)) (rpn (α:=Int))) λs=>?_;refine Ja (α:=Int) (d:=5) 1013 3 s I I λc7 s=>?_;refine wpIn_ret ?_;exact rz [1013] c7 hM hD s I (rv3 (rc (K:=1000) I I) (rt I) (rt I)) (kc I kn) I
   ·refine se (rg (ru 3 s λa w s=>sq s (lra (K:=1001) (ds:=[y3.2.2.2.2.2.1,y3.2.2.2.2.2.2.1,y3.2.2.2.2.2.2.2.1,y3.2.2.2.2.2.2.2.2.1,y3.2.2.2.2.2.2.2.2.2]) Ad (t I) I I I I) I λa w s=>ru 1 s λa w s=>sra (K:=1000) (m:=[y3.2.2.2.2.2.1,y3.2.2.2.2.2.2.1,y3.2.2.2.2.2.2.2.1,y3.2.2.2.2.2.2.2.2.1,y3.2.2.2.2.2.2.2.2.2]) (cs':=[y3.2.2.2.2.2.1,y3.2.2.2.2.2.2.1,y3.2.2.2.2.2.2.2.1,y3.2.2.2.2.2.2.2.2.1,y3.2.2.2.2.2.2.2.2.2]) s (t I) I (t I) kr_ I I I λw s=>ru 2 s λa w s=>nl ?_));obtain rfl:=si hm;refine fzk (α:=Int) (k:=1006) hM s I λs=>?_;refine fzk (α:=Bool) (k:=1007) hM s I λs=>?_;refine fzk (α:=Bool) (k:=1008) hM s I λs=>?_;refine fzk (α:=Bool) (k:=1009) hM s I λs=>?_;refine fzk (α:=Int) (k:=1010) hM s I λs=>?_;refine Lh (k:=1000) (x:=(⟨x2.2.2.2.2.2.2.2.1,x2.2.2.2.2.2.2.2.2.1,x2.2.2.2.2.2.2.2.2.2.1,x5.2.2.1,x5.2.2.2.1⟩:Ad)) s I (Cc (l:=([y3.2.2.2.2.2.1],[y3.2.2.2.2.2.2.1],[y3.2.2.2.2.2.2.2.1],[y3.2.2.2.2.2.2.2.2.1],[y3.2.2.2.2.2.2.2.2.2])) (rpz (k:=1006) I) (rpz (k:=1007) I) (rpz (k:=1008) I) (rpz (k:=1009) I) (rpz (k:=1010) I)) λs=>?_;refine wpIn_ret ?_;exact rz [1012] y6 hM hD s I (rv3 (rc (K:=1000) I I) (rt I) (rt I)) (kc I kn) I
def m145 (f:Nat) (v0:Aa) (v1:Ad) (v2:Int):Option (Bool):=(bif (decide (v2 < (wr ((2:Int) * v0.Actuators)))) then (idx v1.Ends (wr (v2.tdiv (2:Int)))).bind λx1=>(idx [(0:Int),(2:Int)] (v2.tmod (2:Int))).bind λx2=>some (x1 == x2) else (bif (decide ((wr (v2 - (wr ((2:Int) * v0.Actuators)))) < (v1.Inputs.length:Int))) then (idx v1.Inputs (wr (v2 - (wr ((2:Int) * v0.Actuators))))).bind λx3=>some x3 else (idx v1.Values (wr ((wr (v2 - (wr ((2:Int) * v0.Actuators)))) - (v1.Inputs.length:Int)))).bind λx4=>some x4))
theorem s145 (f:Nat) (v0:Aa) (v1:Ad) (v2:Int) (r:Bool) (hm:m145 f v0 v1 v2=some r):Sp Tryz.prog 145 [Va v0,Va v1,Va v2] (Va r):=by
 unfold m145 at hm;refine ens func145 kr_ I ntmps145 I I λM W a hM hD s=>?_;refine R 3 s λa w s=>?_;refine se (R 5 s λa w s=>?_);refine cmf s hm (λhb hm=>?_) λhb hm=>?_
 ·obtain ⟨x1,hx1,hm⟩:=bk hm;obtain ⟨x2,hx2,hm⟩:=bk hm;refine se (Lf s (m:=11) (.cons (.cons (.cons (.cons (.cons (.cons (.cons (.cons (.cons (.cons (.cons .nil I (fa (f:=Ad.Ends) (t I))) I (ld (t I))) I (mv (t I))) I (qu (t I) ci (by decide))) I (ix (t I) (t I) hx1.e)) I (ld (t I))) I (bly (e:=3) (len:=2) (z:=[(.int .i64 0),(.int .i64 0)]) (cs:=[(.int .i64 0),(.int .i64 (2:Int))]) I (cd1 (iq ci) (ocr I) (cd1 (iq ci) (ocr I) cd0)) kr_ kr_ kr_ I)) I (mv (t I))) I (rm (t I) ci (by decide))) I (aix (e:=3) (xs:=[(0:Int),(2:Int)]) (t I) (t I) kr_ kr_ kr_ I I hx2.e)) I (eq (t I) (t I))) kr_ I I λa w s=>sq s (sa (t I)) I λa w s=>nl ?_);cases hm;exact rT hD s I I
 ·refine R 6 s λa w s=>?_;refine se (R 5 s λa w s=>?_);refine cmf s hm (λhb hm=>?_) λhb hm=>?_
  ·refine se (rg (ru 3 s λa w s=>iB s hm λx3 hm a w s=>ru 2 s λa w s=>nl ?_));cases hm;exact rT hD s I I
  ·refine se (rg (ru 7 s λa w s=>iB s hm λx4 hm a w s=>ru 2 s λa w s=>nl ?_));cases hm;exact rT hD s I I
instance {f:Nat} {v0:Aa} {v1:Ad} {v2:Int}:Cn Tryz.prog 145 (m145 f v0 v1 v2) [Va v0,Va v1,Va v2] (λr:Bool=>(Va r)):=⟨s145 f v0 v1 v2⟩
def m119 (f:Nat) (v0:Ad):Option ((List Int)×(List Bool)×(List Bool)×(List Bool)×(List Int)):=(m106 f v0.Ends).bind λx2=>(m140 f v0.Valves).bind λx3=>(m140 f v0.Inputs).bind λx4=>(m140 f v0.Values).bind λx5=>(m106 f v0.Timers).bind λx6=>some (x2,x3,x4,x5,x6)
theorem s119 (f:Nat) (v0:Ad) (r:(List Int)×(List Bool)×(List Bool)×(List Bool)×(List Int)) (hm:m119 f v0=some r):Sp Tryz.prog 119 [Va v0] (Rz (λx:Value×Value×Value×Value×Value=>Qa [x.1,x.2.1,x.2.2.1,x.2.2.2.1,x.2.2.2.2]) (λx=>[Ow 3 x.1 r.1,Ow 4 x.2.1 r.2.1,Ow 4 x.2.2.1 r.2.2.1,Ow 4 x.2.2.2.1 r.2.2.2.1,Ow 3 x.2.2.2.2 r.2.2.2.2])):=by
 unfold m119 at hm;refine ens func119 kr_ I ntmps119 I I λM W a hM hD s=>?_;refine se (rg (ru 1 s λa w s=>aR 1000 s λb1 a w s=>nl ?_));obtain ⟨x2,hx2,hm⟩:=bk hm;obtain ⟨x3,hx3,hm⟩:=bk hm;obtain ⟨x4,hx4,hm⟩:=bk hm;obtain ⟨x5,hx5,hm⟩:=bk hm;obtain ⟨x6,hx6,hm⟩:=bk hm;refine se (fW 15 s kr_ I I λa w s=>opz (d:=5) [1006] s I (λ_=>I) I λy7 s=>opz (d:=8) [1007] s I (λ_=>I) I λy8 s=>opz (d:=11) [1008] s I (λ_=>I) I λy9 s=>opz (d:=14) [1009] s I (λ_=>I) I λy10 s=>opz (d:=17) [1010] s I (λ_=>I) I λy11 s=>sq s (bla (L:=[(0,1),(1,1),(2,1),(3,1),(4,1)]) (z:=[nz,nz,nz,nz,nz]) (res:=[y7,y8,y9,y10,y11]) I kr_ kr_ (pdq (t I) (oco (k:=1006) I) (pdq (t I) (oco (k:=1007) I) (pdq (t I) (oco (k:=1008) I) (pdq (t I) (oco (k:=1009) I) (pdq (t I) (oco (k:=1010) I) pdn))))) I I) I λa w s=>sra (K:=1000) (m:=[y7,y8,y9,y10,y11]) (cs':=[y7,y8,y9,y10,y11]) s (t I) I (t I) kr_ I I I λw s=>nl ?_);obtain rfl:=si hm;refine wpIn_ret ?_;exact rz [1006,1007,1008,1009,1010] (y7,y8,y9,y10,y11) hM hD s I (rv1 (rca (K:=1000) I I kr_ I kr_)) (k4 I I I I (kc I kn)) I
def Fe (f:Nat) (v0:Aa) (x2:Ad×Int×(List Int)):Nat->(Int×(List Int)×(List Int)×(List Bool))->Option (Int×(List Int)×(List Int)×(List Bool))
 | 0,_=>none
 | n+1,z9=>(bif (decide (z9.1 < v0.Actuators)) then (idx v0.Plus z9.1).bind λx11=>(m145 f v0 x2.1 x11).bind λx12=>(idx v0.Minus z9.1).bind λx13=>(m145 f v0 x2.1 x13).bind λx14=>(bif (x12 && x14) then (app z9.2.1 ([(wr ((wr ((wr ((wr ((2:Int) * v0.Actuators)) + (v0.Inputs.length:Int))) + (v0.Signals.length:Int))) + z9.1))]:List Int)).bind λx16=>some (x16,z9.2.2.2) else (bif (x12 || x14) then (idx z9.2.2.2 z9.1).bind λx19=>some (z9.2.2.2.set z9.1.toNat x12) else some z9.2.2.2).bind λz18=>some (z9.2.1,z18)).bind λz15=>(idx z9.2.2.1 z9.1).bind λx20=>(idx z15.2 z9.1).bind λx22=>(bif x22 then some ((2:Int),(1:Int)) else some ((0:Int),(3:Int))).bind λz23=>(bif ((x20 != z23.1) && (x20 != z23.2)) then (idx z9.2.2.1 z9.1).bind λx25=>some (z9.2.2.1.set z9.1.toNat z23.2) else some z9.2.2.1).bind λz24=>Fe f v0 x2 n ((wr (z9.1 + 1)),z15.1,z24,z15.2) else some (z9.1,z9.2.1,z9.2.2.1,z9.2.2.2))
def m114 (f:Nat) (v0:Aa) (v1:Ad):Option (Ad×Int×(List Int)):=(m144 f v0 v1).bind λx2=>(bif (x2.2.1 != 0) then some ((⟨([]:List Int),([]:List Bool),([]:List Bool),([]:List Bool),([]:List Int)⟩:Ad),x2.2.1,([]:List Int)) else (m119 f x2.1).bind λx6=>(Fe f v0 x2 f ((0:Int),x2.2.2,x6.1,x6.2.1)).bind λo10s=>some ((⟨o10s.2.2.1,o10s.2.2.2,x6.2.2.1,x6.2.2.2.1,x6.2.2.2.2⟩:Ad),(0:Int),o10s.2.1))
theorem s114 (f:Nat) (v0:Aa) (v1:Ad) (r:Ad×Int×(List Int)) (hm:m114 f v0 v1=some r):Sp Tryz.prog 114 [Va v0,Va v1] (Rz (λx:Value=>T3 (Va r.1) (Qv x) (Va r.2.1)) (λx=>[Ow 3 x r.2.2])):=by
 unfold m114 at hm;refine ens func114 kr_ I ntmps114 I I λM W a hM hD s=>?_;refine se (rg (ru 2 s λa w s=>aR 1000 s λb1 a w s=>ru 2 s λa w s=>nl ?_));obtain ⟨x2,hx2,hm⟩:=bk hm;refine se (rg (ru 2 s λa w s=>sqz [1001] hM s (cc I (oc (t I) (oc (t I) on)) (s144 f _ _ _ hx2.e)) (λ_=>I) I I λy3 a w s=>ru 4 s λa w s=>aR 1002 s λb4 a w s=>sW s I λw s=>ru 2 s λa w s=>nl ?_));refine se (R 2 s λa w s=>?_);refine cmf s hm (λhb hm=>?_) λhb hm=>?_
 ·refine se (rg (sq s (bla (L:=[(0,1),(1,1),(2,1),(3,1),(4,1)]) (z:=[nz,nz,nz,nz,nz]) (res:=[nz,nz,nz,nz,nz]) I kr_ kr_ pdn I I) I λa w s=>ru 1 s λa w s=>sra (K:=1000) (m:=[nz,nz,nz,nz,nz]) (cs':=[nz,nz,nz,nz,nz]) s (t I) I (t I) kr_ I I I λw s=>ru 2 s λa w s=>nl ?_));obtain rfl:=si hm;refine Lh (k:=1000) (x:=(⟨([]:List Int),([]:List Bool),([]:List Bool),([]:List Bool),([]:List Int)⟩:Ad)) s I (Cc (l:=([nz],[nz],[nz],[nz],[nz])) (rpn (α:=Int)) (rpn (α:=Bool)) (rpn (α:=Bool)) (rpn (α:=Bool)) (rpn (α:=Int))) λs=>?_;refine Ja (α:=Int) (d:=5) 1003 3 s I I λc5 s=>?_;refine wpIn_ret ?_;exact rz [1003] c5 hM hD s I (rv3 (rc (K:=1000) I I) (rt I) (rt I)) (kc I kn) I
 ·obtain ⟨x6,hx6,hm⟩:=bk hm;refine se (rg (ru 1 s λa w s=>sqz [1004,1005,1006,1007,1008] hM s (cc I (oc (t I) on) (s119 f _ _ hx6.e)) (λ_=>I) I I λy7 a w s=>aR 1009 s λb8 a w s=>sra (K:=1009) (m:=[y7.1,y7.2.1,y7.2.2.1,y7.2.2.2.1,y7.2.2.2.2]) (cs':=[y7.1,y7.2.1,y7.2.2.1,y7.2.2.2.1,y7.2.2.2.2]) s (t I) I (t I) kr_ I I I λw s=>nl ?_));refine R 12 s λa w s=>?_;refine se (R 3 s λa w s=>?_);refine lA1 hm [0,1,2,3,4,5,6,7,9,10,11,42,1000,1002,1009,1006,1007,1008] s (λz9 z9c0=>[(8,Qv z9c0),(43,Va z9.1),(1001,Ow 3 z9c0 z9.2.1),(1004,Ow 3 y7.1 z9.2.2.1),(1005,Ow 4 y7.2.1 z9.2.2.2)]) ⟨y3,s.fi⟩ (λ_=>I) (λo10s hko10 n z9 a w hm s=>?_) λo10s hm a w s=>?_
  ·obtain ⟨z9c0,s⟩:=s;unfold Fe at hm;refine R 1 s λa w s=>?_;refine se (cmt s hm (λhb hm=>?_) λhb hm=>?_)
   ·refine se (wpIn_block ?_);refine R 2 s λa w s=>?_;obtain ⟨x11,hx11,hm⟩:=bk hm;obtain ⟨x12,hx12,hm⟩:=bk hm;obtain ⟨x13,hx13,hm⟩:=bk hm;obtain ⟨x14,hx14,hm⟩:=bk hm;refine se (fW 16 s kr_ I I λa w s=>ru 2 s λa w s=>nl ?_);refine se (wpIn_block ?_);refine R 5 s λa w s=>?_;obtain ⟨z15,hz15,hkz15⟩:=bs hm;refine cP1 [0,1,2,3,4,5,6,7,9,10,11,12,13,14,42,43,1000,1002,1009,1004,1006,1007,1008] s (λz15c0=>[(8,Qv z15c0),(1001,Ow 3 z15c0 z15.1),(1005,Ow 4 y7.2.1 z15.2)]) ?_ λa w s=>?_
    ·refine cm s I hz15 (λhb hm=>?_) (λhb hm=>?_)
     ·obtain ⟨x16,hx16,hm⟩:=bk hm;refine rg (ru 5 s λa w s=>apd (α:=Int) (k:=1001) s (t I) I (t I) hx16.e I I λc17 a w s=>ru 1 s λa w s=>nl ?_);obtain rfl:=si hm;exact ⟨c17,s.fi⟩
     ·refine R 5 s λa w s=>?_;obtain ⟨z18,hz18,hkz18⟩:=bs hm;refine cP [0,1,2,3,4,5,6,7,8,9,10,11,12,13,14,42,43,1000,1002,1001,1009,1004,1006,1007,1008] s [(1005,Ow 4 y7.2.1 z18)] ?_ λa w s=>?_
      ·refine cm s I hz18 (λhb hm=>?_) (λhb hm=>?_)
       ·obtain ⟨x19,hx19,hm⟩:=bk hm;refine rg (ru 5 s λa w s=>stq (k:=1005) s (t I) I (Fk hx19.e) (t I) λw s=>nl ?_);obtain rfl:=si hm;exact s.fi
       ·refine wpIn_skip ?_;obtain rfl:=si hm;exact s.fi
      ·replace hm:=hkz18;obtain rfl:=si hm;exact ⟨z9c0,s.fi⟩
    ·obtain ⟨z15c0,s⟩:=s;replace hm:=hkz15;obtain ⟨x20,hx20,hm⟩:=bk hm;refine se (rg (ru 5 s λa w s=>sq s (bly (e:=3) (len:=2) (z:=[(.int .i64 0),(.int .i64 0)]) (cs:=[(.int .i64 0),(.int .i64 (3:Int))]) I (cd1 (iq ci) (ocr I) (cd1 (iq ci) (ocr I) cd0)) kr_ kr_ kr_ I) I λa w s=>aR 1011 s λb21 a w s=>ru 1 s λa w s=>sra (K:=1011) (m:=[(.int .i64 0),(.int .i64 (3:Int))]) (cs':=[(.int .i64 0),(.int .i64 (3:Int))]) s (t I) I (t I) kr_ I I I λw s=>nl ?_));refine se ?_;obtain ⟨x22,hx22,hm⟩:=bk hm;refine R 5 s λa w s=>?_;obtain ⟨z23,hz23,hkz23⟩:=bs hm;refine cP [0,1,2,3,4,5,6,7,8,9,10,11,12,13,14,15,16,42,43,1000,1002,1001,1009,1004,1005,1006,1007,1008] s [(1011,Mr b21 [(.int .i64 z23.1),(.int .i64 z23.2)])] ?_ λa w s=>?_
     ·refine cm s I hz23 (λhb hm=>?_) (λhb hm=>?_)
      ·refine rg (sq s (bly (e:=3) (len:=2) (z:=[(.int .i64 0),(.int .i64 0)]) (cs:=[(.int .i64 (2:Int)),(.int .i64 (1:Int))]) I (cd1 (iq ci) (ocr I) (cd1 (iq ci) (ocr I) cd0)) kr_ kr_ kr_ I) I λa w s=>sra (K:=1011) (m:=[(.int .i64 (2:Int)),(.int .i64 (1:Int))]) (cs':=[(.int .i64 (2:Int)),(.int .i64 (1:Int))]) s (t I) I (t I) kr_ I I I λw s=>nl ?_);obtain rfl:=si hm;exact s.fi
      ·refine wpIn_skip ?_;obtain rfl:=si hm;exact s.fi
     ·replace hm:=hkz23;refine se (rg (ru 1 s λa w s=>sq s (iax (e:=3) (len:=2) (j:=0) (t I) ci kr_ kr_ kr_) I λa w s=>ru 1 s λa w s=>sq s (ne (t I) (qi (t I))) I λa w s=>ru 2 s λa w s=>sg s I I (λhb=>(iax (e:=3) (len:=2) (j:=1) (t I) ci kr_ kr_ kr_)) I λa w s=>ru 1 s λa w s=>sg s I I (λhb=>(ne (tg I hb) (qi (tg I hb)))) I λa w s=>ru 1 s λa w s=>nl ?_));obtain ⟨z24,hz24,hkz24⟩:=bs hm;refine cP [0,1,2,3,4,5,6,7,8,9,10,11,12,13,14,15,16,42,43,1000,1002,1001,1009,1005,1006,1007,1008,1011] s [(1004,Ow 3 y7.1 z24)] ?_ λa w s=>?_
      ·refine cm s I hz24 (λhb hm=>?_) (λhb hm=>?_)
       ·obtain ⟨x25,hx25,hm⟩:=bk hm;refine rg (ru 3 s λa w s=>sq s (iax (e:=3) (len:=2) (j:=1) (t I) ci kr_ kr_ kr_) I λa w s=>ru 2 s λa w s=>stq (k:=1004) s (t I) I (Fk hx25.e) (qi (t I)) λw s=>nl ?_);obtain rfl:=si hm;exact s.fi
       ·refine wpIn_skip ?_;obtain rfl:=si hm;exact s.fi
      ·replace hm:=hkz24;refine R0 2 s λa w s=>?_;exact ⟨_,hm,⟨z15c0,s.fi⟩⟩
   ·refine wpIn_exit ?_;obtain rfl:=si hm;exact ⟨z9c0,s.fi⟩
  ·obtain ⟨o10sc0,s⟩:=s;refine se (rg (sq s (lra (K:=1009) (ds:=[y7.1,y7.2.1,y7.2.2.1,y7.2.2.2.1,y7.2.2.2.2]) Ad (t I) I I I I) I λa w s=>ru 1 s λa w s=>sra (K:=1000) (m:=[y7.1,y7.2.1,y7.2.2.1,y7.2.2.2.1,y7.2.2.2.2]) (cs':=[y7.1,y7.2.1,y7.2.2.1,y7.2.2.2.1,y7.2.2.2.2]) s (t I) I (t I) kr_ I I I λw s=>ru 2 s λa w s=>nl ?_));obtain rfl:=si hm;refine fzk (α:=Int) (k:=1004) hM s I λs=>?_;refine fzk (α:=Bool) (k:=1005) hM s I λs=>?_;refine fzk (α:=Bool) (k:=1006) hM s I λs=>?_;refine fzk (α:=Bool) (k:=1007) hM s I λs=>?_;refine fzk (α:=Int) (k:=1008) hM s I λs=>?_;refine Lh (k:=1000) (x:=(⟨o10s.2.2.1,o10s.2.2.2,x6.2.2.1,x6.2.2.2.1,x6.2.2.2.2⟩:Ad)) s I (Cc (l:=([y7.1],[y7.2.1],[y7.2.2.1],[y7.2.2.2.1],[y7.2.2.2.2])) (rpz (k:=1004) I) (rpz (k:=1005) I) (rpz (k:=1006) I) (rpz (k:=1007) I) (rpz (k:=1008) I)) λs=>?_;refine wpIn_ret ?_;exact rz [1001] o10sc0 hM hD s I (rv3 (rc (K:=1000) I I) (rt I) (rt I)) (kc I kn) I
def m118 (f:Nat) (v0:Aa) (v1:Ad):Option (Bool×Int):=(m113 f v0 v1).bind λx1=>(bif (x1 != 0) then some (false,x1) else (m114 f v0 v1).bind λx2=>(bif (x2.2.1 == 0) then (m111 f x2.1 v1).bind λx5=>some x5 else some false).bind λr6=>some (r6,(0:Int)))
theorem s118 (f:Nat) (v0:Aa) (v1:Ad) (r:Bool×Int) (hm:m118 f v0 v1=some r):Sp Tryz.prog 118 [Va v0,Va v1] (T2 (Va r.1) (Va r.2)):=by
 unfold m118 at hm;refine ens func118 kr_ I ntmps118 I I λM W a hM hD s=>?_;refine R 4 s λa w s=>?_;refine se (se (rg (ru 2 s λa w s=>cB s hm (s113 f _ _) λx1 hm a w s=>ru 1 s λa w s=>nl ?_)));refine R 2 s λa w s=>?_;refine cmf s hm (λhb hm=>?_) λhb hm=>?_
 ·refine R 3 s λa w s=>?_;cases hm;exact rU hD s I I
 ·obtain ⟨x2,hx2,hm⟩:=bk hm;refine se (rg (ru 2 s λa w s=>sqz [1000] hM s (cc I (oc (t I) (oc (t I) on)) (s114 f _ _ _ hx2.e)) (λ_=>I) I I λy3 a w s=>ru 4 s λa w s=>aR 1001 s λb4 a w s=>sW s I λw s=>ru 2 s λa w s=>nl ?_));obtain ⟨r6,hr6,hm⟩:=bs hm;have gr6:=gT hr6;have er6:=gF hr6;obtain ⟨x5,hx5,gr6⟩:=gk gr6;have:=pka gr6 er6;refine R 9 s λa w s=>?_;cases hm;exact rU hD s I I
def m87 (f:Nat) (v0:Aa) (v1:Ad):Option (Int):=(m118 f v0 v1).bind λx1=>(bif (x1.2 != 0) then some x1.2 else (bif (!x1.1) then some (14:Int) else some (0:Int)))
theorem s87 (f:Nat) (v0:Aa) (v1:Ad) (r:Int) (hm:m87 f v0 v1=some r):Sp Tryz.prog 87 [Va v0,Va v1] (Va r):=by
 unfold m87 at hm;refine ens func87 kr_ I ntmps87 I I λM W a hM hD s=>?_;refine R 3 s λa w s=>?_;refine se (rg (ru 2 s λa w s=>cB s hm (s118 f _ _) λx1 hm a w s=>ru 5 s λa w s=>nl ?_));refine se (wpIn_block ?_);refine R 3 s λa w s=>?_;refine cM s hm (λhb hm=>?_) λhb hm=>?_
 ·refine R 2 s λa w s=>?_;cases hm;exact rT hD s I I
 ·refine R 3 s λa w s=>?_;refine cmf s hm (λhb hm=>?_) λhb hm=>?_
  ·refine R 1 s λa w s=>?_;cases hm;exact rT hD s I I
  ·refine R 1 s λa w s=>?_;cases hm;exact rT hD s I I
def Ey {σ:Type} (gy:Af->σ->Option (Bool×σ)) (v0:Ad):Nat->(Int×σ)->Option (Lo (Int×σ) (σ))
 | 0,_=>none
 | n+1,z4=>(bif (decide (z4.1 < (v0.Timers.length:Int))) then (idx v0.Timers z4.1).bind λx6=>bif (x6 == 1) then ((gy (⟨(1:Int),z4.1,false⟩:Af) z4.2).bind λx7=>(bif (bif (x6 == 1) then (!x7.1) else false) then some (.ret x7.2) else Ey gy v0 n ((wr (z4.1 + 1)),x7.2))) else (bif false then some (.ret z4.2) else Ey gy v0 n ((wr (z4.1 + 1)),z4.2)) else some (.brk (z4.1,z4.2)))
def Ez {σ:Type} (gy:Af->σ->Option (Bool×σ)) (v0:Ad):Nat->(Int×σ)->Option (Lo (Int×σ) (σ))
 | 0,_=>none
 | n+1,z1=>(bif (decide (z1.1 < (v0.Ends.length:Int))) then (idx v0.Ends z1.1).bind λx3=>bif ((x3 == 1) || (x3 == 3)) then ((gy (⟨(0:Int),z1.1,false⟩:Af) z1.2).bind λx4=>(bif (bif ((x3 == 1) || (x3 == 3)) then (!x4.1) else false) then some (.ret x4.2) else Ez gy v0 n ((wr (z1.1 + 1)),x4.2))) else (bif false then some (.ret z1.2) else Ez gy v0 n ((wr (z1.1 + 1)),z1.2)) else some (.brk (z1.1,z1.2)))
def m149 {σ:Type} (gy:Af->σ->Option (Bool×σ)) (f:Nat) (v0:Ad) (v1:σ):Option (σ):=((Ez gy v0 f ((0:Int),v1)).bind λo2=>match o2 with | .brk o2s=>((Ey gy v0 f ((0:Int),o2s.2)).bind λo5=>match o5 with | .brk o5s=>some o5s.2 | .ret r=>some r) | .ret r=>some r)
theorem s149 {σ:Type} (E:σ->Ent) [hE:∀ s,Gh (E s)] (n0:Nat) (gy:Af->σ->Option (Bool×σ)) (ihy:∀ x s r,gy x s=some r->Cy Tryz.prog n0 [Va x] [E s] (Rz (λ_:Unit=>Va r.1) λ_=>[E r.2])) (f:Nat) (v0:Ad) (v1:σ) (r:σ) (hm:m149 gy f v0 v1=some r):Cg Tryz.prog 149 [Qv (yv n0),Pt v0] [E v1] (Rz (λx:Unit=>Dd) (λx=>[E r])):=by
 unfold m149 at hm;refine eng func149 kr_ I ntmps149 I I λM W a hM hD s=>?_;refine se (R 4 s λa w s=>?_);refine lB hm [0,1,8,9] s (λz1=>[(10,Va z1.1),(1000,E z1.2)]) s.fi (λ_=>I) (λo2 hko2 n z1 a w hm s=>?_) λo2s hm a w s=>?_
 ·unfold Ez at hm;refine R 1 s λa w s=>?_;refine se (cmt s hm (λhb hm=>?_) λhb hm=>?_)
  ·refine se (wpIn_block ?_);refine se (rg (ru 1 s λa w s=>iB s hm λx3 hm a w s=>ru 3 s λa w s=>nl ?_));rcases bfc hm with ⟨hb0,hm⟩ | ⟨hb0,hm⟩
   ·obtain ⟨x4,hx4,hm⟩:=bk hm;refine se (rg (ru 7 s λa w s=>gon s I I hb0 <| sq s (mvq (t I)) I λa w s=>gon s I I hb0 <| sq s (mv (t I)) I λa w s=>gon s I I hb0 <| sq s (Wi ci (t I)) I λa w s=>gon s I I hb0 <| cgy [1000] [1000] hM s (t I) I (oc (t I) on) (ihy _ _ _ hx4.e) (kc I kn) I (λ_=>I) I I I λy5 a w s=>gon s I I hb0 <| sq s (nt (t I)) I λa w s=>sq s (pk (t I) (t I) cb) I λa w s=>nl ?_));refine cmf s hm (λhb hm=>?_) λhb hm=>?_
    ·obtain rfl:=si hm;replace hm:=hko2;dsimp only at hm;obtain rfl:=si hm;refine wpIn_ret ?_;exact rz [1000] () hM hD s I rv0 (kc I kn) I
    ·refine R0 2 s λa w s=>?_;exact ⟨_,hm,s.fi⟩
   ·refine se (rg (ru 7 s λa w s=>Tb s I I hb0 I λa w s=>Tb s I I hb0 I λa w s=>Tb s I I hb0 I λa w s=>Tb s I I hb0 I λa w s=>Tb s I I hb0 I λa w s=>sq s (pkF (t I) hb0 cb) I λa w s=>nl ?_));refine cmf s hm (λhb hm=>?_) λhb hm=>?_
    ·obtain rfl:=si hm;replace hm:=hko2;dsimp only at hm;obtain rfl:=si hm;refine wpIn_ret ?_;exact rz [1000] () hM hD s I rv0 (kc I kn) I
    ·refine R0 2 s λa w s=>?_;exact ⟨_,hm,s.fi⟩
  ·refine wpIn_exit ?_;exact ⟨_,(si hm).symm,s.fi⟩
 ·dsimp only at hm;refine R 4 s λa w s=>?_;refine lB hm [0,1,8,9,10,30,31] s (λz4=>[(32,Va z4.1),(1000,E z4.2)]) s.fi (λ_=>I) (λo5 hko5 n z4 a w hm s=>?_) λo5s hm a w s=>?_
  ·unfold Ey at hm;refine R 1 s λa w s=>?_;refine se (cmt s hm (λhb hm=>?_) λhb hm=>?_)
   ·refine se (wpIn_block ?_);refine se (rg (ru 1 s λa w s=>iB s hm λx6 hm a w s=>ru 3 s λa w s=>nl ?_));rcases bfc hm with ⟨hb0,hm⟩ | ⟨hb0,hm⟩
    ·obtain ⟨x7,hx7,hm⟩:=bk hm;refine se (rg (ru 3 s λa w s=>gon s I I hb0 <| sq s (mvq (t I)) I λa w s=>gon s I I hb0 <| sq s (mv (t I)) I λa w s=>gon s I I hb0 <| sq s (Wi ci (t I)) I λa w s=>gon s I I hb0 <| cgy [1000] [1000] hM s (t I) I (oc (t I) on) (ihy _ _ _ hx7.e) (kc I kn) I (λ_=>I) I I I λy8 a w s=>gon s I I hb0 <| sq s (nt (t I)) I λa w s=>sq s (pk (t I) (t I) cb) I λa w s=>nl ?_));refine cmf s hm (λhb hm=>?_) λhb hm=>?_
     ·obtain rfl:=si hm;replace hm:=hko5;dsimp only at hm;obtain rfl:=si hm;refine wpIn_ret ?_;exact rz [1000] () hM hD s I rv0 (kc I kn) I
     ·refine R0 2 s λa w s=>?_;exact ⟨_,hm,s.fi⟩
    ·refine se (rg (ru 3 s λa w s=>Tb s I I hb0 I λa w s=>Tb s I I hb0 I λa w s=>Tb s I I hb0 I λa w s=>Tb s I I hb0 I λa w s=>Tb s I I hb0 I λa w s=>sq s (pkF (t I) hb0 cb) I λa w s=>nl ?_));refine cmf s hm (λhb hm=>?_) λhb hm=>?_
     ·obtain rfl:=si hm;replace hm:=hko5;dsimp only at hm;obtain rfl:=si hm;refine wpIn_ret ?_;exact rz [1000] () hM hD s I rv0 (kc I kn) I
     ·refine R0 2 s λa w s=>?_;exact ⟨_,hm,s.fi⟩
   ·refine wpIn_exit ?_;exact ⟨_,(si hm).symm,s.fi⟩
  ·dsimp only at hm;obtain rfl:=si hm;exact rze [1000] () hM hD s I rv0 (kc I kn) I
def Da :Af->((List Af))×Nat->Option (Bool×(((List Af))×Nat)):=λu5 z3=>match z3 with
 | (z3,0)=>(app z3 ([u5]:List Af)).bind λx7=>some (true,(x7,0))
 | (_,_ + 1)=>none
def m148 (f:Nat) (v0:Ad):Option ((List Af)):=(m149 Da f v0 (([]:List Af),0)).bind λo9=>(bif o9.2 == 0 then some o9.1 else none)
theorem s148 (f:Nat) (n0:Value) (v0:Ad) (r:(List Af)) (hm:m148 f v0=some r):Cg Tryz.prog 148 [Qv nz,Qv (fv 149 [] [n0])] [At n0 (Pt v0)] (Rz (λx:Value=>Qv x) (λx=>[At n0 (Pt v0),Ow 74 x r])):=by
 unfold m148 at hm;refine eng func148 kr_ I ntmps148 I I λM W a hM hD s=>?_;refine se (rg (sqr 1001 s (bxr (t I) (ocr I)) I I λb1 a w s=>ru 1 s λa w s=>nl ?_));refine se (R 1 s λa w s=>?_);refine wpIn_block (B9 (α:=Af) (k:=1001) (cs':=λc2=>[c2]) 1002 74 s I (λ_=>I) I λc2 s=>?_);obtain ⟨o9,ho9,hko9⟩:=bs hm;refine rfn (α:=Af) (X:=Value) (σ:=(List Af)) (pe:=λx=>[Va x]) (gb:=(Da)) (r:=o9) [(2,Qv (pb b1 0))] [] (λz3 n4=>[Mr b1 [n4],Ow 74 n4 z3]) ([]:List Af) c2 1005 1003 1004 [1001,1002] hM s (t I) vn (va (k:=1000) I vn) (k2 I I kn) I (λ_ _=>I) (λ_ _ h=>Bk (l:=[2]) h) (zs1 zs0) I I I (λE _ l ihy=>s149 E l Da ihy f _ _ _ ho9) (λl fn D tm htm u5 z3 r hm=>?_) (λd10 a w n11 s=>?_)
 ·rcases z3 with ⟨z3,_ | j⟩
  ·unfold Da at hm;dsimp only at hm;refine Cy.mk (KL:=1003) (KT:=1004) [1001,1002] [7] z3 htm I I I I I I (λ_=>I) λM W a n4 TB hM hD hTB s=>?_;refine rg (sqb 1006 s (al (z:=(⟨(0:Int),(0:Int),false⟩:Af))) I I λb6 a w s=>sw (K:=1006) s (t I) I (t I) I λw s=>nl ?_);refine bgn (K:=1003) s I I λRB w hRB s=>?_;refine wpIn_block ?_;obtain ⟨x7,hx7,hm⟩:=bk hm;refine rg (ru 3 s λa w s=>apd (α:=Af) (k:=1002) s (t I) I (t I) hx7.e I I λc8 a w s=>srq (K:=1001) (cs':=[c8]) s (t I) I (t I) kr_ (oco (k:=1002) I) I I λw s=>nl ?_);obtain rfl:=si hm;exact rde (KL:=1003) (KT:=1004) [1001,1002] none 0 true x7 c8 hM s I I hRB hTB (k2 I I kn) I I I I
  ·unfold Da at hm;cases hm
 ·replace hm:=hko9;rcases bfc hm with ⟨hj,hm⟩ | ⟨hj,hm⟩
  ·refine af0 hj ?_;refine R 2 s λa w s=>?_;obtain rfl:=si hm;refine wpIn_ret (lvm (KD:=1005) s I I I λa w ha s=>?_);rw [← ha];exact rz [1000,1002] n11 hM hD s I (rv1 (rt I)) (k2 I I kn) I
  ·cases hm
def m116 (f:Nat) (v0:Ad):Option ((List Af)):=(m148 f v0).bind λx1=>some x1
theorem s116 (f:Nat) (n0:Value) (v0:Ad) (r:(List Af)) (hm:m116 f v0=some r):Cg Tryz.prog 116 [Qv (fv 149 [] [n0])] [At n0 (Pt v0)] (Rz (λx:Value=>Qv x) (λx=>[At n0 (Pt v0),Ow 74 x r])):=by
 unfold m116 at hm;refine eng func116 kr_ I ntmps116 I I λM W a hM hD s=>?_;refine R 1 s λa w s=>?_;obtain ⟨x1,hx1,hm⟩:=bk hm;refine se (rg (ru 1 s λa w s=>cgv [1000] [1000,1001] hM s qf I (oc cq (oc (t I) on)) vn vn (s148 f n0 _ _ hx1.e) (kc I kn) I (λ_=>I) I I I λy2 a w s=>ru 1 s λa w s=>nl ?_));obtain rfl:=si hm;refine wpIn_ret ?_;exact rz [1000,1001] y2 hM hD s I (rv1 (rt I)) (k2 I I kn) I
def m86 (f:Nat) (v0:Aa) (v1:Ad):Option (Int×(List Af)):=(m87 f v0 v1).bind λx1=>(bif (x1 != 0) then some (x1,([]:List Af)) else (m117 f v1).bind λx3=>(m116 f x3).bind λx5=>some ((0:Int),x5))
theorem s86 (f:Nat) (v0:Aa) (v1:Ad) (r:Int×(List Af)) (hm:m86 f v0 v1=some r):Sp Tryz.prog 86 [Va v0,Va v1] (Rz (λx:Value=>T2 (Qv x) (Va r.1)) (λx=>[Ow 74 x r.2])):=by
 unfold m86 at hm;refine ens func86 kr_ I ntmps86 I I λM W a hM hD s=>?_;refine R 4 s λa w s=>?_;refine se (se (rg (ru 2 s λa w s=>cB s hm (s87 f _ _) λx1 hm a w s=>ru 1 s λa w s=>nl ?_)));refine R 2 s λa w s=>?_;refine cmf s hm (λhb hm=>?_) λhb hm=>?_
 ·refine R 3 s λa w s=>?_;obtain rfl:=si hm;refine Ja (α:=Af) (d:=4) 1000 74 s I I λc2 s=>?_;refine wpIn_ret ?_;exact rz [1000] c2 hM hD s I (rv2 (rt I) (rt I)) (kc I kn) I
 ·obtain ⟨x3,hx3,hm⟩:=bk hm;obtain ⟨x5,hx5,hm⟩:=bk hm;refine se (rg (ru 1 s λa w s=>sqz [1001] hM s (cc I (oc (t I) on) (s117 f _ _ hx3.e)) (λ_=>I) I I λy4 a w s=>cgv [1001] [1001,1002] hM s qf I (oc (t I) on) vn vn (s116 f y4 _ _ hx5.e) (kc I kn) I (λ_=>I) I I I λy6 a w s=>ru 2 s λa w s=>nl ?_));obtain rfl:=si hm;refine wpIn_ret ?_;exact rz [1002] y6 hM hD s I (rv2 (rt I) (rt I)) (kc I kn) I
def m46 (f:Nat) (v0:Aa) (v1:Ad):Option ((List Af)):=(m86 f v0 v1).bind λx1=>some x1.2
theorem s46 (f:Nat) (v0:Aa) (v1:Ad) (r:(List Af)) (hm:m46 f v0 v1=some r):Sp Tryz.prog 46 [Va v0,Va v1] (Va r):=by
 unfold m46 at hm;refine ens func46 kr_ I ntmps46 I I λM W a hM hD s=>?_;refine R 3 s λa w s=>?_;obtain ⟨x1,hx1,hm⟩:=bk hm;refine se (rg (ru 2 s λa w s=>sqz [1000] hM s (cc I (oc (t I) (oc (t I) on)) (s86 f _ _ _ hx1.e)) (λ_=>I) I I λy2 a w s=>ru 5 s λa w s=>nl ?_));refine R 2 s λa w s=>?_;obtain rfl:=si hm;refine fzk (α:=Af) (k:=1000) hM s I λs=>?_;refine wpIn_ret ?_;exact rn hD s I (rv1 (ro (ta (k:=1000) (t I) I)))
instance {f:Nat} {v0:Aa} {v1:Ad}:Cn Tryz.prog 46 (m46 f v0 v1) [Va v0,Va v1] (λr:(List Af)=>(Va r)):=⟨s46 f v0 v1⟩
def m39 (f:Nat) (v0:World_detect) (v1:Pair):Option (World_detect×Pair):=some (v0,v1)
theorem s39 (f:Nat) (v0:World_detect) (v1:Pair) (r:World_detect×Pair) (hm:m39 f v0 v1=some r):Sp Tryz.prog 39 [Va v0,Va v1] (Rz (λx:Value×Value=>Qv (fv 80 [] [x.1,x.2])) (λx=>[At x.1 (Pt r.1),At x.2 (Pt r.2)])):=by
 unfold m39 at hm;refine ens func39 kr_ I ntmps39 I I λM W a hM hD s=>?_;refine R 3 s λa w s=>?_;refine se (rg (nmk (d:=3) 1000 s I I λc1 s=>nmk (d:=2) 1001 s I I λc2 s=>sq s (mkf I I qn (qc (t I) (qc (t I) qn))) I λa w s=>ru 1 s λa w s=>nl ?_));obtain rfl:=si hm;refine wpIn_ret ?_;exact rz [1001,1000] (c2,c1) hM hD s I (rv1 (rt I)) (k2 I I kn) I
instance {f:Nat} {v0:World_detect} {v1:Pair}:Cn Tryz.prog 39 (m39 f v0 v1) [Va v0,Va v1] (λr:World_detect×Pair=>(Rz (λx:Value×Value=>Qv (fv 80 [] [x.1,x.2])) (λx=>[At x.1 (Pt r.1),At x.2 (Pt r.2)]))):=⟨s39 f v0 v1⟩
def m40 (f:Nat) (v0:List Af):Option ((List Af)):=(app ([]:List Af) v0).bind λx4=>some x4
theorem s40 (f:Nat) (v0:List Af) (r:(List Af)) (hm:m40 f v0=some r):Sp Tryz.prog 40 [Va v0] (Rz (λx:Value=>Qv x) (λx=>[Ow 74 x r])):=by
 unfold m40 at hm;refine ens func40 kr_ I ntmps40 I I λM W a hM hD s=>?_;refine R 1 s λa w s=>?_;refine se (se (rg (ru 1 s λa w s=>nmk (d:=3) 1000 s I I λc1 s=>sq s (eqn (K:=1000) (α:=Af) (e:=74) (t I) cq I kr_) I λa w s=>nl ?_)));refine cd s I (λhb=>?_) (λhb=>?_)
 ·obtain rfl:=nilv (K:=1000) s rfl hb;replace hm:some ([]:List Af)=some r:=hm;refine R 1 s λa w s=>?_;obtain rfl:=si hm;refine Ja (α:=Af) (d:=2) 1001 74 s I I λc2 s=>?_;refine wpIn_ret ?_;exact rz [1001] c2 hM hD s I (rv1 (rt I)) (kc I kn) I
 ·refine wpIn_skip ?_;obtain ⟨x4,hx4,hm⟩:=bk hm;refine se (rg (sqo 1002 s (bso (o0 (α:=Af)) I I kr_) I I λc3 a w s=>ru 1 s λa w s=>apd (α:=Af) (k:=1002) s (t I) I (t I) hx4.e I I λc5 a w s=>ru 1 s λa w s=>nl ?_));obtain rfl:=si hm;refine wpIn_ret ?_;exact rz [1002] c5 hM hD s I (rv1 (rt I)) (kc I kn) I
instance {f:Nat} {v0:List Af}:Cn Tryz.prog 40 (m40 f v0) [Va v0] (λr:(List Af)=>(Rz (λx:Value=>Qv x) (λx=>[Ow 74 x r]))):=⟨s40 f v0⟩
def m83 (f:Nat) (v0:Pair) (v1:Pair):Option (Bool):=(m111 f v0.Good v1.Good).bind λx1=>(bif x1 then (m111 f v0.Bad v1.Bad).bind λx2=>some x2 else some false).bind λr3=>some r3
theorem s83 (f:Nat) (v0:Pair) (v1:Pair) (r:Bool) (hm:m83 f v0 v1=some r):Sp Tryz.prog 83 [Va v0,Va v1] (Va r):=by
 unfold m83 at hm;refine ens func83 kr_ I ntmps83 I I λM W a hM hD s=>?_;refine R 3 s λa w s=>?_;obtain ⟨x1,hx1,hm⟩:=bk hm;obtain ⟨r3,hr3,hm⟩:=bs hm;have gr3:=gT hr3;have er3:=gF hr3;obtain ⟨x2,hx2,gr3⟩:=gk gr3;have:=pka gr3 er3;refine R 13 s λa w s=>?_;cases hm;exact rT hD s I I
def m82 (f:Nat) (v0:Pair) (v1:Pair):Option (Bool):=(m83 f v1 v0).bind λx1=>some x1
theorem s82 (f:Nat) (v0:Pair) (v1:Pair) (r:Bool) (hm:m82 f v0 v1=some r):Sp Tryz.prog 82 [Va v0,Pt v1] (Va r):=by
 unfold m82 at hm;refine ens func82 kr_ I ntmps82 I I λM W a hM hD s=>?_;refine R 2 s λa w s=>?_;refine se (rg (ru 2 s λa w s=>cB s hm (s83 f _ _) λx1 hm a w s=>ru 1 s λa w s=>nl ?_));cases hm;exact rT hD s I I
def Ux (f:Nat) (v0:List Pair) (v1:Pair):Nat->Int->Option (Lo (Int) (Int))
 | 0,_=>none
 | n+1,z1=>(bif (decide (z1 < (v0.length:Int))) then (idx v0 z1).bind λx3=>(m82 f x3 v1).bind λx4=>(bif x4 then some (.ret z1) else Ux f v0 v1 n (wr (z1 + 1))) else some (.brk z1))
def m81 (f:Nat) (v0:List Pair) (v1:Pair):Option (Int):=((Ux f v0 v1 f (0:Int)).bind λo2=>match o2 with | .brk o2s=>some (-1:Int) | .ret r=>some r)
theorem s81 (f:Nat) (n0:Value) (v0:List Pair) (v1:Pair) (r:Int) (hm:m81 f v0 v1=some r):Cg Tryz.prog 81 [Va v0,Qv (fv 82 [] [n0])] [At n0 (Pt v1)] (Rz (λx:Unit=>Va r) (λx=>[At n0 (Pt v1)])):=by
 unfold m81 at hm;refine eng func81 kr_ I ntmps81 I I λM W a hM hD s=>?_;refine R 1 s λa w s=>?_;refine se (R 3 s λa w s=>?_);refine lB hm [0,1,4,7,1000] s (λz1=>[(8,Va z1)]) s.fi (λ_=>I) (λo2 hko2 n z1 a w hm s=>?_) λo2s hm a w s=>?_
 ·unfold Ux at hm;refine R 1 s λa w s=>?_;refine se (cmt s hm (λhb hm=>?_) λhb hm=>?_)
  ·refine se (wpIn_block ?_);refine R 2 s λa w s=>?_;obtain ⟨x3,hx3,hm⟩:=bk hm;obtain ⟨x4,hx4,hm⟩:=bk hm;refine se (rg (ru 5 s λa w s=>sq s (ccv (t I) I (oc (t I) on) vn (va (k:=1000) I vn) (s82 f _ _ _ hx4.e)) I λa w s=>nl ?_));refine cmf s hm (λhb hm=>?_) λhb hm=>?_
   ·refine R 2 s λa w s=>?_;obtain rfl:=si hm;replace hm:=hko2;dsimp only at hm;obtain rfl:=si hm;refine wpIn_ret ?_;exact rz [1000] () hM hD s I (rv1 (rt I)) (kc I kn) I
   ·refine R0 2 s λa w s=>?_;exact ⟨_,hm,s.fi⟩
  ·refine wpIn_exit ?_;exact ⟨_,(si hm).symm,s.fi⟩
 ·dsimp only at hm;refine R 1 s λa w s=>?_;obtain rfl:=si hm;refine wpIn_ret ?_;exact rz [1000] () hM hD s I (rv1 (rt I)) (kc I kn) I
def m41 (f:Nat) (v0:List Pair) (v1:Pair):Option (Int):=(m81 f v0 v1).bind λx2=>some x2
theorem s41 (f:Nat) (v0:List Pair) (v1:Pair) (r:Int) (hm:m41 f v0 v1=some r):Sp Tryz.prog 41 [Va v0,Va v1] (Va r):=by
 unfold m41 at hm;refine ens func41 kr_ I ntmps41 I I λM W a hM hD s=>?_;refine R 2 s λa w s=>?_;obtain ⟨x2,hx2,hm⟩:=bk hm;refine se (rg (ru 1 s λa w s=>nmk (d:=3) 1000 s I I λc1 s=>sq s (mkf I I qn (qc (t I) qn)) I λa w s=>cgv [1000] [1000] hM s qf I (oc (t I) (oc (t I) on)) vn vn (s81 f c1 _ _ _ hx2.e) (kc I kn) I (λ_=>I) I I I λy3 a w s=>ru 1 s λa w s=>nl ?_));cases hm;exact rT hD s I I
def Db (v0:Ad):Nat->(Int×(List Bool))->Option (Int×(List Bool))
 | 0,_=>none
 | n+1,z1=>(bif (decide (z1.1 < (v0.Ends.length:Int))) then (idx v0.Ends z1.1).bind λx4=>(app z1.2 ([(x4 == 0),(x4 == 2)]:List Bool)).bind λx5=>Db v0 n ((wr (z1.1 + 1)),x5) else some (z1.1,z1.2))
def m141 (f:Nat) (v0:Ad):Option ((List Bool)):=(Db v0 f ((0:Int),([]:List Bool))).bind λo2s=>(app o2s.2 v0.Inputs).bind λx7=>(app x7 v0.Values).bind λx9=>some x9
theorem s141 (f:Nat) (v0:Ad) (r:(List Bool)) (hm:m141 f v0=some r):Sp Tryz.prog 141 [Va v0] (Rz (λx:Value=>Qv x) (λx=>[Ow 4 x r])):=by
 unfold m141 at hm;refine ens func141 kr_ I ntmps141 I I λM W a hM hD s=>?_;refine R 2 s λa w s=>?_;refine R 1 s λa w s=>?_;refine se (R 4 s λa w s=>?_);refine Ja (α:=Bool) (d:=3) 1000 4 s I I λc3 s=>?_;refine lA1 hm [0,1,2,7,8] s (λz1 z1c0=>[(3,Qv z1c0),(9,Va z1.1),(1000,Ow 4 z1c0 z1.2)]) ⟨c3,s.fi⟩ (λ_=>I) (λo2s hko2 n z1 a w hm s=>?_) λo2s hm a w s=>?_
 ·obtain ⟨z1c0,s⟩:=s;unfold Db at hm;refine R 1 s λa w s=>?_;refine se (cmt s hm (λhb hm=>?_) λhb hm=>?_)
  ·refine se (wpIn_block ?_);refine se (rg (iB s hm λx4 hm a w s=>ru 2 s λa w s=>nl ?_));obtain ⟨x5,hx5,hm⟩:=bk hm;refine rg (ru 6 s λa w s=>apd (α:=Bool) (k:=1000) s (t I) I (t I) hx5.e I I λc6 a w s=>ru 1 s λa w s=>nl ?_);refine R0 2 s λa w s=>?_;exact ⟨_,hm,⟨c6,s.fi⟩⟩
  ·refine wpIn_exit ?_;obtain rfl:=si hm;exact ⟨z1c0,s.fi⟩
 ·obtain ⟨o2sc0,s⟩:=s;obtain ⟨x7,hx7,hm⟩:=bk hm;obtain ⟨x9,hx9,hm⟩:=bk hm;refine se (Az [(1,Pt v0)] [0,1,2] [21,22,23] [] [25] [26,25] [(3,[]),(6,[26,25]),(7,[])] s (.skip (.skip (.late (.late (.skip (.cons (.cons (.cons .nil I I (mvq (t I))) I I (fa (f:=Ad.Inputs) (t I))) I I (ld (t I))) I) I I (fa (f:=Ad.Values) (t I))) I I (ld (t I))) I) I) kr_ kr_ I I (sw1 I sw0) I (by decide) I I ?_);refine ⟨⟨λ_=>I,I,.inr ⟨(sw1 I sw0),sb0,(sn2 I sn0)⟩⟩,by kernel_rfl,_,I,λΨ a w s=>apd (α:=Bool) (k:=1000) s (t I) I (t I) hx7.e I I λc8 a w s=>nl ?_⟩;refine nxt Ψ s ?_;refine ⟨⟨λ_=>I,I,.inr ⟨(sw1 I sw0),sb0,(sn2 I sn0)⟩⟩,by kernel_rfl,_,I,λΨ a w s=>apd (α:=Bool) (k:=1000) s (t I) I (t I) hx9.e I I λc10 a w s=>nl ?_⟩;refine nxt Ψ s ?_;refine ⟨⟨λ_=>I,I,.inl I⟩,by kernel_rfl,_,I,λΨ a w s=>sq s (saq (t I)) I λa w s=>nl ?_⟩;refine nxt Ψ s ?_;refine ⟨⟨λ_=>I,I,.inl I⟩,λa w s=>?_⟩;replace s:St M W 28 [(0,Va v0),(1,Pt v0),(2,Qv c10),(3,Qv o2sc0),(7,Va v0.Ends),(8,Va ((v0.Ends.length:Int))),(9,Va o2s.1),(1000,Ow 4 c10 x9)] a w:=s.pick [0,1,2,3,7,8,9,1000];obtain rfl:=si hm;refine wpIn_ret ?_;exact rz [1000] c10 hM hD s I (rv1 (rt I)) (kc I kn) I
def Ko {σ:Type} (g163:Expr->(List Bool)->Option (Bool)) (gy:Bool->σ->Option (Bool×σ)) (v0:Expr) (v1:List Bool):Nat->(Int×σ)->Option (Lo (Int×σ) (σ))
 | 0,_=>none
 | n+1,z1=>(bif (decide (z1.1 < (v0.Args.length:Int))) then (idx v0.Args z1.1).bind λx3=>(g163 x3 v1).bind λx5=>(gy x5 z1.2).bind λx6=>(bif (!x6.1) then some (.ret x6.2) else Ko g163 gy v0 v1 n ((wr (z1.1 + 1)),x6.2)) else some (.brk (z1.1,z1.2)))
def m181 {σ:Type} (gy:Bool->σ->Option (Bool×σ)) (f:Nat) (g163:Expr->(List Bool)->Option (Bool)) (v0:Expr) (v1:List Bool) (v2:σ):Option (σ):=((Ko g163 gy v0 v1 f ((0:Int),v2)).bind λo2=>match o2 with | .brk o2s=>some o2s.2 | .ret r=>some r)
theorem s181 {σ:Type} (E:σ->Ent) [hE:∀ s,Gh (E s)] (n0:Nat) (gy:Bool->σ->Option (Bool×σ)) (ihy:∀ x s r,gy x s=some r->Cy Tryz.prog n0 [Va x] [E s] (Rz (λ_:Unit=>Va r.1) λ_=>[E r.2])) (f:Nat) (g163:Expr->(List Bool)->Option (Bool)) (ih163:∀ (v0:Expr) (v1:List Bool) (r:Bool),g163 v0 v1=some r->Sp Tryz.prog 163 [Va v0,Va v1] (Va r)) (v0:Expr) (v1:List Bool) (v2:σ) (r:σ) (hm:m181 gy f g163 v0 v1 v2=some r):Cg Tryz.prog 181 [Qv (yv n0),Pt v0,Pt v1] [E v2] (Rz (λx:Unit=>Dd) (λx=>[E r])):=by
 unfold m181 at hm;refine eng func181 kr_ I ntmps181 I I λM W a hM hD s=>?_;refine R 4 s λa w s=>?_;refine lB hm [0,1,2,7,8] s (λz1=>[(9,Va z1.1),(1000,E z1.2)]) s.fi (λ_=>I) (λo2 hko2 n z1 a w hm s=>?_) λo2s hm a w s=>?_
 ·unfold Ko at hm;refine R 1 s λa w s=>?_;refine se (cmt s hm (λhb hm=>?_) λhb hm=>?_)
  ·refine se (wpIn_block ?_);refine se (rg (iB s hm λx3 hm a w s=>ru 1 s λa w s=>aR 1001 s λb4 a w s=>sW s I λw s=>nl ?_));obtain ⟨x5,hx5,hm⟩:=bk hm;obtain ⟨x6,hx6,hm⟩:=bk hm;refine se (rg (ru 3 s λa w s=>sq s (cc I (oc (t I) (oc (t I) on)) (ih163 _ _ _ hx5.e)) I λa w s=>cgy [1000] [1000] hM s (t I) I (oc (t I) on) (ihy _ _ _ hx6.e) (kc I kn) I (λ_=>I) I I I λy7 a w s=>ru 1 s λa w s=>nl ?_));refine cmf s hm (λhb hm=>?_) λhb hm=>?_
   ·obtain rfl:=si hm;replace hm:=hko2;dsimp only at hm;obtain rfl:=si hm;refine wpIn_ret ?_;exact rz [1000] () hM hD s I rv0 (kc I kn) I
   ·refine R0 2 s λa w s=>?_;exact ⟨_,hm,s.fi⟩
  ·refine wpIn_exit ?_;exact ⟨_,(si hm).symm,s.fi⟩
 ·dsimp only at hm;obtain rfl:=si hm;exact rze [1000] () hM hD s I rv0 (kc I kn) I
def Ev (g163:Expr->(List Bool)->Option (Bool)) (v0:Bool):Bool->(Unit)×Nat->Option (Bool×((Unit)×Nat)):=λu4 z2=>match z2 with
 | (z2,0)=>(bif (u4 != v0) then some (false,((),1)) else some (true,((),0)))
 | (_,_ + 1)=>none
def m211 (f:Nat) (g163:Expr->(List Bool)->Option (Bool)) (v0:Bool) (v1:Expr) (v2:List Bool):Option (Bool):=(m181 (Ev g163 v0) f g163 v1 v2 ((),0)).bind λo5=>(bif o5.2 == 0 then some true else (bif o5.2 == 1 then some false else none))
theorem s211 (f:Nat) (g163:Expr->(List Bool)->Option (Bool)) (ih163:∀ (v0:Expr) (v1:List Bool) (r:Bool),g163 v0 v1=some r->Sp Tryz.prog 163 [Va v0,Va v1] (Va r)) (n0:Value) (n1:Value) (v0:Bool) (v1:Expr) (v2:List Bool) (r:Bool) (hm:m211 f g163 v0 v1 v2=some r):Cg Tryz.prog 211 [Qv (fv 181 [] [n0,n1]),Pt v0] [At n0 (Pt v1),At n1 (Pt v2)] (Rz (λx:Unit=>Va r) (λx=>[At n0 (Pt v1),At n1 (Pt v2)])):=by
 unfold m211 at hm;refine eng func211 kr_ I ntmps211 I I λM W a hM hD s=>?_;refine se (rg (sqb 1002 s (al (z:=false)) I I λb1 a w s=>nl ?_));refine se (R 1 s λa w s=>?_);refine wpIn_block ?_;obtain ⟨o5,ho5,hko5⟩:=bs hm;refine rfn (α:=Bool) (X:=Unit) (σ:=Unit) (pe:=λx=>[Va x]) (gb:=(Ev g163 v0)) (r:=o5) [(1,Pt v0),(3,Qv (pb b1 0))] [.ret] (λz2 n3=>[Mg b1 false]) () () 1005 1003 1004 [1002] hM s (t I) vn (va (k:=1000) I (va (k:=1001) I vn)) (kc I kn) I (λ_ _=>I) (λ_ _ h=>Bk (l:=[1,3]) h) (zs1 (zs1 zs0)) I I I (λE _ l ihy=>s181 E l (Ev g163 v0) ihy f g163 ih163 _ _ _ _ ho5) (λl fn D tm htm u4 z2 r hm=>?_) (λd6 a w n7 s=>?_)
 ·rcases z2 with ⟨z2,_ | j⟩
  ·unfold Ev at hm;dsimp only at hm;refine Cy.mk (KL:=1003) (KT:=1004) [1002] [6] z2 htm I I I I I I (λ_=>I) λM W a n3 TB hM hD hTB s=>?_;refine R0 1 s λa w s=>?_;refine bgn (K:=1003) s I I λRB w hRB s=>?_;refine wpIn_block (R 3 s λa w s=>?_);refine cmf s hm (λhb hm=>?_) λhb hm=>?_
   ·refine se (rg (sw (K:=1002) s (t I) I cb I λw s=>nl ?_));obtain rfl:=si hm;refine wpIn_ret ?_;exact rde (KL:=1003) (KT:=1004) [1002] (some (.ret)) 1 false () () hM s I I hRB hTB (kc I kn) I I I I
   ·obtain rfl:=si hm;exact rde (KL:=1003) (KT:=1004) [1002] none 0 true () () hM s I I hRB hTB (kc I kn) I I I I
  ·unfold Ev at hm;cases hm
 ·replace hm:=hko5;rcases bfc hm with ⟨hj,hm⟩ | ⟨hj,hm⟩
  ·refine af0 hj ?_;refine se (rg (sw (K:=1002) s (t I) I cb I λw s=>nl ?_));obtain rfl:=si hm;refine wpIn_ret (lvm (KD:=1005) s I I I λa w ha s=>?_);rw [← ha];exact rz [1000,1001] () hM hD s I (rv1 (rc (K:=1002) I I)) (k2 I I kn) I
  ·rcases bfc hm with ⟨hj,hm⟩ | ⟨hj,hm⟩
   ·refine af1 (k:=0) hj I ?_;obtain rfl:=si hm;refine wpIn_ret (lvm (KD:=1005) s I I I λa w ha s=>?_);rw [← ha];exact rz [1000,1001] () hM hD s I (rv1 (rc (K:=1002) I I)) (k2 I I kn) I
   ·cases hm
def m200 (f:Nat) (g163:Expr->(List Bool)->Option (Bool)) (v0:Expr) (v1:List Bool):Option (Bool):=(m199 f false).bind λx1=>(m211 f g163 x1 v0 v1).bind λx3=>some (!x3)
theorem s200 (f:Nat) (g163:Expr->(List Bool)->Option (Bool)) (ih163:∀ (v0:Expr) (v1:List Bool) (r:Bool),g163 v0 v1=some r->Sp Tryz.prog 163 [Va v0,Va v1] (Va r)) (n0:Value) (n1:Value) (v0:Expr) (v1:List Bool) (r:Bool) (hm:m200 f g163 v0 v1=some r):Cg Tryz.prog 200 [Qv (fv 181 [] [n0,n1])] [At n0 (Pt v0),At n1 (Pt v1)] (Rz (λx:Unit=>Va r) (λx=>[At n0 (Pt v0),At n1 (Pt v1)])):=by
 unfold m200 at hm;refine eng func200 kr_ I ntmps200 I I λM W a hM hD s=>?_;refine R 1 s λa w s=>?_;obtain ⟨x1,hx1,hm⟩:=bk hm;obtain ⟨x3,hx3,hm⟩:=bk hm;refine se (rg (sqz [1002] hM s (cc I (oc cb on) (s199 f _ _ hx1.e)) (λ_=>I) I I λy2 a w s=>ru 1 s λa w s=>cgv [1000,1001] [1000,1001] hM s (t I) I (oc (t I) on) vn (va (k:=1002) I vn) (s211 f g163 ih163 n0 n1 _ _ _ _ hx3.e) (k2 I I kn) I (λ_=>I) I I I λy4 a w s=>ru 2 s λa w s=>nl ?_));obtain rfl:=si hm;refine wpIn_ret ?_;exact rz [1000,1001] () hM hD s I (rv1 (rt I)) (k2 I I kn) I
def m163:Nat->Expr->(List Bool)->Option (Bool)
 | 0,_,_=>none
 | f+1,v0,v1=>(bif (v0.Op == 0) then some (v0.Index == 1) else (bif (v0.Op == 1) then (idx v1 v0.Index).bind λx1=>some x1 else (m180 f).bind λx4=>(idx (List.range 5) v0.Op).bind λx6=>(bif x6 == 2 then ((m211 f (m163 f) x4.2.2.2.2.2.2.2.2.2.2.1 v0 v1).bind λx7=>some x7) else (bif x6 == 3 then ((m211 f (m163 f) x4.2.2.2.2.2.2.2.2.2.2.2 v0 v1).bind λx7=>some x7) else (bif x6 == 4 then ((m200 f (m163 f) v0 v1).bind λx7=>some x7) else none)))))
theorem s163:∀ (f:Nat) (v0:Expr) (v1:List Bool) (r:Bool),m163 f v0 v1=some r->Sp Tryz.prog 163 [Va v0,Va v1] (Va r):=by
 intro f
 induction f with
 | zero=>intro v0 v1 r hm;cases hm
 | succ f ih=>
 intro v0 v1 r hm;unfold m163 at hm;refine ens func163 kr_ I ntmps163 I I λM W a hM hD s=>?_;refine R 3 s λa w s=>?_;refine se (R 2 s λa w s=>?_);refine wpIn_block (R 2 s λa w s=>?_);refine cM s hm (λhb hm=>?_) λhb hm=>?_
 ·refine R 4 s λa w s=>?_;cases hm;exact rT hD s I I
 ·refine R 2 s λa w s=>?_;refine cmf s hm (λhb hm=>?_) λhb hm=>?_
  ·refine se (rg (ru 3 s λa w s=>iB s hm λx1 hm a w s=>ru 2 s λa w s=>nl ?_));cases hm;exact rT hD s I I
  ·obtain ⟨x4,hx4,hm⟩:=bk hm;obtain ⟨x6,hx6,hm⟩:=bk hm;rcases bfc hm with ⟨hj0,hm⟩ | ⟨_,hm⟩
   ·refine nmk (d:=3) 1004 s I I λc2 s=>?_;refine nmk (d:=2) 1007 s I I λc3 s=>?_;obtain ⟨x7,hx7,hm⟩:=bk hm;refine se (Az [(2,Qv c3),(3,Qv c2)] [0,1,2] [19,20,21] [] [] [24] [(3,[]),(4,[]),(6,[24]),(7,[])] s (.skip (.skip (.late (.skip (.skip (.cons (.cons (.cons .nil I I (cc I on (s180 f _ hx4.e))) I I (fa (f:=Expr.Op) (ta (k:=1007) (t I) I))) I I (ld (t I))) I) I) I I (mkf I I qn (qc (t I) (qc (t I) qn)))) I) I) kr_ kr_ I I (sw1 I (sw1 I sw0)) I (by decide) I I ?_);refine ⟨⟨λ_=>I,I,.inr ⟨(sw1 I (sw1 I sw0)),sb0,sn0⟩⟩,by kernel_rfl,_,I,λΨ a w s=>opz (d:=19) [1008,1009] s I (λ_=>I) I λy5 s=>sq s (aixA (e:=243) (len:=5) (sz:=3) (cols:=[[(.int .i64 x4.1),(.int .i64 x4.2.2.1),(.int .i64 x4.2.2.2.2.1),(.int .i64 x4.2.2.2.2.2.2.1),(.int .i64 x4.2.2.2.2.2.2.2.2.1)],[(.int .i64 x4.2.1),(.int .i64 x4.2.2.2.1),(.int .i64 x4.2.2.2.2.2.1),(.int .i64 x4.2.2.2.2.2.2.2.1),(.int .i64 x4.2.2.2.2.2.2.2.2.2.1)],[.nilFunc,.nilFunc,(fv 211 [] [y5.1]),(fv 211 [] [y5.2]),(fv 200 [] [])]]) (t I) (t I) kr_ kr_ kr_ I hx6.e) I λa w s=>nl ?_⟩;refine nxt Ψ s ?_;refine ⟨⟨λ_=>I,I,.inr ⟨(sw1 I (sw1 I sw0)),sb0,sn0⟩⟩,by kernel_rfl,_,I,λΨ a w s=>sq s (fldq (off:=2) (t I) kr_ I) I λa w s=>nl ?_⟩;refine nxt Ψ s ?_;refine ⟨⟨λ_=>I,I,.inr ⟨(sw1 I (sw1 I sw0)),sb0,sn0⟩⟩,by kernel_rfl,_,I,λΨ a w s=>cgv [1007,1004] [1007,1004] hM s (BM hj0 (t I) I) I (oc (t I) on) vn (va (k:=1008) I vn) (s211 f (m163 f) ih c3 c2 _ _ _ _ hx7.e) (k2 I I kn) I (λ_=>I) I I I λy8 a w s=>nl ?_⟩;refine nxt Ψ s ?_;refine ⟨⟨λ_=>I,I,.inl I⟩,by kernel_rfl,_,I,λΨ a w s=>sq s (sa (t I)) I λa w s=>nl ?_⟩;refine nxt Ψ s ?_;refine ⟨⟨λ_=>I,I,.inl I⟩,λa w s=>?_⟩;replace s:St M W 26 [(0,Va v0),(1,Va v1),(2,Qv c3),(3,Qv c2),(4,Va x7),(6,Va v0.Op),(1007,At c3 (Pt v0)),(1004,At c2 (Pt v1))] a w:=s.pick [0,1,2,3,4,6,1007,1004];cases hm;exact rT hD s I I
   ·rcases bfc hm with ⟨hj0,hm⟩ | ⟨_,hm⟩
    ·refine nmk (d:=3) 1004 s I I λc2 s=>?_;refine nmk (d:=2) 1007 s I I λc3 s=>?_;obtain ⟨x7,hx7,hm⟩:=bk hm;refine se (Az [(2,Qv c3),(3,Qv c2)] [0,1,2] [19,20,21] [] [] [24] [(3,[]),(4,[]),(6,[24]),(7,[])] s (.skip (.skip (.late (.skip (.skip (.cons (.cons (.cons .nil I I (cc I on (s180 f _ hx4.e))) I I (fa (f:=Expr.Op) (ta (k:=1007) (t I) I))) I I (ld (t I))) I) I) I I (mkf I I qn (qc (t I) (qc (t I) qn)))) I) I) kr_ kr_ I I (sw1 I (sw1 I sw0)) I (by decide) I I ?_);refine ⟨⟨λ_=>I,I,.inr ⟨(sw1 I (sw1 I sw0)),sb0,sn0⟩⟩,by kernel_rfl,_,I,λΨ a w s=>opz (d:=19) [1008,1009] s I (λ_=>I) I λy5 s=>sq s (aixA (e:=243) (len:=5) (sz:=3) (cols:=[[(.int .i64 x4.1),(.int .i64 x4.2.2.1),(.int .i64 x4.2.2.2.2.1),(.int .i64 x4.2.2.2.2.2.2.1),(.int .i64 x4.2.2.2.2.2.2.2.2.1)],[(.int .i64 x4.2.1),(.int .i64 x4.2.2.2.1),(.int .i64 x4.2.2.2.2.2.1),(.int .i64 x4.2.2.2.2.2.2.2.1),(.int .i64 x4.2.2.2.2.2.2.2.2.2.1)],[.nilFunc,.nilFunc,(fv 211 [] [y5.1]),(fv 211 [] [y5.2]),(fv 200 [] [])]]) (t I) (t I) kr_ kr_ kr_ I hx6.e) I λa w s=>nl ?_⟩;refine nxt Ψ s ?_;refine ⟨⟨λ_=>I,I,.inr ⟨(sw1 I (sw1 I sw0)),sb0,sn0⟩⟩,by kernel_rfl,_,I,λΨ a w s=>sq s (fldq (off:=2) (t I) kr_ I) I λa w s=>nl ?_⟩;refine nxt Ψ s ?_;refine ⟨⟨λ_=>I,I,.inr ⟨(sw1 I (sw1 I sw0)),sb0,sn0⟩⟩,by kernel_rfl,_,I,λΨ a w s=>cgv [1007,1004] [1007,1004] hM s (BM hj0 (t I) I) I (oc (t I) on) vn (va (k:=1009) I vn) (s211 f (m163 f) ih c3 c2 _ _ _ _ hx7.e) (k2 I I kn) I (λ_=>I) I I I λy8 a w s=>nl ?_⟩;refine nxt Ψ s ?_;refine ⟨⟨λ_=>I,I,.inl I⟩,by kernel_rfl,_,I,λΨ a w s=>sq s (sa (t I)) I λa w s=>nl ?_⟩;refine nxt Ψ s ?_;refine ⟨⟨λ_=>I,I,.inl I⟩,λa w s=>?_⟩;replace s:St M W 26 [(0,Va v0),(1,Va v1),(2,Qv c3),(3,Qv c2),(4,Va x7),(6,Va v0.Op),(1007,At c3 (Pt v0)),(1004,At c2 (Pt v1))] a w:=s.pick [0,1,2,3,4,6,1007,1004];cases hm;exact rT hD s I I
    ·rcases bfc hm with ⟨hj0,hm⟩ | ⟨_,hm⟩
     ·refine nmk (d:=3) 1004 s I I λc2 s=>?_;refine nmk (d:=2) 1007 s I I λc3 s=>?_;obtain ⟨x7,hx7,hm⟩:=bk hm;refine se (Az [(2,Qv c3),(3,Qv c2)] [0,1,2] [19,20,21] [] [] [24] [(3,[]),(4,[]),(6,[24]),(7,[])] s (.skip (.skip (.late (.skip (.skip (.cons (.cons (.cons .nil I I (cc I on (s180 f _ hx4.e))) I I (fa (f:=Expr.Op) (ta (k:=1007) (t I) I))) I I (ld (t I))) I) I) I I (mkf I I qn (qc (t I) (qc (t I) qn)))) I) I) kr_ kr_ I I (sw1 I (sw1 I sw0)) I (by decide) I I ?_);refine ⟨⟨λ_=>I,I,.inr ⟨(sw1 I (sw1 I sw0)),sb0,sn0⟩⟩,by kernel_rfl,_,I,λΨ a w s=>opz (d:=19) [1008,1009] s I (λ_=>I) I λy5 s=>sq s (aixA (e:=243) (len:=5) (sz:=3) (cols:=[[(.int .i64 x4.1),(.int .i64 x4.2.2.1),(.int .i64 x4.2.2.2.2.1),(.int .i64 x4.2.2.2.2.2.2.1),(.int .i64 x4.2.2.2.2.2.2.2.2.1)],[(.int .i64 x4.2.1),(.int .i64 x4.2.2.2.1),(.int .i64 x4.2.2.2.2.2.1),(.int .i64 x4.2.2.2.2.2.2.2.1),(.int .i64 x4.2.2.2.2.2.2.2.2.2.1)],[.nilFunc,.nilFunc,(fv 211 [] [y5.1]),(fv 211 [] [y5.2]),(fv 200 [] [])]]) (t I) (t I) kr_ kr_ kr_ I hx6.e) I λa w s=>nl ?_⟩;refine nxt Ψ s ?_;refine ⟨⟨λ_=>I,I,.inr ⟨(sw1 I (sw1 I sw0)),sb0,sn0⟩⟩,by kernel_rfl,_,I,λΨ a w s=>sq s (fldq (off:=2) (t I) kr_ I) I λa w s=>nl ?_⟩;refine nxt Ψ s ?_;refine ⟨⟨λ_=>I,I,.inr ⟨(sw1 I (sw1 I sw0)),sb0,sn0⟩⟩,by kernel_rfl,_,I,λΨ a w s=>cgv [1007,1004] [1007,1004] hM s (BM hj0 (t I) I) I (oc (t I) on) vn vn (s200 f (m163 f) ih c3 c2 _ _ _ hx7.e) (k2 I I kn) I (λ_=>I) I I I λy8 a w s=>nl ?_⟩;refine nxt Ψ s ?_;refine ⟨⟨λ_=>I,I,.inl I⟩,by kernel_rfl,_,I,λΨ a w s=>sq s (sa (t I)) I λa w s=>nl ?_⟩;refine nxt Ψ s ?_;refine ⟨⟨λ_=>I,I,.inl I⟩,λa w s=>?_⟩;replace s:St M W 26 [(0,Va v0),(1,Va v1),(2,Qv c3),(3,Qv c2),(4,Va x7),(6,Va v0.Op),(1007,At c3 (Pt v0)),(1004,At c2 (Pt v1))] a w:=s.pick [0,1,2,3,4,6,1007,1004];cases hm;exact rT hD s I I
     ·cases hm
def m142 (f:Nat) (v0:Expr) (v1:List Bool):Option (Bool×Int):=(m153 f v0 (v1.length:Int)).bind λx1=>(bif (x1 != 0) then some (false,x1) else (m163 f v0 v1).bind λx2=>some (x2,(0:Int)))
theorem s142 (f:Nat) (v0:Expr) (v1:List Bool) (r:Bool×Int) (hm:m142 f v0 v1=some r):Sp Tryz.prog 142 [Va v0,Va v1] (T2 (Va r.1) (Va r.2)):=by
 unfold m142 at hm;refine ens func142 kr_ I ntmps142 I I λM W a hM hD s=>?_;refine R 3 s λa w s=>?_;refine se (se (rg (ru 3 s λa w s=>cB s hm (s153 f _ _) λx1 hm a w s=>ru 1 s λa w s=>nl ?_)));refine R 2 s λa w s=>?_;refine cmf s hm (λhb hm=>?_) λhb hm=>?_
 ·refine R 3 s λa w s=>?_;cases hm;exact rU hD s I I
 ·refine se (rg (ru 2 s λa w s=>cB s hm (s163 f _ _) λx2 hm a w s=>ru 2 s λa w s=>nl ?_));cases hm;exact rU hD s I I
def Ff (f:Nat) (v0:Aa):Nat->(Int×(List Bool)×(List Bool))->Option (Int×(List Bool)×(List Bool))
 | 0,_=>none
 | n+1,z15=>(bif (decide (z15.1 < (v0.Signals.length:Int))) then (idx v0.Signals z15.1).bind λx17=>(bif (x17.Kind == 0) then (m142 f x17.On z15.2.2).bind λx20=>(m131 f v0).bind λx21=>(idx z15.2.1 z15.1).bind λx22=>(idx z15.2.2 (wr (x21 + z15.1))).bind λx23=>some ((z15.2.1.set z15.1.toNat x20.1),(z15.2.2.set (wr (x21 + z15.1)).toNat x20.1)) else some (z15.2.1,z15.2.2)).bind λz19=>Ff f v0 n ((wr (z15.1 + 1)),z19.1,z19.2) else some (z15.1,z15.2.1,z15.2.2))
def m112 (f:Nat) (v0:Aa) (v1:Ad):Option ((List Int)×(List Bool)×(List Bool)×(List Bool)×(List Int)):=(m106 f v1.Ends).bind λx2=>(m140 f v1.Valves).bind λx3=>(m140 f v1.Inputs).bind λx4=>(m140 f v1.Values).bind λx5=>(m106 f v1.Timers).bind λx6=>(m141 f (⟨x2,x3,x4,x5,x6⟩:Ad)).bind λx13=>(Ff f v0 f ((0:Int),x5,x13)).bind λo16s=>some (x2,x3,x4,o16s.2.1,x6)
theorem s112 (f:Nat) (v0:Aa) (v1:Ad) (r:(List Int)×(List Bool)×(List Bool)×(List Bool)×(List Int)) (hm:m112 f v0 v1=some r):Sp Tryz.prog 112 [Va v0,Va v1] (Rz (λx:Value×Value×Value×Value×Value=>Qa [x.1,x.2.1,x.2.2.1,x.2.2.2.1,x.2.2.2.2]) (λx=>[Ow 3 x.1 r.1,Ow 4 x.2.1 r.2.1,Ow 4 x.2.2.1 r.2.2.1,Ow 4 x.2.2.2.1 r.2.2.2.1,Ow 3 x.2.2.2.2 r.2.2.2.2])):=by
 unfold m112 at hm;refine ens func112 kr_ I ntmps112 I I λM W a hM hD s=>?_;refine se (rg (ru 2 s λa w s=>aR 1000 s λb1 a w s=>nl ?_));obtain ⟨x2,hx2,hm⟩:=bk hm;obtain ⟨x3,hx3,hm⟩:=bk hm;obtain ⟨x4,hx4,hm⟩:=bk hm;obtain ⟨x5,hx5,hm⟩:=bk hm;obtain ⟨x6,hx6,hm⟩:=bk hm;refine se (Az [] [0,1,2,3,4,5,6,7,8,9,10,11,12,13,14] [11,12,13,14,15,16,17,18,19,20,21,22,23,24,25] [] [] [5] [(15,[]),(17,[5])] s (.skip (.late (.skip (.cons (.cons (.cons (.cons (.cons (.cons (.cons (.cons (.cons (.cons (.cons (.cons (.cons (.cons (.cons .nil I I (fa (f:=Ad.Ends) (t I))) I I (ld (t I))) I I (cc I (oc (t I) on) (s106 f _ _ hx2.e))) I I (fa (f:=Ad.Valves) (t I))) I I (ld (t I))) I I (cc I (oc (t I) on) (s140 f _ _ hx3.e))) I I (fa (f:=Ad.Inputs) (t I))) I I (ld (t I))) I I (cc I (oc (t I) on) (s140 f _ _ hx4.e))) I I (fa (f:=Ad.Values) (t I))) I I (ld (t I))) I I (cc I (oc (t I) on) (s140 f _ _ hx5.e))) I I (fa (f:=Ad.Timers) (t I))) I I (ld (t I))) I I (cc I (oc (t I) on) (s106 f _ _ hx6.e))) I) I I (alr (cs:=[nz,nz,nz,nz,nz]) (z:=.agg #[nz,nz,nz,nz,nz]) kr_ I I)) I) kr_ kr_ I I sw0 I (by decide) I I ?_);refine ⟨⟨λ_=>I,I,.inr ⟨sw0,sb0,sn0⟩⟩,by kernel_rfl,_,I,λΨ a w s=>opz (d:=13) [1006] s I (λ_=>I) I λy8 s=>opz (d:=16) [1007] s I (λ_=>I) I λy9 s=>opz (d:=19) [1008] s I (λ_=>I) I λy10 s=>opz (d:=22) [1009] s I (λ_=>I) I λy11 s=>opz (d:=25) [1010] s I (λ_=>I) I λy12 s=>sq s (bla (L:=[(0,1),(1,1),(2,1),(3,1),(4,1)]) (z:=[nz,nz,nz,nz,nz]) (res:=[y8,y9,y10,y11,y12]) I kr_ kr_ (pdq (t I) (oco (k:=1006) I) (pdq (t I) (oco (k:=1007) I) (pdq (t I) (oco (k:=1008) I) (pdq (t I) (oco (k:=1009) I) (pdq (t I) (oco (k:=1010) I) pdn))))) I I) I λa w s=>nl ?_⟩;refine nxt Ψ s ?_;refine ⟨⟨λ_=>I,I,.inr ⟨sw0,sb0,sn0⟩⟩,by kernel_rfl,_,I,λΨ a w s=>opr (d:=5) 1011 s I I λb7 s=>sra (K:=1011) (m:=[y8,y9,y10,y11,y12]) (cs':=[y8,y9,y10,y11,y12]) s (t I) I (t I) kr_ I I I λw s=>nl ?_⟩;refine nxt Ψ s ?_;refine ⟨⟨λ_=>I,I,.inl I⟩,λa w s=>?_⟩;replace s:St M W 61 [(0,Va v0),(1,Va v1),(2,Pt v0),(3,Pt v1),(4,Qv (pb b1 0)),(5,Qv (pb b7 0)),(1000,Mr b1 [nz,nz,nz,nz,nz]),(1011,Mr b7 [y8,y9,y10,y11,y12]),(1006,Ow 3 y8 x2),(1007,Ow 4 y9 x3),(1008,Ow 4 y10 x4),(1009,Ow 4 y11 x5),(1010,Ow 3 y12 x6)] a w:=s.pick [0,1,2,3,4,5,1000,1011,1006,1007,1008,1009,1010];obtain ⟨x13,hx13,hm⟩:=bk hm;refine se (rg (sq s (lra (K:=1011) (ds:=[y8,y9,y10,y11,y12]) Ad (t I) I I I I) I λa w s=>sqz [1012] hM s (tfg (k:=1010) (flz (λ_=>flq) (λ_=>(flc flo fln))) I (tfg (k:=1009) (flz (λ_=>flq) (λ_=>(flc flo fln))) I (tfg (k:=1008) (flz (λ_=>flq) (λ_=>(flc flo fln))) I (tfg (k:=1007) (flz (λ_=>flq) (λ_=>(flc flo fln))) I (tfg (k:=1006) (flz (λ_=>flq) (λ_=>(flc flo fln))) I (cc I (oc (qad (y:=(⟨x2,x3,x4,x5,x6⟩:Ad)) (t I) (Cc (l:=([y8],[y9],[y10],[y11],[y12])) (rpz (k:=1006) I) (rpz (k:=1007) I) (rpz (k:=1008) I) (rpz (k:=1009) I) (rpz (k:=1010) I)) I) on) (s141 f _ _ hx13.e))))))) (λ_=>I) I I λy14 a w s=>ru 1 s λa w s=>nl ?_))
 refine se (R 4 s λa w s=>?_);refine lA hm [0,1,2,3,4,5,6,30,31,1000,1011,1006,1007,1008,1010] s (λz15=>[(32,Va z15.1),(1009,Ow 4 y11 z15.2.1),(1012,Ow 4 y14 z15.2.2)]) s.fi (λ_=>I) (λo16s hko16 n z15 a w hm s=>?_) λo16s hm a w s=>?_
 ·unfold Ff at hm;refine R 1 s λa w s=>?_;refine se (cmt s hm (λhb hm=>?_) λhb hm=>?_)
  ·refine se (wpIn_block ?_);refine se (rg (ru 1 s λa w s=>iB s hm λx17 hm a w s=>ru 1 s λa w s=>aR 1013 s λb18 a w s=>ru 1 s λa w s=>sW s I λw s=>nl ?_));refine R 3 s λa w s=>?_;obtain ⟨z19,hz19,hkz19⟩:=bs hm;refine cP [0,1,2,3,4,5,6,7,8,30,31,32,1000,1011,1006,1007,1008,1010,1013] s [(1009,Ow 4 y11 z19.1),(1012,Ow 4 y14 z19.2)] ?_ λa w s=>?_
   ·refine cm s I hz19 (λhb hm=>?_) (λhb hm=>?_)
    ·obtain ⟨x20,hx20,hm⟩:=bk hm;refine se (rg (ru 3 s λa w s=>sq s (tfg (k:=1012) (fl2 fl1 fl1) I (cc I (oc (t I) (oc (ta (k:=1012) (t I) I) on)) (s142 f _ _ _ hx20.e))) I λa w s=>ru 5 s λa w s=>nl ?_));obtain ⟨x21,hx21,hm⟩:=bk hm;obtain ⟨x22,hx22,hm⟩:=bk hm;obtain ⟨x23,hx23,hm⟩:=bk hm;refine Az [(6,Qv y14),(7,Va z15.1),(9,Va x20.1)] [0,1,2,4,5,8,10] [47,48,49,51,52,55,57] [52] [53] [56,54,53,50] [(11,[]),(12,[56,54,53,50]),(13,[])] s (.skip (.skip (.skip (.cons (.late (.cons (.late (.late (.cons (.cons (.late (.cons (.cons (.cons .nil I I (fm_ (off:=3) (m:=0) (q:=3) (t I) kr_ I)) I I (lrc (K:=1011) (List Bool) (t I) I I I I)) I I (mv (t I))) I I (mvq (t I))) I I (ld (t I))) I I (cc I (oc (t I) on) (s131 f _ _ hx21.e))) I I (mv (t I))) I I (ad (t I) (t I))) I I (mv (t I))) I I (mv (t I))) I I (ixq (α:=Bool) (k:=1009) (t I) I (t I) hx22.e)) I) I) I) kr_ kr_ I I (sw1 I (sw1 I (sw1 I sw0))) I (by decide) I I ?_;refine ⟨⟨λ_=>I,I,.inr ⟨(sw1 I (sw1 I (sw1 I sw0))),(sb1 I sb0),(sn2 I sn0)⟩⟩,by kernel_rfl,_,I,λΨ a w s=>stq (k:=1009) s (t I) I (Fk hx22.e) (t I) λw s=>nl ?_⟩;refine nxt Ψ s ?_;refine ⟨⟨λ_=>I,I,.inr ⟨(sw1 I (sw1 I (sw1 I sw0))),(sb1 I sb0),(sn2 I sn0)⟩⟩,by kernel_rfl,_,I,λΨ a w s=>sq s (ixq (α:=Bool) (k:=1012) (t I) I (t I) hx23.e) I λa w s=>nl ?_⟩;refine nxt Ψ s ?_;refine ⟨⟨λ_=>I,I,.inl I⟩,by kernel_rfl,_,I,λΨ a w s=>stq (k:=1012) s (t I) I (Fk hx23.e) (t I) λw s=>nl ?_⟩;refine nxt Ψ s ?_;refine ⟨⟨λ_=>I,I,.inl I⟩,λa w s=>?_⟩;replace s:St M W 61 [(0,Va v0),(1,Va v1),(2,Pt v0),(3,Pt v1),(4,Qv (pb b1 0)),(5,Qv (pb b7 0)),(6,Qv y14),(7,Va z15.1),(8,Qv (pb b18 0)),(9,Va x20.1),(30,Va v0.Signals),(31,Va ((v0.Signals.length:Int))),(32,Va z15.1),(1000,Mr b1 [nz,nz,nz,nz,nz]),(1011,Mr b7 [y8,y9,y10,y11,y12]),(1006,Ow 3 y8 x2),(1007,Ow 4 y9 x3),(1008,Ow 4 y10 x4),(1009,Ow 4 y11 ((z15.2.1.set z15.1.toNat x20.1))),(1010,Ow 3 y12 x6),(1012,Ow 4 y14 ((z15.2.2.set (wr (x21 + z15.1)).toNat x20.1))),(1013,Mg b18 x17)] a w:=s.pick [0,1,2,3,4,5,6,7,8,9,30,31,32,1000,1011,1006,1007,1008,1009,1010,1012,1013];obtain rfl:=si hm;exact s.fi
    ·refine wpIn_skip ?_;obtain rfl:=si hm;exact s.fi
   ·replace hm:=hkz19;refine R0 2 s λa w s=>?_;exact ⟨_,hm,s.fi⟩
  ·refine wpIn_exit ?_;obtain rfl:=si hm;exact s.fi
 ·refine se (rg (sq s (lra (K:=1011) (ds:=[y8,y9,y10,y11,y12]) Ad (t I) I I I I) I λa w s=>sra (K:=1000) (m:=[y8,y9,y10,y11,y12]) (cs':=[y8,y9,y10,y11,y12]) s (t I) I (t I) kr_ I I I λw s=>nl ?_));obtain rfl:=si hm;refine wpIn_ret ?_;exact rz [1006,1007,1008,1009,1010] (y8,y9,y10,y11,y12) hM hD s I (rv1 (rca (K:=1000) I I kr_ I kr_)) (k4 I I I I (kc I kn)) I
def Jz (v0:Aa):Nat->(Int×(List Bool))->Option (Int×(List Bool))
 | 0,_=>none
 | n+1,z14=>(bif (decide (z14.1 < (v0.Signals.length:Int))) then (idx v0.Signals z14.1).bind λx16=>(idx z14.2 z14.1).bind λx18=>Jz v0 n ((wr (z14.1 + 1)),(z14.2.set z14.1.toNat x16.Init)) else some (z14.1,z14.2))
def m84 (f:Nat) (v0:Aa):Option (Ad×Int):=(m52 f v0).bind λx2=>(bif (x2 != 0) then some ((⟨([]:List Int),([]:List Bool),([]:List Bool),([]:List Bool),([]:List Int)⟩:Ad),x2) else (mks (0:Int) v0.Actuators).bind λx3=>(mks false v0.Actuators).bind λx5=>(mks false (v0.Inputs.length:Int)).bind λx7=>(mks false (v0.Signals.length:Int)).bind λx9=>(mks (0:Int) (v0.Signals.length:Int)).bind λx11=>(Jz v0 f ((0:Int),x9)).bind λo15s=>(m112 f v0 (⟨x3,x5,x7,o15s.2,x11⟩:Ad)).bind λx19=>some ((⟨x19.1,x19.2.1,x19.2.2.1,x19.2.2.2.1,x19.2.2.2.2⟩:Ad),(0:Int)))
theorem s84 (f:Nat) (v0:Aa) (r:Ad×Int) (hm:m84 f v0=some r):Sp Tryz.prog 84 [Va v0] (T2 (Va r.1) (Va r.2)):=by
 unfold m84 at hm;refine ens func84 kr_ I ntmps84 I I λM W a hM hD s=>?_;refine se (rg (ru 1 s λa w s=>aR 1000 s λb1 a w s=>ru 1 s λa w s=>nl ?_));refine se (se (rg (ru 1 s λa w s=>cB s hm (s52 f _) λx2 hm a w s=>ru 1 s λa w s=>nl ?_)));refine R 2 s λa w s=>?_;refine cmf s hm (λhb hm=>?_) λhb hm=>?_
 ·refine se (rg (sq s (bla (L:=[(0,1),(1,1),(2,1),(3,1),(4,1)]) (z:=[nz,nz,nz,nz,nz]) (res:=[nz,nz,nz,nz,nz]) I kr_ kr_ pdn I I) I λa w s=>ru 1 s λa w s=>sra (K:=1000) (m:=[nz,nz,nz,nz,nz]) (cs':=[nz,nz,nz,nz,nz]) s (t I) I (t I) kr_ I I I λw s=>ru 1 s λa w s=>nl ?_));obtain rfl:=si hm;refine Lh (k:=1000) (x:=(⟨([]:List Int),([]:List Bool),([]:List Bool),([]:List Bool),([]:List Int)⟩:Ad)) s I (Cc (l:=([nz],[nz],[nz],[nz],[nz])) (rpn (α:=Int)) (rpn (α:=Bool)) (rpn (α:=Bool)) (rpn (α:=Bool)) (rpn (α:=Int))) λs=>?_;refine wpIn_ret ?_;exact rn hD s I (rv2 (rc (K:=1000) I I) (rt I))
 ·refine R 4 s λa w s=>?_;obtain ⟨x3,hx3,hm⟩:=bk hm;obtain ⟨x5,hx5,hm⟩:=bk hm;obtain ⟨x7,hx7,hm⟩:=bk hm;obtain ⟨x9,hx9,hm⟩:=bk hm;obtain ⟨x11,hx11,hm⟩:=bk hm;refine se (Az [] [0,1,2,3,4,5,6,7,8,9,10,11,12,13] [18,19,20,21,22,23,24,25,26,27,28,29,30,31] [] [] [6] [(14,[]),(16,[6])] s (.skip (.late (.skip (.cons (.cons (.cons (.cons (.cons (.cons (.cons (.cons (.cons (.cons (.cons (.cons (.cons (.cons .nil I I (fa (f:=Aa.Actuators) (t I))) I I (ld (t I))) I I (mkS (t I) (t I) hx3.e)) I I (fa (f:=Aa.Actuators) (t I))) I I (ld (t I))) I I (mkS (t I) (t I) hx5.e)) I I (fa (f:=Aa.Inputs) (t I))) I I (ld (t I))) I I (ln (t I))) I I (mkS (t I) (t I) hx7.e)) I I (mv (t I))) I I (mkS (t I) (t I) hx9.e)) I I (mv (t I))) I I (mkS (t I) (t I) hx11.e)) I) I I (alr (cs:=[nz,nz,nz,nz,nz]) (z:=.agg #[nz,nz,nz,nz,nz]) kr_ I I)) I) kr_ kr_ I I sw0 I (by decide) I I ?_);refine ⟨⟨λ_=>I,I,.inr ⟨sw0,sb0,sn0⟩⟩,by kernel_rfl,_,I,λΨ a w s=>opo (d:=20) 1006 s I I λc4 s=>opo (d:=23) 1007 s I I λc6 s=>opo (d:=27) 1008 s I I λc8 s=>opo (d:=29) 1009 s I I λc10 s=>opo (d:=31) 1010 s I I λc12 s=>sq s (bla (L:=[(0,1),(1,1),(2,1),(3,1),(4,1)]) (z:=[nz,nz,nz,nz,nz]) (res:=[c4,c6,c8,c10,c12]) I kr_ kr_ (pdq (t I) (oco (k:=1006) I) (pdq (t I) (oco (k:=1007) I) (pdq (t I) (oco (k:=1008) I) (pdq (t I) (oco (k:=1009) I) (pdq (t I) (oco (k:=1010) I) pdn))))) I I) I λa w s=>nl ?_⟩;refine nxt Ψ s ?_;refine ⟨⟨λ_=>I,I,.inr ⟨sw0,sb0,sn0⟩⟩,by kernel_rfl,_,I,λΨ a w s=>opr (d:=6) 1011 s I I λb13 s=>sra (K:=1011) (m:=[c4,c6,c8,c10,c12]) (cs':=[c4,c6,c8,c10,c12]) s (t I) I (t I) kr_ I I I λw s=>nl ?_⟩;refine nxt Ψ s ?_;refine ⟨⟨λ_=>I,I,.inl I⟩,λa w s=>?_⟩;replace s:St M W 51 [(0,Va v0),(1,Pt v0),(2,Qv (pb b1 0)),(3,Va ((0:Int))),(4,Va x2),(5,Va ((v0.Signals.length:Int))),(6,Qv (pb b13 0)),(1000,Mr b1 [nz,nz,nz,nz,nz]),(1011,Mr b13 [c4,c6,c8,c10,c12]),(1006,Ow 3 c4 x3),(1007,Ow 4 c6 x5),(1008,Ow 4 c8 x7),(1009,Ow 4 c10 x9),(1010,Ow 3 c12 x11)] a w:=s.pick [0,1,2,3,4,5,6,1000,1011,1006,1007,1008,1009,1010];refine se (R 4 s λa w s=>?_);refine lA hm [0,1,2,3,4,5,6,34,35,1000,1011,1006,1007,1008,1010] s (λz14=>[(36,Va z14.1),(1009,Ow 4 c10 z14.2)]) s.fi (λ_=>I) (λo15s hko15 n z14 a w hm s=>?_) λo15s hm a w s=>?_
  ·unfold Jz at hm;refine R 1 s λa w s=>?_;refine se (cmt s hm (λhb hm=>?_) λhb hm=>?_)
   ·refine se (wpIn_block ?_);refine se (rg (ru 1 s λa w s=>iB s hm λx16 hm a w s=>ru 1 s λa w s=>aR 1012 s λb17 a w s=>ru 1 s λa w s=>sW s I λw s=>nl ?_));obtain ⟨x18,hx18,hm⟩:=bk hm;refine rg (ru 6 s λa w s=>stq (k:=1009) s (t I) I (Fk hx18.e) (t I) λw s=>nl ?_);refine R0 2 s λa w s=>?_;exact ⟨_,hm,s.fi⟩
   ·refine wpIn_exit ?_;obtain rfl:=si hm;exact s.fi
  ·obtain ⟨x19,hx19,hm⟩:=bk hm;refine se (rg (ru 1 s λa w s=>sq s (lra (K:=1011) (ds:=[c4,c6,c8,c10,c12]) Ad (t I) I I I I) I λa w s=>sqz [1013,1014,1015,1016,1017] hM s (tfg (k:=1010) (flz (λ_=>fla) (λ_=>(flc flo (flc flo (flc flo (flc flo (flc flo fln))))))) I (tfg (k:=1009) (flz (λ_=>fla) (λ_=>(flc flo (flc flo (flc flo (flc flo (flc flo fln))))))) I (tfg (k:=1008) (flz (λ_=>fla) (λ_=>(flc flo (flc flo (flc flo (flc flo (flc flo fln))))))) I (tfg (k:=1007) (flz (λ_=>fla) (λ_=>(flc flo (flc flo (flc flo (flc flo (flc flo fln))))))) I (tfg (k:=1006) (flz (λ_=>fla) (λ_=>(flc flo (flc flo (flc flo (flc flo (flc flo fln))))))) I (cc I (oc (t I) (oc (qad (y:=(⟨x3,x5,x7,o15s.2,x11⟩:Ad)) (t I) (Cc (l:=([c4],[c6],[c8],[c10],[c12])) (rpz (k:=1006) I) (rpz (k:=1007) I) (rpz (k:=1008) I) (rpz (k:=1009) I) (rpz (k:=1010) I)) I) on)) (s112 f _ _ _ hx19.e))))))) (λ_=>I) I I λy20 a w s=>sra (K:=1000) (m:=[y20.1,y20.2.1,y20.2.2.1,y20.2.2.2.1,y20.2.2.2.2]) (cs':=[y20.1,y20.2.1,y20.2.2.1,y20.2.2.2.1,y20.2.2.2.2]) s (t I) I (t I) kr_ I I I λw s=>ru 1 s λa w s=>nl ?_));obtain rfl:=si hm;refine fzk (α:=Int) (k:=1013) hM s I λs=>?_;refine fzk (α:=Bool) (k:=1014) hM s I λs=>?_;refine fzk (α:=Bool) (k:=1015) hM s I λs=>?_;refine fzk (α:=Bool) (k:=1016) hM s I λs=>?_;refine fzk (α:=Int) (k:=1017) hM s I λs=>?_;refine Lh (k:=1000) (x:=(⟨x19.1,x19.2.1,x19.2.2.1,x19.2.2.2.1,x19.2.2.2.2⟩:Ad)) s I (Cc (l:=([y20.1],[y20.2.1],[y20.2.2.1],[y20.2.2.2.1],[y20.2.2.2.2])) (rpz (k:=1013) I) (rpz (k:=1014) I) (rpz (k:=1015) I) (rpz (k:=1016) I) (rpz (k:=1017) I)) λs=>?_;refine wpIn_ret ?_;exact rn hD s I (rv2 (rc (K:=1000) I I) (rt I))
def m115 (f:Nat) (v0:List Int) (v1:List Int):Option ((List Int)):=(m129 f ([v0,v1]:List (List Int))).bind λx1=>(m146 f x1).bind λx3=>(m147 f x3).bind λx5=>some x5
theorem s115 (f:Nat) (v0:List Int) (v1:List Int) (r:(List Int)) (hm:m115 f v0 v1=some r):Sp Tryz.prog 115 [Va v0,Va v1] (Rz (λx:Value=>Qv x) (λx=>[Ow 3 x r])):=by
 unfold m115 at hm;refine ens func115 kr_ I ntmps115 I I λM W a hM hD s=>?_;refine R 1 s λa w s=>?_;obtain ⟨x1,hx1,hm⟩:=bk hm;refine se (rg (ru 3 s λa w s=>sqz [1000] hM s (cc I (oc (t I) on) (s129 f _ _ hx1.e)) (λ_=>I) I I λy2 a w s=>ru 1 s λa w s=>nl ?_));obtain ⟨x3,hx3,hm⟩:=bk hm;refine se (rg (ru 1 s λa w s=>cgv [1000] [1000] hM s qf I (oc (t I) on) vn vn (s146 f y2 _ _ hx3.e) (kc I kn) I (λ_=>I) I I I λy4 a w s=>nl ?_));obtain ⟨x5,hx5,hm⟩:=bk hm;refine se (rg (ru 1 s λa w s=>cgv [1000] [1000] hM s qf I (oc (t I) on) vn vn (s147 f y2 _ _ hx5.e) (kc I kn) I (λ_=>I) I I I λy6 a w s=>ru 1 s λa w s=>nl ?_));obtain rfl:=si hm;refine wpIn_ret ?_;exact rz [1000] y6 hM hD s I (rv1 (rt I)) (kc I kn) I
def Di (f:Nat) (v0:Aa):Nat->(Int×Ad×(List Int))->Option (Lo (Int×Ad×(List Int)) (Ad×Int×(List Int)))
 | 0,_=>none
 | n+1,z5=>(bif (decide (z5.1 < 65)) then (m114 f v0 z5.2.1).bind λx8=>(bif (x8.2.1 != 0) then some (.ret ((⟨([]:List Int),([]:List Bool),([]:List Bool),([]:List Bool),([]:List Int)⟩:Ad),x8.2.1,([]:List Int))) else (m115 f z5.2.2 x8.2.2).bind λx12=>(m111 f x8.1 z5.2.1).bind λx14=>(bif x14 then some (.ret (x8.1,(0:Int),x12)) else Di f v0 n ((wr (z5.1 + 1)),x8.1,x12))) else some (.brk (z5.1,z5.2.1,z5.2.2)))
def m85 (f:Nat) (v0:Aa) (v1:Ad):Option (Ad×Int×(List Int)):=(m113 f v0 v1).bind λx3=>(bif (x3 != 0) then some ((⟨([]:List Int),([]:List Bool),([]:List Bool),([]:List Bool),([]:List Int)⟩:Ad),x3,([]:List Int)) else ((Di f v0 f ((0:Int),v1,([]:List Int))).bind λo6=>match o6 with | .brk o6s=>some ((⟨([]:List Int),([]:List Bool),([]:List Bool),([]:List Bool),([]:List Int)⟩:Ad),(21:Int),([]:List Int)) | .ret r=>some r))
theorem s85 (f:Nat) (v0:Aa) (v1:Ad) (r:Ad×Int×(List Int)) (hm:m85 f v0 v1=some r):Sp Tryz.prog 85 [Va v0,Va v1] (Rz (λx:Value=>T3 (Va r.1) (Qv x) (Va r.2.1)) (λx=>[Ow 3 x r.2.2])):=by
 unfold m85 at hm;refine ens func85 kr_ I ntmps85 I I λM W a hM hD s=>?_;refine se (rg (sq s (bx (t I)) I λa w s=>sqb 1000 s (bxm (t I)) I I λb1 a w s=>sqr 1001 s (alr (cs:=[nz,nz,nz,nz,nz]) (z:=.agg #[nz,nz,nz,nz,nz]) kr_ I I) I I λb2 a w s=>sq s (saq cq) I λa w s=>sq s (sa ci) I λa w s=>nl ?_));refine se ?_;obtain ⟨x3,hx3,hm⟩:=bs hm;refine se (rg (sq s (ld (t I)) I λa w s=>sq s (lm (K:=1000) (t I) I) I λa w s=>sq s (cc I (oc (t I) (oc (t I) on)) (s113 f _ _ _ hx3)) I λa w s=>sq s (sa (t I)) I λa w s=>nl ?_));refine se (rg (sq s (mv (t I)) I λa w s=>sq s (ne (t I) ci) I λa w s=>nl ?_));refine cm s I hm (λhb hm=>?_) (λhb hm=>?_)
 ·refine se (rg (sq s (bla (L:=[(0,1),(1,1),(2,1),(3,1),(4,1)]) (z:=[nz,nz,nz,nz,nz]) (res:=[nz,nz,nz,nz,nz]) I kr_ kr_ pdn I I) I λa w s=>sq s (mv (t I)) I λa w s=>sra (K:=1001) (m:=[nz,nz,nz,nz,nz]) (cs':=[nz,nz,nz,nz,nz]) s (t I) I (t I) kr_ I I I λw s=>sq s (saq cq) I λa w s=>sq s (sa (t I)) I λa w s=>nl ?_));obtain rfl:=si hm;refine Lh (k:=1001) (x:=(⟨([]:List Int),([]:List Bool),([]:List Bool),([]:List Bool),([]:List Int)⟩:Ad)) s I (Cc (l:=([nz],[nz],[nz],[nz],[nz])) (rpn (α:=Int)) (rpn (α:=Bool)) (rpn (α:=Bool)) (rpn (α:=Bool)) (rpn (α:=Int))) λs=>?_;refine Ja (α:=Int) (d:=5) 1002 3 s I I λc4 s=>?_;refine wpIn_ret ?_;exact rz [1002] c4 hM hD s I (rv3 (rc (K:=1001) I I) (rt I) (rt I)) (kc I kn) I
 ·refine wpIn_skip (se (rg (sq s (saq cq) I λa w s=>nl ?_)));refine se (se (rg (sq s (mv ci) I λa w s=>nl ?_)));refine Ja (α:=Int) (d:=8) 1003 3 s I I λc7 s=>?_;obtain ⟨o6,hoo6,hko6⟩:=bs hm;refine lcI o6 (λo6s a w=>∃ (o6sc0:Value),St M W 43 [(0,Va v0),(1,Va v1),(2,Pt v0),(3,Qv (pb b1 0)),(4,Qv (pb b2 0)),(5,Qv nz),(6,Va ((0:Int))),(7,Va x3),(8,Qv o6sc0),(19,Va o6s.1),(1000,Mg b1 o6s.2.1),(1001,Mr b2 [nz,nz,nz,nz,nz]),(1003,Ow 3 o6sc0 o6s.2.2)] a w) ?_ λo6s a w ho s=>?_
  ·refine wpIn_block (loI (λn z5=>Di f v0 n z5) o6 (λz5 a w=>∃ (z5c0:Value),St M W 43 [(0,Va v0),(1,Va v1),(2,Pt v0),(3,Qv (pb b1 0)),(4,Qv (pb b2 0)),(5,Qv nz),(6,Va ((0:Int))),(7,Va x3),(8,Qv z5c0),(19,Va z5.1),(1000,Mg b1 z5.2.1),(1001,Mr b2 [nz,nz,nz,nz,nz]),(1003,Ow 3 z5c0 z5.2.2)] a w) f ((0:Int),v1,([]:List Int)) ⟨c7,s.pick [0,1,2,3,4,5,6,7,8,19,1000,1001,1003]⟩ hoo6 (λ_=>I) λn z5 a w hm s=>?_);obtain ⟨z5c0,s⟩:=s;replace hm:Di f v0 (n + 1) z5=some o6:=hm;unfold Di at hm;refine se (rg (sq s (lt (t I) ci) I λa w s=>nl ?_));refine se (cm s I hm (λhb hm=>?_) (λhb hm=>?_))
   ·refine wpIn_skip (se ?_);refine wpIn_block ?_;obtain ⟨x8,hx8,hm⟩:=bs hm;refine se (rg (sq s (ld (t I)) I λa w s=>sq s (lm (K:=1000) (t I) I) I λa w s=>sqz [1004] hM s (cc I (oc (t I) (oc (t I) on)) (s114 f _ _ _ hx8)) (λ_=>I) I I λy9 a w s=>sq s (mve (t I)) I λa w s=>sq s (Pn.x30 (t I)) I λa w s=>sq s (Pn.x31 (t I)) I λa w s=>sq s (Pn.x32 (t I)) I λa w s=>sqr 1005 s (alr (cs:=[nz,nz,nz,nz,nz]) (z:=.agg #[nz,nz,nz,nz,nz]) kr_ I I) I I λb10 a w s=>swd (K:=1005) s (t I) I (t I) I λw s=>sq s (saq (t I)) I λa w s=>sq s (sa (t I)) I λa w s=>nl ?_));refine se (se (rg (sq s (mv (t I)) I λa w s=>sq s (ne (t I) ci) I λa w s=>nl ?_)));refine cm s I hm (λhb hm=>?_) (λhb hm=>?_)
    ·refine se (rg (sq s (bla (L:=[(0,1),(1,1),(2,1),(3,1),(4,1)]) (z:=[nz,nz,nz,nz,nz]) (res:=[nz,nz,nz,nz,nz]) I kr_ kr_ pdn I I) I λa w s=>sq s (mv (t I)) I λa w s=>sra (K:=1001) (m:=[nz,nz,nz,nz,nz]) (cs':=[nz,nz,nz,nz,nz]) s (t I) I (t I) kr_ I I I λw s=>sq s (saq cq) I λa w s=>sq s (sa (t I)) I λa w s=>nl ?_));obtain rfl:=si hm;replace hm:=hko6;dsimp only at hm;obtain rfl:=si hm;refine Lh (k:=1001) (x:=(⟨([]:List Int),([]:List Bool),([]:List Bool),([]:List Bool),([]:List Int)⟩:Ad)) s I (Cc (l:=([nz],[nz],[nz],[nz],[nz])) (rpn (α:=Int)) (rpn (α:=Bool)) (rpn (α:=Bool)) (rpn (α:=Bool)) (rpn (α:=Int))) λs=>?_;refine Ja (α:=Int) (d:=5) 1006 3 s I I λc11 s=>?_;refine wpIn_ret ?_;exact rz [1006] c11 hM hD s I (rv3 (rc (K:=1001) I I) (rt I) (rt I)) (kc I kn) I
    ·refine wpIn_skip ?_;obtain ⟨x12,hx12,hm⟩:=bs hm;refine se (rg (sq s (mvq (t I)) I λa w s=>sq s (mvq (t I)) I λa w s=>sqz [1007] hM s (tfg (k:=1004) (flz (λ_=>flq) (λ_=>(flc flo fln))) I (tfg (k:=1003) (flz (λ_=>flq) (λ_=>(flc flo fln))) I (cc I (oc (ta (k:=1003) (t I) I) (oc (ta (k:=1004) (t I) I) on)) (s115 f _ _ _ hx12)))) (λ_=>I) I I λy13 a w s=>sq s (saq (t I)) I λa w s=>nl ?_));refine se ?_;obtain ⟨x14,hx14,hm⟩:=bs hm;refine se (rg (sq s (lm (K:=1005) (t I) I) I λa w s=>sq s (lm (K:=1000) (t I) I) I λa w s=>sq s (cc I (oc (t I) (oc (t I) on)) (s111 f _ _ _ hx14)) I λa w s=>nl ?_));refine cm s I hm (λhb hm=>?_) (λhb hm=>?_)
     ·refine se (rg (sq s (lm (K:=1005) (t I) I) I λa w s=>sq s (mvq (t I)) I λa w s=>swd (K:=1001) s (t I) I (t I) I λw s=>sq s (saq (t I)) I λa w s=>sq s (sa ci) I λa w s=>nl ?_));obtain rfl:=si hm;replace hm:=hko6;dsimp only at hm;obtain rfl:=si hm;refine wpIn_ret ?_;exact rz [1007] y13 hM hD s I (rv3 (rc (K:=1001) I I) (rt I) (rt I)) (kc I kn) I
     ·refine wpIn_skip (rg (sq s (lm (K:=1005) (t I) I) I λa w s=>sw (K:=1000) s (t I) I (t I) I λw s=>nl ?_));refine rg (sq s (ad (t I) ci) I λa w s=>sq s (mv (t I)) I λa w s=>nl ?_);exact ⟨_,hm,⟨y13,s.rekey (l:=[(0,0),(1,1),(2,2),(3,3),(4,4),(5,5),(6,6),(7,7),(8,8),(19,19),(1000,1000),(1001,1001),(1007,1003)]) (.same I (.same I (.same I (.same I (.same I (.same I (.same I (.same I (.same I (.same I (.same I (.same I (.key (t:=1007) (u:=1003) I .nil))))))))))))) I I⟩⟩
   ·refine wpIn_exit ?_;exact ⟨_,(si hm).symm,⟨z5c0,s.pick [0,1,2,3,4,5,6,7,8,19,1000,1001,1003]⟩⟩
  ·obtain ⟨o6sc0,s⟩:=s;subst ho;replace hm:=hko6;dsimp only at hm;refine se (rg (sq s (bla (L:=[(0,1),(1,1),(2,1),(3,1),(4,1)]) (z:=[nz,nz,nz,nz,nz]) (res:=[nz,nz,nz,nz,nz]) I kr_ kr_ pdn I I) I λa w s=>sra (K:=1001) (m:=[nz,nz,nz,nz,nz]) (cs':=[nz,nz,nz,nz,nz]) s (t I) I (t I) kr_ I I I λw s=>sq s (saq cq) I λa w s=>sq s (sa ci) I λa w s=>nl ?_));obtain rfl:=si hm;refine Lh (k:=1001) (x:=(⟨([]:List Int),([]:List Bool),([]:List Bool),([]:List Bool),([]:List Int)⟩:Ad)) s I (Cc (l:=([nz],[nz],[nz],[nz],[nz])) (rpn (α:=Int)) (rpn (α:=Bool)) (rpn (α:=Bool)) (rpn (α:=Bool)) (rpn (α:=Int))) λs=>?_;refine Ja (α:=Int) (d:=5) 1008 3 s I I λc15 s=>?_;refine wpIn_ret ?_;exact rz [1008] c15 hM hD s I (rv3 (rc (K:=1001) I I) (rt I) (rt I)) (kc I kn) I
def m42 (f:Nat) (v0:Aa):Option (Ad×Int×(List Int)):=(m84 f v0).bind λx2=>(bif (x2.2 != 0) then some ((⟨([]:List Int),([]:List Bool),([]:List Bool),([]:List Bool),([]:List Int)⟩:Ad),x2.2,([]:List Int)) else (m85 f v0 x2.1).bind λx5=>some (x5.1,x5.2.1,x5.2.2))
theorem s42 (f:Nat) (v0:Aa) (r:Ad×Int×(List Int)) (hm:m42 f v0=some r):Sp Tryz.prog 42 [Va v0] (Rz (λx:Value=>T3 (Va r.1) (Qv x) (Va r.2.1)) (λx=>[Ow 3 x r.2.2])):=by
 unfold m42 at hm;refine ens func42 kr_ I ntmps42 I I λM W a hM hD s=>?_;refine se (rg (ru 1 s λa w s=>aR 1000 s λb1 a w s=>ru 2 s λa w s=>nl ?_));refine se (rg (ru 1 s λa w s=>cB s hm (s84 f _) λx2 hm a w s=>ru 3 s λa w s=>aR 1001 s λb3 a w s=>sW s I λw s=>ru 1 s λa w s=>nl ?_));refine se (R 2 s λa w s=>?_);refine cmf s hm (λhb hm=>?_) λhb hm=>?_
 ·refine se (rg (sq s (bla (L:=[(0,1),(1,1),(2,1),(3,1),(4,1)]) (z:=[nz,nz,nz,nz,nz]) (res:=[nz,nz,nz,nz,nz]) I kr_ kr_ pdn I I) I λa w s=>ru 1 s λa w s=>sra (K:=1000) (m:=[nz,nz,nz,nz,nz]) (cs':=[nz,nz,nz,nz,nz]) s (t I) I (t I) kr_ I I I λw s=>ru 2 s λa w s=>nl ?_));obtain rfl:=si hm;refine Lh (k:=1000) (x:=(⟨([]:List Int),([]:List Bool),([]:List Bool),([]:List Bool),([]:List Int)⟩:Ad)) s I (Cc (l:=([nz],[nz],[nz],[nz],[nz])) (rpn (α:=Int)) (rpn (α:=Bool)) (rpn (α:=Bool)) (rpn (α:=Bool)) (rpn (α:=Int))) λs=>?_;refine Ja (α:=Int) (d:=3) 1002 3 s I I λc4 s=>?_;refine wpIn_ret ?_;exact rz [1002] c4 hM hD s I (rv3 (rc (K:=1000) I I) (rt I) (rt I)) (kc I kn) I
 ·obtain ⟨x5,hx5,hm⟩:=bk hm;refine se (rg (ru 2 s λa w s=>sqz [1003] hM s (cc I (oc (t I) (oc (t I) on)) (s85 f _ _ _ hx5.e)) (λ_=>I) I I λy6 a w s=>ru 3 s λa w s=>sW s I λw s=>ru 2 s λa w s=>nl ?_));obtain rfl:=si hm;refine wpIn_ret ?_;exact rz [1003] y6 hM hD s I (rv3 (rc (K:=1000) I I) (rt I) (rt I)) (kc I kn) I
def m20 (f:Nat) (v0:World_detect):Option (Pair×Bool×Int):=(m42 f v0.good).bind λx2=>(bif (x2.2.1 != 0) then some ((⟨(⟨([]:List Int),([]:List Bool),([]:List Bool),([]:List Bool),([]:List Int)⟩:Ad),(⟨([]:List Int),([]:List Bool),([]:List Bool),([]:List Bool),([]:List Int)⟩:Ad)⟩:Pair),false,x2.2.1) else (m42 f v0.bad).bind λx5=>some ((⟨x2.1,x5.1⟩:Pair),(x5.2.1 == 0),(0:Int)))
theorem s20 (f:Nat) (v0:World_detect) (r:Pair×Bool×Int) (hm:m20 f v0=some r):Sp Tryz.prog 20 [Va v0] (T3 (Va r.1) (Va r.2.1) (Va r.2.2)):=by
 unfold m20 at hm;refine ens func20 kr_ I ntmps20 I I λM W a hM hD s=>?_;refine se (rg (ru 1 s λa w s=>aR 1000 s λb1 a w s=>ru 2 s λa w s=>nl ?_));obtain ⟨x2,hx2,hm⟩:=bk hm;refine se (rg (ru 2 s λa w s=>sqz [1001] hM s (cc I (oc (t I) on) (s42 f _ _ hx2.e)) (λ_=>I) I I λy3 a w s=>ru 4 s λa w s=>aR 1002 s λb4 a w s=>sW s I λw s=>ru 2 s λa w s=>nl ?_));refine se (R 2 s λa w s=>?_);refine cmf s hm (λhb hm=>?_) λhb hm=>?_
 ·refine se (rg (sq s (bl69_ ) I λa w s=>ru 1 s λa w s=>sW s I λw s=>ru 2 s λa w s=>nl ?_));cases hm;exact rV hD s I I
 ·obtain ⟨x5,hx5,hm⟩:=bk hm;refine se (rg (ru 2 s λa w s=>sqz [1003] hM s (cc I (oc (t I) on) (s42 f _ _ hx5.e)) (λ_=>I) I I λy6 a w s=>ru 4 s λa w s=>aR 1004 s λb7 a w s=>sW s I λw s=>ru 2 s λa w s=>nl ?_));refine se (rg (ru 2 s λa w s=>sq s (Wj (t I) (t I)) I λa w s=>ru 2 s λa w s=>sW s I λw s=>ru 2 s λa w s=>nl ?_));cases hm;exact rV hD s I I
def Vg (v0:List Af) (v1:List Af):Nat->Int->Option (Lo (Int) (Bool))
 | 0,_=>none
 | n+1,z1=>(bif (decide (z1 < (v0.length:Int))) then (idx v0 z1).bind λx3=>(idx v1 z1).bind λx4=>(bif (!Tz x3 x4) then some (.ret false) else Vg v0 v1 n (wr (z1 + 1))) else some (.brk z1))
def m45 (f:Nat) (v0:List Af) (v1:List Af):Option (Bool):=(bif ((v0.length:Int) != (v1.length:Int)) then some false else ((Vg v0 v1 f (0:Int)).bind λo2=>match o2 with | .brk o2s=>some true | .ret r=>some r))
theorem s45 (f:Nat) (v0:List Af) (v1:List Af) (r:Bool) (hm:m45 f v0 v1=some r):Sp Tryz.prog 45 [Va v0,Va v1] (Va r):=by
 unfold m45 at hm;refine ens func45 kr_ I ntmps45 I I λM W a hM hD s=>?_;refine R 1 s λa w s=>?_;refine se (R 5 s λa w s=>?_);refine cmf s hm (λhb hm=>?_) λhb hm=>?_
 ·refine R 1 s λa w s=>?_;cases hm;exact rT hD s I I
 ·refine se (R 3 s λa w s=>?_);refine lB hm [0,1,4,12] s (λz1=>[(13,Va z1)]) s.fi (λ_=>I) (λo2 hko2 n z1 a w hm s=>?_) λo2s hm a w s=>?_
  ·unfold Vg at hm;refine R 1 s λa w s=>?_;refine se (cmt s hm (λhb hm=>?_) λhb hm=>?_)
   ·refine se (wpIn_block ?_);refine R 2 s λa w s=>?_;obtain ⟨x3,hx3,hm⟩:=bk hm;obtain ⟨x4,hx4,hm⟩:=bk hm;refine se (Lf s (m:=9) (.cons (.cons (.cons (.cons (.cons (.cons (.cons (.cons (.cons .nil I (mv (t I))) I (mv (t I))) I (ix (t I) (t I) hx3.e)) I (ld (t I))) I (mv (t I))) I (mv (t I))) I (ix (t I) (t I) hx4.e)) I (ld (t I))) I (sneq (t I) (t I))) kr_ I I λa w s=>nl ?_);refine cmf s hm (λhb hm=>?_) λhb hm=>?_
    ·refine R 1 s λa w s=>?_;obtain rfl:=si hm;replace hm:=hko2;dsimp only at hm;cases hm;exact rT hD s I I
    ·refine R0 2 s λa w s=>?_;exact ⟨_,hm,s.fi⟩
   ·refine wpIn_exit ?_;exact ⟨_,(si hm).symm,s.fi⟩
  ·dsimp only at hm;refine R 1 s λa w s=>?_;cases hm;exact rT hD s I I
instance {f:Nat} {v0:List Af} {v1:List Af}:Cn Tryz.prog 45 (m45 f v0 v1) [Va v0,Va v1] (λr:Bool=>(Va r)):=⟨s45 f v0 v1⟩
def m21 (f:Nat) (v0:World_detect) (v1:Pair):Option (Bool):=(m43 f v1.Good.Ends v1.Bad.Ends).bind λx1=>(bif (!x1) then some true else (m44 f v1.Good.Inputs v1.Bad.Inputs).bind λx2=>some (!x2)).bind λr3=>(bif r3 then some true else (m46 f v0.good v1.Good).bind λx4=>(m46 f v0.bad v1.Bad).bind λx5=>(m45 f x4 x5).bind λx6=>some (!x6)).bind λr7=>some r7
theorem s21 (f:Nat) (v0:World_detect) (v1:Pair) (r:Bool) (hm:m21 f v0 v1=some r):Sp Tryz.prog 21 [Va v0,Va v1] (Va r):=by
 unfold m21 at hm;refine ens func21 kr_ I ntmps21 I I λM W a hM hD s=>?_;refine R 3 s λa w s=>?_;obtain ⟨x1,hx1,hm⟩:=bk hm;obtain ⟨r3,hr3,hm⟩:=bs hm;have gr3:=gF hr3;have er3:=gT hr3;obtain ⟨x2,hx2,gr3⟩:=gk gr3;obtain ⟨r7,hr7,hm⟩:=bs hm;have gr7:=gF hr7;have er7:=gT hr7;obtain ⟨x4,hx4,gr7⟩:=gk gr7;obtain ⟨x5,hx5,gr7⟩:=gk gr7;obtain ⟨x6,hx6,gr7⟩:=gk gr7;have:=pko gr3 er3;have:=pko gr7 er7;refine se (fW 32 s kr_ I I λa w s=>ru 1 s λa w s=>nl ?_);cases hm;exact rT hD s I I
instance {f:Nat} {v0:World_detect} {v1:Pair}:Cn Tryz.prog 21 (m21 f v0 v1) [Va v0,Va v1] (λr:Bool=>(Va r)):=⟨s21 f v0 v1⟩
def m120 (f:Nat) (v0:Af) (v1:List Int) (v2:List Bool) (v3:List Bool) (v4:List Bool) (v5:List Int):Option (Bool×(List Int)×(List Bool)×(List Bool)×(List Bool)×(List Int)):=(bif ((decide (v0.Index < 0)) || (decide (v0.Index>=(v1.length:Int)))) then some (false,v1,v2,v3,v4,v5) else (idx v1 v0.Index).bind λx1=>(bif (x1 == 1) then some (true,(v1.set v0.Index.toNat (2:Int)),v2,v3,v4,v5) else (bif (x1 == 3) then some (true,(v1.set v0.Index.toNat (0:Int)),v2,v3,v4,v5) else some (false,v1,v2,v3,v4,v5))))
theorem s120 (f:Nat) (n0:Nat) (n1:Value) (n2:Value) (n3:Value) (n4:Value) (n5:Value) (v0:Af) (v1:List Int) (v2:List Bool) (v3:List Bool) (v4:List Bool) (v5:List Int) (r:Bool×(List Int)×(List Bool)×(List Bool)×(List Bool)×(List Int)) (hm:m120 f v0 v1 v2 v3 v4 v5=some r):Cg Tryz.prog 120 [Qv (pb n0 0),Va v0] [Mr n0 [n1,n2,n3,n4,n5],Ow 3 n1 v1,Ow 4 n2 v2,Ow 4 n3 v3,Ow 4 n4 v4,Ow 3 n5 v5] (Rz (λx:Unit=>Va r.1) (λx=>[Mr n0 [n1,n2,n3,n4,n5],Ow 3 n1 r.2.1,Ow 4 n2 r.2.2.1,Ow 4 n3 r.2.2.2.1,Ow 4 n4 r.2.2.2.2.1,Ow 3 n5 r.2.2.2.2.2])):=by
 unfold m120 at hm;refine eng func120 kr_ I ntmps120 I I λM W a hM hD s=>?_;refine R 2 s λa w s=>?_;refine se (se (fW 14 s kr_ I I λa w s=>nl ?_));refine cmf s hm (λhb hm=>?_) λhb hm=>?_
 ·refine R 1 s λa w s=>?_;obtain rfl:=si hm;refine wpIn_ret ?_;exact rz [1000,1001,1002,1003,1004,1005] () hM hD s I (rv1 (rt I)) (k4 I I I I (k2 I I kn)) I
 ·refine se ?_;obtain ⟨x1,hx1,hm⟩:=bk hm;refine se (fW 8 s kr_ I I λa w s=>sq s (sae (t I)) I λa w s=>nl ?_);refine se (rg (ru 1 s λa w s=>sq s (nke (t I)) I λa w s=>ru 1 s λa w s=>nl ?_));refine wpIn_block (R 2 s λa w s=>?_);refine cM s hm (λhb hm=>?_) λhb hm=>?_
  ·refine rg (ru 1 s λa w s=>sq s (nke (t I)) I λa w s=>stq (k:=1001) s (t I) I (Fk hx1.e) ci λw s=>nl ?_);refine R 1 s λa w s=>?_;obtain rfl:=si hm;refine wpIn_ret ?_;exact rz [1000,1001,1002,1003,1004,1005] () hM hD s I (rv1 (rt I)) (k4 I I I I (k2 I I kn)) I
  ·refine R 2 s λa w s=>?_;refine cM s hm (λhb hm=>?_) λhb hm=>?_
   ·refine rg (ru 1 s λa w s=>sq s (nke (t I)) I λa w s=>stq (k:=1001) s (t I) I (Fk hx1.e) ci λw s=>nl ?_);refine R 1 s λa w s=>?_;obtain rfl:=si hm;refine wpIn_ret ?_;exact rz [1000,1001,1002,1003,1004,1005] () hM hD s I (rv1 (rt I)) (k4 I I I I (k2 I I kn)) I
   ·refine R 1 s λa w s=>?_;obtain rfl:=si hm;refine wpIn_ret ?_;exact rz [1000,1001,1002,1003,1004,1005] () hM hD s I (rv1 (rt I)) (k4 I I I I (k2 I I kn)) I
def m121 (f:Nat) (v0:Af) (v1:List Int) (v2:List Bool) (v3:List Bool) (v4:List Bool) (v5:List Int):Option (Bool×(List Int)×(List Bool)×(List Bool)×(List Bool)×(List Int)):=(bif ((decide (v0.Index < 0)) || (decide (v0.Index>=(v5.length:Int)))) then some true else (idx v5 v0.Index).bind λx1=>some (x1 != 1)).bind λr2=>(bif r2 then some (false,v1,v2,v3,v4,v5) else (idx v5 v0.Index).bind λx3=>(idx v4 v0.Index).bind λx4=>some (true,v1,v2,v3,(v4.set v0.Index.toNat true),(v5.set v0.Index.toNat (2:Int))))
theorem s121 (f:Nat) (n0:Nat) (n1:Value) (n2:Value) (n3:Value) (n4:Value) (n5:Value) (v0:Af) (v1:List Int) (v2:List Bool) (v3:List Bool) (v4:List Bool) (v5:List Int) (r:Bool×(List Int)×(List Bool)×(List Bool)×(List Bool)×(List Int)) (hm:m121 f v0 v1 v2 v3 v4 v5=some r):Cg Tryz.prog 121 [Qv (pb n0 0),Va v0] [Mr n0 [n1,n2,n3,n4,n5],Ow 3 n1 v1,Ow 4 n2 v2,Ow 4 n3 v3,Ow 4 n4 v4,Ow 3 n5 v5] (Rz (λx:Unit=>Va r.1) (λx=>[Mr n0 [n1,n2,n3,n4,n5],Ow 3 n1 r.2.1,Ow 4 n2 r.2.2.1,Ow 4 n3 r.2.2.2.1,Ow 4 n4 r.2.2.2.2.1,Ow 3 n5 r.2.2.2.2.2])):=by
 unfold m121 at hm;refine eng func121 kr_ I ntmps121 I I λM W a hM hD s=>?_;refine R 2 s λa w s=>?_;refine se ?_;obtain ⟨r2,hr2,hm⟩:=bs hm;have gr2:=gF hr2;have er2:=gT hr2;obtain ⟨x1,hx1,gr2⟩:=gk gr2;have:=pko gr2 er2;refine se (fW 26 s kr_ I I λa w s=>nl ?_);refine cmf s hm (λhb hm=>?_) λhb hm=>?_
 ·refine R 1 s λa w s=>?_;obtain rfl:=si hm;refine wpIn_ret ?_;exact rz [1000,1001,1002,1003,1004,1005] () hM hD s I (rv1 (rt I)) (k4 I I I I (k2 I I kn)) I
 ·obtain ⟨x3,hx3,hm⟩:=bk hm;obtain ⟨x4,hx4,hm⟩:=bk hm;refine se (Az [(3,Pt v0)] [0,1,2,3,4,5,6,7,8,9,10,11,14] [31,32,33,34,35,36,37,38,39,40,41,42,45] [] [43] [44,43] [(15,[]),(16,[44,43]),(17,[])] s (.skip (.skip (.skip (.cons (.late (.late (.cons (.cons (.cons (.cons (.cons (.cons (.cons (.cons (.cons (.cons (.cons (.cons .nil I I (mvq (t I))) I I (nkq (t I))) I I (fm_ (off:=0) (m:=4) (q:=0) (t I) kr_ I)) I I (fm_ (off:=4) (m:=0) (q:=4) (t I) kr_ I)) I I (lrc (K:=1000) (List Int) (t I) I I I I)) I I (fa (f:=Af.Index) (t I))) I I (ld (t I))) I I (mvq (t I))) I I (nkq (t I))) I I (fm_ (off:=0) (m:=4) (q:=0) (t I) kr_ I)) I I (fm_ (off:=3) (m:=0) (q:=3) (t I) kr_ I)) I I (lrc (K:=1000) (List Bool) (t I) I I I I)) I I (fa (f:=Af.Index) (t I))) I I (ld (t I))) I I (ixq (α:=Int) (k:=1005) (t I) I (t I) hx3.e)) I) I) I) kr_ kr_ I I (sw1 I sw0) I (by decide) I I ?_);refine ⟨⟨λ_=>I,I,.inr ⟨(sw1 I sw0),sb0,(sn2 I sn0)⟩⟩,by kernel_rfl,_,I,λΨ a w s=>stq (k:=1005) s (t I) I (Fk hx3.e) ci λw s=>nl ?_⟩;refine nxt Ψ s ?_;refine ⟨⟨λ_=>I,I,.inr ⟨(sw1 I sw0),sb0,(sn2 I sn0)⟩⟩,by kernel_rfl,_,I,λΨ a w s=>sq s (ixq (α:=Bool) (k:=1004) (t I) I (t I) hx4.e) I λa w s=>nl ?_⟩;refine nxt Ψ s ?_;refine ⟨⟨λ_=>I,I,.inl I⟩,by kernel_rfl,_,I,λΨ a w s=>stq (k:=1004) s (t I) I (Fk hx4.e) cb λw s=>nl ?_⟩;refine nxt Ψ s ?_;refine ⟨⟨λ_=>I,I,.inl I⟩,λa w s=>?_⟩;replace s:St M W 47 [(0,Qv (pb n0 0)),(1,Va v0),(3,Pt v0),(4,Va false),(1000,Mr n0 [n1,n2,n3,n4,n5]),(1001,Ow 3 n1 v1),(1002,Ow 4 n2 v2),(1003,Ow 4 n3 v3),(1004,Ow 4 n4 ((v4.set v0.Index.toNat true))),(1005,Ow 3 n5 ((v5.set v0.Index.toNat (2:Int))))] a w:=s.pick [0,1,3,4,1000,1001,1002,1003,1004,1005];refine R 1 s λa w s=>?_;obtain rfl:=si hm;refine wpIn_ret ?_;exact rz [1000,1001,1002,1003,1004,1005] () hM hD s I (rv1 (rt I)) (k4 I I I I (k2 I I kn)) I
def m122 (f:Nat) (v0:Af) (v1:List Int) (v2:List Bool) (v3:List Bool) (v4:List Bool) (v5:List Int):Option (Bool×(List Int)×(List Bool)×(List Bool)×(List Bool)×(List Int)):=(bif ((decide (v0.Index < 0)) || (decide (v0.Index>=(v3.length:Int)))) then some true else (idx v3 v0.Index).bind λx1=>some (x1 == v0.Value)).bind λr2=>(bif r2 then some (false,v1,v2,v3,v4,v5) else (idx v3 v0.Index).bind λx3=>some (true,v1,v2,(v3.set v0.Index.toNat v0.Value),v4,v5))
theorem s122 (f:Nat) (n0:Nat) (n1:Value) (n2:Value) (n3:Value) (n4:Value) (n5:Value) (v0:Af) (v1:List Int) (v2:List Bool) (v3:List Bool) (v4:List Bool) (v5:List Int) (r:Bool×(List Int)×(List Bool)×(List Bool)×(List Bool)×(List Int)) (hm:m122 f v0 v1 v2 v3 v4 v5=some r):Cg Tryz.prog 122 [Qv (pb n0 0),Va v0] [Mr n0 [n1,n2,n3,n4,n5],Ow 3 n1 v1,Ow 4 n2 v2,Ow 4 n3 v3,Ow 4 n4 v4,Ow 3 n5 v5] (Rz (λx:Unit=>Va r.1) (λx=>[Mr n0 [n1,n2,n3,n4,n5],Ow 3 n1 r.2.1,Ow 4 n2 r.2.2.1,Ow 4 n3 r.2.2.2.1,Ow 4 n4 r.2.2.2.2.1,Ow 3 n5 r.2.2.2.2.2])):=by
 unfold m122 at hm;refine eng func122 kr_ I ntmps122 I I λM W a hM hD s=>?_;refine R 2 s λa w s=>?_;refine se ?_;obtain ⟨r2,hr2,hm⟩:=bs hm;have gr2:=gF hr2;have er2:=gT hr2;obtain ⟨x1,hx1,gr2⟩:=gk gr2;have:=pko gr2 er2;refine se (fW 28 s kr_ I I λa w s=>nl ?_);refine cmf s hm (λhb hm=>?_) λhb hm=>?_
 ·refine R 1 s λa w s=>?_;obtain rfl:=si hm;refine wpIn_ret ?_;exact rz [1000,1001,1002,1003,1004,1005] () hM hD s I (rv1 (rt I)) (k4 I I I I (k2 I I kn)) I
 ·obtain ⟨x3,hx3,hm⟩:=bk hm;refine se (fW 10 s kr_ I I λa w s=>stq (k:=1003) s (t I) I (Fk hx3.e) (t I) λw s=>nl ?_);refine R 1 s λa w s=>?_;obtain rfl:=si hm;refine wpIn_ret ?_;exact rz [1000,1001,1002,1003,1004,1005] () hM hD s I (rv1 (rt I)) (k4 I I I I (k2 I I kn)) I
def Cr (f:Nat) (v0:Aa):Nat->(Int×Ad×(List Int))->Option (Lo (Int×Ad×(List Int)) (Ad×(List Int)×Int))
 | 0,_=>none
 | n+1,z4=>(bif (decide (z4.1 < 65)) then (m114 f v0 z4.2.1).bind λx7=>(bif (x7.2.1 != 0) then some (.ret ((⟨([]:List Int),([]:List Bool),([]:List Bool),([]:List Bool),([]:List Int)⟩:Ad),([]:List Int),x7.2.1)) else (m115 f z4.2.2 x7.2.2).bind λx10=>(m111 f x7.1 z4.2.1).bind λx12=>(bif x12 then some (.ret (x7.1,x10,(0:Int))) else Cr f v0 n ((wr (z4.1 + 1)),x7.1,x10))) else some (.brk (z4.1,z4.2.1,z4.2.2)))
def Ws (f:Nat) (v0:Aa) (v1:Ad):Option (Ad×(List Int)×Int):=(m113 f v0 v1).bind λx3=>(bif (x3 != 0) then some ((⟨([]:List Int),([]:List Bool),([]:List Bool),([]:List Bool),([]:List Int)⟩:Ad),([]:List Int),x3) else ((Cr f v0 f ((0:Int),v1,([]:List Int))).bind λo5=>match o5 with | .brk o5s=>some ((⟨([]:List Int),([]:List Bool),([]:List Bool),([]:List Bool),([]:List Int)⟩:Ad),([]:List Int),(21:Int)) | .ret r=>some r))
theorem s85_1 (f:Nat) (v0:Aa) (v1:Ad) (r:Ad×(List Int)×Int) (hm:Ws f v0 v1=some r):Sp Tryz.prog 85 [Va v0,Va v1] (T3 (Va r.1) (Va r.2.1) (Va r.2.2)):=by
 unfold Ws at hm;refine ens func85 kr_ I ntmps85 I I λM W a hM hD s=>?_;refine se (rg (sq s (bx (t I)) I λa w s=>sqb 1000 s (bxm (t I)) I I λb1 a w s=>sqr 1001 s (alr (cs:=[nz,nz,nz,nz,nz]) (z:=.agg #[nz,nz,nz,nz,nz]) kr_ I I) I I λb2 a w s=>sq s (saq cq) I λa w s=>sq s (sa ci) I λa w s=>nl ?_));refine se ?_;obtain ⟨x3,hx3,hm⟩:=bs hm;refine se (rg (sq s (ld (t I)) I λa w s=>sq s (lm (K:=1000) (t I) I) I λa w s=>sq s (cc I (oc (t I) (oc (t I) on)) (s113 f _ _ _ hx3)) I λa w s=>sq s (sa (t I)) I λa w s=>nl ?_));refine se (rg (sq s (mv (t I)) I λa w s=>sq s (ne (t I) ci) I λa w s=>nl ?_));refine cm s I hm (λhb hm=>?_) (λhb hm=>?_)
 ·refine se (rg (sq s (bl67_ ) I λa w s=>sq s (mv (t I)) I λa w s=>swd (K:=1001) s (t I) I (t I) I λw s=>sq s (saq cq) I λa w s=>sq s (sa (t I)) I λa w s=>nl ?_));obtain rfl:=si hm;refine wpIn_ret ?_;exact rn hD s I (rv3 (rc (K:=1001) I I) (ro (qns (α:=Int) (t I))) (rt I))
 ·refine wpIn_skip (se (rg (sq s (saq cq) I λa w s=>nl ?_)));refine se (se (rg (sq s (mv ci) I λa w s=>nl ?_)));refine Ja (α:=Int) (d:=8) 1002 3 s I I λc6 s=>?_;obtain ⟨o5,hoo5,hko5⟩:=bs hm;refine lcI o5 (λo5s a w=>∃ (o5sc0:Value),St M W 43 [(0,Va v0),(1,Va v1),(2,Pt v0),(3,Qv (pb b1 0)),(4,Qv (pb b2 0)),(5,Qv nz),(6,Va ((0:Int))),(7,Va x3),(8,Qv o5sc0),(19,Va o5s.1),(1000,Mg b1 o5s.2.1),(1001,Mr b2 [nz,nz,nz,nz,nz]),(1002,Ow 3 o5sc0 o5s.2.2)] a w) ?_ λo5s a w ho s=>?_
  ·refine wpIn_block (loI (λn z4=>Cr f v0 n z4) o5 (λz4 a w=>∃ (z4c0:Value),St M W 43 [(0,Va v0),(1,Va v1),(2,Pt v0),(3,Qv (pb b1 0)),(4,Qv (pb b2 0)),(5,Qv nz),(6,Va ((0:Int))),(7,Va x3),(8,Qv z4c0),(19,Va z4.1),(1000,Mg b1 z4.2.1),(1001,Mr b2 [nz,nz,nz,nz,nz]),(1002,Ow 3 z4c0 z4.2.2)] a w) f ((0:Int),v1,([]:List Int)) ⟨c6,s.pick [0,1,2,3,4,5,6,7,8,19,1000,1001,1002]⟩ hoo5 (λ_=>I) λn z4 a w hm s=>?_);obtain ⟨z4c0,s⟩:=s;replace hm:Cr f v0 (n + 1) z4=some o5:=hm;unfold Cr at hm;refine se (rg (sq s (lt (t I) ci) I λa w s=>nl ?_));refine se (cm s I hm (λhb hm=>?_) (λhb hm=>?_))
   ·refine wpIn_skip (se ?_);refine wpIn_block ?_;obtain ⟨x7,hx7,hm⟩:=bs hm;refine se (rg (sq s (ld (t I)) I λa w s=>sq s (lm (K:=1000) (t I) I) I λa w s=>sqz [1003] hM s (cc I (oc (t I) (oc (t I) on)) (s114 f _ _ _ hx7)) (λ_=>I) I I λy8 a w s=>sq s (mve (t I)) I λa w s=>sq s (Pn.x30 (t I)) I λa w s=>sq s (Pn.x31 (t I)) I λa w s=>sq s (Pn.x32 (t I)) I λa w s=>sqr 1004 s (alr (cs:=[nz,nz,nz,nz,nz]) (z:=.agg #[nz,nz,nz,nz,nz]) kr_ I I) I I λb9 a w s=>swd (K:=1004) s (t I) I (t I) I λw s=>sq s (saq (t I)) I λa w s=>sq s (sa (t I)) I λa w s=>nl ?_));refine se (se (rg (sq s (mv (t I)) I λa w s=>sq s (ne (t I) ci) I λa w s=>nl ?_)));refine cm s I hm (λhb hm=>?_) (λhb hm=>?_)
    ·refine se (rg (sq s (bl67_ ) I λa w s=>sq s (mv (t I)) I λa w s=>swd (K:=1001) s (t I) I (t I) I λw s=>sq s (saq cq) I λa w s=>sq s (sa (t I)) I λa w s=>nl ?_));obtain rfl:=si hm;replace hm:=hko5;dsimp only at hm;obtain rfl:=si hm;refine wpIn_ret ?_;exact rn hD s I (rv3 (rc (K:=1001) I I) (ro (qns (α:=Int) (t I))) (rt I))
    ·refine wpIn_skip ?_;obtain ⟨x10,hx10,hm⟩:=bs hm;refine se (rg (sq s (mvq (t I)) I λa w s=>sq s (mvq (t I)) I λa w s=>sqz [1005] hM s (tfg (k:=1003) (flz (λ_=>flq) (λ_=>(flc flo fln))) I (tfg (k:=1002) (flz (λ_=>flq) (λ_=>(flc flo fln))) I (cc I (oc (ta (k:=1002) (t I) I) (oc (ta (k:=1003) (t I) I) on)) (s115 f _ _ _ hx10)))) (λ_=>I) I I λy11 a w s=>sq s (saq (t I)) I λa w s=>nl ?_));refine se ?_;obtain ⟨x12,hx12,hm⟩:=bs hm;refine se (rg (sq s (lm (K:=1004) (t I) I) I λa w s=>sq s (lm (K:=1000) (t I) I) I λa w s=>sq s (cc I (oc (t I) (oc (t I) on)) (s111 f _ _ _ hx12)) I λa w s=>nl ?_));refine cm s I hm (λhb hm=>?_) (λhb hm=>?_)
     ·refine se (rg (sq s (lm (K:=1004) (t I) I) I λa w s=>sq s (mvq (t I)) I λa w s=>swd (K:=1001) s (t I) I (t I) I λw s=>sq s (saq (t I)) I λa w s=>sq s (sa ci) I λa w s=>nl ?_));obtain rfl:=si hm;replace hm:=hko5;dsimp only at hm;obtain rfl:=si hm;refine fzk (α:=Int) (k:=1005) hM s I λs=>?_;refine wpIn_ret ?_;exact rn hD s I (rv3 (rc (K:=1001) I I) (ro (ta (k:=1005) (t I) I)) (rt I))
     ·refine wpIn_skip (rg (sq s (lm (K:=1004) (t I) I) I λa w s=>sw (K:=1000) s (t I) I (t I) I λw s=>nl ?_));refine rg (sq s (ad (t I) ci) I λa w s=>sq s (mv (t I)) I λa w s=>nl ?_);exact ⟨_,hm,⟨y11,s.rekey (l:=[(0,0),(1,1),(2,2),(3,3),(4,4),(5,5),(6,6),(7,7),(8,8),(19,19),(1000,1000),(1001,1001),(1005,1002)]) (.same I (.same I (.same I (.same I (.same I (.same I (.same I (.same I (.same I (.same I (.same I (.same I (.key (t:=1005) (u:=1002) I .nil))))))))))))) I I⟩⟩
   ·refine wpIn_exit ?_;exact ⟨_,(si hm).symm,⟨z4c0,s.pick [0,1,2,3,4,5,6,7,8,19,1000,1001,1002]⟩⟩
  ·obtain ⟨o5sc0,s⟩:=s;subst ho;replace hm:=hko5;dsimp only at hm;refine se (rg (sq s (bl67_ ) I λa w s=>swd (K:=1001) s (t I) I (t I) I λw s=>sq s (saq cq) I λa w s=>sq s (sa ci) I λa w s=>nl ?_));obtain rfl:=si hm;refine wpIn_ret ?_;exact rn hD s I (rv3 (rc (K:=1001) I I) (ro (qns (α:=Int) (t I))) (rt I))
def m88 (f:Nat) (v0:Aa) (v1:Ad) (v2:Af):Option (Ad×(List Int)×Int):=(m119 f v1).bind λx2=>(bif ((decide (v2.Kind < 0)) || (decide (v2.Kind>=(3:Int)))) then some ((⟨([]:List Int),([]:List Bool),([]:List Bool),([]:List Bool),([]:List Int)⟩:Ad),([]:List Int),(1:Int)) else (idx (List.range 3) v2.Kind).bind λx6=>((bif x6 == 0 then m120 f v2 x2.1 x2.2.1 x2.2.2.1 x2.2.2.2.1 x2.2.2.2.2 else bif x6 == 1 then m121 f v2 x2.1 x2.2.1 x2.2.2.1 x2.2.2.2.1 x2.2.2.2.2 else bif x6 == 2 then m122 f v2 x2.1 x2.2.1 x2.2.2.1 x2.2.2.2.1 x2.2.2.2.2 else none)).bind λx9=>(bif (!x9.1) then some ((⟨([]:List Int),([]:List Bool),([]:List Bool),([]:List Bool),([]:List Int)⟩:Ad),([]:List Int),(14:Int)) else (Ws f v0 (⟨x9.2.1,x9.2.2.1,x9.2.2.2.1,x9.2.2.2.2.1,x9.2.2.2.2.2⟩:Ad)).bind λx11=>some (x11.1,x11.2.1,x11.2.2)))
theorem s88 (f:Nat) (v0:Aa) (v1:Ad) (v2:Af) (r:Ad×(List Int)×Int) (hm:m88 f v0 v1 v2=some r):Sp Tryz.prog 88 [Va v0,Va v1,Va v2] (T3 (Va r.1) (Va r.2.1) (Va r.2.2)):=by
 unfold m88 at hm;refine ens func88 kr_ I ntmps88 I I λM W a hM hD s=>?_;refine se (rg (ru 3 s λa w s=>aR 1000 s λb1 a w s=>ru 2 s λa w s=>nl ?_));obtain ⟨x2,hx2,hm⟩:=bk hm;refine se (rg (ru 1 s λa w s=>sqz [1001,1002,1003,1004,1005] hM s (cc I (oc (t I) on) (s119 f _ _ hx2.e)) (λ_=>I) I I λy3 a w s=>sq s (bla (L:=[(0,5)]) (z:=[nz,nz,nz,nz,nz]) (res:=[y3.1,y3.2.1,y3.2.2.1,y3.2.2.2.1,y3.2.2.2.2]) I kr_ kr_ (pda (t I) pdn) I I) I λa w s=>sqr 1006 s (bxa (t I)) I I λb4 a w s=>ru 1 s λa w s=>nl ?_));refine se (rg (ru 1 s λa w s=>sq s (mkf I I (qc (t I) qn) qn) I λa w s=>ru 1 s λa w s=>sq s (mkf I I (qc (t I) qn) qn) I λa w s=>ru 1 s λa w s=>sq s (mkf I I (qc (t I) qn) qn) I λa w s=>sq s (bly (e:=141) (len:=3) (z:=[.nilFunc,.nilFunc,.nilFunc]) (cs:=[(fv 120 [(pb b4 0)] []),(fv 121 [(pb b4 0)] []),(fv 122 [(pb b4 0)] [])]) I (cd1 (t I) (ocr I) (cd1 (t I) (ocr I) (cd1 (t I) (ocr I) cd0))) kr_ kr_ kr_ I) I λa w s=>aR 1007 s λb5 a w s=>sra (K:=1007) (m:=[(fv 120 [(pb b4 0)] []),(fv 121 [(pb b4 0)] []),(fv 122 [(pb b4 0)] [])]) (cs':=[(fv 120 [(pb b4 0)] []),(fv 121 [(pb b4 0)] []),(fv 122 [(pb b4 0)] [])]) s (t I) I (t I) kr_ I I I λw s=>nl ?_));refine se (R 8 s λa w s=>?_);refine cmf s hm (λhb hm=>?_) λhb hm=>?_
 ·refine se (rg (sq s (bla (L:=[(0,1),(1,1),(2,1),(3,1),(4,1)]) (z:=[nz,nz,nz,nz,nz]) (res:=[nz,nz,nz,nz,nz]) I kr_ kr_ pdn I I) I λa w s=>sra (K:=1000) (m:=[nz,nz,nz,nz,nz]) (cs':=[nz,nz,nz,nz,nz]) s (t I) I (t I) kr_ I I I λw s=>ru 2 s λa w s=>nl ?_));obtain rfl:=si hm;refine Lh (k:=1000) (x:=(⟨([]:List Int),([]:List Bool),([]:List Bool),([]:List Bool),([]:List Int)⟩:Ad)) s I (Cc (l:=([nz],[nz],[nz],[nz],[nz])) (rpn (α:=Int)) (rpn (α:=Bool)) (rpn (α:=Bool)) (rpn (α:=Bool)) (rpn (α:=Int))) λs=>?_;refine wpIn_ret ?_;exact rn hD s I (rv3 (rc (K:=1000) I I) (ro (qns (α:=Int) (t I))) (rt I))
 ·refine se ?_;obtain ⟨x6,hx6,hm⟩:=bk hm;obtain ⟨x9,hx9,hm⟩:=bk hm;refine se (Lf s (m:=5) (.cons (.cons (.cons (.cons (.cons .nil I (fa (f:=Af.Kind) (t I))) I (ld (t I))) I (iax (e:=141) (t I) (t I) kr_ kr_ hx6.e)) I (lsel (K:=1007) (ds:=[(fv 120 [(pb b4 0)] []),(fv 121 [(pb b4 0)] []),(fv 122 [(pb b4 0)] [])]) (t I) I I (Le hx6.e).1 (FA I) kr_)) I (ld (t I))) kr_ I I λa w s=>cgv [1006,1001,1002,1003,1004,1005] [1006,1001,1002,1003,1004,1005] hM s (qsel3 (selt hx9.e) (t I)) I (oc (t I) on) (vq vn) vn (EE (Q:=λF=>Cg Tryz.prog F [Qv (pb b4 0),Va v2] [Mr b4 [y3.1,y3.2.1,y3.2.2.1,y3.2.2.2.1,y3.2.2.2.2],Ow 3 y3.1 x2.1,Ow 4 y3.2.1 x2.2.1,Ow 4 y3.2.2.1 x2.2.2.1,Ow 4 y3.2.2.2.1 x2.2.2.2.1,Ow 3 y3.2.2.2.2 x2.2.2.2.2] (Rz (λx:Unit=>Va x9.1) (λx=>[Mr b4 [y3.1,y3.2.1,y3.2.2.1,y3.2.2.2.1,y3.2.2.2.2],Ow 3 y3.1 x9.2.1,Ow 4 y3.2.1 x9.2.2.1,Ow 4 y3.2.2.1 x9.2.2.2.1,Ow 4 y3.2.2.2.1 x9.2.2.2.2.1,Ow 3 y3.2.2.2.2 x9.2.2.2.2.2]))) hx9.e (λh=>s120 f b4 y3.1 y3.2.1 y3.2.2.1 y3.2.2.2.1 y3.2.2.2.2 _ _ _ _ _ _ _ h) (λh=>s121 f b4 y3.1 y3.2.1 y3.2.2.1 y3.2.2.2.1 y3.2.2.2.2 _ _ _ _ _ _ _ h) (λh=>s122 f b4 y3.1 y3.2.1 y3.2.2.1 y3.2.2.2.1 y3.2.2.2.2 _ _ _ _ _ _ _ h)) (k4 I I I I (k2 I I kn)) I (λ_=>I) I I I λy10 a w s=>sq s (nt (t I)) I λa w s=>nl ?_);refine cmf s hm (λhb hm=>?_) λhb hm=>?_
  ·refine se (rg (sq s (bla (L:=[(0,1),(1,1),(2,1),(3,1),(4,1)]) (z:=[nz,nz,nz,nz,nz]) (res:=[nz,nz,nz,nz,nz]) I kr_ kr_ pdn I I) I λa w s=>sra (K:=1000) (m:=[nz,nz,nz,nz,nz]) (cs':=[nz,nz,nz,nz,nz]) s (t I) I (t I) kr_ I I I λw s=>ru 2 s λa w s=>nl ?_));obtain rfl:=si hm;refine Lh (k:=1000) (x:=(⟨([]:List Int),([]:List Bool),([]:List Bool),([]:List Bool),([]:List Int)⟩:Ad)) s I (Cc (l:=([nz],[nz],[nz],[nz],[nz])) (rpn (α:=Int)) (rpn (α:=Bool)) (rpn (α:=Bool)) (rpn (α:=Bool)) (rpn (α:=Int))) λs=>?_;refine wpIn_ret ?_;exact rn hD s I (rv3 (rc (K:=1000) I I) (ro (qns (α:=Int) (t I))) (rt I))
  ·refine fzk (α:=Int) (k:=1001) hM s I λs=>?_;refine fzk (α:=Bool) (k:=1002) hM s I λs=>?_;refine fzk (α:=Bool) (k:=1003) hM s I λs=>?_;refine fzk (α:=Bool) (k:=1004) hM s I λs=>?_;refine fzk (α:=Int) (k:=1005) hM s I λs=>?_;obtain ⟨x11,hx11,hm⟩:=bk hm;refine se (Lf s (m:=9) (.cons (.cons (.cons (.cons (.cons (.cons (.cons (.cons (.cons .nil I (ld (t I))) I (mvq (t I))) I (nkq (t I))) I (fm_ (off:=0) (m:=4) (q:=0) (t I) kr_ I)) I (lra (K:=1006) (ds:=[y3.1,y3.2.1,y3.2.2.1,y3.2.2.2.1,y3.2.2.2.2]) Ad (t I) I I I I)) I (cc I (oc (t I) (oc (qad (y:=(⟨x9.2.1,x9.2.2.1,x9.2.2.2.1,x9.2.2.2.2.1,x9.2.2.2.2.2⟩:Ad)) (t I) (Cc (l:=([y3.1],[y3.2.1],[y3.2.2.1],[y3.2.2.2.1],[y3.2.2.2.2])) (rpz (k:=1001) I) (rpz (k:=1002) I) (rpz (k:=1003) I) (rpz (k:=1004) I) (rpz (k:=1005) I)) I) on)) (s85_1 f _ _ _ hx11.e))) I (Pn.x30 (t I))) I (Pn.x31 (t I))) I (Pn.x32 (t I))) kr_ I I λa w s=>sW s I λw s=>sq s (sa (t I)) I λa w s=>sq s (sa (t I)) I λa w s=>nl ?_);cases hm;exact rV hD s I I
def m47 (f:Nat) (v0:Aa) (v1:Ad) (v2:Af):Option (Ad×(List Int)×Int):=(m87 f v0 v1).bind λx2=>(bif (x2 != 0) then some ((⟨([]:List Int),([]:List Bool),([]:List Bool),([]:List Bool),([]:List Int)⟩:Ad),([]:List Int),x2) else (m88 f v0 v1 v2).bind λx3=>some (x3.1,x3.2.1,x3.2.2))
theorem s47 (f:Nat) (v0:Aa) (v1:Ad) (v2:Af) (r:Ad×(List Int)×Int) (hm:m47 f v0 v1 v2=some r):Sp Tryz.prog 47 [Va v0,Va v1,Va v2] (T3 (Va r.1) (Va r.2.1) (Va r.2.2)):=by
 unfold m47 at hm;refine ens func47 kr_ I ntmps47 I I λM W a hM hD s=>?_;refine se (rg (ru 3 s λa w s=>aR 1000 s λb1 a w s=>ru 2 s λa w s=>nl ?_));refine se (se (rg (ru 2 s λa w s=>cB s hm (s87 f _ _) λx2 hm a w s=>ru 1 s λa w s=>nl ?_)));refine R 2 s λa w s=>?_;refine cmf s hm (λhb hm=>?_) λhb hm=>?_
 ·refine se (rg (sq s (bla (L:=[(0,1),(1,1),(2,1),(3,1),(4,1)]) (z:=[nz,nz,nz,nz,nz]) (res:=[nz,nz,nz,nz,nz]) I kr_ kr_ pdn I I) I λa w s=>ru 1 s λa w s=>sra (K:=1000) (m:=[nz,nz,nz,nz,nz]) (cs':=[nz,nz,nz,nz,nz]) s (t I) I (t I) kr_ I I I λw s=>ru 2 s λa w s=>nl ?_));obtain rfl:=si hm;refine Lh (k:=1000) (x:=(⟨([]:List Int),([]:List Bool),([]:List Bool),([]:List Bool),([]:List Int)⟩:Ad)) s I (Cc (l:=([nz],[nz],[nz],[nz],[nz])) (rpn (α:=Int)) (rpn (α:=Bool)) (rpn (α:=Bool)) (rpn (α:=Bool)) (rpn (α:=Int))) λs=>?_;refine wpIn_ret ?_;exact rn hD s I (rv3 (rc (K:=1000) I I) (ro (qns (α:=Int) (t I))) (rt I))
 ·refine se (rg (ru 3 s λa w s=>cB s hm (s88 f _ _ _) λx3 hm a w s=>ru 3 s λa w s=>sW s I λw s=>ru 2 s λa w s=>nl ?_));cases hm;exact rV hD s I I
def m22 (f:Nat) (v0:World_detect) (v1:Pair) (v2:Af):Option (Pair×Bool×Int):=(m47 f v0.good v1.Good v2).bind λx2=>(bif (x2.2.2 != 0) then some ((⟨(⟨([]:List Int),([]:List Bool),([]:List Bool),([]:List Bool),([]:List Int)⟩:Ad),(⟨([]:List Int),([]:List Bool),([]:List Bool),([]:List Bool),([]:List Int)⟩:Ad)⟩:Pair),false,x2.2.2) else (m47 f v0.bad v1.Bad v2).bind λx4=>some ((⟨x2.1,x4.1⟩:Pair),(x4.2.2 == 0),(0:Int)))
theorem s22 (f:Nat) (v0:World_detect) (v1:Pair) (v2:Af) (r:Pair×Bool×Int) (hm:m22 f v0 v1 v2=some r):Sp Tryz.prog 22 [Va v0,Va v1,Va v2] (T3 (Va r.1) (Va r.2.1) (Va r.2.2)):=by
 unfold m22 at hm;refine ens func22 kr_ I ntmps22 I I λM W a hM hD s=>?_;refine se (rg (ru 3 s λa w s=>aR 1000 s λb1 a w s=>ru 2 s λa w s=>nl ?_));refine se (rg (ru 5 s λa w s=>cB s hm (s47 f _ _ _) λx2 hm a w s=>ru 4 s λa w s=>aR 1001 s λb3 a w s=>sW s I λw s=>ru 2 s λa w s=>nl ?_));refine se (R 2 s λa w s=>?_);refine cmf s hm (λhb hm=>?_) λhb hm=>?_
 ·refine se (rg (sq s (bl69_ ) I λa w s=>ru 1 s λa w s=>sW s I λw s=>ru 2 s λa w s=>nl ?_));cases hm;exact rV hD s I I
 ·refine se (rg (ru 5 s λa w s=>cB s hm (s47 f _ _ _) λx4 hm a w s=>ru 4 s λa w s=>aR 1002 s λb5 a w s=>sW s I λw s=>ru 2 s λa w s=>nl ?_));refine se (rg (ru 2 s λa w s=>sq s (Wj (t I) (t I)) I λa w s=>ru 2 s λa w s=>sW s I λw s=>ru 2 s λa w s=>nl ?_));cases hm;exact rV hD s I I
def Qz {σ:Type} (gy:Af->σ->Option (Bool×σ)) (v1:Pair):Nat->(Int×σ)->Option (Lo (Int×σ) (σ))
 | 0,_=>none
 | n+1,z8=>(bif (decide (z8.1 < (v1.Good.Inputs.length:Int))) then (idx v1.Good.Inputs z8.1).bind λx10=>(gy (⟨(2:Int),z8.1,(!x10)⟩:Af) z8.2).bind λx11=>(bif (!x11.1) then some (.ret x11.2) else Qz gy v1 n ((wr (z8.1 + 1)),x11.2)) else some (.brk (z8.1,z8.2)))
def Ra {σ:Type} (gy:Af->σ->Option (Bool×σ)) (x1:(List Af)):Nat->(Int×σ)->Option (Lo (Int×σ) (σ))
 | 0,_=>none
 | n+1,z2=>(bif (decide (z2.1 < (x1.length:Int))) then (idx x1 z2.1).bind λx4=>(gy x4 z2.2).bind λx6=>(bif (!x6.1) then some (.ret x6.2) else Ra gy x1 n ((wr (z2.1 + 1)),x6.2)) else some (.brk (z2.1,z2.2)))
def m80 {σ:Type} (gy:Af->σ->Option (Bool×σ)) (f:Nat) (v0:World_detect) (v1:Pair) (v2:σ):Option (σ):=(m46 f v0.good v1.Good).bind λx1=>((Ra gy x1 f ((0:Int),v2)).bind λo3=>match o3 with | .brk o3s=>((Qz gy v1 f ((0:Int),o3s.2)).bind λo9=>match o9 with | .brk o9s=>some o9s.2 | .ret r=>some r) | .ret r=>some r)
theorem s80 {σ:Type} (E:σ->Ent) [hE:∀ s,Gh (E s)] (n0:Nat) (gy:Af->σ->Option (Bool×σ)) (ihy:∀ x s r,gy x s=some r->Cy Tryz.prog n0 [Va x] [E s] (Rz (λ_:Unit=>Va r.1) λ_=>[E r.2])) (f:Nat) (v0:World_detect) (v1:Pair) (v2:σ) (r:σ) (hm:m80 gy f v0 v1 v2=some r):Cg Tryz.prog 80 [Qv (yv n0),Pt v0,Pt v1] [E v2] (Rz (λx:Unit=>Dd) (λx=>[E r])):=by
 unfold m80 at hm;refine eng func80 kr_ I ntmps80 I I λM W a hM hD s=>?_;refine se (se (rg (ru 4 s λa w s=>cB s hm (s46 f _ _) λx1 hm a w s=>ru 2 s λa w s=>nl ?_)));refine lB hm [0,1,2,12,13] s (λz2=>[(14,Va z2.1),(1000,E z2.2)]) s.fi (λ_=>I) (λo3 hko3 n z2 a w hm s=>?_) λo3s hm a w s=>?_
 ·unfold Ra at hm;refine R 1 s λa w s=>?_;refine se (cmt s hm (λhb hm=>?_) λhb hm=>?_)
  ·refine se (wpIn_block ?_);refine se (rg (iB s hm λx4 hm a w s=>ru 1 s λa w s=>sqb 1001 s (al (z:=(⟨(0:Int),(0:Int),false⟩:Af))) I I λb5 a w s=>sw (K:=1001) s (t I) I (t I) I λw s=>nl ?_));obtain ⟨x6,hx6,hm⟩:=bk hm;refine se (rg (ru 2 s λa w s=>cgy [1000] [1000] hM s (t I) I (oc (t I) on) (ihy _ _ _ hx6.e) (kc I kn) I (λ_=>I) I I I λy7 a w s=>ru 1 s λa w s=>nl ?_));refine cmf s hm (λhb hm=>?_) λhb hm=>?_
   ·obtain rfl:=si hm;replace hm:=hko3;dsimp only at hm;obtain rfl:=si hm;refine wpIn_ret ?_;exact rz [1000] () hM hD s I rv0 (kc I kn) I
   ·refine R0 2 s λa w s=>?_;exact ⟨_,hm,s.fi⟩
  ·refine wpIn_exit ?_;exact ⟨_,(si hm).symm,s.fi⟩
 ·dsimp only at hm;refine R 5 s λa w s=>?_;refine lB hm [0,1,2,12,13,14,25,26] s (λz8=>[(27,Va z8.1),(1000,E z8.2)]) s.fi (λ_=>I) (λo9 hko9 n z8 a w hm s=>?_) λo9s hm a w s=>?_
  ·unfold Qz at hm;refine R 1 s λa w s=>?_;refine se (cmt s hm (λhb hm=>?_) λhb hm=>?_)
   ·refine se (wpIn_block ?_);refine se (rg (ru 1 s λa w s=>iB s hm λx10 hm a w s=>ru 3 s λa w s=>nl ?_));obtain ⟨x11,hx11,hm⟩:=bk hm;refine se (rg (ru 4 s λa w s=>sq s (Xb ci (t I) (t I)) I λa w s=>cgy [1000] [1000] hM s (t I) I (oc (t I) on) (ihy _ _ _ hx11.e) (kc I kn) I (λ_=>I) I I I λy12 a w s=>ru 1 s λa w s=>nl ?_));refine cmf s hm (λhb hm=>?_) λhb hm=>?_
    ·obtain rfl:=si hm;replace hm:=hko9;dsimp only at hm;obtain rfl:=si hm;refine wpIn_ret ?_;exact rz [1000] () hM hD s I rv0 (kc I kn) I
    ·refine R0 2 s λa w s=>?_;exact ⟨_,hm,s.fi⟩
   ·refine wpIn_exit ?_;exact ⟨_,(si hm).symm,s.fi⟩
  ·dsimp only at hm;obtain rfl:=si hm;exact rze [1000] () hM hD s I rv0 (kc I kn) I
def Gi (f:Nat) (v0:World_detect) (v1:Int) (z12:Ai×Int×(List Pair)×(List (List Af))×Int):Af->(Ai×Int×(List Pair)×(List (List Af)))×Nat->Option (Bool×((Ai×Int×(List Pair)×(List (List Af)))×Nat)):=λu19 z17=>match z17 with
 | (z17,0)=>(idx z17.2.2.1 z12.2.2.2.2).bind λx21=>(m22 f v0 x21 u19).bind λx22=>(bif (x22.2.2 != 0) then some (false,(((⟨([]:List Pair),([]:List Af),false⟩:Ai),x22.2.2,z17.2.2.1,z17.2.2.2),1)) else (idx z17.2.2.2 z12.2.2.2.2).bind λx24=>(m40 f x24).bind λx25=>(app x25 ([u19]:List Af)).bind λx27=>(bif (!x22.2.1) then some true else (m21 f v0 x22.1).bind λx29=>some x29).bind λr30=>(bif r30 then some (false,(((⟨([]:List Pair),x27,true⟩:Ai),(0:Int),z17.2.2.1,z17.2.2.2),1)) else (m41 f z17.2.2.1 x22.1).bind λx31=>(bif (decide (x31>=(0:Int))) then some (true,((z17.1,z17.2.1,z17.2.2.1,z17.2.2.2),0)) else (bif ((z17.2.2.1.length:Int) == v1) then some (false,(((⟨([]:List Pair),([]:List Af),false⟩:Ai),(12:Int),z17.2.2.1,z17.2.2.2),1)) else (app z17.2.2.1 ([x22.1]:List Pair)).bind λx32=>(app z17.2.2.2 ([x27]:List (List Af))).bind λx34=>some (true,((z17.1,z17.2.1,x32,x34),0))))))
 | (_,_ + 1)=>none
def Rf (f:Nat) (v0:World_detect) (v1:Int):Nat->(Ai×Int×(List Pair)×(List (List Af))×Int)->Option (Lo (Ai×Int×(List Pair)×(List (List Af))×Int) (Ai×Int))
 | 0,_=>none
 | n+1,z12=>(bif (decide (z12.2.2.2.2 < (z12.2.2.1.length:Int))) then (idx z12.2.2.1 z12.2.2.2.2).bind λx14=>(m39 f v0 x14).bind λx15=>(m80 (Gi f v0 v1 z12) f x15.1 x15.2 ((z12.1,z12.2.1,z12.2.2.1,z12.2.2.2.1),0)).bind λo36=>(bif o36.2 == 0 then Rf f v0 v1 n (o36.1.1,o36.1.2.1,o36.1.2.2.1,o36.1.2.2.2,(wr (z12.2.2.2.2 + 1))) else (bif o36.2 == 1 then some (.ret (o36.1.1,o36.1.2.1)) else none)) else some (.brk (z12.1,z12.2.1,z12.2.2.1,z12.2.2.2.1,z12.2.2.2.2)))
def m19 (f:Nat) (v0:World_detect) (v1:Int):Option (Ai×Int):=(bif ((decide (v1 < 1)) || (decide (v1 > 16384))) then some ((⟨([]:List Pair),([]:List Af),false⟩:Ai),(2:Int)) else (m20 f v0).bind λx3=>(bif (x3.2.2 != 0) then some ((⟨([]:List Pair),([]:List Af),false⟩:Ai),x3.2.2) else (bif (!x3.2.1) then some true else (m21 f v0 x3.1).bind λx5=>some x5).bind λr6=>(bif r6 then some ((⟨([]:List Pair),([]:List Af),true⟩:Ai),(0:Int)) else ((Rf f v0 v1 f ((⟨([]:List Pair),([]:List Af),false⟩:Ai),(0:Int),([x3.1]:List Pair),([([]:List Af)]:List (List Af)),(0:Int))).bind λo13=>match o13 with | .brk o13s=>some ((⟨o13s.2.2.1,([]:List Af),false⟩:Ai),(0:Int)) | .ret r=>some r))))
theorem s19 (f:Nat) (v0:World_detect) (v1:Int) (r:Ai×Int) (hm:m19 f v0 v1=some r):Sp Tryz.prog 19 [Va v0,Va v1] (T2 (Va r.1) (Va r.2)):=by
 unfold m19 at hm;refine ens func19 kr_ I ntmps19 I I λM W a hM hD s=>?_;replace s:=St.mk0 1000 s;refine se (rg (ru 2 s λa w s=>aR 1001 s λb1 a w s=>sqb 1002 s (al (z:=(0:Int))) I I λb2 a w s=>nl ?_));refine se (R 6 s λa w s=>?_);refine cmf s hm (λhb hm=>?_) λhb hm=>?_
 ·refine se (rg (sq s (DO ) I λa w s=>sW s I λw s=>sw (K:=1002) s (t I) I ci I λw s=>nl ?_));obtain rfl:=si hm;refine wpIn_ret (lvm' (KD:=1000) s I I I λa w ha s=>?_);rw [← ha];exact rn hD s I (rv2 (rc (K:=1001) I I) (rc (K:=1002) I I))
 ·refine se (rg (ru 1 s λa w s=>cB s hm (s20 f _) λx3 hm a w s=>ru 4 s λa w s=>aR 1003 s λb4 a w s=>sW s I λw s=>ru 2 s λa w s=>nl ?_));refine se (R 2 s λa w s=>?_);refine cmf s hm (λhb hm=>?_) λhb hm=>?_
  ·refine se (rg (sq s (DO ) I λa w s=>ru 1 s λa w s=>sW s I λw s=>sw (K:=1002) s (t I) I (t I) I λw s=>nl ?_));obtain rfl:=si hm;refine wpIn_ret (lvm' (KD:=1000) s I I I λa w ha s=>?_);rw [← ha];exact rn hD s I (rv2 (rc (K:=1001) I I) (rc (K:=1002) I I))
  ·refine se ?_;obtain ⟨r6,hr6,hm⟩:=bs hm;have gr6:=gF hr6;have er6:=gT hr6;obtain ⟨x5,hx5,gr6⟩:=gk gr6;have:=pko gr6 er6;refine R 7 s λa w s=>?_;refine cmf s hm (λhb hm=>?_) λhb hm=>?_
   ·refine se (rg (sq s (bl62_2 cb) I λa w s=>sW s I λw s=>sw (K:=1002) s (t I) I ci I λw s=>nl ?_));obtain rfl:=si hm;refine wpIn_ret (lvm' (KD:=1000) s I I I λa w ha s=>?_);rw [← ha];exact rn hD s I (rv2 (rc (K:=1001) I I) (rc (K:=1002) I I))
   ·refine se (rg (ru 1 s λa w s=>sqo 1004 s (bso (o1 (t I) o0) I I kr_) I I λc7 a w s=>sq s (bla (L:=[(0,1),(1,1),(2,1)]) (z:=[nz,nz,(.bool false)]) (res:=[c7,nz,(.bool false)]) I kr_ kr_ (pdq (t I) (oco (k:=1004) I) pdn) I I) I λa w s=>aR 1005 s λb8 a w s=>sra (K:=1005) (m:=[c7,nz,(.bool false)]) (cs':=[c7,nz,(.bool false)]) s (t I) I (t I) kr_ I I I λw s=>nl ?_));refine se (rg (sqo 1006 s (bso (o1 (qns (α:=Af) cq) o0) I I kr_) I I λc9 a w s=>sqr 1007 s (alr (cs:=[nz]) (z:=nz) kr_ I I) I I λb10 a w s=>srq (K:=1007) (cs':=[c9]) s (t I) I (t I) kr_ (oco (k:=1006) I) I I λw s=>nl ?_));refine se (se (rg (sqb 1008 s (al (z:=(0:Int))) I I λb11 a w s=>sw (K:=1008) s (t I) I ci I λw s=>nl ?_)));refine Lh (k:=1001) (x:=(⟨([]:List Pair),([]:List Af),false⟩:Ai)) s I (rpS61 (l:=([nz],[nz],[(.bool false)])) (rpn (α:=Pair)) (rpn (α:=Af)) rpb) λs=>?_;refine lb hm (λz12 a w=>∃ (z12c0:Value) (z12c1:Value) (z12c2:Nat) (z12c3:List Nat),St (mfs z12c3 M) W 117 [(0,Va v0),(1,Va v1),(2,Pt v0),(3,Pt v1),(4,Qv (pb b1 0)),(5,Qv (pb b2 0)),(6,Qv (pb b4 0)),(7,Va x3.2.1),(8,Va x3.2.2),(9,Qv (pb b8 0)),(10,Qv (pb b10 0)),(11,Qv (pb z12c2 0)),(1001,Mg b1 z12.1),(1002,Mg b2 z12.2.1),(1003,Mg b4 x3.1),(1005,Mr b8 [z12c0,nz,(.bool false)]),(1004,Ow 69 z12c0 z12.2.2.1),(1007,Mr b10 [z12c1]),(1006,Ow 39 z12c1 z12.2.2.2.1),(1008,Mg z12c2 z12.2.2.2.2),(1000,Dks z12c3)] a w) ⟨c7,c9,b11,([]:List Nat),s.fi⟩ (λ_=>I) (λo13 hko13 n z12 a w hm s=>?_) λo13s hm a w s=>?_
    ·obtain ⟨z12c0,z12c1,z12c2,z12c3,s⟩:=s;unfold Rf at hm;refine se (R 5 s λa w s=>?_);refine cmt s hm (λhb hm=>?_) λhb hm=>?_
     ·refine se (wpIn_block ?_);obtain ⟨x14,hx14,hm⟩:=bk hm;obtain ⟨x15,hx15,hm⟩:=bk hm;refine se (fW 7 s kr_ I I λa w s=>opz (d:=59) [1009,1010] s I (λ_=>I) I λy16 s=>nl ?_);refine wpIn_block ?_;obtain ⟨o36,ho36,hko36⟩:=bs hm;refine rfn (α:=Af) (X:=Value×Value) (σ:=Ai×Int×(List Pair)×(List (List Af))) (pe:=λx=>[Va x]) (gb:=(Gi f v0 v1 z12)) (r:=o36) [(2,Pt v0),(3,Pt v1),(4,Qv (pb b1 0)),(5,Qv (pb b2 0)),(9,Qv (pb b8 0)),(10,Qv (pb b10 0)),(11,Qv (pb z12c2 0))] [.ret] (λz17 n18=>[Mg b1 z17.1,Mg b2 z17.2.1,Mr b8 [n18.1,nz,(.bool false)],Ow 69 n18.1 z17.2.2.1,Mr b10 [n18.2],Ow 39 n18.2 z17.2.2.2,Mg z12c2 z12.2.2.2.2]) (z12.1,z12.2.1,z12.2.2.1,z12.2.2.2.1) (z12c0,z12c1) 1013 1011 1012 [1001,1002,1005,1004,1007,1006,1008] (hMs hM) s (t I) vn (va (k:=1009) I (va (k:=1010) I vn)) (k4 I I I I (k2 I I (kc I kn))) I (λ_ _=>I) (λ_ _ h=>Bk (l:=[2,3,4,5,9,10,11]) h) (zs1 (zs1 (zs1 (zs1 (zs1 (zs1 (zs1 zs0))))))) I I I (λE _ l ihy=>s80 E l (Gi f v0 v1 z12) ihy f _ _ _ _ ho36) (λl fn D tm htm u19 z17 r hm=>?_) (λd37 a w n38 s=>?_)
      ·rcases z17 with ⟨z17,_ | j⟩
       ·unfold Gi at hm;dsimp only at hm;refine Cy.mk (KL:=1011) (KT:=1012) [1001,1002,1005,1004,1007,1006,1008] [60] z17 htm I I I I I I (λ_=>I) λM W a n18 TB hM hD hTB s=>?_;refine rg (sqb 1014 s (al (z:=(⟨(0:Int),(0:Int),false⟩:Af))) I I λb20 a w s=>sw (K:=1014) s (t I) I (t I) I λw s=>nl ?_);refine bgn (K:=1011) s I I λRB w hRB s=>?_;refine wpIn_block ?_;obtain ⟨x21,hx21,hm⟩:=bk hm;obtain ⟨x22,hx22,hm⟩:=bk hm;refine se (Az [] [0,1,2,3,4,5,6,7,8,9,12] [62,63,64,65,66,67,68,69,61,70,13] [61] [] [72,71] [(13,[]),(14,[71]),(15,[72])] s (.skip (.skip (.skip (.cons (.late (.late (.cons (.cons (.cons (.cons (.cons (.cons (.cons (.cons (.cons (.cons .nil I I (ld (t I))) I I (fm_ (off:=0) (m:=0) (q:=0) (t I) kr_ I)) I I (lrc (K:=1005) (List Pair) (t I) I I I I)) I I (lm (K:=1008) (t I) I)) I I (ixq (α:=Pair) (k:=1004) (t I) I (t I) hx21.e)) I I (lq (k:=1004) (t I) I (Fk hx21.e))) I I (lm (K:=1014) (t I) I)) I I (cc I (oc (t I) (oc (t I) (oc (t I) on))) (s22 f _ _ _ _ hx22.e))) I I (mve (t I))) I I (Pn.x30 (t I))) I I (Pn.x31 (t I))) I I (Pn.x32 (t I))) I I (alr (cs:=[nz,nz,nz,nz,nz,nz,nz,nz,nz,nz]) (z:=.agg #[nz,nz,nz,nz,nz,nz,nz,nz,nz,nz]) kr_ I I)) I) I) I) kr_ kr_ I I sw0 I (by decide) I I ?_);refine ⟨⟨λ_=>I,I,.inr ⟨sw0,(sb1 I sb0),sn0⟩⟩,by kernel_rfl,_,I,λΨ a w s=>opr (d:=13) 1015 s I I λb23 s=>swd (K:=1015) s (t I) I (t I) I λw s=>nl ?_⟩;refine nxt Ψ s ?_;refine ⟨⟨λ_=>I,I,.inr ⟨sw0,(sb1 I sb0),sn0⟩⟩,by kernel_rfl,_,I,λΨ a w s=>sq s (sa (t I)) I λa w s=>nl ?_⟩;refine nxt Ψ s ?_;refine ⟨⟨λ_=>I,I,.inr ⟨sw0,(sb1 I sb0),sn0⟩⟩,by kernel_rfl,_,I,λΨ a w s=>sq s (sa (t I)) I λa w s=>nl ?_⟩;refine nxt Ψ s ?_;refine ⟨⟨λ_=>I,I,.inl I⟩,λa w s=>?_⟩;replace s:St M W 117 [(2,Pt v0),(3,Pt v1),(4,Qv (pb b1 0)),(5,Qv (pb b2 0)),(9,Qv (pb b8 0)),(10,Qv (pb b10 0)),(11,Qv (pb z12c2 0)),(12,Qv (pb b20 0)),(13,Qv (pb b23 0)),(14,Va x22.2.1),(15,Va x22.2.2),(60,Va u19),(1001,Mg b1 z17.1),(1002,Mg b2 z17.2.1),(1005,Mr b8 [n18.1,nz,(.bool false)]),(1004,Ow 69 n18.1 z17.2.2.1),(1007,Mr b10 [n18.2]),(1006,Ow 39 n18.2 z17.2.2.2),(1008,Mg z12c2 z12.2.2.2.2),(1014,Mg b20 u19),(1015,Mg b23 x22.1),(1011,RB),(1012,TB)] a w:=s.pick [2,3,4,5,9,10,11,12,13,14,15,60,1001,1002,1005,1004,1007,1006,1008,1014,1015,1011,1012];refine se (R 2 s λa w s=>?_);refine cmf s hm (λhb hm=>?_) λhb hm=>?_
        ·refine se (rg (sq s (DO ) I λa w s=>ru 1 s λa w s=>sw (K:=1001) s (t I) I (t I) I λw s=>sw (K:=1002) s (t I) I (t I) I λw s=>nl ?_));obtain rfl:=si hm;refine wpIn_ret ?_;exact rde (KL:=1011) (KT:=1012) [1001,1002,1005,1004,1007,1006,1008] (some (.ret)) 1 false ((⟨([]:List Pair),([]:List Af),false⟩:Ai),x22.2.2,z17.2.2.1,z17.2.2.2) (n18.1,n18.2) hM s I I hRB hTB (k4 I I I I (k2 I I (kc I kn))) I I I I
        ·obtain ⟨x24,hx24,hm⟩:=bk hm;obtain ⟨x25,hx25,hm⟩:=bk hm;obtain ⟨x27,hx27,hm⟩:=bk hm;refine se (fW 7 s kr_ I I λa w s=>opz (d:=81) [1016] s I (λ_=>I) I λy26 s=>apd (α:=Af) (k:=1016) s (t I) I (t I) hx27.e I I λc28 a w s=>ru 1 s λa w s=>nl ?_);refine se ?_;obtain ⟨r30,hr30,hm⟩:=bs hm;have gr30:=gF hr30;have er30:=gT hr30;obtain ⟨x29,hx29,gr30⟩:=gk gr30;have:=pko gr30 er30;refine R 7 s λa w s=>?_;refine cmf s hm (λhb hm=>?_) λhb hm=>?_
         ·refine se (rg (ru 1 s λa w s=>sq s (bla (L:=[(0,1),(1,1),(2,1)]) (z:=[nz,nz,(.bool false)]) (res:=[nz,c28,(.bool true)]) I kr_ kr_ (pdq (t I) (oco (k:=1016) I) (pdq (bq cb) (ocr I) pdn)) I I) I λa w s=>swr (K:=1001) s (t I) I (t I) I λw s=>sw (K:=1002) s (t I) I ci I λw s=>nl ?_));obtain rfl:=si hm;refine wpIn_ret (fzk (α:=Af) (k:=1016) hM s I λs=>?_);refine Lh (k:=1001) (x:=(⟨([]:List Pair),x27,true⟩:Ai)) s I (rpS61 (l:=([nz],[c28],[(.bool true)])) (rpn (α:=Pair)) (rpz (k:=1016) I) rpb) λs=>?_;exact rde (KL:=1011) (KT:=1012) [1001,1002,1005,1004,1007,1006,1008] (some (.ret)) 1 false ((⟨([]:List Pair),x27,true⟩:Ai),(0:Int),z17.2.2.1,z17.2.2.2) (n18.1,n18.2) hM s I I hRB hTB (k4 I I I I (k2 I I (kc I kn))) I I I I
         ·refine se ?_;obtain ⟨x31,hx31,hm⟩:=bk hm;refine se (rg (ru 3 s λa w s=>sq s (tfg (k:=1004) fl1 I (cc I (oc (ta (k:=1004) (t I) I) (oc (t I) on)) (s41 f _ _ _ hx31.e))) I λa w s=>ru 1 s λa w s=>nl ?_));refine cmf s hm (λhb hm=>?_) λhb hm=>?_
          ·refine wpIn_exit ?_;obtain rfl:=si hm;exact rde (KL:=1011) (KT:=1012) [1001,1002,1005,1004,1007,1006,1008] none 0 true (z17.1,z17.2.1,z17.2.2.1,z17.2.2.2) (n18.1,n18.2) hM s I I hRB hTB (k4 I I I I (k2 I I (kc I kn))) I I I I
          ·refine se (R 5 s λa w s=>?_);refine cmf s hm (λhb hm=>?_) λhb hm=>?_
           ·refine se (rg (sq s (DO ) I λa w s=>sw (K:=1001) s (t I) I (t I) I λw s=>sw (K:=1002) s (t I) I ci I λw s=>nl ?_));obtain rfl:=si hm;refine wpIn_ret ?_;exact rde (KL:=1011) (KT:=1012) [1001,1002,1005,1004,1007,1006,1008] (some (.ret)) 1 false ((⟨([]:List Pair),([]:List Af),false⟩:Ai),(12:Int),z17.2.2.1,z17.2.2.2) (n18.1,n18.2) hM s I I hRB hTB (k4 I I I I (k2 I I (kc I kn))) I I I I
           ·refine fzk (α:=Af) (k:=1016) hM s I λs=>?_;obtain ⟨x32,hx32,hm⟩:=bk hm;obtain ⟨x34,hx34,hm⟩:=bk hm;refine Az [(9,Qv (pb b8 0)),(10,Qv (pb b10 0)),(16,Qv c28),(1016,At c28 (Va x27)),(1900,Rdc b10 0 n18.2)] [0,1,2,3] [105,106,107,108] [] [111] [114,112,111,110] [(4,[]),(8,[112,111,110]),(10,[114]),(11,[])] s (.skip (.skip (.late (.skip (.late (.late (.late (.skip (.cons (.cons (.cons (.cons .nil I I (fm_ (off:=0) (m:=0) (q:=0) (t I) kr_ I)) I I (lrc (K:=1005) (List Pair) (t I) I I I I)) I I (lm (K:=1015) (t I) I)) I I (bsv (o1 (t I) o0) I I kr_)) I) I I (lrd (K:=1900) (t I) I kr_)) I I (mvq (t I))) I I (bsv (o1 (ta (k:=1016) (t I) I) o0) I I kr_)) I) I I (fm_ (off:=0) (m:=0) (q:=0) (t I) kr_ I)) I) I) kr_ kr_ I I (sw1 I (sw1 I (sw1 I (sw1 I (sw2 (K:=1007) I I sw0))))) I (by decide) I I ?_;refine ⟨⟨λ_=>I,I,.inr ⟨(sw1 I (sw1 I (sw1 I (sw1 I (sw2 (K:=1007) I I sw0))))),sb0,(sn2 I sn0)⟩⟩,by kernel_rfl,_,I,λΨ a w s=>apd (α:=Pair) (k:=1004) s (t I) I (t I) hx32.e I I λc33 a w s=>nl ?_⟩;refine nxt Ψ s ?_;refine ⟨⟨λ_=>I,I,.inr ⟨(sw1 I (sw1 I (sw1 I (sw1 I (sw2 (K:=1007) I I sw0))))),sb0,(sn2 I sn0)⟩⟩,by kernel_rfl,_,I,λΨ a w s=>apd (α:=List Af) (k:=1006) s (t I) I (t I) hx34.e I I λc35 a w s=>nl ?_⟩;refine nxt Ψ s ?_;refine ⟨⟨λ_=>I,I,.inr ⟨(sw1 I (sw1 I (sw1 I (sw1 I (sw2 (K:=1007) I I sw0))))),sb0,(sn1 I sn0)⟩⟩,by kernel_rfl,_,I,λΨ a w s=>srq (K:=1005) (cs':=[c33,nz,(.bool false)]) s (t I) I (t I) kr_ (oco (k:=1004) I) I I λw s=>nl ?_⟩;refine nxt Ψ s ?_;refine ⟨⟨λ_=>I,I,.inl I⟩,by kernel_rfl,_,I,λΨ a w s=>srq (K:=1007) (cs':=[c35]) s (t I) I (t I) kr_ (oco (k:=1006) I) I I λw s=>nl ?_⟩;refine nxt Ψ s ?_;refine ⟨⟨λ_=>I,I,.inl I⟩,λa w s=>?_⟩;replace s:St M W 117 [(2,Pt v0),(3,Pt v1),(4,Qv (pb b1 0)),(5,Qv (pb b2 0)),(9,Qv (pb b8 0)),(10,Qv (pb b10 0)),(11,Qv (pb z12c2 0)),(12,Qv (pb b20 0)),(13,Qv (pb b23 0)),(14,Va x22.2.1),(15,Va x22.2.2),(16,Qv c28),(60,Va u19),(1001,Mg b1 z17.1),(1002,Mg b2 z17.2.1),(1005,Mr b8 [c33,nz,(.bool false)]),(1004,Ow 69 c33 x32),(1007,Mr b10 [c35]),(1006,Ow 39 c35 x34),(1008,Mg z12c2 z12.2.2.2.2),(1014,Mg b20 u19),(1015,Mg b23 x22.1),(1016,At c28 (Va x27)),(1011,RB),(1012,TB)] a w:=s.pick [2,3,4,5,9,10,11,12,13,14,15,16,60,1001,1002,1005,1004,1007,1006,1008,1014,1015,1016,1011,1012];obtain rfl:=si hm;exact rde (KL:=1011) (KT:=1012) [1001,1002,1005,1004,1007,1006,1008] none 0 true (z17.1,z17.2.1,x32,x34) (c33,c35) hM s I I hRB hTB (k4 I I I I (k2 I I (kc I kn))) I I I I
       ·unfold Gi at hm;cases hm
      ·replace s:=St.mkc (K:=1000) (k:=1013) s I I I;replace hm:=hko36;rcases bfc hm with ⟨hj,hm⟩ | ⟨hj,hm⟩
       ·refine af0 hj ?_;refine se (R 1 s λa w s=>?_);refine rg (sqb 1018 s (al (z:=(0:Int))) I I λb39 a w s=>sw (K:=1018) s (t I) I (t I) I λw s=>nl ?_);refine rg (ru 2 s λa w s=>sw (K:=1018) s (t I) I (t I) I λw s=>nl ?_);exact ⟨_,hm,⟨n38.1,n38.2,b39,(d37 :: z12c3),s.rekey (l:=[(0,0),(1,1),(2,2),(3,3),(4,4),(5,5),(6,6),(7,7),(8,8),(9,9),(10,10),(11,11),(1001,1001),(1002,1002),(1003,1003),(1005,1005),(1004,1004),(1007,1007),(1006,1006),(1018,1008),(1000,1000)]) (.same I (.same I (.same I (.same I (.same I (.same I (.same I (.same I (.same I (.same I (.same I (.same I (.same I (.same I (.same I (.same I (.same I (.same I (.same I (.key (t:=1018) (u:=1008) I (.same I .nil))))))))))))))))))))) I I⟩⟩
       ·rcases bfc hm with ⟨hj,hm⟩ | ⟨hj,hm⟩
        ·refine af1 (k:=0) hj I ?_;obtain rfl:=si hm;replace hm:=hko13;dsimp only at hm;obtain rfl:=si hm;refine wpIn_ret (lvm' (KD:=1000) s I I I λa w ha s=>?_);rw [← ha];exact rn hD s I (rv2 (rc (K:=1001) I I) (rc (K:=1002) I I))
        ·cases hm
     ·refine wpIn_exit ?_;exact ⟨_,(si hm).symm,⟨z12c0,z12c1,z12c2,z12c3,s.fi⟩⟩
    ·obtain ⟨o13sc0,o13sc1,o13sc2,o13sc3,s⟩:=s;dsimp only at hm;refine se (rg (sq s (lra (K:=1005) (ds:=[o13sc0,nz,(.bool false)]) Ai (t I) I I I I) I λa w s=>swr (K:=1001) s (t I) I (t I) I λw s=>sw (K:=1002) s (t I) I ci I λw s=>nl ?_));obtain rfl:=si hm;refine fzk (α:=Pair) (k:=1004) (hMs hM) s I λs=>?_;refine Lh (k:=1001) (x:=(⟨o13s.2.2.1,([]:List Af),false⟩:Ai)) s I (rpS61 (l:=([o13sc0],[nz],[(.bool false)])) (rpz (k:=1004) I) (rpn (α:=Af)) rpb) λs=>?_;refine wpIn_ret (lvm' (KD:=1000) s I I I λa w ha s=>?_);rw [← ha];exact rn hD s I (rv2 (rc (K:=1001) I I) (rc (K:=1002) I I))
def m9 (f:Nat) (v0:Aa) (v1:Fault) (v2:Int):Option ((List Af)×Bool×Int):=(m18 f v0 v1).bind λx1=>(bif (x1.2 != 0) then some (([]:List Af),false,x1.2) else (m19 f x1.1 v2).bind λx3=>(bif (x3.2 != 0) then some (([]:List Af),false,x3.2) else some (x3.1.run,x3.1.differs,(0:Int))))
theorem s9 (f:Nat) (v0:Aa) (v1:Fault) (v2:Int) (r:(List Af)×Bool×Int) (hm:m9 f v0 v1 v2=some r):Sp Tryz.prog 9 [Va v0,Va v1,Va v2] (T3 (Va r.1) (Va r.2.1) (Va r.2.2)):=by
 unfold m9 at hm;refine ens func9 kr_ I ntmps9 I I λM W a hM hD s=>?_;refine R 5 s λa w s=>?_;refine se (rg (ru 2 s λa w s=>cB s hm (s18 f _ _) λx1 hm a w s=>ru 3 s λa w s=>aR 1000 s λb2 a w s=>sW s I λw s=>ru 1 s λa w s=>nl ?_));refine se (R 2 s λa w s=>?_);refine cmf s hm (λhb hm=>?_) λhb hm=>?_
 ·refine R 4 s λa w s=>?_;cases hm;exact rV hD s I I
 ·refine se (rg (ru 2 s λa w s=>cB s hm (s19 f _ _) λx3 hm a w s=>ru 3 s λa w s=>aR 1001 s λb4 a w s=>sW s I λw s=>ru 1 s λa w s=>nl ?_));refine se (R 2 s λa w s=>?_);refine cmf s hm (λhb hm=>?_) λhb hm=>?_
  ·refine R 4 s λa w s=>?_;cases hm;exact rV hD s I I
  ·refine se (Az [(11,Qv (pb b4 0)),(1001,Mg b4 x3.1)] [0,1] [30,31] [] [32] [33,32] [(4,[]),(5,[33,32]),(6,[])] s (.skip (.skip (.skip (.late (.late (.cons (.cons .nil I I (fm_ (off:=1) (m:=0) (q:=1) (t I) kr_ I)) I I (lf (K:=1001) (f:=Ai.run) (t I) I)) I I (fm_ (off:=2) (m:=0) (q:=2) (t I) kr_ I)) I I (lf (K:=1001) (f:=Ai.differs) (t I) I)) I) I) I) kr_ kr_ I I (sw1 I (sw1 I sw0)) I (by decide) I I ?_);refine ⟨⟨λ_=>I,I,.inr ⟨(sw1 I (sw1 I sw0)),sb0,(sn2 I sn0)⟩⟩,by kernel_rfl,_,I,λΨ a w s=>sq s (sa (t I)) I λa w s=>nl ?_⟩;refine nxt Ψ s ?_;refine ⟨⟨λ_=>I,I,.inr ⟨(sw1 I (sw1 I sw0)),sb0,(sn2 I sn0)⟩⟩,by kernel_rfl,_,I,λΨ a w s=>sq s (sa (t I)) I λa w s=>nl ?_⟩;refine nxt Ψ s ?_;refine ⟨⟨λ_=>I,I,.inl I⟩,by kernel_rfl,_,I,λΨ a w s=>sq s (sa ci) I λa w s=>nl ?_⟩;refine nxt Ψ s ?_;refine ⟨⟨λ_=>I,I,.inl I⟩,λa w s=>?_⟩;replace s:St M W 34 [(0,Va v0),(1,Va v1),(2,Va v2),(3,Pt v0),(4,Pt v1),(6,Va x3.1.run),(7,Va x3.1.differs),(8,Va ((0:Int))),(9,Qv (pb b2 0)),(10,Va x3.2),(11,Qv (pb b4 0)),(1000,Mg b2 x1.1),(1001,Mg b4 x3.1)] a w:=s.pick [0,1,2,3,4,6,7,8,9,10,11,1000,1001];cases hm;exact rV hD s I I
def Dw (f:Nat) (v2:List Af) (x1:World_detect×Int):Nat->(Int×Bool×Int×Pair)->Option (Lo (Int×Bool×Int×Pair) (Int×Bool×Int))
 | 0,_=>none
 | n+1,z7=>(bif (decide (z7.2.2.1 < (v2.length:Int))) then (idx v2 z7.2.2.1).bind λx9=>(m22 f x1.1 z7.2.2.2 x9).bind λx11=>(bif (x11.2.2 != 0) then some (.ret ((0:Int),false,x11.2.2)) else (bif (!x11.2.1) then some true else (m21 f x1.1 x11.1).bind λx12=>some x12).bind λr13=>(bif r13 then some (.ret ((wr (z7.2.2.1 + 1)),true,(0:Int))) else Dw f v2 x1 n (x11.2.2,x11.2.1,(wr (z7.2.2.1 + 1)),x11.1))) else some (.brk (z7.1,z7.2.1,z7.2.2.1,z7.2.2.2)))
def m10 (f:Nat) (v0:Aa) (v1:Fault) (v2:List Af):Option (Int×Bool×Int):=(m18 f v0 v1).bind λx1=>(bif (x1.2 != 0) then some ((0:Int),false,x1.2) else (m20 f x1.1).bind λx3=>(bif (x3.2.2 != 0) then some ((0:Int),false,x3.2.2) else (bif (decide ((v2.length:Int) > 4096)) then some ((0:Int),false,(5:Int)) else (bif (!x3.2.1) then some true else (m21 f x1.1 x3.1).bind λx5=>some x5).bind λr6=>(bif r6 then some ((0:Int),true,(0:Int)) else ((Dw f v2 x1 f (x3.2.2,x3.2.1,(0:Int),x3.1)).bind λo8=>match o8 with | .brk o8s=>some ((v2.length:Int),false,(0:Int)) | .ret r=>some r)))))
theorem s10 (f:Nat) (v0:Aa) (v1:Fault) (v2:List Af) (r:Int×Bool×Int) (hm:m10 f v0 v1 v2=some r):Sp Tryz.prog 10 [Va v0,Va v1,Va v2] (T3 (Va r.1) (Va r.2.1) (Va r.2.2)):=by
 unfold m10 at hm;refine ens func10 kr_ I ntmps10 I I λM W a hM hD s=>?_;refine R 5 s λa w s=>?_;refine se (rg (ru 2 s λa w s=>cB s hm (s18 f _ _) λx1 hm a w s=>ru 3 s λa w s=>aR 1000 s λb2 a w s=>sW s I λw s=>ru 1 s λa w s=>nl ?_));refine se (R 2 s λa w s=>?_);refine cmf s hm (λhb hm=>?_) λhb hm=>?_
 ·refine R 4 s λa w s=>?_;cases hm;exact rV hD s I I
 ·refine se (rg (ru 1 s λa w s=>cB s hm (s20 f _) λx3 hm a w s=>ru 4 s λa w s=>aR 1001 s λb4 a w s=>sW s I λw s=>ru 2 s λa w s=>nl ?_));refine se (R 2 s λa w s=>?_);refine cmf s hm (λhb hm=>?_) λhb hm=>?_
  ·refine R 4 s λa w s=>?_;cases hm;exact rV hD s I I
  ·refine se (R 3 s λa w s=>?_);refine cmf s hm (λhb hm=>?_) λhb hm=>?_
   ·refine R 3 s λa w s=>?_;cases hm;exact rV hD s I I
   ·refine se ?_;obtain ⟨r6,hr6,hm⟩:=bs hm;have gr6:=gF hr6;have er6:=gT hr6;obtain ⟨x5,hx5,gr6⟩:=gk gr6;have:=pko gr6 er6;refine R 7 s λa w s=>?_;refine cmf s hm (λhb hm=>?_) λhb hm=>?_
    ·refine R 3 s λa w s=>?_;cases hm;exact rV hD s I I
    ·refine se (R 3 s λa w s=>?_);refine lB hm [0,1,2,3,4,6,7,8,9,11,43,44,1000] s (λz7=>[(10,Va z7.1),(12,Va z7.2.1),(45,Va z7.2.2.1),(1001,Mg b4 z7.2.2.2)]) s.fi (λ_=>I) (λo8 hko8 n z7 a w hm s=>?_) λo8s hm a w s=>?_
     ·unfold Dw at hm;refine R 1 s λa w s=>?_;refine se (cmt s hm (λhb hm=>?_) λhb hm=>?_)
      ·refine se (wpIn_block ?_);refine se (rg (ru 1 s λa w s=>iB s hm λx9 hm a w s=>ru 1 s λa w s=>sqb 1002 s (al (z:=(⟨(0:Int),(0:Int),false⟩:Af))) I I λb10 a w s=>ru 1 s λa w s=>sw (K:=1002) s (t I) I (t I) I λw s=>nl ?_));refine se (se (rg (ru 3 s λa w s=>cB s hm (s22 f _ _ _) λx11 hm a w s=>ru 4 s λa w s=>sw (K:=1001) s (t I) I (t I) I λw s=>ru 2 s λa w s=>nl ?_)));refine R 2 s λa w s=>?_;refine cmf s hm (λhb hm=>?_) λhb hm=>?_
       ·refine R 4 s λa w s=>?_;obtain rfl:=si hm;replace hm:=hko8;dsimp only at hm;cases hm;exact rV hD s I I
       ·obtain ⟨r13,hr13,hm⟩:=bs hm;have gr13:=gF hr13;have er13:=gT hr13;obtain ⟨x12,hx12,gr13⟩:=gk gr13;have:=pko gr13 er13;refine R 7 s λa w s=>?_;refine cmf s hm (λhb hm=>?_) λhb hm=>?_
        ·refine R 5 s λa w s=>?_;obtain rfl:=si hm;replace hm:=hko8;dsimp only at hm;cases hm;exact rV hD s I I
        ·refine R0 2 s λa w s=>?_;exact ⟨_,hm,s.fi⟩
      ·refine wpIn_exit ?_;exact ⟨_,(si hm).symm,s.fi⟩
     ·dsimp only at hm;refine R 5 s λa w s=>?_;cases hm;exact rV hD s I I
def m3 (f:Nat) (v0:Ah) (v1:Fault):Option (Bool):=(m4 f v0 (3:Int)).bind λx1=>(bif ((!x1) || (decide (v0.Actuators > 2))) then some true else (m5 f v1.Kind).bind λx2=>some x2).bind λr3=>(bif r3 then (m6 f).bind λx4=>some x4 else (m7 f v0).bind λx5=>(bif (x5.2 != 0) then some false else (m8 f x5.1 v1).bind λx7=>(bif (x7 != 0) then (m6 f).bind λx8=>some x8 else (m9 f x5.1 v1 (300:Int)).bind λx9=>(bif (x9.2.2 == 12) then (m6 f).bind λx10=>some x10 else (m10 f x5.1 v1 x9.1).bind λx11=>(bif (((((x9.2.2 == 0) && x9.2.1) && (x11.2.2 == 0)) && x11.2.1) && (x11.1 == (x9.1.length:Int))) then (m6 f).bind λx12=>some x12 else some false).bind λr13=>some r13))))
theorem s3 (f:Nat) (v0:Ah) (v1:Fault) (r:Bool) (hm:m3 f v0 v1=some r):Sp Tryz.prog 3 [TV (Va v0),Va v1] (Va r):=by
 unfold m3 at hm;refine ens func3 kr_ I ntmps3 I I λM W a hM hD s=>?_;refine ntb (d:=0) 1990 s I I λs=>?_;refine R 3 s λa w s=>?_;refine se ?_;obtain ⟨x1,hx1,hm⟩:=bk hm;obtain ⟨r3,hr3,hm⟩:=bs hm;have gr3:=gF hr3;have er3:=gT hr3;obtain ⟨x2,hx2,gr3⟩:=gk gr3;have:=pko gr3 er3;refine R 13 s λa w s=>?_;refine cmf s hm (λhb hm=>?_) λhb hm=>?_
 ·refine se (rg (cB s hm (s6 f) λx4 hm a w s=>ru 1 s λa w s=>nl ?_));cases hm;exact rT hD s I I
 ·obtain ⟨x5,hx5,hm⟩:=bk hm;refine se (rg (ru 1 s λa w s=>sq s (cc I (oc (otb (k:=1990) (t I) I) on) (s7 f _ _ hx5.e)) I λa w s=>ru 3 s λa w s=>aR 1000 s λb6 a w s=>sW s I λw s=>ru 1 s λa w s=>nl ?_));refine se (R 2 s λa w s=>?_);refine cmf s hm (λhb hm=>?_) λhb hm=>?_
  ·refine R 1 s λa w s=>?_;cases hm;exact rT hD s I I
  ·refine se (se (rg (ru 2 s λa w s=>cB s hm (s8 f _ _) λx7 hm a w s=>ru 1 s λa w s=>nl ?_)));refine cmf s hm (λhb hm=>?_) λhb hm=>?_
   ·refine se (rg (cB s hm (s6 f) λx8 hm a w s=>ru 1 s λa w s=>nl ?_));cases hm;exact rT hD s I I
   ·refine se (rg (ru 2 s λa w s=>cB s hm (s9 f _ _ _) λx9 hm a w s=>ru 7 s λa w s=>nl ?_));refine se (R 2 s λa w s=>?_);refine cmf s hm (λhb hm=>?_) λhb hm=>?_
    ·refine se (rg (cB s hm (s6 f) λx10 hm a w s=>ru 1 s λa w s=>nl ?_));cases hm;exact rT hD s I I
    ·refine se (rg (ru 3 s λa w s=>cB s hm (s10 f _ _ _) λx11 hm a w s=>ru 7 s λa w s=>nl ?_));obtain ⟨r13,hr13,hm⟩:=bs hm;have gr13:=gT hr13;have er13:=gF hr13;obtain ⟨x12,hx12,gr13⟩:=gk gr13;have:=pka gr13 er13;refine R 22 s λa w s=>?_;cases hm;exact rT hD s I I
end Go.Pn
namespace Go.Pn
theorem Aq {x:Int} (h1:-9223372036854775808<=x) (h2:x<=9223372036854775807):wr x=x:=by
 simp only [wr,IntKind.wrap,IntKind.bits,IntKind.signed];simp;omega
theorem Ak {α:Type} {xs:List α} {n:Nat}:idx xs (n:Int)=xs[n]?:=by simp [idx]
theorem Ns {α:Type} {xs:List α} {i:Int} (h0:0<=i) (h:i < xs.length):∃ x,idx xs i=some x/\x∈xs:=by
 have h1:i.toNat < xs.length:=by omega
 exact ⟨xs[i.toNat],by simp [idx,h0,h1],E9 h1⟩
end Go.Pn
namespace Go.Pn
open Go
theorem Ao {i:Nat} (h:i < 4611686018427387904):wr ((i:Int) + 1)=((i + 1:Nat):Int):=by
 rw [Aq om_ om_];rfl
theorem Al {i n:Nat}:decide ((i:Int) < (n:Int))=decide (i < n):=by
 simp
def FF:Nat:=100000
def bad (n:Nat) (k:Int):Bool:=decide (k < 0) || decide (k>=(n:Int))
end Go.Pn
namespace Go.Pn
theorem lT {i n : Nat} {α : Type} {a b : α} (h : i < n) : (bif decide ((i : Int) < (n : Int)) then a else b) = a := by rw [Al, decide_eq_true h]; rfl
theorem lF {i n : Nat} {α : Type} {a b : α} (h : ¬ i < n) : (bif decide ((i : Int) < (n : Int)) then a else b) = b := by rw [Al, decide_eq_false h]; rfl
theorem iX {α β : Type} {xs : List α} {i : Nat} {f : α → Option β} (h : i < xs.length) : (idx xs (i : Int)).bind f = f xs[i] := by rw [Ak, FY h]; rfl
theorem uF {p : Prop} (h : p := by unfold FF; omega) : p := h
end Go.Pn
namespace Go.Pn
open Go
theorem He {κ β:Type} {eqb:κ->κ->Bool} {k:κ}:∀ {m:List (κ×β)} {i:Nat},Cq eqb k m (i + 1)=(Cq eqb k m i).map λq=>(q.1 + 1,q.2)
 | [],_=>rfl
 | (k',y) :: m,i=>by
  unfold Cq;split
  ·rfl
  ·exact He
theorem Jb {κ ν:Type} {eqb:κ->κ->Bool} {m:List (κ×ν)} {k k':κ} {y:ν}:mat eqb ((k',y) :: m) k=if eqb k k' then some y else mat eqb m k:=by
 unfold mat
 rw [Cq];split
 ·rfl
 ·rw [He,Option.map_map];rfl
theorem Yi {κ ν:Type} {eqb:κ->κ->Bool} {m:List (κ×ν)} {k k':κ} {y z:ν}:BN eqb ((k',z) :: m) k y=if eqb k k' then (k',y) :: m else (k',z) :: BN eqb m k y:=by
 unfold BN;rw [Cq];by_cases h:eqb k k'=true
 ·rw [if_pos h,if_pos h];rfl
 ·rw [if_neg h,if_neg h,He];cases Cq eqb k m 0 with
  | none=>rfl
  | some q=>rfl
end Go.Pn
namespace Go.Pn
open Go
theorem Sk {α:Type} {p:α->Bool} {x:α} {l:List α}:(x :: l).findIdx? p=if p x then some 0 else (l.findIdx? p).map (· + 1):=by
 rw [List.findIdx?_cons]
end Go.Pn
namespace Go.Pn
open Go
theorem BR {α β:Type} {L:Nat->Int->Option (Lo Int β)} {xs:List α} {p:Int->α->Option Bool} {q:α->Bool} {r:Int->β}
  (h:∀ n z,L (n + 1) z=(bif decide (z < (xs.length:Int)) then (idx xs z).bind λx=>(p z x).bind λb=>bif b then some (.ret (r z)) else L n (wr (z + 1)) else some (.brk z)))
  (hl:xs.length < 4611686018427387904) (hq:∀ (i:Nat) x,xs[i]?=some x->p i x=some (q x)) :
  ∀ (n i:Nat),i<=xs.length->xs.length - i < n->L n i=match (xs.drop i).findIdx? q with
   | some j=>some (.ret (r ((i + j:Nat):Int)))
   | none=>some (.brk (xs.length:Int))
 | 0,i,_,h=>by omega
 | n + 1,i,h1,h2=>by
  rw [h];by_cases hi:i < xs.length
  ·have hx:xs[i]?=some xs[i]:=gE_ hi;rw [Al,dt_ hi,ct_,Ak,hx,ob_,hq i _ hx,ob_,F5 hi,Sk];cases q xs[i] with
   | true=>rfl
   | false=>
    rw [cf_,Ao om_,BR h hl hq n (i + 1) om_ om_,if_neg As];cases (xs.drop (i + 1)).findIdx? q with
    | none=>rfl
    | some j=>
     show some (Lo.ret (r ((i + 1 + j:Nat):Int)))=some (Lo.ret (r ((i + (j + 1):Nat):Int)));rw [show i + 1 + j=i + (j + 1) by omega]
  ·rw [Al,df_ hi,cf_,FN om_];have:i=xs.length:=by omega
   subst this;rfl
theorem eqls {α:Type} [BEq α] [LawfulBEq α] {L:Nat->Int->Option (Lo Int Bool)} {xs ys:List α}
  (h:∀ n z,L (n + 1) z=(bif decide (z < (xs.length:Int)) then (idx xs z).bind λx=>(idx ys z).bind λy=>bif x != y then some (.ret false) else L n (wr (z + 1)) else some (.brk z)))
  (hl:xs.length < 4611686018427387904) (he:xs.length=ys.length) :
  ∀ (n i:Nat),i<=xs.length->xs.length - i < n->L n i=if xs.drop i == ys.drop i then some (.brk (xs.length:Int)) else some (.ret false)
 | 0,i,_,h=>by omega
 | n + 1,i,h1,h2=>by
  rw [h];by_cases hi:i < xs.length
  ·have hi2:i < ys.length:=by omega
   rw [Al,dt_ hi,ct_,Ak,gE_ hi,ob_,Ak,gE_ hi2,ob_,F5 hi,F5 hi2];by_cases hx:xs[i]=ys[i]
   ·rw [show (xs[i] != ys[i])=false by simp [hx],cf_,Ao om_,eqls h hl he n (i + 1) om_ om_];rw [List.cons_beq_cons,show (xs[i] == ys[i])=true by simpa using hx,GS]
   ·rw [show (xs[i] != ys[i])=true by simp [hx],ct_];simp [hx]
  ·rw [Al,df_ hi,cf_,FN om_,FN om_];have:i=xs.length:=by omega
   subst this;simp
theorem eqls0 {α:Type} [BEq α] [LawfulBEq α] {L:Nat->Int->Option (Lo Int Bool)} {xs ys:List α} {f:Nat}
  (h:∀ n z,L (n + 1) z=(bif decide (z < (xs.length:Int)) then (idx xs z).bind λx=>(idx ys z).bind λy=>bif x != y then some (.ret false) else L n (wr (z + 1)) else some (.brk z)))
  (hl:xs.length < 4611686018427387904) (hf:xs.length < f) :
  (bif ((xs.length:Int) != (ys.length:Int)) then some false else ((L f (0:Int)).bind λo2=>match o2 with | .brk o2s=>some true | .ret r=>some r))=some (xs == ys):=by
 by_cases he:xs.length=ys.length
 ·rw [show ((xs.length:Int) != (ys.length:Int))=false by simp [he],cf_];have:=eqls h hl he f 0 om_ om_;have h0:((0:Nat):Int)=0:=rfl;rw [h0,GG,GG] at this;rw [this];cases xs == ys <;> rfl
 ·rw [show ((xs.length:Int) != (ys.length:Int))=true by simp;omega,ct_];have:xs≠ys:=λe=>he (by rw [e]);rw [show (xs == ys)=false by simpa using this]
theorem Pb {f:Nat} {xs ys:List Int} (hl:xs.length < 4611686018427387904) (hf:xs.length < f):m43 f xs ys=some (xs == ys):=by
 unfold m43;exact eqls0 (L:=Vi xs ys) (λ_ _=>rfl) hl hf
theorem Jh {f:Nat} {xs ys:List Bool} (hl:xs.length < 4611686018427387904) (hf:xs.length < f):m44 f xs ys=some (xs == ys):=by
 unfold m44;exact eqls0 (L:=Vh xs ys) (λ_ _=>rfl) hl hf
def sst (a b:Ad):Bool:=(a.Ends == b.Ends) && (a.Valves == b.Valves) && (a.Inputs == b.Inputs) && (a.Values == b.Values) && (a.Timers == b.Timers)
theorem Dm {a b:Ad}:sst a b=true↔a=b:=by
 cases a;cases b
 simp [sst,and_assoc]
theorem Fv (a:Ad):sst a a=true:=Dm.2 rfl
structure Smst (s:Ad) (n:Nat):Prop where
 e:s.Ends.length<=n
 v:s.Valves.length<=n
 i:s.Inputs.length<=n
 x:s.Values.length<=n
 t:s.Timers.length<=n
theorem Dv {f n:Nat} {a b:Ad} (h:Smst a n) (hn:n < f) (hn2:n < 4611686018427387904):m111 f a b=some (sst a b):=by
 obtain ⟨h1,h2,h3,h4,h5⟩:=h;unfold m111 sst;rw [Pb om_ om_,Jh om_ om_,Jh om_ om_,Jh om_ om_,Pb om_ om_];cases a.Ends == b.Ends <;> cases a.Valves == b.Valves <;> cases a.Inputs == b.Inputs <;> cases a.Values == b.Values <;> cases a.Timers == b.Timers <;> rfl
theorem Lp:∀ {a b:List Int},a.Pairwise (· < ·)->b.Pairwise (· < ·)->(∀ k,k∈a↔k∈b)->a=b
 | [],[],_,_,_=>rfl
 | [],y :: b,_,_,h=>absurd ((h y).2 As) As
 | x :: a,[],_,_,h=>absurd ((h x).1 As) As
 | x :: a,y :: b,ha,hb,h=>by
  obtain ⟨ha1,ha2⟩:=HK.1 ha;obtain ⟨hb1,hb2⟩:=HK.1 hb;have hxy:x=y:=by
   rcases FG.1 ((h x).1 As) with e | e
   ·exact e
   ·rcases FG.1 ((h y).2 As) with e2 | e2
    ·exact e2.symm
    ·have:=hb1 x e;have:=ha1 y e2;omega
  subst hxy;rw [Lp ha2 hb2 λk=>⟨λhk=>?_,λhk=>?_⟩]
  ·rcases FG.1 ((h k).1 (by simp [hk])) with e | e
   ·subst e;have:=ha1 k hk;omega
   ·exact e
  ·rcases FG.1 ((h k).2 (by simp [hk])) with e | e
   ·subst e;have:=hb1 k hk;omega
   ·exact e
end Go.Pn
namespace Go.Pn
open Go
theorem cs_ {α:Type} {c:Bool} {a b:α}:(bif c then some a else some b)=some (bif c then a else b):=by cases c <;> rfl
theorem n0:((0:Nat):Int)=0:=rfl
def szd:Nat->Expr->Nat
 | 0,_=>0
 | d + 1,x=>1 + (x.Args.map (szd d)).sum
def Szb (x:Expr) (n:Nat):Prop:=∀ d,szd d x<=n
def dp:Nat->Expr->Prop
 | 0,_=>False
 | d + 1,x=>x.Args.length<=256/\∀ y∈x.Args,dp d y
theorem D8:∀ {l:List Nat} {n:Nat},n∈l->n<=l.sum
 | a :: l,n,h=>by
  rw [List.sum_cons];rcases FG.1 h with rfl | h
  ·omega
  ·have:=D8 h;omega
theorem Szb.arg {x y:Expr} {n:Nat} (h:Szb x n) (hy:y∈x.Args):Szb y n:=λd=>by
 have h1:=h (d + 1);have h2:=D8 (FE.2 ⟨y,hy,rfl⟩:szd d y∈x.Args.map (szd d));unfold szd at h1;omega
theorem Ue:∀ {l:List Expr},l.length<=(l.map (szd 1)).sum
 | []=>by simp
 | x :: l=>by
  have:=Ue (l:=l);have h1:1<=szd 1 x:=by unfold szd;omega
  simp only [FC,List.sum_cons,GY];omega
theorem BP {d:Nat} {x:Expr}:szd (d + 1) x=1 + (x.Args.map (szd d)).sum:=rfl
theorem Szb.len {x:Expr} {n:Nat} (h:Szb x n):x.Args.length < n:=by
 have h1:=h 2;rw [BP] at h1;have:=Ue (l:=x.Args);omega
theorem Ud {l:List Nat} {i:Nat} (h:i < l.length):(l.take (i + 1)).sum=(l.take i).sum + l[i]:=by
 rw [HF,gE_ h,List.sum_append];simp
theorem Zd:∀ (k f:Nat) (x:Expr),k<=256->k + 300<=f->∃ r:Nat,m135 f x k=some (r:Int)/\1<=r/\r<=k + 1/\(r<=k->Szb x r):=by
 intro k
 induction k using Nat.strongRecOn with
 | ind k ih=>
  intro f x hk hf;obtain ⟨f,rfl⟩:∃ f',f=f' + 1:=⟨f - 1,by omega⟩;have loop:∀ (n i z:Nat),i<=x.Args.length->i + 1<=z->z<=k + 1->k + 1 - z < n->(z<=k->∀ d,1 + ((x.Args.map (szd d)).take i).sum<=z) ->
    ∃ r e:Nat,Cd (m135 f) x k n ((z:Int),(i:Int))=some ((r:Int),(e:Int))/\1<=r/\r<=k + 1/\(r<=k->Szb x r):=by
   intro n
   induction n with
   | zero=>intro i z _ _ _ h;omega
   | succ n ihn=>
    intro i z hi hz1 hz2 hn hs;unfold Cd;dsimp only;rw [Al];have hle:decide ((z:Int)<=(k:Int))=decide (z<=k):=by simp
    rw [hle];by_cases h1:i < x.Args.length
    ·by_cases h2:z<=k
     ·rw [dt_ h1,dt_ h2,GN,ct_,Ak,gE_ h1,ob_,Aq om_ om_];obtain ⟨r,hr,hr1,hr2,hr3⟩:=ih (k - z) om_ f x.Args[i] om_ om_;rw [show (k:Int) - (z:Int)=((k - z:Nat):Int) by omega,hr,ob_,Aq om_ om_,show wr ((i:Int) + 1)=((i + 1:Nat):Int) from Ao om_];rw [show (z:Int) + (r:Int)=((z + r:Nat):Int) by omega];refine ihn (i + 1) (z + r) om_ om_ om_ om_ λhle d=>?_;rw [Ud (by simpa using h1)];have h5:=hs h2 d;have h6:=hr3 om_ d;simp only [JC];omega
     ·rw [df_ h2,HD,cf_];exact ⟨z,i,rfl,by omega,hz2,λh=>absurd h h2⟩
    ·rw [df_ h1,JH,cf_];refine ⟨z,i,rfl,by omega,hz2,λh d=>?_⟩;cases d with
     | zero=>unfold szd;omega
     | succ d=>
      have:=hs h d;rw [HU so_] at this;unfold szd;omega
  unfold m135;obtain ⟨r,e,h1,h2⟩:=loop f 0 1 om_ om_ om_ om_ (λ_ d=>by simp);have e1:((1:Nat):Int)=1:=rfl;rw [n0,e1] at h1;rw [h1];exact ⟨r,rfl,h2⟩
theorem Rm:∀ (k f:Nat) (x:Expr),Szb x 256->k<=256->k + 300<=f->∃ b,m136 f x k=some b/\(b=true->dp k x)
 | 0,f,x,_,_,hf=>by
  obtain ⟨f,rfl⟩:∃ f',f=f' + 1:=⟨f - 1,by omega⟩;exact ⟨false,rfl,by simp⟩
 | k + 1,f,x,hs,hk,hf=>by
  obtain ⟨f,rfl⟩:∃ f',f=f' + 1:=⟨f - 1,by omega⟩;have hl:=hs.len;unfold m136;rw [show decide (((k + 1:Nat):Int) < 1)=false by simp;omega,cf_];by_cases h1:k=0
  ·subst h1;rw [show ((((0 + 1:Nat):Int)) == 1)=true by simp,ct_];refine ⟨_,rfl,λh=>⟨by omega,λy hy=>?_⟩⟩;have:x.Args.length=0:=by simpa using h
   rw [HE this] at hy;simp at hy
  ·rw [show ((((k + 1:Nat):Int)) == 1)=false by simp;omega,cf_];have loop:∀ (n i:Nat),i<=x.Args.length->x.Args.length - i < n ->
     Bu (m136 f) x ((k + 1:Nat):Int) n (i:Int)=some (.ret false)\/((∃ e,Bu (m136 f) x ((k + 1:Nat):Int) n (i:Int)=some (.brk e))/\∀ y∈x.Args.drop i,dp k y):=by
    intro n
    induction n with
    | zero=>intro i _ h;omega
    | succ n ihn=>
     intro i hi hn;unfold Bu;by_cases h2:i < x.Args.length
     ·rw [Al,dt_ h2,ct_,Ak,gE_ h2,ob_,Aq om_ om_,show ((k + 1:Nat):Int) - 1=(k:Int) by omega];obtain ⟨b,hb,hb2⟩:=Rm k f x.Args[i] (hs.arg (E9 h2)) om_ om_;rw [hb,ob_];cases b with
      | false=>exact .inl rfl
      | true=>
       rw [nt_,cf_,Ao om_];rcases ihn (i + 1) om_ om_ with h | ⟨h,h3⟩
       ·exact .inl h
       ·refine .inr ⟨h,?_⟩;rw [F5 h2];exact λy hy=>(FG.1 hy).elim (λe=>e ▸ hb2 rfl) (h3 y)
     ·rw [Al,df_ h2,cf_];refine .inr ⟨⟨_,rfl⟩,?_⟩;rw [FN om_];simp
   have h0:((0:Nat):Int)=0:=rfl;rcases loop f 0 om_ om_ with h | ⟨⟨e,h⟩,h3⟩
   ·rw [h0] at h;rw [h];exact ⟨false,rfl,by simp⟩
   ·rw [h0] at h;rw [h];exact ⟨true,rfl,λ_=>⟨by omega,by simpa using h3⟩⟩
structure Lt_ (x:Expr):Prop where
 sz:Szb x 256
 dp:dp 16 x
theorem Zq {f:Nat} (hf:600<=f) (x:Expr):∃ b,m102 f x=some b/\(b=true->Lt_ x):=by
 unfold m102;obtain ⟨r,hr,hr1,hr2,hr3⟩:=Zd 256 f x om_ om_;rw [show (256:Int)=((256:Nat):Int) from rfl,hr,ob_];by_cases h:r<=256
 ·rw [show decide ((r:Int)<=((256:Nat):Int))=true by simpa using (by omega:(r:Int)<=256),ct_];have hs:Szb x 256:=λd=>F6 (hr3 h d) h;obtain ⟨b,hb,hb2⟩:=Rm 16 f x hs om_ om_;rw [show (16:Int)=((16:Nat):Int) from rfl,hb];exact ⟨b,rfl,λh=>⟨hs,hb2 h⟩⟩
 ·rw [show decide ((r:Int)<=((256:Nat):Int))=false by simpa using (by omega:¬ (r:Int)<=256),cf_];exact ⟨false,rfl,by simp⟩
def nod (n:Int) (v0:Expr):Int:=bif ((decide ((v0).Op < 0)) || (decide ((v0).Op>=(5:Int)))) then (1:Int) else (bif ((((decide ((v0).Op<=(1:Int))) && ((((v0).Args).length:Int) != 0)) || (((v0).Op == 2) && ((((v0).Args).length:Int) != 1))) || ((decide ((v0).Op>=(3:Int))) && (decide ((((v0).Args).length:Int) < 2)))) then (3:Int) else (bif ((decide ((v0).Index < 0)) || (decide ((v0).Index>=(bif ((v0).Op == 1) then n else bif ((v0).Op == 0) then (2:Int) else (1:Int))))) then (2:Int) else (0:Int)))
theorem Za (f:Nat) (x:Expr) (n:Int):m137 f x n=some (nod n x):=by
 unfold m137 nod;simp only [cs_,ob_]
theorem Gb {n:Int} {x:Expr} (h:nod n x=0):0<=x.Op/\x.Op < 5/\(x.Op<=1->x.Args=[])/\(x.Op=2->x.Args.length=1)/\(3<=x.Op->2<=x.Args.length)/\0<=x.Index/\(x.Op=1->x.Index < n):=by
 unfold nod at h;cases h1:((decide ((x).Op < 0)) || (decide ((x).Op>=(5:Int)))) with
 | true=>rw [h1] at h;cases h
 | false=>
  rw [h1,cf_] at h;cases h2:((((decide ((x).Op<=(1:Int))) && ((((x).Args).length:Int) != 0)) || (((x).Op == 2) && ((((x).Args).length:Int) != 1))) || ((decide ((x).Op>=(3:Int))) && (decide ((((x).Args).length:Int) < 2)))) with
  | true=>rw [h2] at h;cases h
  | false=>
   rw [h2,cf_] at h;cases h3:((decide ((x).Index < 0)) || (decide ((x).Index>=(bif ((x).Op == 1) then n else bif ((x).Op == 0) then (2:Int) else (1:Int))))) with
   | true=>rw [h3] at h;cases h
   | false=>
    simp only [HP,HM,decide_eq_false_iff_not,bne_eq_false_iff_eq,beq_eq_false_iff_ne,ne_eq] at h1 h2 h3;obtain ⟨h1a,h1b⟩:=h1;obtain ⟨⟨h2a,h2b⟩,h2c⟩:=h2;obtain ⟨h3a,h3b⟩:=h3;refine ⟨by omega,by omega,λh=>?_,λh=>?_,λh=>?_,by omega,λh=>?_⟩
    ·refine HE ?_;rcases h2a with h4 | h4 <;> omega
    ·rcases h2b with h4 | h4 <;> omega
    ·rcases h2c with h4 | h4 <;> omega
    ·rw [h] at h3b;simp at h3b;omega
def fnz:List Int->Int
 | []=>0
 | a :: l=>if a=0 then fnz l else a
theorem Vy:∀ {l:List Int},fnz l=0->∀ a∈l,a=0
 | a :: l,h,b,hb=>by
  unfold fnz at h;split at h
  ·rename_i h0;rcases FG.1 hb with rfl | hb
   ·exact h0
   ·exact Vy h b hb
  ·contradiction
def chE:Nat->Int->Expr->Int
 | 0,_,_=>0
 | d + 1,n,x=>if nod n x=0 then fnz (x.Args.map (chE d n)) else nod n x
def okE:Nat->Int->Expr->Prop
 | 0,_,_=>False
 | d + 1,n,x=>nod n x=0/\x.Args.length<=256/\∀ y∈x.Args,okE d n y
theorem okE.of:∀ {d:Nat} {n:Int} {x:Expr},dp d x->chE d n x=0->okE d n x
 | 0,_,_,h,_=>h
 | d + 1,n,x,h,hc=>by
  unfold chE at hc;split at hc
  ·rename_i h0;refine ⟨h0,h.1,λy hy=>okE.of (h.2 y hy) (Vy hc _ (FE.2 ⟨y,hy,rfl⟩))⟩
  ·contradiction
theorem fnzl {α:Type} {L:Nat->Int->Option (Lo Int Int)} {xs:List α} {p:Int->α->Option Int} {q:α->Int}
  (h:∀ n z,L (n + 1) z=(bif decide (z < (xs.length:Int)) then (idx xs z).bind λx=>(p z x).bind λb=>bif b != 0 then some (.ret b) else L n (wr (z + 1)) else some (.brk z)))
  (hl:xs.length < 4611686018427387904) (hq:∀ (i:Nat) x,xs[i]?=some x->p i x=some (q x)) :
  ∀ (n i:Nat),i<=xs.length->xs.length - i < n->L n i=if fnz ((xs.drop i).map q)=0 then some (.brk (xs.length:Int)) else some (.ret (fnz ((xs.drop i).map q)))
 | 0,i,_,h=>by omega
 | n + 1,i,h1,h2=>by
  rw [h];by_cases hi:i < xs.length
  ·have hx:xs[i]?=some xs[i]:=gE_ hi;rw [Al,dt_ hi,ct_,Ak,hx,ob_,hq i _ hx,ob_,F5 hi,FC];unfold fnz;by_cases h0:q xs[i]=0
   ·rw [h0,if_pos rfl,zf_,cf_,Ao om_,fnzl h hl hq n (i + 1) om_ om_]
   ·rw [if_neg h0,show (q xs[i] != 0)=true by simpa using h0,ct_,if_neg h0]
  ·rw [Al,df_ hi,cf_,FN om_];have:i=xs.length:=by omega
   subst this;rfl
theorem fnzl0 {α:Type} {L:Nat->Int->Option (Lo Int Int)} {xs:List α} {p:Int->α->Option Int} {q:α->Int} {f:Nat}
  (h:∀ n z,L (n + 1) z=(bif decide (z < (xs.length:Int)) then (idx xs z).bind λx=>(p z x).bind λb=>bif b != 0 then some (.ret b) else L n (wr (z + 1)) else some (.brk z)))
  (hl:xs.length < 4611686018427387904) (hf:xs.length < f) (hq:∀ (i:Nat) x,xs[i]?=some x->p i x=some (q x)) :
  L f (0:Int)=if fnz (xs.map q)=0 then some (.brk (xs.length:Int)) else some (.ret (fnz (xs.map q))):=by
 have:=fnzl h hl hq f 0 om_ om_;rw [n0,GG] at this;exact this
theorem Rv:∀ (d f:Nat) (n:Int) (x:Expr),dp d x->d + 300<=f->m103 f x n=some (chE d n x)
 | 0,_,_,_,h,_=>h.elim
 | d + 1,f,n,x,h,hf=>by
  obtain ⟨f,rfl⟩:∃ f',f=f' + 1:=⟨f - 1,by omega⟩;unfold m103 chE;rw [Za,ob_];by_cases h0:nod n x=0
  ·rw [h0,if_pos rfl,zf_,cf_];have hl:=h.1;rw [fnzl0 (L:=Pp (m103 f) x n) (xs:=x.Args) (p:=λ_ y=>m103 f y n) (q:=chE d n) (λ_ _=>rfl) om_ om_ (λi y hy=>Rv d f n y (h.2 y (FP hy)) om_)];split
   ·rename_i h1;rw [h1];rfl
   ·rfl
  ·rw [if_neg h0,show (nod n x != 0)=true by simpa using h0,ct_]
theorem Vb {f:Nat} {n:Int} {x:Expr} (hx:Lt_ x) (hm:m102 f x=some true) (hn:0<=n) (hn2:n<=256) (hf:600<=f):m75 f x n=some (chE 16 n x):=by
 unfold m75;rw [df_ om_,df_ om_,HC,cf_,hm,ob_,nt_,cf_,Rv 16 f n x hx.dp om_,ob_]
theorem Yp {f:Nat} {n:Int} {x:Expr} (hn:0<=n) (hn2:n<=256) (hl:x.Args.length<=256):m173 f x n=some (nod n x):=by
 unfold m173 nod;by_cases h1:x.Op < 0\/5<=x.Op
 ·have:((decide ((x).Op < 0)) || (decide ((x).Op>=(5:Int))))=true:=by simpa using h1
  rw [this];rfl
 ·have:((decide ((x).Op < 0)) || (decide ((x).Op>=(5:Int))))=false:=by simp;omega
  rw [this,cf_,cf_];unfold m180 m199;simp only [ob_,cs_];rw [Aq om_ om_];have hl1:∀ b:Bool,(bif decide (0 < x.Args.length) then (3:Int) else bif b then 2 else 0)=(bif (x.Args.length:Int) != 0 then 3 else bif b then 2 else 0):=λb=>by
   have:decide (0 < x.Args.length)=((x.Args.length:Int) != 0):=by
    rcases H7 x.Args.length with h | h
    ·rw [h];rfl
    ·rw [dt_ h];symm;rw [bne_iff_ne];omega
   rw [this]
  have key:(x.Index > n - 1)↔(x.Index>=n):=by omega
  have k1:(x.Index > 1)↔(x.Index>=2):=by omega
  have k0:(x.Index > 0)↔(x.Index>=1):=by omega
  have hop:x.Op=0\/x.Op=1\/x.Op=2\/x.Op=3\/x.Op=4:=by omega
  have e0:decide ((x.Args.length:Int) < 0)=false:=by simp
  have e1:decide ((x.Args.length:Int) > 256)=false:=by simp;omega
  have e3:(decide ((x.Args.length:Int) < 1) || decide ((x.Args.length:Int) > 1))=((x.Args.length:Int) != 1):=by
   rw [FT];simp;omega
  rcases hop with h | h | h | h | h <;> rw [h]
  ·simp only [show idx (List.range 5) 0=some 0 by rfl,ob_];simp [e0,k1];exact hl1 _
  ·simp only [show idx (List.range 5) 1=some 1 by rfl,ob_];simp [e0,key];exact hl1 _
  ·simp only [show idx (List.range 5) 2=some 2 by rfl,ob_];simp [e3,k0]
  ·simp only [show idx (List.range 5) 3=some 3 by rfl,ob_];simp [e1,k0]
  ·simp only [show idx (List.range 5) 4=some 4 by rfl,ob_];simp [e1,k0]
theorem Nc:∀ (d f:Nat) (x:Expr) (k:Int) (cnt:Nat) (mx:Int),dp d x->1<=k->k + d<=17->cnt + szd d x<=256->d + 300<=f ->
  ∃ mx',m195 Cw f x k (((cnt:Int),mx),0)=some (true,((((cnt + szd d x:Nat):Int),mx'),0))
 | 0,_,_,_,_,_,h,_,_,_,_=>h.elim
 | d + 1,f,x,k,cnt,mx,h,hk,hkd,hc,hf=>by
  obtain ⟨f,rfl⟩:∃ f',f=f' + 1:=⟨f - 1,by omega⟩;have hl:=h.1;have hsz:szd (d + 1) x=1 + (x.Args.map (szd d)).sum:=by rw [szd]
  have hr1:Cw (k,x) (((cnt:Int),mx),0)=some (true,((((cnt + 1:Nat):Int),(if k > mx then k else mx)),0)):=by
   unfold Cw;dsimp only;rw [Ao om_,show (decide (((cnt + 1:Nat):Int) > 256) || decide (k > 16))=false by simp;omega,cf_]
  unfold m195;rw [hr1,ob_];dsimp only;rw [nt_,cf_];have loop:∀ (n i:Nat) (mx:Int),i<=x.Args.length->x.Args.length - i < n ->
    ∃ e mx',Dr (m195 Cw f) x k n ((i:Int),(((cnt + 1 + ((x.Args.map (szd d)).take i).sum:Nat):Int),mx),0)=some (.brk (e,((((cnt + szd (d + 1) x:Nat):Int),mx'),0))):=by
   intro n
   induction n with
   | zero=>intro i _ _ h;omega
   | succ n ihn=>
    intro i mx hi hn;unfold Dr;dsimp only;by_cases h2:i < x.Args.length
    ·rw [Al,dt_ h2,ct_,Ak,gE_ h2,ob_,show decide (k<=16)=true by simp;omega,ct_,Aq om_ om_];have hst:=Ud (l:=x.Args.map (szd d)) (i:=i) (by simpa using h2);have hle:((x.Args.map (szd d)).take (i + 1)).sum<=(x.Args.map (szd d)).sum:=by
      conv=>rhs;rw [← JQ (i + 1) (x.Args.map (szd d))]
      rw [List.sum_append];omega
     simp only [JC] at hst;obtain ⟨mx',h3⟩:=Nc d f x.Args[i] (k + 1) (cnt + 1 + ((x.Args.map (szd d)).take i).sum) mx (h.2 _ (E9 h2)) om_ om_ om_ om_;rw [h3,ob_,ct_];dsimp only;rw [nt_,cf_,Ao om_,show cnt + 1 + ((x.Args.map (szd d)).take i).sum + szd d x.Args[i]=cnt + 1 + ((x.Args.map (szd d)).take (i + 1)).sum by omega];exact ihn (i + 1) mx' om_ om_
    ·rw [Al,df_ h2,cf_];rw [HU so_];exact ⟨_,mx,by rw [show cnt + 1 + (x.Args.map (szd d)).sum=cnt + szd (d + 1) x by omega]⟩
  obtain ⟨e,mx',h3⟩:=loop f 0 (if k > mx then k else mx) om_ om_
  rw [n0,H8,List.sum_nil,H1] at h3;rw [h3];exact ⟨mx',rfl⟩
theorem Yq {f:Nat} {x:Expr} (hx:Lt_ x) (hf:600<=f):∃ a b,m171 f x=some (a,b,true):=by
 unfold m171 m172 m194;have h1:=hx.sz 16;obtain ⟨mx,h⟩:=Nc 16 f x 1 0 0 hx.dp om_ om_ om_ om_;rw [n0] at h;rw [ob_,h];exact ⟨_,_,rfl⟩
theorem Nb {F:Nat} {m:Int} (hm:0<=m) (hm2:m<=256):∀ (d f:Nat) (x:Expr) (k z:Int),dp d x->1<=k->k + d<=17->d + 300<=f ->
  m195 (Cz F m) f x k (z,0)=some (if chE d m x=0 then (true,(z,0)) else (false,(chE d m x,1)))
 | 0,_,_,_,_,h,_,_,_=>h.elim
 | d + 1,f,x,k,z,h,hk,hkd,hf=>by
  obtain ⟨f,rfl⟩:∃ f',f=f' + 1:=⟨f - 1,by omega⟩;have hl:=h.1;have hr1:Cz F m (k,x) (z,0)=some (if nod m x=0 then (true,(z,0)) else (false,(nod m x,1))):=by
   unfold Cz;dsimp only;rw [Yp hm hm2 hl,ob_];by_cases h0:nod m x=0
   ·rw [h0,if_pos rfl];rfl
   ·rw [if_neg h0,show (nod m x != 0)=true by simpa using h0,ct_]
  unfold m195 chE;rw [hr1,ob_];by_cases h0:nod m x=0
  ·rw [if_pos h0,if_pos h0];dsimp only;rw [nt_,cf_];have loop:∀ (n i:Nat),i<=x.Args.length->x.Args.length - i < n ->
     Dr (m195 (Cz F m) f) x k n ((i:Int),(z,0))=if fnz ((x.Args.drop i).map (chE d m))=0 then some (.brk ((x.Args.length:Int),(z,0))) else some (.ret (false,(fnz ((x.Args.drop i).map (chE d m)),1))):=by
    intro n
    induction n with
    | zero=>intro i _ h;omega
    | succ n ihn=>
     intro i hi hn;unfold Dr;dsimp only;by_cases h2:i < x.Args.length
     ·rw [Al,dt_ h2,ct_,Ak,gE_ h2,ob_,show decide (k<=16)=true by simp;omega,ct_,Aq om_ om_,Nb hm hm2 d f x.Args[i] (k + 1) z (h.2 _ (E9 h2)) om_ om_ om_,ob_,ct_,F5 h2,FC];unfold fnz;by_cases h3:chE d m x.Args[i]=0
      ·rw [if_pos h3,if_pos h3];dsimp only;rw [nt_,cf_,Ao om_];exact ihn (i + 1) om_ om_
      ·rw [if_neg h3,if_neg h3,if_neg h3];rfl
     ·rw [Al,df_ h2,cf_,FN om_];have:i=x.Args.length:=by omega
      subst this;rfl
   have h3:=loop f 0 om_ om_;rw [n0,GG] at h3;rw [h3];split <;> rfl
  ·rw [if_neg h0,if_neg h0,if_neg h0];rfl
theorem Kr {f:Nat} {n:Int} {x:Expr} (hx:Lt_ x) (hn:0<=n) (hn2:n<=256) (hf:600<=f):m153 f x n=some (chE 16 n x):=by
 unfold m153;obtain ⟨a,b,h⟩:=Yq hx hf;rw [df_ om_,df_ om_,HC,cf_,h,ob_];unfold m172 m194;dsimp only;rw [nt_,cf_,ob_,Nb hn hn2 16 f x 1 0 hx.dp om_ om_ om_];by_cases h0:chE 16 n x=0
 ·rw [if_pos h0,h0];rfl
 ·rw [if_neg h0];rfl
def ev:Nat->List Bool->Expr->Bool
 | 0,_,_=>false
 | d + 1,ls,x=>if x.Op=0 then x.Index == 1 else if x.Op=1 then (idx ls x.Index).getD false else if x.Op=2 then !(x.Args.any (ev d ls)) else if x.Op=3 then x.Args.all (ev d ls) else x.Args.any (ev d ls)
theorem Gg:∀ (d f:Nat) (ls:List Bool) (x:Expr),okE d ls.length x->d + 300<=f->m204 f x ls=some (ev d ls x)
 | 0,_,_,_,h,_=>h.elim
 | d + 1,f,ls,x,h,hf=>by
  obtain ⟨f,rfl⟩:∃ f',f=f' + 1:=⟨f - 1,by omega⟩;obtain ⟨hn,hl,ha⟩:=h;obtain ⟨o1,o2,o3,o4,o5,i1,i2⟩:=Gb hn;have hev:∀ y∈x.Args,m204 f y ls=some (ev d ls y):=λy hy=>Gg d f ls y (ha y hy) om_;unfold m204 ev;by_cases h0:x.Op=0
  ·rw [if_pos h0,show (x.Op == 0)=true by simpa using h0,ct_]
  ·rw [if_neg h0,show (x.Op == 0)=false by simpa using h0,cf_];by_cases h1:x.Op=1
   ·rw [if_pos h1,show (x.Op == 1)=true by simpa using h1,ct_];obtain ⟨b,hb,_⟩:=Ns i1 (i2 h1);rw [hb];rfl
   ·rw [if_neg h1,show (x.Op == 1)=false by simpa using h1,cf_];by_cases h2:x.Op=2
    ·rw [if_pos h2,show (x.Op == 2)=true by simpa using h2,ct_];obtain ⟨y,hy⟩:=List.length_eq_one_iff.1 (o4 h2);rw [hy,show idx [y] 0=some y by rfl,ob_,hev y (by rw [hy];simp)];simp
    ·rw [if_neg h2,show (x.Op == 2)=false by simpa using h2,cf_];by_cases h3:x.Op=3
     ·rw [if_pos h3,show (x.Op == 3)=true by simpa using h3,ct_];unfold m216 m221;have h5:=BR (L:=Pc (m204 f) f x.Args ls) (xs:=x.Args) (p:=λ_ y=>m217 f (m204 f) y ls) (q:=λy=>!ev d ls y) (r:=λz=>z) (λ_ _=>rfl) om_ (λi y hy=>by
       unfold m217;rw [hev y (FP hy)];rfl) f 0 om_ om_
      rw [n0,GG] at h5;rw [h5];cases h6:x.Args.findIdx? (λy=>!ev d ls y) with
      | none=>
       rw [GT] at h6;have:x.Args.all (ev d ls)=true:=E8.2 λy hy=>by simpa using h6 y hy
       rw [this];rfl
      | some j=>
       obtain ⟨hj,hj2,_⟩:=GF.1 h6;have:x.Args.all (ev d ls)=false:=List.all_eq_false.2 ⟨_,E9 hj,by simpa using hj2⟩;rw [this];simp
     ·rw [if_neg h3,show (x.Op == 3)=false by simpa using h3,cf_];unfold Vn Vm;have h5:=BR (L:=Gf (m204 f) f x.Args ls) (xs:=x.Args) (p:=λ_ y=>m218 f (m204 f) y ls) (q:=λy=>ev d ls y) (r:=λz=>z) (λ_ _=>rfl) om_ (λi y hy=>by
       unfold m218;rw [hev y (FP hy)];rfl) f 0 om_ om_
      rw [n0,GG] at h5;rw [h5];cases h6:x.Args.findIdx? (λy=>ev d ls y) with
      | none=>
       rw [GT] at h6;have:x.Args.any (ev d ls)=false:=F4.2 λy hy=>by simpa using h6 y hy
       rw [this];rfl
      | some j=>
       obtain ⟨hj,hj2,_⟩:=GF.1 h6;have:x.Args.any (ev d ls)=true:=E7.2 ⟨_,E9 hj,by simpa using hj2⟩;rw [this];simp
theorem Kl {d f:Nat} {ls:List Bool} {x:Expr} {g:Expr->List Bool->Option Bool} (v:Bool) (hl:x.Args.length<=256) (hf:300<=f) (hev:∀ y∈x.Args,g y ls=some (ev d ls y)) :
  m211 f g v x ls=some (x.Args.all λy=>ev d ls y == v):=by
 unfold m211 m181;have loop:∀ (n i:Nat),i<=x.Args.length->x.Args.length - i < n ->
   Ko g (Ev g v) x ls n ((i:Int),((),0))=if (x.Args.drop i).all (λy=>ev d ls y == v) then some (.brk ((x.Args.length:Int),((),0))) else some (.ret ((),1)):=by
  intro n
  induction n with
  | zero=>intro i _ h;omega
  | succ n ihn=>
   intro i hi hn;unfold Ko Ev;dsimp only;by_cases h2:i < x.Args.length
   ·rw [Al,dt_ h2,ct_,Ak,gE_ h2,ob_,hev _ (E9 h2),ob_,F5 h2,HW];cases h3:(ev d ls x.Args[i] == v) with
    | true=>
     rw [show (ev d ls x.Args[i] != v)=false by (show (!(ev d ls x.Args[i] == v))=false);rw [h3];rfl,cf_,ob_];dsimp only;rw [nt_,cf_,Ao om_,GS];exact ihn (i + 1) om_ om_
    | false=>
     rw [show (ev d ls x.Args[i] != v)=true by (show (!(ev d ls x.Args[i] == v))=true);rw [h3];rfl,ct_,ob_];rfl
   ·rw [Al,df_ h2,cf_,FN om_];have:i=x.Args.length:=by omega
    subst this;rfl
 have h3:=loop f 0 om_ om_;rw [n0,GG] at h3;rw [h3];cases x.Args.all (λy=>ev d ls y == v) <;> rfl
theorem Ri:∀ (d f:Nat) (ls:List Bool) (x:Expr),okE d ls.length x->d + 300<=f->m163 f x ls=some (ev d ls x)
 | 0,_,_,_,h,_=>h.elim
 | d + 1,f,ls,x,h,hf=>by
  obtain ⟨f,rfl⟩:∃ f',f=f' + 1:=⟨f - 1,by omega⟩;obtain ⟨hn,hl,ha⟩:=h;obtain ⟨o1,o2,o3,o4,o5,i1,i2⟩:=Gb hn;have hev:∀ y∈x.Args,m163 f y ls=some (ev d ls y):=λy hy=>Ri d f ls y (ha y hy) om_;unfold m163 ev;by_cases h0:x.Op=0
  ·rw [if_pos h0,show (x.Op == 0)=true by simpa using h0,ct_]
  ·rw [if_neg h0,show (x.Op == 0)=false by simpa using h0,cf_];by_cases h1:x.Op=1
   ·rw [if_pos h1,show (x.Op == 1)=true by simpa using h1,ct_];obtain ⟨b,hb,_⟩:=Ns i1 (i2 h1);rw [hb];rfl
   ·rw [if_neg h1,show (x.Op == 1)=false by simpa using h1,cf_];unfold m180 m199;simp only [ob_];have hop:x.Op=2\/x.Op=3\/x.Op=4:=by omega
    rcases hop with h | h | h <;> rw [h]
    ·rw [show idx (List.range 5) 2=some 2 by rfl,ob_,show ((2:Nat) == 2)=true by rfl,ct_,Kl false hl om_ hev,ob_,if_pos rfl];congr 1;rw [FT];simp
    ·rw [show idx (List.range 5) 3=some 3 by rfl,ob_,show ((3:Nat) == 2)=false by rfl,cf_,show ((3:Nat) == 3)=true by rfl,ct_,Kl true hl om_ hev,ob_,if_neg om_,if_pos rfl];congr 1;rw [FT];simp
    ·rw [show idx (List.range 5) 4=some 4 by rfl,ob_,show ((4:Nat) == 2)=false by rfl,cf_,show ((4:Nat) == 3)=false by rfl,cf_,show ((4:Nat) == 4)=true by rfl,ct_];unfold m200 m199;rw [ob_,Kl false hl om_ hev,ob_,ob_,if_neg om_,if_neg om_];congr 1;rw [FT];simp
def occ:Nat->Int->Expr->Bool
 | 0,_,_=>false
 | d + 1,k,x=>if x.Op=1 then x.Index == k else x.Args.any (occ d k)
theorem Ru:∀ (d f:Nat) (k:Int) (x:Expr),dp d x->d + 300<=f->m104 f x k=some (occ d k x)
 | 0,_,_,_,h,_=>h.elim
 | d + 1,f,k,x,h,hf=>by
  obtain ⟨f,rfl⟩:∃ f',f=f' + 1:=⟨f - 1,by omega⟩;have hl:=h.1;unfold m104 occ;by_cases h1:x.Op=1
  ·rw [if_pos h1,show (x.Op == 1)=true by simpa using h1,ct_]
  ·rw [if_neg h1,show (x.Op == 1)=false by simpa using h1,cf_];have h5:=BR (L:=Pm (m104 f) x k) (xs:=x.Args) (p:=λ_ y=>m104 f y k) (q:=λy=>occ d k y) (r:=λ_=>true) (λ_ _=>rfl) om_ (λi y hy=>Ru d f k y (h.2 y (FP hy)) om_) f 0 om_ om_;rw [n0,GG] at h5;rw [h5];cases h6:x.Args.findIdx? (λy=>occ d k y) with
   | none=>
    rw [GT] at h6;have:x.Args.any (occ d k)=false:=F4.2 λy hy=>by simpa using h6 y hy
    rw [this];rfl
   | some j=>
    obtain ⟨hj,hj2,_⟩:=GF.1 h6;have:x.Args.any (occ d k)=true:=E7.2 ⟨_,E9 hj,by simpa using hj2⟩;rw [this];rfl
def EJ:Nat->(Int->Bool)->Expr->Bool
 | 0,_,_=>false
 | d + 1,p,x=>if x.Op=1 then p x.Index else x.Args.any (EJ d p)
theorem Qi:∀ {d:Nat} {p:Int->Bool} {x:Expr},EJ d p x=true↔∃ k,p k=true/\occ d k x=true
 | 0,p,x=>by simp [EJ,occ]
 | d + 1,p,x=>by
  unfold EJ occ;by_cases h1:x.Op=1
  ·simp only [if_pos h1,beq_iff_eq];exact ⟨λh=>⟨_,h,rfl⟩,λ⟨k,h,e⟩=>e ▸ h⟩
  ·simp only [if_neg h1,E7];constructor
   ·rintro ⟨y,hy,h⟩;obtain ⟨k,hk,ho⟩:=Qi.1 h;exact ⟨k,hk,y,hy,ho⟩
   ·rintro ⟨k,hk,y,hy,ho⟩;exact ⟨y,hy,Qi.2 ⟨k,hk,ho⟩⟩
theorem D4:∀ {d:Nat} {n k:Int} {x:Expr},okE d n x->occ d k x=true->0<=k/\k < n
 | 0,_,_,_,h,_=>h.elim
 | d + 1,n,k,x,h,ho=>by
  obtain ⟨hn,hl,ha⟩:=h;obtain ⟨o1,o2,o3,o4,o5,i1,i2⟩:=Gb hn;unfold occ at ho;split at ho
  ·rename_i h1;have:x.Index=k:=by simpa using ho
   have:=i2 h1;omega
  ·obtain ⟨y,hy,h⟩:=E7.1 ho;exact D4 (ha y hy) h
end Go.Pn
namespace Go.Pn
open Go
theorem Eh {β:Type} {L:Nat->Int->Option (Lo Int β)} {N:Nat} {Q:Nat->Bool} {r:Int->β}
  (h:∀ (n i:Nat),i < N->L (n + 1) (i:Int)=bif Q i then some (.ret (r (i:Int))) else L n ((i + 1:Nat):Int)) (h':∀ (n:Nat),L (n + 1) (N:Int)=some (.brk (N:Int))) :
  ∀ (n i:Nat),i<=N->N - i < n->(∃ k,i<=k/\k < N/\Q k=true/\L n (i:Int)=some (.ret (r (k:Int))))\/(L n (i:Int)=some (.brk (N:Int))/\∀ k,i<=k->k < N->Q k=false)
 | 0,i,_,h=>by omega
 | n + 1,i,h1,h2=>by
  by_cases hi:i < N
  ·rw [h n i hi];cases hq:Q i with
   | true=>exact .inl ⟨i,FH _,hi,hq,rfl⟩
   | false=>
    rw [cf_];rcases Eh h h' n (i + 1) om_ om_ with ⟨k,h3,h4,h5,h6⟩ | ⟨h3,h4⟩
    ·exact .inl ⟨k,by omega,h4,h5,h6⟩
    ·refine .inr ⟨h3,λk hk hk2=>?_⟩;rcases FU hk with rfl | h5
     ·exact hq
     ·exact h4 k h5 hk2
  ·obtain rfl:i=N:=by omega
   exact .inr ⟨h' n,λk hk hk2=>by omega⟩
def Qo (b:UInt8):Bool:=decide (97<=b.toNat) && decide (b.toNat<=122)
def DC (b:UInt8):Bool:=decide (65<=b.toNat) && decide (b.toNat<=90)
def DM (b:UInt8):Bool:=decide (48<=b.toNat) && decide (b.toNat<=57)
def Ch (b:UInt8):Bool:=Qo b || DC b || DM b || (b.toNat == 95)
def wd (s:ByteArray):Bool:=match s.data.toList with
 | []=>false
 | b :: l=>Qo b && (b :: l).all Ch
theorem Bq (s:ByteArray):s.size=s.data.toList.length:=rfl
theorem Ui {s:ByteArray} {i:Nat} (h:i < s.data.toList.length):Ta s (i:Int)=some s.data.toList[i]:=by
 unfold Ta;rw [if_pos om_,F7];have h1:i < s.size:=by rw [Bq];exact h
 rw [getElem?_pos s i h1];congr 1
theorem EC {s:ByteArray} {i:Nat} (h:i < s.data.toList.length):(s.data.toList[i].toNat < 128->Utf8.decode s i=(s.data.toList[i].toNat,1))/\(128<=s.data.toList[i].toNat->128<=(Utf8.decode s i).1):=by
 have hg:s.get! (i + 0)=s.data.toList[i]:=by
  have h1:i < s.data.size:=by simpa using h
  show s.data[i + 0]! = _;rw [H1,getElem!_pos s.data i h1];simp
 constructor
 ·intro hb;unfold Utf8.decode;simp only [hg];rw [if_pos om_]
 ·intro hb;unfold Utf8.decode;simp only [hg];rw [if_neg om_];split
  ·split
   ·rename_i hx;exact hx
   ·decide
  ·split
   ·split
    ·rename_i hx;simp only [E3,decide_eq_true_eq] at hx;exact F6 (by decide) hx.1
    ·decide
   ·split
    ·split
     ·rename_i hx;simp only [E3,decide_eq_true_eq] at hx;exact F6 (by decide) hx.1
     ·decide
    ·decide
theorem u8n {n:Nat} (hn:n < 256):(UInt8.ofNat n).toNat=n:=by
 rw [UInt8.toNat_ofNat'];omega
theorem Yr (f:Nat) (b:UInt8):m156 f b=some (Ch b):=by
 unfold m156 Ch Qo DC DM;simp only [u8n (show 97 < 256 by omega),u8n (show 122 < 256 by omega),u8n (show 65 < 256 by omega),u8n (show 90 < 256 by omega),u8n (show 48 < 256 by omega),u8n (show 57 < 256 by omega),u8n (show 95 < 256 by omega)];congr 1;rw [FT];simp;omega
theorem Ol {b:UInt8} (h:Ch b=true):b.toNat<=122:=by
 unfold Ch Qo DC DM at h;simp at h;omega
theorem Ys {f:Nat} {s:ByteArray} {i:Nat} (h:i < s.data.toList.length):m155 f (srn s (i:Int))=some (!Ch s.data.toList[i]):=by
 obtain ⟨h1,h2⟩:=EC h;unfold m155 srn;rw [F7];simp only [Ik.toI];by_cases hb:s.data.toList[i].toNat < 128
 ·rw [h1 hb];dsimp only;by_cases hc:((s.data.toList[i].toNat:Nat):Int) > 122
  ·rw [dt_ hc,ct_];have:Ch s.data.toList[i]=false:=by
    cases hp:Ch s.data.toList[i] with
    | false=>rfl
    | true=>have:=Ol hp;omega
   rw [this];rfl
  ·rw [df_ hc,cf_];have:(Ik.ofI ((s.data.toList[i].toNat:Nat):Int):UInt8)=s.data.toList[i]:=by
    show wr8 _=_;unfold wr8;refine UInt8.toNat_inj.1 ?_;rw [UInt8.toNat_ofNat'];omega
   rw [this,Yr];rfl
 ·have h3:=h2 om_;rw [dt_ so_,ct_];have:Ch s.data.toList[i]=false:=by
   cases hp:Ch s.data.toList[i] with
   | false=>rfl
   | true=>have:=Ol hp;omega
  rw [this];rfl
theorem Of {α:Type} {l:List α} {p:α->Bool}:l.any p=true↔∃ i,∃ h:i < l.length,p l[i]=true:=by
 rw [E7];constructor
 ·rintro ⟨x,hx,h⟩;obtain ⟨i,hi,rfl⟩:=List.getElem_of_mem hx;exact ⟨i,hi,h⟩
 ·rintro ⟨i,hi,h⟩;exact ⟨_,E9 hi,h⟩
theorem Yt {f:Nat} {s:ByteArray} (hs:s.size < f) (hs2:s.size < 1000000):m154 f s=some (s.data.toList.any λb=>!Ch b):=by
 rw [Bq] at hs hs2;unfold m154 m174 m196;have hl:=Eh (L:=Hf f s true) (N:=s.data.toList.length) (Q:=λi=>if h:i < s.data.toList.length then !Ch s.data.toList[i] else false) (r:=λz=>z) (λn i hi=>by
  rw [Hf,Bq,Al,dt_ hi,ct_,Ys hi,ob_,dif_pos hi];cases hp:Ch s.data.toList[i] with
  | true=>
   rw [show ((!true) == true)=false by rfl,cf_];have:snx s (i:Int)=((i + 1:Nat):Int):=by
    unfold snx;rw [if_pos (by rw [Bq];omega),F7,(EC hi).1 (by have:=Ol hp;omega)];rfl
   rw [this];rfl
  | false=>rfl) (λn=>by
  rw [Hf,Bq,Al,df_ om_,cf_];unfold snx;rw [if_neg (by rw [Bq];omega)]) f 0 om_ om_
 rw [n0] at hl;rcases hl with ⟨k,_,hk,hq,h⟩ | ⟨h,hn⟩
 ·rw [h];rw [dif_pos hk] at hq;rw [Of.2 ⟨k,hk,hq⟩];simp only [ob_];rw [dt_ om_]
 ·rw [h];have:(s.data.toList.any λb=>!Ch b)=false:=by
   rw [Bool.eq_false_iff];intro ha;obtain ⟨i,hi,h2⟩:=Of.1 ha;have:=hn i om_ hi;rw [dif_pos hi,h2] at this;cases this
  rw [this];rfl
theorem CK {f:Nat} {s:ByteArray} (hs:s.size < f) (hs2:s.size < 1000000):m73 f s=some (wd s):=by
 rw [Bq] at hs hs2;unfold m73;have hl:=Eh (L:=Me s) (N:=s.data.toList.length) (Q:=λi=>if h:i < s.data.toList.length then (i == 0 && !Qo s.data.toList[i]) || !Ch s.data.toList[i] else false) (r:=λ_=>false) (λn i hi=>by
  rw [Me,Bq,Al,dt_ hi,ct_];simp only [Ui hi,ob_,cs_,u8n (show 97 < 256 by omega),u8n (show 122 < 256 by omega),u8n (show 65 < 256 by omega),u8n (show 90 < 256 by omega),u8n (show 48 < 256 by omega),u8n (show 57 < 256 by omega),u8n (show 95 < 256 by omega)];rw [dif_pos hi,Ao om_];congr 1;rw [FT];unfold Ch Qo DC DM;simp;generalize s.data.toList[i].toNat=b;omega) (λn=>by
  rw [Me,Bq,Al,df_ om_,cf_]) f 0 om_ om_
 rw [n0] at hl;have hemp:(s.toList == (⟨#[]⟩:ByteArray).toList)=(s.data.toList == []):=by
  rw [ByteArray.toList_eq,ByteArray.toList_eq]
 rcases hl with ⟨k,_,hk,hq,h⟩ | ⟨h,hn⟩
 ·rw [h,ob_];rw [dif_pos hk] at hq;dsimp only;congr 1
  symm
  unfold wd;cases hd:s.data.toList with
  | nil=>rfl
  | cons b l=>
   have hk':k < (b :: l).length:=by rw [← hd];exact hk
   have hg:s.data.toList[k]=(b :: l)[k]:=by simp [hd]
   rw [hg] at hq;dsimp only;rw [HM];rcases Bool.or_eq_true_iff.1 hq with h1 | h1
   ·left;obtain ⟨h2,h3⟩:=Bool.and_eq_true_iff.1 h1;obtain rfl:k=0:=by simpa using h2
    simpa using h3
   ·right;exact List.all_eq_false.2 ⟨_,E9 hk',by simpa using h1⟩
 ·rw [h,ob_,hemp];dsimp only;congr 1;unfold wd;cases hd:s.data.toList with
  | nil=>rfl
  | cons b l=>
   have hb:∀ (k:Nat) (hk:k < (b :: l).length),((k == 0 && !Qo (b :: l)[k]) || !Ch (b :: l)[k])=false:=by
    intro k hk;have hk':k < s.data.toList.length:=by rw [hd];exact hk
    have:=hn k om_ hk';rw [dif_pos hk'] at this;have hg:s.data.toList[k]=(b :: l)[k]:=by simp [hd]
    rw [hg] at this;exact this
   have h1:=hb 0 As;simp at h1;dsimp only;rw [h1.1,GS];have:(b :: l).all Ch=true:=by
    rw [E8];intro x hx;obtain ⟨i,hi,rfl⟩:=List.getElem_of_mem hx;have:=hb i hi;rw [HP] at this;simpa using this.2
   rw [this];rfl
def fx (i:Nat):ByteArray:=⟨#[UInt8.ofNat (97 + i / 2),UInt8.ofNat (48 + i % 2)]⟩
def cA (c:Aa):Nat:=c.Actuators.toNat
def cS (c:Aa):Nat:=2 * cA c + c.Inputs.length
def cL (c:Aa):Nat:=cS c + c.Signals.length
def nmF (c:Aa) (i:Nat):ByteArray:=if i < 2 * cA c then fx i else if i < cS c then c.Inputs.getD (i - 2 * cA c) ⟨#[]⟩ else ((c.Signals[i - cS c]?).map (·.Name)).getD ⟨#[]⟩
structure Bd_ (c:Aa):Prop where
 a1:1<=c.Actuators
 a6:c.Actuators<=6
 i:c.Inputs.length<=16
 s:c.Signals.length<=64
theorem Bd_.a {c:Aa} (h:Bd_ c):c.Actuators=(cA c:Int):=by
 have:=h.a1;unfold cA;omega
theorem Bd_.a' {c:Aa} (h:Bd_ c):1<=cA c/\cA c<=6:=by
 have:=h.a1;have:=h.a6;unfold cA;omega
theorem Bd_.wa {c:Aa} (h:Bd_ c):wr ((2:Int) * c.Actuators)=((2 * cA c:Nat):Int):=by
 have:=h.a;have:=h.a';rw [Aq om_ om_];omega
theorem Jd {f:Nat} {c:Aa} (h:Bd_ c):m74 f c=some (cS c:Int):=by
 have:=h.a';have:=h.i;unfold m74;rw [h.wa,Aq om_ om_];unfold cS;congr 1
theorem Gl {f:Nat} {c:Aa} (h:Bd_ c):m131 f c=some (cS c:Int):=Jd (f:=f) h
theorem Uz {f:Nat} {c:Aa} (h:Bd_ c):m76 f c=some (cL c:Int):=by
 have:=h.a';have:=h.i;have:=h.s;unfold m76;have e:wr (((2 * cA c:Nat):Int) + (c.Inputs.length:Int))=((2 * cA c:Nat):Int) + (c.Inputs.length:Int):=Aq om_ om_;rw [h.wa,e,Aq om_ om_];unfold cL cS;congr 1
theorem Jc {f:Nat} {c:Aa} (h:Bd_ c):m95 f c=some (cL c:Int):=by
 have:=h.a';have:=h.i;have:=h.s;unfold m95;rw [Gl h,ob_,Aq (by unfold cS;omega) (by unfold cS;omega)];unfold cL;congr 1
theorem Wo:((List.range 12).all λi=>decide (((ssl (⟨#[97,98,99,100,101,102]⟩:ByteArray) (wr ((i:Int).tdiv (2:Int))) (wr ((wr ((i:Int).tdiv (2:Int))) + 1))).bind λx1=>(ssl (⟨#[48,49]⟩:ByteArray) ((i:Int).tmod (2:Int)) (wr (((i:Int).tmod (2:Int)) + 1))).bind λx2=>(cat x1 x2).bind λx3=>some x3)=some (fx i)))=true:=by kernel_rfl
theorem ref_fx:∀ i:Nat,i < 12->((ssl (⟨#[97,98,99,100,101,102]⟩:ByteArray) (wr ((i:Int).tdiv (2:Int))) (wr ((wr ((i:Int).tdiv (2:Int))) + 1))).bind λx1=>(ssl (⟨#[48,49]⟩:ByteArray) ((i:Int).tmod (2:Int)) (wr (((i:Int).tmod (2:Int)) + 1))).bind λx2=>(cat x1 x2).bind λx3=>some x3)=some (fx i):=λi h=>of_decide_eq_true (E8.1 Wo i (E4.2 h))
theorem Wp:((List.range 12).all λi=>decide (((cat (Co (Ik.toI (Ik.ofI (Ik.toI (wr ((97:Int) + (wr ((i:Int).tdiv (2:Int)))))):Kd .i32))) (Co (Ik.toI (Ik.ofI (Ik.toI (wr ((48:Int) + ((i:Int).tmod (2:Int))))):Kd .i32)))).bind λx2=>some x2)=some (fx i)))=true:=by kernel_rfl
theorem pro_fx:∀ i:Nat,i < 12->((cat (Co (Ik.toI (Ik.ofI (Ik.toI (wr ((97:Int) + (wr ((i:Int).tdiv (2:Int)))))):Kd .i32))) (Co (Ik.toI (Ik.ofI (Ik.toI (wr ((48:Int) + ((i:Int).tmod (2:Int))))):Kd .i32)))).bind λx2=>some x2)=some (fx i):=λi h=>of_decide_eq_true (E8.1 Wp i (E4.2 h))
theorem Vc {f:Nat} {c:Aa} (h:Bd_ c) {i:Nat} (hi:i < cL c):m72 f c (i:Int)=some (nmF c i):=by
 have h1:=h.a';have h2:=h.i;have h3:=h.s;have hS:cS c=2 * cA c + c.Inputs.length:=rfl;have hL:cL c=cS c + c.Signals.length:=rfl;unfold m72 nmF;rw [h.wa,Al];by_cases h4:i < 2 * cA c
 ·rw [dt_ h4,ct_,if_pos h4];exact ref_fx i om_
 ·rw [df_ h4,cf_,if_neg h4,Jd h,ob_,Al];by_cases h5:i < cS c
  ·rw [dt_ h5,ct_,if_pos h5,Aq om_ om_,show (i:Int) - ((2 * cA c:Nat):Int)=((i - 2 * cA c:Nat):Int) by omega,Ak,gE_ om_];simp [gE_ (show i - 2 * cA c < c.Inputs.length by omega)]
  ·rw [df_ h5,cf_,if_neg h5,ob_,Aq om_ om_,show (i:Int) - (cS c:Int)=((i - cS c:Nat):Int) by omega,Ak,gE_ om_];rfl
theorem Uv {f:Nat} {c:Aa} (h:Bd_ c) {i:Nat} (hi:i < cL c):m96 f c (i:Int)=some (nmF c i):=by
 have h1:=h.a';have h2:=h.i;have h3:=h.s;have hS:cS c=2 * cA c + c.Inputs.length:=rfl;have hL:cL c=cS c + c.Signals.length:=rfl;unfold m96 nmF;rw [Gl h,ob_,h.wa,Al];by_cases h4:i < 2 * cA c
 ·rw [dt_ h4,ct_,if_pos h4];exact pro_fx i om_
 ·rw [df_ h4,cf_,if_neg h4,Al];by_cases h5:i < cS c
  ·rw [dt_ h5,ct_,if_pos h5,Aq om_ om_,show (i:Int) - ((2 * cA c:Nat):Int)=((i - 2 * cA c:Nat):Int) by omega,Ak,gE_ om_];simp [gE_ (show i - 2 * cA c < c.Inputs.length by omega)]
  ·rw [df_ h5,cf_,if_neg h5,Aq om_ om_,show (i:Int) - (cS c:Int)=((i - cS c:Nat):Int) by omega,Ak,gE_ om_];rfl
def nme (c:Aa) (i:Nat):Int:=if wd (nmF c i) then (if (nmF c i).size > 24 then 17 else if (List.range i).any (λj=>(nmF c j).data.toList == (nmF c i).data.toList) then 7 else 0) else 3
theorem Vk {f:Nat} {c:Aa} (h:Bd_ c) {i:Nat} (hi:i < cL c) (hn:(nmF c i).size<=200) (hf:600<=f):m34 f c (i:Int)=some (nme c i):=by
 have h1:=h.a';have h2:=h.i;have h3:=h.s;have hS:cS c=2 * cA c + c.Inputs.length:=rfl;have hL:cL c=cS c + c.Signals.length:=rfl;unfold m34 nme;rw [Vc h hi,ob_,CK om_ om_,ob_];cases hw:wd (nmF c i) with
 | false=>rfl
 | true=>
  rw [nt_,cf_,if_pos rfl];by_cases h24:(nmF c i).size > 24
  ·rw [dt_ om_,ct_,if_pos h24]
  ·rw [df_ om_,cf_,if_neg h24];have hl:=Eh (L:=Mv f c (i:Int) (nmF c i)) (N:=i) (Q:=λj=>(nmF c j).data.toList == (nmF c i).data.toList) (r:=λ_=>7) (λn j hj=>by
    rw [Mv,Al,dt_ hj,ct_,Vc h om_,ob_,ByteArray.toList_eq,ByteArray.toList_eq,Ao om_]) (λn=>by
    rw [Mv,Al,df_ om_,cf_]) f 0 om_ om_
   rw [n0] at hl;rcases hl with ⟨k,_,hk,hq,h⟩ | ⟨h,hn⟩
   ·rw [h,if_pos (E7.2 ⟨k,E4.2 hk,hq⟩)];rfl
   ·rw [h,if_neg ?_]
    ·rfl
    ·intro ha;obtain ⟨k,hk,h4⟩:=E7.1 ha;have:=hn k om_ (E4.1 hk);rw [this] at h4;cases h4
def Wn (c:Aa) (i:Nat) (m:List (ByteArray×Int)):Prop:=∀ s:ByteArray,(mat Xd m s).isSome=(List.range i).any λj=>(nmF c j).data.toList == s.data.toList
theorem Bn {a b:ByteArray}:Xd a b=true↔a=b:=by
 unfold Xd;obtain ⟨⟨x⟩⟩:=a;obtain ⟨⟨y⟩⟩:=b;simp
theorem CA {m:List (ByteArray×Int)} {k j:ByteArray} {y:Int}:mat Xd (BN Xd m k y) j=if j=k then some y else mat Xd m j:=by
 induction m with
 | nil=>
  show mat Xd [(k,y)] j=_;rw [Jb];by_cases h:j=k
  ·rw [if_pos (Bn.2 h),if_pos h]
  ·rw [if_neg (λe=>h (Bn.1 e)),if_neg h]
 | cons p m ih=>
  obtain ⟨k',z⟩:=p;rw [Yi,Jb];by_cases h:k=k'
  ·subst h;rw [if_pos (Bn.2 rfl),Jb];by_cases h2:j=k
   ·rw [if_pos (Bn.2 h2),if_pos h2]
   ·rw [if_neg (λe=>h2 (Bn.1 e)),if_neg h2,if_neg (λe=>h2 (Bn.1 e))]
  ·rw [if_neg (λe=>h (Bn.1 e)),Jb,ih];by_cases h2:j=k'
   ·subst h2;rw [if_pos (Bn.2 rfl),if_neg (λe=>h e.symm),if_pos (Bn.2 rfl)]
   ·rw [if_neg (λe=>h2 (Bn.1 e)),if_neg (λe=>h2 (Bn.1 e))]
theorem Wn.zero (c:Aa):Wn c 0 []:=λs=>rfl
theorem Wn.put {c:Aa} {i:Nat} {m:List (ByteArray×Int)} (h:Wn c i m) (y:Int):Wn c (i + 1) (BN Xd m (nmF c i) y):=by
 intro s;rw [CA,F9,JE];by_cases e:s=nmF c i
 ·rw [if_pos e,e];simp
 ·rw [if_neg e,h s];have:((nmF c i).data.toList == s.data.toList)=false:=by
   cases hb:((nmF c i).data.toList == s.data.toList) with
   | false=>rfl
   | true=>exact absurd (Bn.1 hb).symm e
  rw [JO,List.any_nil,HC,this,HC]
theorem Rq {f:Nat} {c:Aa} (h:Bd_ c) {i:Nat} (hn:(nmF c i).size<=200) (hf:600<=f) {m:List (ByteArray×Int)} (hm:Wn c i m) (a b c' d e) :
  ∃ m',m126 f (nmF c i) a b c' d e m=some (nme c i,m')/\(nme c i=0->Wn c (i + 1) m'):=by
 unfold m126 nme;have hemp:((nmF c i).toList == (⟨#[]⟩:ByteArray).toList)=((nmF c i).data.toList == []):=by
  rw [ByteArray.toList_eq,ByteArray.toList_eq]
 rw [hemp,Yt om_ om_];have hwd:∀ (k:Bool->Option (Int×List (ByteArray×Int))),((bif ((nmF c i).data.toList == []) then some true else (Ta (nmF c i) (0:Int)).bind λx1=>some (decide ((x1.toNat:Int) < (UInt8.ofNat 97).toNat))).bind λr2=>(bif r2 then some true else (Ta (nmF c i) (0:Int)).bind λx3=>some (decide ((x3.toNat:Int) > (UInt8.ofNat 122).toNat))).bind λr4=>(bif r4 then some true else (some ((nmF c i).data.toList.any λb=>!Ch b)).bind λx5=>some x5).bind k)=k (!wd (nmF c i)):=by
  intro k;cases hd:(nmF c i).data.toList with
  | nil=>unfold wd;rw [hd];rfl
  | cons b l=>
   have h0:Ta (nmF c i) (0:Int)=some b:=by
    have:=Ui (s:=nmF c i) (i:=0) (by rw [hd];simp);rw [n0] at this;rw [this];simp [hd]
   unfold wd;rw [h0,hd];simp only [ob_,cs_,u8n (show 97 < 256 by omega),u8n (show 122 < 256 by omega)];congr 1;rw [FT];unfold Qo;simp only [List.all_eq_not_any_not];cases (b :: l).any (λb=>!Ch b) <;> simp <;> omega
 rw [hwd];cases hw:wd (nmF c i) with
 | false=>exact ⟨m,rfl,λh=>by simp at h⟩
 | true=>
  rw [nt_,cf_,if_pos rfl];by_cases h24:(nmF c i).size > 24
  ·rw [dt_ om_,ct_,if_pos h24];exact ⟨m,rfl,λh=>by simp at h⟩
  ·rw [df_ om_,cf_,if_neg h24,hm (nmF c i)];cases hx:(List.range i).any (λj=>(nmF c j).data.toList == (nmF c i).data.toList) with
   | true=>exact ⟨m,rfl,λh=>by simp at h⟩
   | false=>exact ⟨_,rfl,λ_=>hm.put _⟩
end Go.Pn
